import Derived.Test.YtfliaggjkianpaaGreatDoorK00
import Derived.Test.YtfliaggjkianpaaGreatDoorK12
import Derived.Test.YtfliaggjkianpaaGreatDoorK05
import Derived.Test.YtfliaggjkianpaaGreatDoorK11
import Derived.Test.YtfliaggjkianpaaGreatDoorK01
import Derived.Test.YtfliaggjkianpaaGreatDoorK13
import Derived.Test.YtfliaggjkianpaaGreatDoorK14
import Derived.Test.YtfliaggjkianpaaGreatDoorK16
import Derived.Test.YtfliaggjkianpaaGreatDoorK15
import Derived.Test.YtfliaggjkianpaaGreatDoorK03
set_option linter.unusedVariables false
set_option linter.unusedSimpArgs false
set_option maxRecDepth 100000
namespace Go.Proofs.YtfliaggjkianpaaGreatDoor
section
open Go.RowKit
def pgOf(tb:TbS)(v:Int):Nat:=(lookV tb.pg v).toNat
def lb(tb:TbS)(B:List UInt8)(x:Int):UInt8:=byt B (pgOf tb (x/512)*512+(x%512).toNat)
theorem pgOf_some{tb:TbS}{v p:Int}(h:mGet tb.pg v=some p):pgOf tb v=p.toNat:=by unfold pgOf;rw [lookV_some h]
theorem AlOk.run{a:AlS}(h:AlOk a){c:Nat}(h8:8≤c)(hc:c<24)(s:Nat):AlOk ⟨up1 a.sl c ((a.sl c).flip s),a.ln,a.sm⟩ where
 n d hd:=by
  show ((up1 a.sl c _ d).n:Int)=_;by_cases e:d=c
  ·subst e;rw [up1_same,flip_n];exact h.n d hd
  ·rw [up1_other e];exact h.n d hd
 rise:=h.rise
 pg v p hg:=by
  obtain⟨g1,g2,g3,g4,g5⟩:=h.pg v p hg;refine⟨g1,g2,g3,g4,?_⟩;show (up1 a.sl c _ _).f _=_;rw [up1_other (by unfold kdV;omega)];exact g5
 ln:=h.ln
 sm d t hd ht hf:=by
  replace hf:(up1 a.sl c _ d).f t=false:=hf;rw [up1_other (by omega)] at hf;exact h.sm d t hd ht hf
 cnt d hd:=by
  show (up1 a.sl c _ d).tkn=_;rw [up1_other (by omega)];exact h.cnt d hd
theorem sm_mapped{a:AlS}(h:AlOk a){v:Int}{p:PgS}(hg:mGet a.sm v=some p):Mapped a.sl v:=by
 obtain⟨g1,_,_,_,g5⟩:=h.pg v p hg;have hk:kdV v=((kdV v).toNat:Nat):=by unfold kdV;omega
 have hl:=pages_lt8 (c:=(kdV v).toNat) (by unfold kdV;omega);rw [←hk] at hl;have hs:stV v=v%256:=by unfold stV;rw [hl.1];omega
 refine⟨by omega,by rw [hs,hl.2];omega,?_⟩;rw [hs];exact g5
theorem small_in{c s:Nat}(hc:c<8)(v:Int):(vOf c s≤v∧v<vOf c s+pagesT c)↔v=((256*(c+1)+s:Nat):Int):=by
 unfold vOf;rw [(pages_lt8 hc).1];omega
section
variable{B:List UInt8}{cm:CmS}{win:List Int}{tb:TbS}{a:AlS}
theorem HpOk.held(h:HpOk B cm win tb a){c s:Nat}(hc:c<24)(hs:s<(a.sl c).n)(hf:(a.sl c).f s=true){cm':CmS}{tb':TbS}(H:Hld cm win tb cm' tb' (fun v=>vOf c s≤v∧v<vOf c s+pagesT c) (pagesT c).toNat)
  {a':AlS} (hsl:a'.sl=up1 a.sl c ((a.sl c).flip s)) (ok':AlOk a') (hsm:∀v p,mGet a'.sm v=some p→mGet a.sm v=some p∨(∀q,mGet tb'.pg v=some q→PgZ B (q.toNat*512) p)) :
  HpOk B cm' win tb' a'∧Keep win B cm B cm'∧(∀v q,mGet tb.pg v=some q→mGet tb'.pg v=some q)∧(∀v q,vOf c s≤v→v<vOf c s+pagesT c→mGet tb'.pg v=some q→∀i,i<512→byt B (q.toNat*512+i)=0):=by
 have hsT:(s:Int)<slotsT c:=by rw [←h.al.n c hc];omega
 refine⟨⟨ok',H.ok,by rw [H.P];exact h.len,H.ton,fun v=>?_,?_,fun p hp hpf i hi=>?_,fun v p q hp hq=>?_⟩,⟨rfl,H.P,H.C,H.sh,fun _ _ _ _ _=>rfl⟩,H.old,fun v q h1 h2 hq i hi=>?_⟩
 ·rw [hsl,mapped_take hc hsT hf]
  constructor
  ·intro e
   obtain⟨p,hp⟩:=Option.isSome_iff_exists.1 e;rcases H.new v p hp with q|q
   ·exact .inl ((h.dom v).1 (by rw [q];rfl))
   ·exact .inr q.1
  ·rintro (e|e)
   ·obtain⟨p,hp⟩:=Option.isSome_iff_exists.1 ((h.dom v).2 e)
    rw [H.old v p hp];rfl
   ·exact H.has v e
 ·rw [hsl,pgsum_take hc hs hf,H.len,h.cnt]
 ·rw [H.P] at hp;exact h.z p hp (H.free p hpf) i hi
 ·rcases hsm v p hp with e|e
  ·obtain⟨q',hq'⟩:=Option.isSome_iff_exists.1 ((h.dom v).2 (sm_mapped h.al e))
   have:=H.old v q' hq';rw [hq] at this;injection this with this
   subst this;exact h.c v p q e hq'
  ·exact e q hq
 ·rcases H.new v q hq with e|e
  ·exfalso
   have:=(h.dom v).1 (by rw [e];rfl);have h3:=(in_slot hc hsT v).1 ⟨h1,h2⟩;unfold Mapped at this;rw [h3.2.1,h3.2.2,Int.toNat_natCast,Int.toNat_natCast,hf] at this;cases this.2.2
  ·have:=(H.ton.rng v q hq).2.1
   rw [H.P] at this;exact h.z q.toNat (by omega) e.2 i hi
theorem HpOk.opened(h:HpOk B cm win tb a){c s:Nat}(hc:c<8)(hs:s<(a.sl c).n)(hf:(a.sl c).f s=true){cm':CmS}{tb':TbS}(H:Hld cm win tb cm' tb' (fun v=>vOf c s≤v∧v<vOf c s+pagesT c) (pagesT c).toNat) :
  HpOk B cm' win tb' (a.openP c s)∧Keep win B cm B cm'∧(∀v q,mGet tb.pg v=some q→mGet tb'.pg v=some q)∧(a.openP c s).cost=a.cost∧∃q,mGet tb'.pg ((256*(c+1)+s:Nat):Int)=some q∧0≤q∧q<cm.P:=by
 have hs256:s<256:=by have:=h.al.n c (by omega);rw [(pages_lt8 hc).2] at this;omega
 obtain⟨o1,o2,o3⟩:=h.al.openP hc hs256 hf;have hb:∀v q,vOf c s≤v→v<vOf c s+pagesT c→mGet tb'.pg v=some q→∀i,i<512→byt B (q.toNat*512+i)=0:=fun v q h1 h2 hq i hi=>by
  rcases H.new v q hq with e|e
  ·exfalso
   have hsT:(s:Int)<slotsT c:=by rw [(pages_lt8 hc).2];omega
   have:=(h.dom v).1 (by rw [e];rfl);have h3:=(in_slot (by omega) hsT v).1 ⟨h1,h2⟩;unfold Mapped at this;rw [h3.2.1,h3.2.2,Int.toNat_natCast,Int.toNat_natCast,hf] at this;cases this.2.2
  ·have:=(H.ton.rng v q hq).2.1
   rw [H.P] at this;exact h.z q.toNat (by omega) e.2 i hi
 obtain⟨r1,r2,r3,r4⟩:=h.held (a':=a.openP c s) (by omega) hs hf H rfl o1 (fun v p hp=>by
  by_cases e:v=((256*(c+1)+s:Nat):Int)
  ·right
   intro q hq;have hv:=(small_in hc v).2 e;replace hp:mGet (mIns _ (PgS.new 0 c) a.sm) v=some p:=hp;rw [e,mGet_ins_same h.al.rise] at hp;injection hp with hp
   subst hp;exact PgZ.new (by omega) (hb v q hv.1 hv.2 hq)
  ·left
   replace hp:mGet (mIns _ (PgS.new 0 c) a.sm) v=some p:=hp;rw [mGet_ins_other e] at hp;exact hp)
 refine⟨r1,r2,r3,o3,?_⟩;obtain⟨q,hq⟩:=Option.isSome_iff_exists.1 (H.has _ ((small_in hc _).2 rfl));have:=(H.ton.rng _ q hq).2.1;rw [H.P] at this;exact⟨q,hq,this⟩
theorem pg_sep(h:HpOk B cm win tb a){u v p q:Int}(hu:mGet tb.pg u=some p)(hv:mGet tb.pg v=some q)(hne:u≠v):p.toNat≠q.toNat:=by
 intro e;have h1:=(h.ton.rng u p hu).2.1;have h2:=(h.ton.rng v q hv).2.1;have:p=q:=by omega
 subst this;have h3:=(h.ton.inv u p).1 hu;rw [(h.ton.inv v p).1 hv] at h3;injection h3 with h3
 exact hne h3.symm
structure One(B B':List UInt8)(q lo hi:Nat):Prop where
 len:B'.length=B.length
 at_:q*512≤lo∧hi≤q*512+512
 same:∀j,¬(lo≤j∧j<hi)→byt B' j=byt B j
theorem One.page{B':List UInt8}{q lo hi:Nat}(o:One B B' q lo hi){r:Nat}(hr:r≠q){i:Nat}(h:i<512):byt B' (r*512+i)=byt B (r*512+i):=o.same _ (by have:=o.at_;omega)
theorem HpOk.one(h:HpOk B cm win tb a){v q:Int}(hq:mGet tb.pg v=some q){B':List UInt8}{lo hi:Nat}(o:One B B' q.toNat lo hi){a':AlS}(hsl:a'.sl=a.sl)(ok':AlOk a')
  (hsm:∀u p,u≠v→mGet a'.sm u=some p→mGet a.sm u=some p) (hv:∀p,mGet a'.sm v=some p→PgZ B' (q.toNat*512) p) :
  HpOk B' cm win tb a'∧Keep win B cm B' cm:=by
 obtain⟨r1,r2,r3,r4⟩:=h.ton.rng v q hq;refine⟨⟨ok',h.cmo,o.len.trans h.len,h.ton,by rw [hsl];exact h.dom,by rw [hsl];exact h.cnt,fun p hp hf i hi=>?_,fun u p r hp hr=>?_⟩,⟨o.len,rfl,rfl,fun _ _=>rfl,fun p hp hc i hi=>?_⟩⟩
 ·rw [o.page (by rintro rfl;rw [r4] at hf;cases hf) hi];exact h.z p hp hf i hi
 ·by_cases e:u=v
  ·subst e
   rw [hq] at hr;injection hr with hr;subst hr
   exact hv p hp
  ·have hp':=hsm u p e hp
   have hz:=h.c u p r hp' hr;have hok:=(h.al.pg u p hp').2.2.2.1;intro k hk hf i hi;have hb:=blk_at hok hk;have hs:=pg_sep h hr hq e;have:=o.page (r:=r.toNat) hs (i:=k*p.unit.toNat+i) (by omega);rw [←Nat.add_assoc] at this;rw [this];exact hz k hk hf i hi
 ·exact o.page (by rintro rfl;exact hc r3) hi
theorem HpOk.takeP(h:HpOk B cm win tb a){c:Nat}(hc:c<8){v q:Int}{p:PgS}(hg:mGet a.sm v=some p)(hk:kdV v=c)(hcnt:0<p.had.cnt)(hq:mGet tb.pg v=some q) :
  HpOk (p.alB (q.toNat*512) B) cm win tb (a.takeP c v)∧Keep win B cm (p.alB (q.toNat*512) B) cm∧One B (p.alB (q.toNat*512) B) q.toNat (q.toNat*512+p.alK*p.unit.toNat) (q.toNat*512+p.alK*p.unit.toNat+p.unit.toNat)∧(∀i,i<p.unit.toNat→byt (p.alB (q.toNat*512) B) (q.toNat*512+p.alK*p.unit.toNat+i)=0)∧(a.takeP c v).cost=a.cost+p.unit.toNat:=by
 obtain⟨g1,g2,g3,g4,g5⟩:=h.al.pg v p hg;obtain⟨r1,r2,r3,r4⟩:=h.ton.rng v q hq;have hlen:=h.len;have hB:q.toNat*512+512≤B.length:=by omega
 have hz:=h.c v p q hg hq;obtain⟨b1,b2⟩:=al_byt g4 hcnt hB hz;obtain⟨k1,k2⟩:=alK_free g4 hcnt;have hb:=blk_at g4 k1;obtain⟨t1,t2,t3⟩:=h.al.takeP hc hg hk hcnt;have o:One B (p.alB (q.toNat*512) B) q.toNat (q.toNat*512+p.alK*p.unit.toNat) (q.toNat*512+p.alK*p.unit.toNat+p.unit.toNat):=⟨al_len,by omega,b2⟩
 obtain⟨x1,x2⟩:=h.one hq o (a':=a.takeP c v) rfl t1 (fun u p' hu hp'=>by
  replace hp':mGet (mIns v (a.pgAt v).alP a.sm) u=some p':=hp'
  rwa [mGet_ins_other hu] at hp') (fun p' hp'=>by
  rw [t2] at hp';injection hp' with hp';subst hp'
  exact hz.al g4 hcnt hB)
 exact⟨x1,x2,o,b1,t3⟩
theorem HpOk.backP(h:HpOk B cm win tb a){c:Nat}(hc:c<8){v q:Int}{p:PgS}(hg:mGet a.sm v=some p)(hk:kdV v=c)(hq:mGet tb.pg v=some q){k:Nat}(hkn:k<p.had.n)(hf:p.had.f k=false) :
  HpOk ((p.on (q.toNat*512:Nat)).frB k B) cm win tb (a.backP c v k)∧Keep win B cm ((p.on (q.toNat*512:Nat)).frB k B) cm∧One B ((p.on (q.toNat*512:Nat)).frB k B) q.toNat (q.toNat*512+k*p.unit.toNat) (q.toNat*512+k*p.unit.toNat+p.unit.toNat)∧(a.backP c v k).cost+p.unit.toNat=a.cost:=by
 obtain⟨g1,g2,g3,g4,g5⟩:=h.al.pg v p hg;obtain⟨r1,r2,r3,r4⟩:=h.ton.rng v q hq;have hlen:=h.len;have hB:q.toNat*512+512≤B.length:=by omega
 have hz:=h.c v p q hg hq;obtain⟨b1,b2⟩:=fr_byt g4 hkn hB;have hb:=blk_at g4 hkn;obtain⟨t1,t3⟩:=h.al.backP hc hg hk hkn hf;have o:One B ((p.on (q.toNat*512:Nat)).frB k B) q.toNat (q.toNat*512+k*p.unit.toNat) (q.toNat*512+k*p.unit.toNat+p.unit.toNat):=⟨frB_len _ _ _,by omega,b2⟩
 obtain⟨x1,x2⟩:=h.one hq o (a':=a.backP c v k) rfl t1 (fun u p' hu hp'=>by
  replace hp':mGet (mIns v _ a.sm) u=some p':=hp'
  rwa [mGet_ins_other hu] at hp') (fun p' hp'=>by
  replace hp':mGet (mIns v _ a.sm) v=some p':=hp';rw [mGet_ins_same h.al.rise,pgAt_some hg] at hp';injection hp' with hp';subst hp'
  exact hz.fr g4 hkn hf hB)
 exact⟨x1,x2,o,t3⟩
theorem HpOk.released(h:HpOk B cm win tb a){c s:Nat}(hc:c<24)(hs:s<(a.sl c).n)(hf:(a.sl c).f s=false){B':List UInt8}{cm':CmS}{tb':TbS}(R:Rel B cm win tb B' cm' tb' (fun v=>vOf c s≤v∧v<vOf c s+pagesT c) (pagesT c).toNat)
  {a':AlS} (hsl:a'.sl=up1 a.sl c ((a.sl c).flip s)) (ok':AlOk a') (hsm:∀v p,mGet a'.sm v=some p→mGet a.sm v=some p) :
  HpOk B' cm' win tb' a':=by
 have hsT:(s:Int)<slotsT c:=by rw [←h.al.n c hc];omega
 have hdom:Dom tb' (Mapped a'.sl):=fun v=>by
  rw [hsl,mapped_give hc hsT hf];constructor
  ·intro e
   have hD:¬(vOf c s≤v∧v<vOf c s+pagesT c):=fun q=>by rw [R.gone v q] at e;cases e
   rw [R.stay v hD] at e;exact⟨(h.dom v).1 e,hD⟩
  ·rintro ⟨e,hD⟩
   rw [R.stay v hD];exact(h.dom v).2 e
 refine⟨ok',R.ok,by rw [R.keep.len,R.keep.P];exact h.len,R.ton,hdom,?_,R.z,fun v p q hp hq=>?_⟩
 ·have h1:=pgsum_give hc hs hf
  have h2:=R.len;have h3:=h.cnt;rw [hsl];omega
 ·have hm:=sm_mapped ok' hp
  have hD:¬(vOf c s≤v∧v<vOf c s+pagesT c):=by
   rw [hsl,mapped_give hc hsT hf] at hm;exact hm.2
  rw [R.stay v hD] at hq;have hz:=h.c v p q (hsm v p hp) hq;have hok:=(ok'.pg v p hp).2.2.2.1;intro k hk hkf i hi;have hb:=blk_at hok hk;have:=R.bys v q hD hq (k*p.unit.toNat+i) (by omega);rw [←Nat.add_assoc] at this;rw [this];exact hz k hk hkf i hi
end
end
section
def mayB(q:Int):Bool:=decide (1≤q)&&decide (q≤65536)
theorem may_iff{q:Int}:mayB q=true↔1≤q∧q≤65536:=by unfold mayB;simp only [Bool.and_eq_true,decide_eq_true_eq]
def byT(c q:Int):Int:=if perT c=0∨mayB q=false then 0 else (q/unitT c+perT c-1)/perT c
def runsT(q:Int):Int:=if mayB q=true then q/512 else 0
def sumBy(q:Int):Nat→Int
 |0=>0
 |k+1=>sumBy q k+byT k q
def demT(q:Int):Int:=sumBy q 8+runsT q
theorem by_zero{c q:Int}(h:perT c=0∨mayB q=false):byT c q=0:=by unfold byT;rw [if_pos h]
theorem by_in{c q:Int}(h0:0≤c)(h1:c≤7)(h:mayB q=true):byT c q=(q/unitT c+perT c-1)/perT c:=by
 unfold byT;rw [if_neg];rintro (g|g)
 ·have:=per_cases h0 h1;omega
 ·rw [h] at g;cases g
theorem per_pos{c:Int}(h0:0≤c)(h1:c≤7):2≤perT c∧perT c≤32:=by
 have:=per_cases h0 h1;omega
theorem per_unit{c:Int}(h0:0≤c)(h1:c≤7):(perT c=32∧unitT c=16)∨(perT c=16∧unitT c=32)∨(perT c=10∧unitT c=48)∨(perT c=8∧unitT c=64)∨(perT c=5∧unitT c=96)∨(perT c=4∧unitT c=128)∨(perT c=2∧unitT c=192)∨(perT c=2∧unitT c=256):=by
 rcases(by omega:c=0∨c=1∨c=2∨c=3∨c=4∨c=5∨c=6∨c=7) with rfl|rfl|rfl|rfl|rfl|rfl|rfl|rfl<;>decide
theorem by_ceil{c q:Int}(h0:0≤c)(h1:c≤7)(h:mayB q=true):0≤byT c q∧byT c q≤4096∧q/unitT c≤byT c q*perT c∧(byT c q-1)*perT c<q/unitT c+(if byT c q=0 then perT c else 0)∧(byT c q=0→q/unitT c=0)∧byT c q*perT c*unitT c≤2097152:=by
 obtain⟨a,b⟩:=may_iff.1 h;rw [by_in h0 h1 h];rcases per_unit h0 h1 with ⟨e,f⟩|⟨e,f⟩|⟨e,f⟩|⟨e,f⟩|⟨e,f⟩|⟨e,f⟩|⟨e,f⟩|⟨e,f⟩<;>rw [e,f]<;>refine⟨by omega,by omega,by omega,?_,by omega,by omega⟩<;>split<;>omega
theorem by_bound(c q:Int):0≤byT c q∧byT c q≤4096:=by
 by_cases hc:0≤c∧c≤7
 ·cases h:mayB q with
  |true=>have:=by_ceil hc.1 hc.2 h;omega
  |false=>rw [by_zero (.inr h)];omega
 ·rw [by_zero (.inl (per_out (by omega)))];omega
theorem by_mono{c a b:Int}(h0:0≤c)(h1:c≤7)(ha:mayB a=true)(hb:mayB b=true)(hab:a≤b):byT c a≤byT c b:=by
 rw [by_in h0 h1 ha,by_in h0 h1 hb];rcases per_unit h0 h1 with ⟨e,f⟩|⟨e,f⟩|⟨e,f⟩|⟨e,f⟩|⟨e,f⟩|⟨e,f⟩|⟨e,f⟩|⟨e,f⟩<;>rw [e,f]<;>omega
theorem sumBy_bound(q:Int):∀k:Nat,k≤8→0≤sumBy q k∧sumBy q k≤4096*k
 |0,_=>by unfold sumBy;omega
 |k+1,h=>by
  have:=sumBy_bound q k (by omega);have:=by_bound k q;unfold sumBy;omega
theorem runs_bound(q:Int):0≤runsT q∧runsT q≤128:=by
 unfold runsT
 split
 ·rename_i h;have:=may_iff.1 h;omega
 ·omega
theorem dem_bound(q:Int):0≤demT q∧demT q≤32896:=by
 have:=sumBy_bound q 8 (by omega);have:=runs_bound q;unfold demT;omega
theorem runs_in{q:Int}(h:mayB q=true):runsT q=q/512:=by unfold runsT;rw [if_pos h]
theorem runs_out{q:Int}(h:mayB q=false):runsT q=0:=by unfold runsT;rw [if_neg (by rw [h];decide)]
end
section
open Go.RowKit Flt
attribute [local irreducible] smallT unitT kindT perT pagesT alignT chargeT
theorem may_any(q:Int)(w:World) :
  Calls Tryz.prog 116 #[.int .i64 q] w fun e w'=>e=.returned (.bool (mayB q))∧w'=w:=by
 unfold mayB;by_cases h:1≤q
 ·rw [decide_eq_true h,Bool.true_and]
  go_enter Tryz.func116,Tryz.ntmps116
  go_wp2
  go_ret
  exact⟨rfl,rfl⟩
 ·rw [decide_eq_false h,Bool.false_and]
  have h':q<1:=by omega
  clear h;go_enter Tryz.func116,Tryz.ntmps116
  go_wp2
  go_ret
  exact⟨rfl,rfl⟩
theorem runs_any(q:Int)(w:World) :
  Calls Tryz.prog 117 #[.int .i64 q] w fun e w'=>e=.returned (.int .i64 (runsT q))∧w'=w:=by
 cases h:mayB q with
 |true =>
  rw [runs_in h];obtain⟨a,b⟩:=may_iff.1 h;go_enter Tryz.func117,Tryz.ntmps117
  go_wp2_with fail;refine(may_any _ _).mono ?_;rintro e w' ⟨rfl,hw⟩;obtain rfl:=hw.symm;clear hw;go_wp2_with fail;go_ret
  exact⟨rfl,rfl⟩
 |false =>
  rw [runs_out h];go_enter Tryz.func117,Tryz.ntmps117
  go_wp2_with fail;refine(may_any _ _).mono ?_;rintro e w' ⟨rfl,hw⟩;obtain rfl:=hw.symm;clear hw;go_wp2_with fail;go_ret
  exact⟨rfl,rfl⟩
theorem by_any(c q:Int)(w:World) :
  Calls Tryz.prog 118 #[.int .i64 c,.int .i64 q] w fun e w'=>e=.returned (.int .i64 (byT c q))∧w'=w:=by
 by_cases hc:0≤c∧c≤7
 ·obtain⟨h0,h1⟩:=hc
  obtain⟨p0,p1⟩:=per_pos h0 h1;cases h:mayB q with
  |true =>
   rw [by_in h0 h1 h];obtain⟨a,b⟩:=may_iff.1 h;obtain⟨u0,u1⟩:=unit_bound c;have u2:16≤unitT c:=by have:=per_unit h0 h1;omega
   have d0:0≤q/unitT c:=Int.ediv_nonneg (by omega) (by omega);have d1:q/unitT c≤65536:=Int.le_trans (Int.ediv_le_self _ (by omega)) b;go_enter Tryz.func118,Tryz.ntmps118
   go_wp2_with fail;refine(per_any _ _).mono ?_;rintro e w' ⟨rfl,hw⟩;obtain rfl:=hw.symm;clear hw;go_wp2_with fail;refine(may_any _ _).mono ?_;rintro e w' ⟨rfl,hw⟩;obtain rfl:=hw.symm;clear hw;go_wp2_with fail;refine(unit_any _ _).mono ?_;rintro e w' ⟨rfl,hw⟩;obtain rfl:=hw.symm;clear hw;go_wp2_with fail;go_ret
   exact⟨rfl,rfl⟩
  |false =>
   rw [by_zero (.inr h)];go_enter Tryz.func118,Tryz.ntmps118
   go_wp2_with fail;refine(per_any _ _).mono ?_;rintro e w' ⟨rfl,hw⟩;obtain rfl:=hw.symm;clear hw;go_wp2_with fail;refine(may_any _ _).mono ?_;rintro e w' ⟨rfl,hw⟩;obtain rfl:=hw.symm;clear hw;go_wp2_with fail;go_ret
   exact⟨rfl,rfl⟩
 ·have e:=per_out (c:=c) (by omega)
  rw [by_zero (.inl e)];have hp:∀w,Calls Tryz.prog 166 #[.int .i64 c] w fun e w'=>e=.returned (.int .i64 0)∧w'=w:=by
   intro w;have:=per_any c w;rwa [e] at this
  replace hp:=HD hp;clear e hc;go_enter Tryz.func118,Tryz.ntmps118
  go_wp2_with fail;refine(hp.out _).mono ?_;rintro e w' ⟨rfl,hw⟩;obtain rfl:=hw.symm;clear hw;go_wp2_with fail;go_ret
  exact⟨rfl,rfl⟩
theorem complex_addD{a b c d:Int}(h1:(a+c).natAbs<2^53)(h2:(b+d).natAbs<2^53)(ha:a.natAbs<2^53)(hb:b.natAbs<2^53)(hc:c.natAbs<2^53)(hd:d.natAbs<2^53)(w:World)(t:TypeId) :
  (binOp .add t (.complex .f64 (F a) (F b)) (.complex .f64 (F c) (F d))).run Tryz.prog w=.ok (.complex .f64 (F (a+c)) (F (b+d))) w :=
 run_complex_sum (P:=Tryz.prog) w .add (Or.inl rfl) t .f64 (F a) (F b) (F c) (F d) (F (a+c)) (F (b+d))
  (by unfold cSumBits floatBits;simp only [show FloatKind.f64.format=Ieee.double from rfl,add_val (val_F (n:=a) (by omega)) (val_F (n:=c) (by omega)) (by omega),add_val (val_F (n:=b) (by omega)) (val_F (n:=d) (by omega)) (by omega),Option.bind_some])
theorem demOf_yes(q:Int)(w:World)(h:mayB q=true) :
  Calls Tryz.prog 78 #[.int .i64 q] w fun e w'=>e=.returned (.tuple #[.complex .f64 (F q) (F (demT q)),.int .i64 0])∧w'=w:=by
 obtain⟨a,b⟩:=may_iff.1 h;obtain⟨r0,r1⟩:=runs_bound q;have H:=HD h;go_enter Tryz.func78,Tryz.ntmps78
 go_wp2_with fail;refine(may_any _ _).mono ?_;rintro e w' ⟨rfl,hw⟩;obtain rfl:=hw.symm;clear hw;go_wp2_with fail;refine(runs_any _ _).mono ?_;rintro e w' ⟨rfl,hw⟩;obtain rfl:=hw.symm;clear hw;go_wp2_with fail;go_loop [4,15] (fun x i=>∃k:Nat,k≤8∧i=.int .i64 k∧x=.complex .f64 (F q) (F (sumBy q k+runsT q))) (fun _ i=>8-(intOf i).toNat)
 case atStart=>exact⟨0,by omega,rfl,by unfold sumBy;rw [Int.zero_add];rfl⟩
 case round =>
  obtain⟨k,hk,rfl,rfl⟩:=hrel;obtain⟨s0,s1⟩:=sumBy_bound q k hk;by_cases hlt:k<8
  ·obtain⟨y0,y1⟩:=by_bound k q
   have hc:∀t,(binOp .add t (.complex .f64 (F q) (F (sumBy q k+runsT q))) (.complex .f64 0 (floatOfInt .f64 (byT k q)))).run Tryz.prog w=.ok (.complex .f64 (F q) (F (sumBy q (k+1)+runsT q))) w:=fun t=>by
    have hc:=complex_addD (a:=q) (b:=sumBy q k+runsT q) (c:=0) (d:=byT k q) (by omega) (by omega) (by omega) (by omega) (by omega) (by omega) w t;rw [show F 0=0 from F_zero,Int.add_zero,show sumBy q k+runsT q+byT k q=sumBy q (k+1)+runsT q by show _=sumBy q k+byT k q+runsT q;omega] at hc;exact hc
   generalize F (sumBy q k+runsT q)=fa at *;obtain⟨fb,hfb⟩:∃fb,fb=F (sumBy q (k+1)+runsT q):=⟨_,rfl⟩
   rw [←hfb] at hc;replace hfb:=HD hfb;go_wp2_with fail;refine(by_any _ _ _).mono ?_;rintro e w'' ⟨rfl,hw⟩;obtain rfl:=hw.symm;clear hw;go_wp2_with fail;go_round
   case rel=>exact⟨k+1,by omega,by go_num,by rw [hfb.out]⟩
   case measure=>simp [intOf];omega
  ·obtain rfl:k=8:=by omega
   go_wp2_with fail;go_ret2
   exact⟨rfl,rfl⟩
theorem demOf_no(q:Int)(w:World)(h:mayB q=false) :
  Calls Tryz.prog 78 #[.int .i64 q] w fun e w'=>e=.returned (.tuple #[.complex .f64 0 0,.int .i64 12])∧w'=w:=by
 go_enter Tryz.func78,Tryz.ntmps78
 go_wp2_with fail;refine(may_any _ _).mono ?_;rintro e w' ⟨rfl,hw⟩;obtain rfl:=hw.symm;clear hw;go_wp2_with fail;go_ret2
 exact⟨rfl,rfl⟩
theorem dem_ok{q:Int}(h:mayB q=true):okS q (demT q)=true:=by
 obtain⟨a,b⟩:=may_iff.1 h;have:=dem_bound q;exact okS_iff.2 (by omega)
theorem demFits_any(q p:Int)(w:World) :
  Calls Tryz.prog 49 #[.int .i64 q,.int .i64 p] w fun e w'=>e=.returned (.bool (mayB q&&decide (demT q≤p)))∧w'=w:=by
 cases h:mayB q with
 |true =>
  rw [Bool.true_and];have hk:=HD (dem_ok h);replace h:=HD h;go_enter Tryz.func49,Tryz.ntmps49
  go_wp2_with fail;refine(demOf_yes _ _ h.out).mono ?_;rintro e w' ⟨rfl,hw⟩;obtain rfl:=hw.symm;clear hw;go_wp2_with fail;refine(pages_F _ _ _ hk.out).mono ?_;rintro e w' ⟨rfl,hw⟩;obtain rfl:=hw.symm;clear hw;go_wp2_with fail;go_ret
  exact⟨rfl,rfl⟩
 |false =>
  rw [Bool.false_and];replace h:=HD h;go_enter Tryz.func49,Tryz.ntmps49
  go_wp2_with fail;refine(demOf_no _ _ h.out).mono ?_;rintro e w' ⟨rfl,hw⟩;obtain rfl:=hw.symm;clear hw;go_wp2_with fail;go_ret
  exact⟨rfl,rfl⟩
end
section

end
section
open Go.RowKit
abbrev eP:Nat→Value:=fun b=>.pointer (some ⟨b,0,none⟩)
def hpL(a c:Nat)(wv:Value)(bt:Nat)(sv lv:Nat→Value)(mv:Value):List Value :=
 [eP a,eP c,wv,eP bt]++((List.range 24).map sv++((List.range 8).map lv++[mv]))
theorem hp_slot{a c:Nat}{wv:Value}{bt:Nat}{sv lv:Nat→Value}{mv:Value}{k:Nat}(h:k<24):(hpL a c wv bt sv lv mv).toArray[4+k]? = some (sv k):=by
 unfold hpL;rw [List.getElem?_toArray,List.getElem?_append_right (by simp),List.getElem?_append_left (by simp;omega)];simp [h]
theorem hp_line{a c:Nat}{wv:Value}{bt:Nat}{sv lv:Nat→Value}{mv:Value}{k:Nat}(h:k<8):(hpL a c wv bt sv lv mv).toArray[28+k]? = some (lv k):=by
 unfold hpL;rw [List.getElem?_toArray,List.getElem?_append_right (by simp;omega),List.getElem?_append_right (by simp;omega),List.getElem?_append_left (by simp;omega)];simp [h,show 28+k-4-24=k by omega]
structure HpX where
 bt:Nat
 gm:Nat
 wv:Value
 bs:Nat→Nat
 bl:Nat→Nat
 gl:Nat→Nat
 bp:Int→Nat
 pf:Int→Nat
structure HpG(w:World)(o:Nat→Tag)(t:Tag)(b a c:Nat)(x:HpX)(win:List Int)(tb:TbS)(al:AlS):Prop where
 blk:Blk w o t b (hpL a c x.wv x.bt (fun k=>eP (x.bs k)) (fun k=>eP (x.bl k)) (.map (some x.gm))).toArray 201
 win:IRow w o (t++[0]) x.wv win
 ta:TbAt w o (t++[1]) x.bt tb
 sl:∀k,k<24→ShAt w o (t++[2,k]) (x.bs k) (al.sl k)
 ln:∀k,k<8→∃s,LnG w o (t++[3,k]) (x.bl k) (x.gl k) s∧LnIs s (al.ln k)
 mp:MpAt w o (t++[4]) x.gm .i64 eP (al.sm.map fun y=>(y.1,x.bp y.1))
 pg:∀v p,mGet al.sm v=some p→PgAt w o (t++[5,v.toNat]) (x.bp v) a (p.on (x.pf v*512:Nat))
def HpX.is(x:HpX)(tb:TbS)(al:AlS):Prop:=∀v p,mGet al.sm v=some p→x.pf v=pgOf tb v
def HpAt(w:World)(o:Nat→Tag)(t:Tag)(b a c:Nat)(win:List Int)(tb:TbS)(al:AlS):Prop:=∃x,HpG w o t b a c x win tb al∧x.is tb al
section
variable{S:Tag→Prop}{w w':World}{o o':Nat→Tag}{t:Tag}{b a c:Nat}{x:HpX}{win:List Int}{tb:TbS}{al:AlS}
theorem HpG.fr(h:HpG w o t b a c x win tb al)(f:Fr S w o w' o')(hS:Off S t):HpG w' o' t b a c x win tb al where
 blk:=h.blk.fr f hS.self
 win:=h.win.fr f (hS.sub [0]).self
 ta:=h.ta.fr f (hS.sub [1])
 sl k hk:=(h.sl k hk).fr f (hS.sub [2,k])
 ln k hk:=by
  obtain⟨s,h1,h2⟩:=h.ln k hk;exact⟨s,h1.fr f (hS.sub [3,k]).self,h2⟩
 mp:=h.mp.fr f (hS.sub [4]).self
 pg v p hp:=(h.pg v p hp).fr f (hS.sub [5,v.toNat])
theorem HpG.drew(h:HpG w o t b a c x win tb al):HpG w.drew o t b a c x win tb al:=h.fr (S:=fun _=>False) Fr.drew ⟨fun _ _ q=>q,fun q=>q⟩
theorem HpAt.fr(h:HpAt w o t b a c win tb al)(f:Fr S w o w' o')(hS:Off S t):HpAt w' o' t b a c win tb al:=by
 obtain⟨x,h,hx⟩:=h;exact⟨x,h.fr f hS,hx⟩
theorem HpG.c0(h:HpG w o t b a c x win tb al):w.cell? ⟨b,0,none⟩=some (eP a):=h.blk.cell' (i:=0) rfl
theorem HpG.c1(h:HpG w o t b a c x win tb al):w.cell? ⟨b,1,none⟩=some (eP c):=h.blk.cell' (i:=1) rfl
theorem HpG.c2(h:HpG w o t b a c x win tb al):w.cell? ⟨b,2,none⟩=some x.wv:=h.blk.cell' (i:=2) rfl
theorem HpG.c3(h:HpG w o t b a c x win tb al):w.cell? ⟨b,3,none⟩=some (eP x.bt):=h.blk.cell' (i:=3) rfl
theorem HpG.cs(h:HpG w o t b a c x win tb al){k:Nat}(hk:k<24):w.cell? ⟨b,4+k,none⟩=some (eP (x.bs k)):=h.blk.cell' (hp_slot hk)
theorem HpG.cl(h:HpG w o t b a c x win tb al){k:Nat}(hk:k<8):w.cell? ⟨b,28+k,none⟩=some (eP (x.bl k)):=h.blk.cell' (hp_line hk)
theorem HpG.cm(h:HpG w o t b a c x win tb al):w.cell? ⟨b,36,none⟩=some (.map (some x.gm)):=h.blk.cell' (i:=36) rfl
end
theorem hpTable(b a c:Nat)(w:World){o:Nat→Tag}{t:Tag}{x:HpX}{win:List Int}{tb:TbS}{al:AlS}(h:HpG w o t b a c x win tb al) :
  Calls Tryz.prog 106 #[.pointer (some ⟨b,0,none⟩)] w fun e w'=>e=.returned (.pointer (some ⟨x.bt,0,none⟩))∧w'=w:=by
 have c3:=h.c3;clear h;go_enter Tryz.func106,Tryz.ntmps106
 go_wp2_with fail;go_ret
 exact⟨rfl,rfl⟩
theorem hpPages(b a c:Nat)(w:World){o:Nat→Tag}{t:Tag}{x:HpX}{win:List Int}{tb:TbS}{al:AlS}(h:HpG w o t b a c x win tb al) :
  Calls Tryz.prog 142 #[.pointer (some ⟨b,0,none⟩)] w fun e w'=>e=.returned (.int .i64 tb.pg.length)∧w'=w:=by
 have c3:=h.c3;have hl:=HD (tbLen x.bt w h.ta);clear h;go_enter Tryz.func142,Tryz.ntmps142
 go_wp2_with fail;refine SM hl.out ?_;go_wp2_with fail;go_ret
 exact⟨rfl,rfl⟩
theorem pos_local{c s:Nat}(hc:c<24)(hs:(s:Int)<slotsT c):thereT c s 0=true∧(posT c s 0).tdiv 512=vOf c s∧(256≤vOf c s∧vOf c s+pagesT c≤6400):=by
 obtain⟨h1,h2,h3⟩:=slot_in hc hs;have h4:=kind_facts (c:=(c:Int)) (by omega) (by omega);have e:posT c s 0=vOf c s*512:=by
  unfold posT vOf;have:(s:Int)*(pagesT c*512)=s*pagesT c*512:=by rw [Int.mul_assoc]
  omega
 refine⟨there_iff.2 ⟨by omega,hs,by omega,by omega⟩,?_,?_⟩
 ·rw [e];exact Int.mul_tdiv_cancel _ (by omega)
 ·unfold vOf;omega
theorem hpLocal(c s:Nat)(w:World)(hc:c<24)(hs:(s:Int)<slotsT c) :
  Calls Tryz.prog 201 #[.int .i64 c,.int .i64 s] w fun e w'=>e=.returned (.int .i64 (vOf c s))∧w'=w:=by
 obtain⟨h1,h2,h3⟩:=pos_local hc hs;have hp:=HD (placeOf_yes c s 0 w h1);have hv:=slot_in hc hs;have u:=IntWalk.i64_in (vOf c s) (by omega);clear hs h1 h3;generalize vOf c s=v at *;generalize posT c s 0=p at *;go_enter Tryz.func201,Tryz.ntmps201
 go_wp2_with fail;refine SM hp.out ?_;go_wp2_with fail;go_ret
 exact⟨rfl,rfl⟩
end
section
open Go.RowKit
section
variable{w w':World}{o o':Nat→Tag}{t:Tag}{b a c:Nat}{x:HpX}{win:List Int}{tb:TbS}{al:AlS}
theorem not_und(t:Tag)(k:Nat)(r:Tag):¬Und (t++k :: r) t:=not_child t r k
theorem HpG.upTb(h:HpG w o t b a c x win tb al)(h9:¬t <+: [9]){tb':TbS}(f:Fr (Und (t++[1])) w o w' o)(q:TbAt w' o (t++[1]) x.bt tb'):HpG w' o t b a c x win tb' al where
 blk:=h.blk.fr f (not_und t 1 [])
 win:=h.win.fr f (off_one (show (1:Nat)≠0 by decide) h9).self
 ta:=q
 sl k hk:=(h.sl k hk).fr f (off_one (show (1:Nat)≠2 by decide) h9)
 ln k hk:=by
  obtain⟨s,h1,h2⟩:=h.ln k hk;exact⟨s,h1.fr f (off_one (show (1:Nat)≠3 by decide) h9).self,h2⟩
 mp:=h.mp.fr f (off_one (show (1:Nat)≠4 by decide) h9).self
 pg v p hp:=(h.pg v p hp).fr f (off_one (show (1:Nat)≠5 by decide) h9)
theorem off_two{p:Tag}{n a b:Nat}(h:a≠b)(h9:¬p <+: [9]):Off (Und (p++[n,a])) (p++[n,b]) :=
 off_sib (fun q=>h (List.cons_prefix_cons.1 (List.cons_prefix_cons.1 q).2).1) (fun q=>h (List.cons_prefix_cons.1 (List.cons_prefix_cons.1 q).2).1.symm) h9
theorem HpG.upSl(h:HpG w o t b a c x win tb al)(h9:¬t <+: [9]){k:Nat}(hk:k<24){s:ShS}(f:Fr (Und (t++[2,k])) w o w' o)(q:ShAt w' o (t++[2,k]) (x.bs k) s):HpG w' o t b a c x win tb ⟨up1 al.sl k s,al.ln,al.sm⟩ where
 blk:=h.blk.fr f (not_und t 2 [k])
 win:=h.win.fr f (off_one (show (2:Nat)≠0 by decide) h9).self
 ta:=h.ta.fr f (off_one (show (2:Nat)≠1 by decide) h9)
 sl j hj:=by
  show ShAt w' o _ _ (up1 al.sl k s j);by_cases e:j=k
  ·subst e;rw [up1_same];exact q
  ·rw [up1_other e];exact(h.sl j hj).fr f (off_two (Ne.symm e) h9)
 ln j hj:=by
  obtain⟨s,h1,h2⟩:=h.ln j hj;exact⟨s,h1.fr f (off_one (show (2:Nat)≠3 by decide) h9).self,h2⟩
 mp:=h.mp.fr f (off_one (show (2:Nat)≠4 by decide) h9).self
 pg v p hp:=(h.pg v p hp).fr f (off_one (show (2:Nat)≠5 by decide) h9)
theorem off_eq{s t:Tag}(h:¬t <+: s)(h9:s≠[9]):Off (fun u=>u=s) t:=⟨fun u hu e=>h (by rw [←e];exact hu),fun e=>h9 e.symm⟩
theorem pre_one{p:Tag}{a b:Nat}{r r':Tag}(h:a≠b):¬(p++a :: r) <+: (p++b :: r'):=fun q=>h (List.cons_prefix_cons.1 ((List.prefix_append_right_inj p).1 q)).1
theorem HpG.upLn(h:HpG w o t b a c x win tb al)(h9:¬t <+: [9]){k:Nat}(hk:k<8){s:LnS}{l:List Int}(f:Fr (fun u=>u=t++[3,k]) w o w' o')(q:LnG w' o' (t++[3,k]) (x.bl k) (x.gl k) s)(hs:LnIs s l):HpG w' o' t b a c x win tb ⟨al.sl,up1 al.ln k l,al.sm⟩ where
 blk:=h.blk.fr f (fun e=>not_und t 3 [k] (by rw [←e];exact Und.self _))
 win:=h.win.fr f (fun e=>by simp at e)
 ta:=h.ta.fr f (off_eq (pre_one (by decide)) (ne_nine h9 _))
 sl j hj:=(h.sl j hj).fr f (off_eq (pre_one (by decide)) (ne_nine h9 _))
 ln j hj:=by
  show ∃s',LnG w' o' _ _ _ s'∧LnIs s' (up1 al.ln k l j);by_cases e:j=k
  ·subst e;rw [up1_same];exact⟨s,q,hs⟩
  ·rw [up1_other e]
   obtain⟨s',h1,h2⟩:=h.ln j hj;exact⟨s',h1.fr f (fun q=>e (by simpa using q)),h2⟩
 mp:=h.mp.fr f (fun e=>by simp at e)
 pg v p hp:=(h.pg v p hp).fr f (off_eq (pre_one (by decide)) (ne_nine h9 _))
end
theorem IRow.w'{w:World}{o:Nat→Tag}{t:Tag}{v:Value}{xs:List Int}(h:IRow w o t v xs):IntsW w v xs:=h.ints.w
theorem nodup_len:∀(C:Nat) (l:List Int),l.Nodup→(∀x∈l,0≤x∧x<C)→l.length≤C
 |0,l,_,h=>by
  cases l with
  |nil=>exact Nat.le_refl _
  |cons a l=>have:=h a (by simp);omega
 |C+1,l,hn,h=>by
  by_cases hc:(C:Int)∈l
  ·have:=nodup_len C (l.erase (C:Int)) (hn.erase _) (fun x hx=>by
    rw [hn.mem_erase_iff] at hx;have:=h x hx.2;omega)
   rw [List.length_erase_of_mem hc] at this;omega
  ·have:=nodup_len C l hn (fun x hx=>by
    have:=h x hx;have:x≠C:=fun e=>hc (by rw [←e];exact hx)
    omega)
   omega
theorem win_len{cm:CmS}{win:List Int}{tb:TbS}(h:TbOk cm win tb)(hok:cm.ok):win.length≤32:=by
 have:=nodup_len cm.C win h.wok.1 h.wok.2;have:=hok.2.1;omega
end
section
open Go.RowKit
def rng(b0:Int)(j:Nat)(v:Int):Prop:=b0≤v∧v<b0+j
theorem Hld.cong{cm:CmS}{win:List Int}{tb:TbS}{cm':CmS}{tb':TbS}{D E:Int→Prop}{n:Nat}(h:Hld cm win tb cm' tb' D n)(e:∀v,D v↔E v):Hld cm win tb cm' tb' E n:=by
 obtain rfl:D=E:=funext fun v=>propext (e v)
 exact h
theorem Rel.cong{B:List UInt8}{cm:CmS}{win:List Int}{tb:TbS}{B':List UInt8}{cm':CmS}{tb':TbS}{D E:Int→Prop}{n:Nat}(h:Rel B cm win tb B' cm' tb' D n)(e:∀v,D v↔E v):Rel B cm win tb B' cm' tb' E n:=by
 obtain rfl:D=E:=funext fun v=>propext (e v)
 exact h
structure HoldPre(B:List UInt8)(cm:CmS)(win:List Int)(tb:TbS)(al:AlS)(k s:Nat):Prop where
 hp:HpOk B cm win tb al
 k24:k<24
 low:(al.sl k).lowI=s
 room:tb.pg.length+(pagesT k).toNat≤win.length*(cm.P/cm.C)
theorem HoldPre.slot{B:List UInt8}{cm:CmS}{win:List Int}{tb:TbS}{al:AlS}{k s:Nat}(h:HoldPre B cm win tb al k s):s<(al.sl k).n∧(al.sl k).f s=true∧(s:Int)<slotsT k:=by
 have h1:=h.hp.al.n k h.k24;rcases low_cases (al.sl k) with ⟨e,_⟩|⟨j,e,_,h2,h3⟩
 ·have:=h.low;omega
 ·have:=h.low
  have:j=s:=by omega
  subst this;exact⟨h2,h3,by omega⟩
theorem HoldPre.fresh{B:List UInt8}{cm:CmS}{win:List Int}{tb:TbS}{al:AlS}{k s:Nat}(h:HoldPre B cm win tb al k s){v:Int}(hv:rng (vOf k s) (pagesT k).toNat v):mGet tb.pg v=none:=by
 obtain⟨h1,h2,h3⟩:=h.slot;have hp:=slot_in h.k24 h3;cases e:mGet tb.pg v with
 |none=>rfl
 |some p =>
  have hm:=(h.hp.dom v).1 (by rw [e];rfl);unfold rng at hv;have q:=(in_slot h.k24 h3 v).1 ⟨hv.1,by omega⟩;unfold Mapped at hm;rw [q.2.1,q.2.2,Int.toNat_natCast,Int.toNat_natCast,h2] at hm;cases hm.2.2
structure HoldRel(w:World)(o:Nat→Tag)(t u:Tag)(b a c:Nat)(x:HpX)(cm:CmS)(win:List Int)(tb:TbS)(al:AlS)(k s:Nat)(w':World)(j:Nat)(cm':CmS)(tb':TbS):Prop where
 hp:HpG w' o t b a c x win tb' ⟨up1 al.sl k ((al.sl k).flip s),al.ln,al.sm⟩
 cma:CmAt w' o u c cm'
 hld:Hld cm win tb cm' tb' (rng (vOf k s) j) j
 fr:Fr (fun v=>Und t v∨Und u v) w o w' o
def HoldPost(w:World)(o:Nat→Tag)(t u:Tag)(b a c:Nat)(x:HpX)(cm:CmS)(win:List Int)(tb:TbS)(al:AlS)(k s:Nat)(e:Ending)(w':World):Prop :=
 e=.returned (.tuple #[.int .i64 s,.bool true])∧∃cm' tb',HoldRel w o t u b a c x cm win tb al k s w' (pagesT k).toNat cm' tb'
theorem HoldRel.step{w:World}{o:Nat→Tag}{t u:Tag}{b a c:Nat}{x:HpX}{B:List UInt8}{cm:CmS}{win:List Int}{tb:TbS}{al:AlS}{k s:Nat}(h:HoldPre B cm win tb al k s)(htu:Apart t u){w1:World}{j:Nat}{cm':CmS}{tb':TbS}(r:HoldRel w o t u b a c x cm win tb al k s w1 j cm' tb')(hj:j<(pagesT k).toNat) :
  ∃p:Nat,p<4096∧cm'.tkV win=p∧cm'.tkE win=0∧tb'.mapE (vOf k s+j) p=0 ∧
   ∀w2 w3:World,CmAt w2 o u c (cm'.tk win)→Fr (Und u) w1.drew o w2 o→∀n,TbAt w3 o (t++[1]) x.bt (tb'.map (vOf k s+j) p)→Fr (Und (t++[1])) (w2.drewN n) o w3 o→HoldRel w o t u b a c x cm win tb al k s w3 (j+1) (cm'.tk win) (tb'.map (vOf k s+j) p):=by
 obtain⟨h1,h2,h3⟩:=h.slot;have hp:=slot_in h.k24 h3;have hv:=(pos_local h.k24 h3).2.2;have hroom:=h.room;obtain⟨p,p1,p2,p3,p4,p5⟩:=r.hld.step (v:=vOf k s+j) (by omega) (by omega) (h.fresh ⟨by omega,by omega⟩) (by unfold rng;omega);refine⟨p,by have:=h.hp.cmo.2.2.2.1;omega,p2,p3,p4,fun w2 w3 q1 f1 n q2 f2=>?_⟩;have g1:HpG w2 o t b a c x win tb' ⟨up1 al.sl k ((al.sl k).flip s),al.ln,al.sm⟩:=r.hp.drew.fr f1 htu.swap.off;have fn:∀n,Fr (fun _=>False) w2 o (w2.drewN n) o:=fun n=>by
  induction n with
  |zero=>exact Fr.refl _ _ _
  |succ n ih=>exact ih.drew'
 have g2:=g1.fr (fn n) off_no;have hc2:=(q1.fr (fn n) off_no).fr f2 (htu.sub [1]).off;refine⟨g2.upTb htu.t9 f2 q2,hc2,p5.cong (fun v=>by unfold rng;omega),((r.fr.trans (Fr.drew.trans (f1.mono fun v q=>.inr q))).trans ((fn n).mono fun v q=>q.elim)).trans (f2.mono fun v q=>.inl q.up)⟩
theorem cm_drew{w:World}{o:Nat→Tag}{t:Tag}{b:Nat}{s:CmS}(h:CmAt w o t b s):CmAt w.drew o t b s:=h.fr (S:=fun _=>False) Fr.drew off_no
theorem hpHold(b a c k s:Nat)(w:World){o:Nat→Tag}{t u:Tag}{x:HpX}{B:List UInt8}{cm:CmS}{win:List Int}{tb:TbS}{al:AlS}(h:HpG w o t b a c x win tb al)(hcm:CmAt w o u c cm)(hpre:HoldPre B cm win tb al k s)(htu:Apart t u) :
  Calls Tryz.prog 195 #[.pointer (some ⟨b,0,none⟩),.int .i64 k] w (HoldPost w o t u b a c x cm win tb al k s):=by
 obtain⟨s1,s2,s3⟩:=hpre.slot;have hk:=hpre.k24;have hkf:=kind_facts (c:=(k:Int)) (by omega) (by omega);have hfre:=hpre.hp.ton.fre;have hroom:=hpre.room;have hwl:=win_len hpre.hp.ton hpre.hp.cmo;obtain⟨n,hn⟩:∃n:Nat,pagesT k=n:=⟨(pagesT k).toNat,by omega⟩
 have hcs0:w.cell? ⟨b,4+k,none⟩=some (.pointer (some ⟨x.bs k,0,none⟩)):=h.cs hk;have hlo:=HD (shLowest (x.bs k) w (h.sl k hk));rw [hpre.low] at hlo;have hpa:=HD (fun w=>pages_any k w);rw [hn] at hpa;have c1:w.drew.cell? ⟨b,1,none⟩=some (.pointer (some ⟨c,0,none⟩)):=h.c1;have c2:w.drew.cell? ⟨b,2,none⟩=some x.wv:=h.c2;have hfree:=HD (cmFree c x.wv win w.drew (cm_drew hcm) h.win.w' (by omega));have hfd:decide (cm.fre win<n)=false:=decide_eq_false (by rw [hn] at hroom;omega);have hsd:decide ((s:Int)<0)=false:=decide_eq_false (by omega);have hkeep:=HD (show ∀w2,Below w.drew.heap.size w.drew w2→w2.cell? ⟨b,1,none⟩=some (.pointer (some ⟨c,0,none⟩))∧w2.cell? ⟨b,2,none⟩=some x.wv from fun w2 hb=>⟨(h.drew.fr (Fr.below (S:=fun _=>False) hb) off_no).c1,(h.drew.fr (Fr.below (S:=fun _=>False) hb) off_no).c2⟩);have hloc:=HD (fun w=>hpLocal k s w hk s3);have hidx:0≤(k:Int)∧(k:Int)<24:=by omega
 have hpre':=HD hpre;have hta:=HD (show ∀w2,Below w.drew.heap.size w.drew w2→w2.cell? ⟨b,4+k,none⟩=some (.pointer (some ⟨x.bs k,0,none⟩)) ∧
   Calls Tryz.prog 185 #[.pointer (some ⟨x.bs k,0,none⟩),.int .i64 s] w2 fun e w3=>e=.returned (.int .i64 0)∧HoldRel w o t u b a c x cm win tb al k s w3 0 cm tb from fun w2 hb=>by
  have h2:=h.drew.fr (Fr.below (S:=fun _=>False) hb) off_no;refine⟨h2.cs hk,(shTakeAt (x.bs k) s w2 (h2.sl k hk) (not_nine htu.t9 _)).mono ?_⟩;rintro e w3 ⟨rfl,r1,r2⟩;have e0:(al.sl k).takeE s=0:=by unfold ShS.takeE;rw [if_pos ⟨by omega,by omega⟩,Int.toNat_natCast,s2];rfl
  have e1:(al.sl k).take s=(al.sl k).flip s:=by unfold ShS.take;rw [Int.toNat_natCast,if_pos ⟨⟨by omega,by omega⟩,s2⟩]
  rw [e1] at r1;refine⟨by rw [e0],h2.upSl htu.t9 hk r2 r1,((cm_drew hcm).fr (Fr.below (S:=fun _=>False) hb) off_no).fr r2 (htu.sub [2,k]).off,(Hld.zero hpre.hp.ton hpre.hp.cmo).cong (fun v=>⟨fun q=>q.elim,fun q=>by unfold rng at q;omega⟩),((Fr.drew.trans (Fr.below hb)).trans (r2.mono fun v q=>.inl q.up))⟩)
 clear h hcm hpre hfre hroom hkf s1 s2 s3;go_enter Tryz.func195,Tryz.ntmps195
 go_wp2_with fail;refine SM hlo.out ?_;go_wp2_with fail;refine SM (hpa.out _) ?_;go_wp2_with fail;refine wp_region_noPanic ?_;refine wp_region_held_drew (S:=(fun W=>W.cell? ⟨b,1,none⟩=some (.pointer (some ⟨c,0,none⟩))∧W.cell? ⟨b,2,none⟩=some x.wv)) (by kernel_rfl) ?_ (fun hHeld=>?_)
 ·(try dsimp only)
  (first|exact⟨c1,c2⟩|exact hcs)
 refine tkH 0 (h:=?_);refine tkH 1 (h:=?_);refine tkH 2 (h:=?_);refine tkH 3 (h:=?_);refine tkH 4 (h:=?_);refine tkH 5 (h:=?_);refine tkH 6 (h:=?_);refine tkH 7 (h:=?_);refine tkH 8 (h:=?_);refine tkH 9 (h:=?_);refine tkH 10 (h:=?_);refine tkH 12 (h:=?_);refine onH 11 (h:=fun K hK=>?_);go_simp;refine hfree.out.mono ?_;rintro e w2 ⟨rfl,hb2⟩;have hcs:=hkeep.out w2 hb2;go_wp2_with fail;refine hK.out _ _ ?_ (fun hHeld=>?_)
 ·(try dsimp only)
  (first|exact⟨c1,c2⟩|exact hcs)
 clear hK;refine nmH (h:=?_);refine tkH 13 (h:=?_);refine tkH 14 (h:=?_);refine wpAnyH_done (by kernel_rfl) ?_ _;refine NoPanic.normal ?_;obtain⟨g1,g2⟩:=hta.out w2 hb2;replace g2:=HD g2;go_wp2_with fail;refine g2.out.mono ?_;rintro e w3 ⟨rfl,r⟩;have hR0:=HD r;clear r g2 g1 hta hkeep hfree c1 c2 hcs0 hcs hlo hpa hb2;go_wp2_with fail;go_loopg [44] n (fun gh i wx=>∃(j:Nat) (cm':CmS) (tb':TbS),j≤n∧gh=n-j∧i=.int .i64 j∧Hid (HoldRel w o t u b a c x cm win tb al k s wx j cm' tb'))
 case atStart=>exact⟨0,_,_,Nat.zero_le _,rfl,rfl,hR0⟩
 case round =>
  clear hR0;obtain⟨j,cm',tb',hj,rfl,rfl,hR⟩:=hrel;by_cases hlt:j<n
  ·have d0:decide ((j:Int)<(n:Int))=true:=decide_eq_true (by omega)
   obtain⟨p,p1,p2,p3,p4,p5⟩:=hR.out.step hpre'.out htu (by rw [hn];exact hlt);have c1:wr.drew.cell? ⟨b,1,none⟩=some (.pointer (some ⟨c,0,none⟩)):=hR.out.hp.c1;have c2:wr.drew.cell? ⟨b,2,none⟩=some x.wv:=hR.out.hp.c2;have htk:=HD (cmTake c x.wv win wr.drew (cm_drew hR.out.cma) htu.u9 hR.out.hp.win.w' (by omega));rw [p2,p3] at htk;have hmid:=HD (show ∀w2,CmAt w2 o u c (cm'.tk win)→Fr (Und u) wr.drew o w2 o→(w2.cell? ⟨b,1,none⟩=some (.pointer (some ⟨c,0,none⟩))∧w2.cell? ⟨b,2,none⟩=some x.wv) ∧
     w2.drew.cell? ⟨b,3,none⟩=some (.pointer (some ⟨x.bt,0,none⟩))∧Calls Tryz.prog 228 #[.pointer (some ⟨x.bt,0,none⟩),.int .i64 (vOf k s+j),.int .i64 p] w2.drew fun e w3=>e=.returned (.int .i64 0)∧w3.cell? ⟨b,3,none⟩=some (.pointer (some ⟨x.bt,0,none⟩)) ∧
      HoldRel w o t u b a c x cm win tb al k s w3 (j+1) (cm'.tk win) (tb'.map (vOf k s+j) p) from fun w2 q1 f1=>by
    have g1:=hR.out.hp.drew.fr f1 htu.swap.off;refine⟨⟨g1.c1,g1.c2⟩,g1.c3,(tbMap x.bt (vOf k s+j) p w2.drew (g1.drew.ta)).mono ?_⟩;rintro e w3 ⟨rfl,r1,r2⟩;have hs:=p5 w2 w3 q1 f1 1 r1 r2;exact⟨by rw [p4],hs.hp.c3,hs⟩)
   have hvb:=(pos_local hk (hpre'.out.slot.2.2)).2.2;have u1:=IntWalk.i64_in (vOf k s+j) (by omega);clear hR p5 p4 p3 p2;go_wp2_with fail;refine wp_region_noPanic ?_;refine wp_region_held_drew (S:=(fun W=>W.cell? ⟨b,1,none⟩=some (.pointer (some ⟨c,0,none⟩))∧W.cell? ⟨b,2,none⟩=some x.wv)) (by kernel_rfl) ?_ (fun hHeld=>?_)
   ·(try dsimp only)
    (first|exact⟨c1,c2⟩|exact hcs)
   refine tkH 0 (h:=?_);refine tkH 1 (h:=?_);refine tkH 2 (h:=?_);refine tkH 3 (h:=?_);refine tkH 4 (h:=?_);refine tkH 5 (h:=?_);refine tkH 6 (h:=?_);refine tkH 7 (h:=?_);refine onH 8 (h:=fun K hK=>?_);go_simp;refine htk.out.mono ?_;rintro e w2 ⟨rfl,r1,r2⟩;have hnx:=HD (hmid.out w2 r1 r2);have hcs:=hnx.out.1;clear r1 r2;go_wp2_with fail;refine hK.out _ _ ?_ (fun hHeld=>?_)
   ·(try dsimp only)
    (first|exact⟨c1,c2⟩|exact hcs)
   clear hK;refine nmH (h:=?_);refine tkH 9 (h:=?_);refine tkH 10 (h:=?_);refine tkH 11 (h:=?_);refine tkH 12 (h:=?_);refine tkH 13 (h:=?_);refine wpAnyH_done (by kernel_rfl) ?_ _;refine NoPanic.normal ?_;obtain⟨c3,hmp⟩:=hnx.out.2;replace hmp:=HD hmp;clear hnx hcs c1 c2 htk hmid;go_wp2_with fail;refine wp_region_noPanic ?_;refine wp_region_held_drew (S:=(fun W=>W.cell? ⟨b,3,none⟩=some (.pointer (some ⟨x.bt,0,none⟩)))) (by kernel_rfl) ?_ (fun hHeld=>?_)
   ·(try dsimp only)
    (first|exact c3|exact hcs)
   refine tkH 0 (h:=?_);refine tkH 1 (h:=?_);refine tkH 2 (h:=?_);refine tkH 3 (h:=?_);refine tkH 4 (h:=?_);refine tkH 5 (h:=?_);refine tkH 7 (h:=?_);refine tkH 9 (h:=?_);refine onH 6 (h:=fun K hK=>?_);go_simp;refine(hloc.out _).mono ?_;rintro e w4 ⟨rfl,rfl⟩;go_wp2_with fail;refine hK.out _ _ ?_ (fun hHeld=>?_)
   ·(try dsimp only)
    (first|exact c3|exact hcs)
   clear hK;refine nmH (h:=?_);refine tkH 8 (h:=?_);refine onH 10 (h:=fun K hK=>?_);go_simp;refine hmp.out.mono ?_;rintro e w5 ⟨rfl,r1,r2⟩;have hcs:=r1;have hRn:=HD r2;clear r1 r2;go_wp2_with fail;refine hK.out _ _ ?_ (fun hHeld=>?_)
   ·(try dsimp only)
    (first|exact c3|exact hcs)
   clear hK;refine nmH (h:=?_);refine wpAnyH_done (by kernel_rfl) ?_ _;refine NoPanic.normal ?_;go_wp2_with fail;go_roundg (n-(j+1))
   case measure=>omega
   case rel=>exact⟨j+1,_,_,by omega,rfl,by go_num,hRn⟩
  ·have d0:decide ((j:Int)<(n:Int))=false:=decide_eq_false (by omega)
   obtain rfl:j=n:=by omega
   clear hpre';go_wp2_with fail;go_ret2
   refine⟨rfl,cm',tb',?_⟩;rw [hn];exact hR.out
end
end Go.Proofs.YtfliaggjkianpaaGreatDoor
