import Derived.Test.YtfliaggjkianpaaGreatDoorK00
import Derived.Test.YtfliaggjkianpaaGreatDoorK19
import Derived.Test.YtfliaggjkianpaaGreatDoorK03
set_option linter.unusedVariables false
set_option linter.unusedSimpArgs false
set_option maxRecDepth 100000
namespace Go.Proofs.YtfliaggjkianpaaGreatDoor
section
open Go.RowKit
def AlS.fre(a:AlS)(c s k:Nat):AlS:=if c<8 then a.giveP c (vOf c s) k else ⟨up1 a.sl c ((a.sl c).flip s),a.ln,a.sm⟩
structure FreRes(B:List UInt8)(cm:CmS)(win:List Int)(tb:TbS)(al:AlS)(c s k:Nat)(B':List UInt8)(cm':CmS)(tb':TbS)(al':AlS):Prop where
 hp:HpOk B' cm' win tb' al'
 keep:Keep win B cm B' cm'
 old:∀c1 s1 k1,Had al c1 s1 k1→¬(c1=c∧s1=s∧k1=k)→Had al' c1 s1 k1∧∀i,0≤i→i<unitT c1→lb tb' B' (posT c1 s1 k1+i)=lb tb B (posT c1 s1 k1+i)
 cost:al'.cost+(unitT c).toNat=al.cost
 used:al.Used→al'.Used
section
variable{B:List UInt8}{cm:CmS}{win:List Int}{tb:TbS}{al:AlS}
theorem had_n{c s k:Nat}(h:AlOk al)(hh:Had al c s k):s<(al.sl c).n:=by
 obtain⟨h1,h2,_⟩:=hh.there;have:=h.n c h1;omega
theorem rel_lb(h:HpOk B cm win tb al){c s:Nat}{B':List UInt8}{cm':CmS}{tb':TbS}(R:Rel B cm win tb B' cm' tb' (fun v=>vOf c s≤v∧v<vOf c s+pagesT c) (pagesT c).toNat){c1 s1 k1:Nat}(hh:Had al c1 s1 k1)(hc:c<24)(hs:(s:Int)<slotsT c)(hne:¬(c1=c∧s1=s)){i:Int}(i0:0≤i)(i1:i<unitT c1) :
  lb tb' B' (posT c1 s1 k1+i)=lb tb B (posT c1 s1 k1+i):=by
 have hbp:=blk_page hh.1 i0 i1;obtain⟨r,hr⟩:=had_mapped h hh hbp;obtain⟨x1,x2,x3⟩:=hh.there;have hD:¬(vOf c s≤(posT c1 s1 k1+i)/512∧(posT c1 s1 k1+i)/512<vOf c s+pagesT c):=fun q=>by
  have e1:=(in_slot hc hs _).1 q;have e2:=(in_slot x1 x2 _).1 hbp;exact hne ⟨by omega,by omega⟩
 have hr':=(R.stay _ hD).trans hr;unfold lb;rw [pgOf_some hr,pgOf_some hr'];exact R.bys _ r hD hr _ (by omega)
theorem fre_run(h:HpOk B cm win tb al){c s:Nat}(h8:8≤c)(hh:Had al c s 0){B':List UInt8}{cm':CmS}{tb':TbS}(R:Rel B cm win tb B' cm' tb' (fun v=>vOf c s≤v∧v<vOf c s+pagesT c) (pagesT c).toNat) :
  FreRes B cm win tb al c s 0 B' cm' tb' (al.fre c s 0):=by
 obtain⟨h1,h2,h3⟩:=hh.there;have hn:=had_n h.al hh;have e:al.fre c s 0=⟨up1 al.sl c ((al.sl c).flip s),al.ln,al.sm⟩:=if_neg (by omega);rw [e];refine⟨h.released h1 hn hh.2.1 R rfl (h.al.run h8 h1 s) (fun v p hp=>hp),R.keep,fun c1 s1 k1 hh1 hne=>?_,?_,fun hu=>hu⟩
 ·have hne':¬(c1=c∧s1=s):=by
   rintro ⟨rfl,rfl⟩;have:=there_iff.1 hh1.1;have hr:roomT c1=1:=room_one (by rw [per_out (by omega)];omega);exact hne ⟨rfl,rfl,by omega⟩
  refine⟨⟨hh1.1,?_,hh1.2.2⟩,fun i i0 i1=>rel_lb h R hh1 h1 h2 hne' i0 i1⟩;show (up1 al.sl c _ c1).f s1=false;by_cases e:c1=c
  ·subst e
   rw [up1_same,flip_f,if_neg (fun q=>hne' ⟨rfl,q⟩)];exact hh1.2.1
  ·rw [up1_other e];exact hh1.2.1
 ·show smcost al.sm+runsum (up1 al.sl c _)+_=smcost al.sm+runsum al.sl
  have:=runsum_give h8 h1 hn hh.2.1;omega
theorem del_ins{α:Type}{M:List (Int×α)}(k:Int)(p:α)(hr:Rise M):mDel k (mIns k p M)=mDel k M:=by
 induction M with
 |nil=>simp [mIns,mDel]
 |cons q M ih =>
  obtain⟨a,u⟩:=q;have hr':=List.pairwise_cons.1 hr;rw [mIns];by_cases h1:k<a
  ·rw [if_pos h1,mDel,if_pos rfl,mDel,if_neg (by omega)]
   have hno:mGet M k=none:=by
    cases e:mGet M k with
    |none=>rfl
    |some y=>have:=hr'.1 _ (mGet_mem e);simp only at this;omega
   rw [mDel_none hno]
  ·rw [if_neg h1]
   by_cases h2:a=k
   ·rw [if_pos h2,mDel,if_pos rfl,mDel,if_pos h2]
   ·rw [if_neg h2,mDel,if_neg h2,mDel,if_neg h2,ih hr'.2]
theorem fre_back(h:HpOk B cm win tb al){c s k:Nat}(hc:c<8)(hh:Had al c s k){p:PgS}{q:Int}(hg:mGet al.sm (vOf c s)=some p)(hq:mGet tb.pg (vOf c s)=some q) :
  ∃B',B'=(p.on (q.toNat*512:Nat)).frB k B∧HpOk B' cm win tb (al.backP c (vOf c s) k)∧Keep win B cm B' cm ∧
   (∀c1 s1 k1,Had al c1 s1 k1→¬(c1=c∧s1=s∧k1=k)→Had (al.backP c (vOf c s) k) c1 s1 k1∧∀i,0≤i→i<unitT c1→lb tb B' (posT c1 s1 k1+i)=lb tb B (posT c1 s1 k1+i)) ∧
   (al.backP c (vOf c s) k).cost+(unitT c).toNat=al.cost∧(al.Used→∀u p',u≠vOf c s→mGet (al.backP c (vOf c s) k).sm u=some p'→p'.had.cnt<p'.had.n):=by
 obtain⟨h1,h2,h3⟩:=hh.there;obtain⟨p1,e1,e2,e3⟩:=hh.2.2 hc;rw [hg] at e1;obtain rfl:=Option.some.inj e1;obtain⟨g1,g2,g3,g4,g5⟩:=h.al.pg _ p hg;have hkd:kdV (vOf c s)=c:=by unfold kdV vOf;rw [(pages_lt8 hc).1,(pages_lt8 hc).2] at *;omega
 obtain⟨t1,t2,t3,t4⟩:=h.backP hc hg hkd hq e3 e2;have hu:p.unit=unitT c:=by unfold PgS.unit;rw [g3,hkd]
 refine⟨_,rfl,t1,t2,fun c1 s1 k1 hh1 hne=>?_,by rw [←hu];exact t4,fun hus u p' hu' hp'=>?_⟩
 ·constructor
  ·refine⟨hh1.1,hh1.2.1,fun h8=>?_⟩
   obtain⟨p2,f1,f2,f3⟩:=hh1.2.2 h8;by_cases e:vOf c1 s1=vOf c s
   ·rw [e,hg] at f1
    obtain rfl:=Option.some.inj f1;have z1:=vOf_small (c:=c1) (s:=s1) h8;have z2:=vOf_small (c:=c) (s:=s) hc;have hcs:c1=c∧s1=s:=by
     have y1:=hh1.there.2.1;have y2:=h2;rw [(pages_lt8 h8).2] at y1;rw [(pages_lt8 hc).2] at y2;omega
    refine⟨p.fr k,?_,?_,f3⟩
    ·show mGet (mIns _ _ al.sm) _=_
     rw [e,mGet_ins_same h.al.rise,pgAt_some hg]
    ·show (p.had.flip k).f k1=false
     rw [flip_f,if_neg (fun q=>hne ⟨hcs.1,hcs.2,q⟩)];exact f2
   ·exact⟨p2,by show mGet (mIns _ _ al.sm) _=_;rw [mGet_ins_other e];exact f1,f2,f3⟩
  ·intro i i0 i1
   have hbp:=blk_page hh1.1 i0 i1;obtain⟨r,hr⟩:=had_mapped h hh1 hbp;have hbs:=fun h8=>blk_small (c:=c1) h8 hh1.1 i0 i1
   unfold lb;rw [pgOf_some hr];generalize (posT c1 s1 k1+i)/512=vx at *;have hoff:0≤(posT c1 s1 k1+i)%512∧(posT c1 s1 k1+i)%512<512:=by omega
   generalize (posT c1 s1 k1+i)%512=off at *;by_cases e:vx=vOf c s
   ·have hrq:r=q:=by rw [e,hq] at hr;exact(Option.some.inj hr).symm
    subst hrq;obtain⟨x1,x2,x3⟩:=hh1.there;have hi:=(in_slot x1 x2 vx).1 hbp;have hc1:c1=c:=by rw [e] at hi;omega
    subst hc1;obtain⟨y1,y2,y3⟩:=hbs hc;have hs1:s1=s:=by
     have z1:=vOf_small (c:=c1) (s:=s1) hc;have z2:=vOf_small (c:=c1) (s:=s) hc;omega
    subst hs1;rw [y2];refine t3.same _ (fun w=>?_);rw [hu] at w;have:=mul_sep (u:=(unitT c1).toNat) (i:=i.toNat) (j:=k1*(unitT c1).toNat+i.toNat-k*(unitT c1).toNat) (fun q=>hne ⟨rfl,rfl,q⟩) (by omega) (by omega);omega
   ·have hs:=pg_sep h hr hq e
    exact t3.page hs (by omega)
 ·replace hp':mGet (mIns _ _ al.sm) u=some p':=hp'
  rw [mGet_ins_other hu'] at hp';exact hus u p' hp'
theorem fre_stay(h:HpOk B cm win tb al){c s k:Nat}(hc:c<8)(hh:Had al c s k){p:PgS}{q:Int}(hg:mGet al.sm (vOf c s)=some p)(hq:mGet tb.pg (vOf c s)=some q)(hne:¬(p.fr k).had.tkn=0) :
  al.fre c s k=al.backP c (vOf c s) k∧FreRes B cm win tb al c s k ((p.on (q.toNat*512:Nat)).frB k B) cm tb (al.fre c s k):=by
 have e:al.fre c s k=al.backP c (vOf c s) k:=by
  unfold AlS.fre AlS.giveP;rw [if_pos hc,pgAt_some hg,if_neg hne];unfold AlS.backP;rw [pgAt_some hg]
 obtain⟨_,rfl,t1,t2,t3,t4,t5⟩:=fre_back h hc hh hg hq;refine⟨e,by rw [e];exact t1,t2,by rw [e];exact t3,by rw [e];exact t4,fun hu u p' hp'=>?_⟩;rw [e] at hp';by_cases eu:u=vOf c s
 ·replace hp':mGet (mIns _ _ al.sm) u=some p':=hp'
  rw [eu,mGet_ins_same h.al.rise,pgAt_some hg] at hp';obtain rfl:=Option.some.inj hp';unfold ShS.tkn at hne;have:=cnt_le (p.fr k).had;omega
 ·exact t5 hu u p' eu hp'
theorem fre_shut(h:HpOk B cm win tb al){c s k:Nat}(hc:c<8)(hh:Had al c s k){p:PgS}{q:Int}(hg:mGet al.sm (vOf c s)=some p)(hq:mGet tb.pg (vOf c s)=some q)(hz:(p.fr k).had.tkn=0){B':List UInt8}{cm':CmS}{tb':TbS}
  (R:Rel ((p.on (q.toNat*512:Nat)).frB k B) cm win tb B' cm' tb' (fun v=>vOf c s≤v∧v<vOf c s+pagesT c) (pagesT c).toNat) :
  al.fre c s k=⟨up1 al.sl c ((al.sl c).flip s),up1 al.ln c ((al.backL c (vOf c s)).erase (vOf c s)),mDel (vOf c s) al.sm⟩∧FreRes B cm win tb al c s k B' cm' tb' (al.fre c s k):=by
 obtain⟨h1,h2,h3⟩:=hh.there;obtain⟨p1,e1,e2,e3⟩:=hh.2.2 hc;rw [hg] at e1;obtain rfl:=Option.some.inj e1;have hkd:kdV (vOf c s)=c:=by unfold kdV vOf;rw [(pages_lt8 hc).1,(pages_lt8 hc).2] at *;omega
 have hvm:(vOf c s%256).toNat=s:=by rw [vOf_small hc];rw [(pages_lt8 hc).2] at h2;omega
 have e:al.fre c s k=⟨up1 al.sl c ((al.sl c).flip s),up1 al.ln c ((al.backL c (vOf c s)).erase (vOf c s)),mDel (vOf c s) al.sm⟩:=by
  unfold AlS.fre AlS.giveP;rw [if_pos hc,pgAt_some hg,if_pos hz,hvm]
 have hok:=h.al.giveP hc hg hkd e3 e2;have ef:al.giveP c (vOf c s) k=al.fre c s k:=by unfold AlS.fre;rw [if_pos hc]
 rw [ef] at hok;obtain⟨g1,g2,g3,g4,g5⟩:=h.al.pg _ p hg;have hu:p.unit=unitT c:=by unfold PgS.unit;rw [g3,hkd]
 obtain⟨_,rfl,t1,t2,t3,t4,t5⟩:=fre_back h hc hh hg hq;have hn:=had_n h.al hh;refine⟨e,t1.released h1 hn hh.2.1 R (by rw [e];rfl) hok.1 (fun v p' hp'=>?_),t2.trans R.keep,fun c1 s1 k1 hh1 hne=>?_,by rw [←hu];exact hok.2,fun hus u p' hp'=>?_⟩
 ·rw [e] at hp'
  replace hp':mGet (mDel _ al.sm) v=some p':=hp';show mGet (mIns _ _ al.sm) v=some p';by_cases ev:v=vOf c s
  ·rw [ev,mGet_del_same h.al.rise] at hp';cases hp'
  ·rw [mGet_del_other ev] at hp'
   rw [mGet_ins_other ev];exact hp'
 ·obtain⟨a1,a2⟩:=t3 c1 s1 k1 hh1 hne
  have hcs:¬(c1=c∧s1=s):=by
   rintro ⟨rfl,rfl⟩;obtain⟨p2,f1,f2,f3⟩:=a1.2.2 hc;replace f1:mGet (mIns _ _ al.sm) _=some p2:=f1;rw [mGet_ins_same h.al.rise,pgAt_some hg] at f1;obtain rfl:=Option.some.inj f1;have hcn:(p.fr k).had.cnt=(p.fr k).had.n:=by
    have:=cnt_le (p.fr k).had;unfold ShS.tkn at hz;omega
   unfold ShS.cnt at hcn;have hall:=List.countP_eq_length.1 (hcn.trans (by simp));have:=hall k1 (List.mem_range.2 f3);rw [f2] at this;cases this
  refine⟨⟨hh1.1,?_,fun h8=>?_⟩,fun i i0 i1=>?_⟩
  ·rw [e]
   show (up1 al.sl c _ c1).f s1=false;by_cases ec:c1=c
   ·subst ec
    rw [up1_same,flip_f,if_neg (fun q=>hcs ⟨rfl,q⟩)];exact hh1.2.1
   ·rw [up1_other ec];exact hh1.2.1
  ·obtain⟨p2,f1,f2,f3⟩:=hh1.2.2 h8
   refine⟨p2,?_,f2,f3⟩;rw [e];show mGet (mDel _ al.sm) _=_;rw [mGet_del_other]
   ·exact f1
   ·intro ev
    have z1:=vOf_small (c:=c1) (s:=s1) h8;have z2:=vOf_small (c:=c) (s:=s) hc;have y1:=hh1.there.2.1;rw [(pages_lt8 h8).2] at y1;rw [(pages_lt8 hc).2] at h2;exact hcs (by omega)
  ·rw [←a2 i i0 i1]
   exact rel_lb t1 R a1 h1 h2 hcs i0 i1
 ·rw [e] at hp'
  replace hp':mGet (mDel _ al.sm) u=some p':=hp';by_cases ev:u=vOf c s
  ·rw [ev,mGet_del_same h.al.rise] at hp';cases hp'
  ·rw [mGet_del_other ev] at hp';exact hus u p' hp'
end
end
section
open Go.RowKit
def FrePost(w:World)(o:Nat→Tag)(t u z:Tag)(b a c:Nat)(x:HpX)(B:List UInt8)(m:Nat)(cm:CmS)(win:List Int)(tb:TbS)(al:AlS)(k s j:Nat)(w':World):Prop :=
 ∃o' B' cm' tb',HpW w' o' t u z b a c x B' m cm' win tb' (al.fre k s j)∧x.is tb' (al.fre k s j)∧FreRes B cm win tb al k s j B' cm' tb' (al.fre k s j)∧Fr (S3 t u z) w o w' o'
section
variable{o:Nat→Tag}{t u z:Tag}{x:HpX}{B:List UInt8}{m:Nat}{cm:CmS}{win:List Int}{tb:TbS}{al:AlS}
theorem relPre_of{B1:List UInt8}{a1:AlS}{k s:Nat}(h1:HpOk B1 cm win tb a1)(hsl:al.sl=a1.sl)(hk:k<24)(hn:s<(al.sl k).n)(hf:(al.sl k).f s=false):RelPre B1 cm win tb al k s:=by
 have hT:((al.sl k).n:Int)=slotsT k:=by rw [hsl];exact h1.al.n k hk
 refine⟨h1.ton,h1.cmo,h1.z,h1.len,hk,hT,hn,hf,fun v hv=>?_⟩;have hs:(s:Int)<slotsT k:=by omega
 have hp:=slot_in hk hs;have hl:=(pos_local hk hs).2.2;unfold rng at hv;have hi:=(in_slot hk hs v).1 ⟨hv.1,by omega⟩;refine(h1.dom v).2 ⟨⟨hi.1,by omega⟩,?_,?_⟩
 ·rw [hi.2.1,hi.2.2];exact hs
 ·rw [hi.2.1,hi.2.2,Int.toNat_natCast,Int.toNat_natCast,←hsl];exact hf
def FreC(w:World)(o:Nat→Tag)(t u z:Tag)(b a c:Nat)(x:HpX)(B:List UInt8)(m:Nat)(cm:CmS)(win:List Int)(tb:TbS)(al:AlS)(k s j:Nat)(us:Int)(w2:World):Prop :=
 Calls Tryz.prog 205 #[.pointer (some ⟨x.bp (vOf k s),0,none⟩),.int .i64 j] w2 fun e w3=>e=.returned (.int .i64 0) ∧
  Calls Tryz.prog 206 #[.pointer (some ⟨x.bp (vOf k s),0,none⟩)] w3 (fun e w4=>e=.returned (.int .i64 us)∧w4=w3.drew) ∧
  (us≠0→FrePost w o t u z b a c x B m cm win tb al k s j w3.drew) ∧
  (us=0→w3.drew.cell? ⟨b,28+k,none⟩=some (.pointer (some ⟨x.bl k,0,none⟩)) ∧
   Calls Tryz.prog 200 #[.pointer (some ⟨x.bl k,0,none⟩),.int .i64 (vOf k s)] w3.drew (fun e w5=>e=.returned (.int .i64 0)∧w5.cell? ⟨b,36,none⟩=some (.map (some x.gm)) ∧
    ∃w6,(∀ty,(Builtin.delete_ #[199,3] ty #[.map (some x.gm),.int .i64 (vOf k s)]).run Tryz.prog w5=.ok (.tuple #[]) w6) ∧
     Calls Tryz.prog 204 #[.pointer (some ⟨b,0,none⟩),.int .i64 k,.int .i64 s] w6 (fun e w7=>e=.returned (.tuple #[])∧FrePost w o t u z b a c x B m cm win tb al k s j w7)))
theorem freC(b a c k s j:Nat)(w:World)(h0:HpOk B cm win tb al)(hx:x.is tb al)(ap:Ap3 t u z)(hm:m≤800000)(hk:k<8)(hh:Had al k s j){p:PgS}(hg:mGet al.sm (vOf k s)=some p){w2:World}{o2:Nat→Tag}
  (h2:HpW w2 o2 t u z b a c x B m cm win tb ⟨al.sl,up1 al.ln k (al.backL k (vOf k s)),al.sm⟩) (hS:Fr (S3 t u z) w o w2 o2):FreC w o t u z b a c x B (m+20) cm win tb al k s j (p.fr j).had.tkn w2:=by
 obtain⟨t1,t2,t3⟩:=hh.there;obtain⟨p1,e1,e2,e3⟩:=hh.2.2 hk;rw [hg] at e1;obtain rfl:=Option.some.inj e1;obtain⟨q,hq⟩:=Option.isSome_iff_exists.1 ((h0.dom _).2 (sm_mapped h0.al hg));obtain⟨g1,g2,g3,g4,g5⟩:=h0.al.pg _ p hg;obtain⟨r1,r2,r3,r4⟩:=h0.ton.rng _ q hq;have hlen:=h0.len;have hpf:x.pf (vOf k s)=q.toNat:=by rw [hx _ p hg,pgOf_some hq]
 have hpgok:PgOk B (p.on (x.pf (vOf k s)*512:Nat)):=by
  rw [hpf];exact g4.pgOk (by omega) (h0.c _ p q hg hq)
 have hkd:kdV (vOf k s)=k:=by unfold kdV vOf;rw [(pages_lt8 hk).1,(pages_lt8 hk).2] at *;omega
 have heq:=pgAt_some hg;have hback:=h0.al.backP hk hg hkd e3 e2;obtain⟨_,rfl,hb1,_⟩:=fre_back h0 hk hh hg hq;have hfree:=pgFree (x.bp (vOf k s)) a j w2 (h2.hp.pg _ p hg) h2.ar (by omega) hpgok (ap.tz.sub [5,(vOf k s).toNat]) e3 e2;have hmono:∀{w' o' B' cm' tb' al' m1},HpW w' o' t u z b a c x B' m1 cm' win tb' al'→m1≤m+20→HpW w' o' t u z b a c x B' (m+20) cm' win tb' al':=fun h h'=>h.mono h'
 have hokb:AlOk (⟨al.sl,up1 al.ln k (al.backL k (vOf k s)),al.sm⟩:AlS)∨True:=.inr trivial;unfold FreC;refine hfree.mono ?_;rintro e w3 ⟨rfl,o3,q1,q2,f3⟩;have hpg:PgAt w3 o3 (t++[5,(vOf k s).toNat]) (x.bp (vOf k s)) a ((p.fr j).on (x.pf (vOf k s)*512:Nat)):=q1;have hw3:HpW w3 o3 t u z b a c x ((p.on (x.pf (vOf k s)*512:Nat)).frB j B) (m+2) cm win tb ⟨al.sl,up1 al.ln k (al.backL k (vOf k s)),mIns (vOf k s) (p.fr j) al.sm⟩:=by
  have h9:=ap.tu.t9;have of:∀{n:Nat} {r:Tag},n≠5→Off (fun y=>Und (t++[5,(vOf k s).toNat]) y∨Und z y) (t++n :: r):=fun hn=>(off_one (Ne.symm hn) h9).or (ap.tz.off_sub _)
  refine⟨⟨h2.hp.blk.fr f3 (fun e=>e.elim (not_und t 5 [(vOf k s).toNat]) (ap.tz.ne t (Und.self t))),h2.hp.win.fr f3 (of (by decide)).self,h2.hp.ta.fr f3 (of (by decide)),fun k hk=>(h2.hp.sl k hk).fr f3 (of (by decide)),fun k hk=>?_,?_,fun y p' hp=>?_⟩,h2.cma.fr f3 (((ap.tu.sub _).off).or ap.uz.swap.off),q2⟩
  ·obtain⟨s,h1,h2⟩:=h2.hp.ln k hk
   exact⟨s,h1.fr f3 (of (by decide)).self,h2⟩
  ·have e:(mIns (vOf k s) (p.fr j) al.sm).map (fun y=>(y.1,x.bp y.1))=al.sm.map (fun y=>(y.1,x.bp y.1)):=by
    rw [map_ins x.bp,mIns_self (rise_map _ h0.al.rise)];rw [mGet_map (fun v _=>x.bp v),hg];rfl
   show MpAt w3 o3 _ _ _ _ ((mIns (vOf k s) (p.fr j) al.sm).map _);rw [e];exact h2.hp.mp.fr f3 (of (by decide)).self
  ·replace hp:mGet (mIns (vOf k s) (p.fr j) al.sm) y=some p':=hp
   by_cases e:y=vOf k s
   ·subst e
    rw [mGet_ins_same h0.al.rise] at hp;obtain rfl:=Option.some.inj hp;exact hpg
   ·rw [mGet_ins_other e] at hp
    have hyk:=(h0.al.pg y p' hp).1;exact(h2.hp.pg y p' hp).fr f3 ((off_two (by omega) h9).or (ap.tz.off_sub _))
 have hS3:Fr (S3 t u z) w o w3 o3:=hS.trans (f3.mono fun y q=>q.elim (fun q=>.inl q.up) (fun q=>.inr (.inr q)));rw [hpf] at hw3;have hisb:x.is tb (al.backP k (vOf k s) j):=fun y p' hy=>by
  replace hy:mGet (mIns _ _ al.sm) y=some p':=hy;by_cases e:y=vOf k s
  ·subst e;exact hx _ p hg
  ·rw [mGet_ins_other e] at hy;exact hx y p' hy
 have ebk:al.backP k (vOf k s) j=⟨al.sl,up1 al.ln k (al.backL k (vOf k s)),mIns (vOf k s) (p.fr j) al.sm⟩:=by unfold AlS.backP;rw [heq]
 refine⟨rfl,?_,fun hne=>?_,fun hz=>?_⟩
 ·have hu:=pgUsed (x.bp (vOf k s)) a w3 hpg
  have e:((p.fr j).on (x.pf (vOf k s)*512:Nat)).used=((p.fr j).had.tkn:Int):=by
   show ((p.fr j).had.n:Int)-(p.fr j).had.cnt=_;have:=cnt_le (p.fr j).had;unfold ShS.tkn;omega
  rw [e] at hu;exact hu
 ·obtain⟨y1,y2⟩:=fre_stay h0 hk hh hg hq (fun e=>hne (by rw [e];rfl))
  refine⟨o3,_,cm,tb,?_,by rw [y1];exact hisb,y2,hS3.drew'⟩;rw [y1,ebk];exact hmono hw3.drew (by omega)
 ·have hz':(p.fr j).had.tkn=0:=by omega
  have hd:=hw3.drew;refine⟨hd.hp.cl hk,?_⟩;obtain⟨ls,hls,hli⟩:=hd.hp.ln k hk;have hli':LnIs ls (al.backL k (vOf k s)):=by
   have e:(⟨al.sl,up1 al.ln k (al.backL k (vOf k s)),mIns (vOf k s) (p.fr j) al.sm⟩:AlS).ln k=al.backL k (vOf k s):=up1_same;rw [e] at hli;exact hli
  obtain⟨b1,b2,b3⟩:=back_mem h0.al hk hg hkd;have hrm:=hli'.rm b2;have hlen2:ls.m.length<900000:=by
   rw [hli'.len];have:(al.backL k (vOf k s)).length≤2304:=nodup_len 2304 _ b1 (fun y hy=>by
    by_cases e:y=vOf k s
    ·rw [e];omega
    ·have:=(b3 y e).1 hy
     obtain⟨p',f1,_⟩:=((h0.al.ln k hk).2 y).1 this;have:=(h0.al.pg y p' f1).1;omega)
   omega
  have hr:=lnRemove (x.bl k) (vOf k s) w3.drew hls hlen2;rw [hrm.1] at hr;refine hr.mono ?_;rintro e w5 ⟨rfl,q5,f5⟩;have hw5:=hd.inLn ap hk f5 q5 hrm.2;obtain⟨w6,e6,m6,f6,_⟩:=mp_delete (P:=Tryz.prog) (ty:=0) hw5.hp.mp Tryz.underlying199 Tryz.underlying3 (vOf k s);have hw6:=hw5.delPg ap (mIns_rise h0.al.rise _ _) f6 m6;refine⟨rfl,hw5.hp.cm,w6,fun ty=>e6,?_⟩;have eal:(⟨al.sl,up1 (up1 al.ln k (al.backL k (vOf k s))) k ((al.backL k (vOf k s)).erase (vOf k s)),mDel (vOf k s) (mIns (vOf k s) (p.fr j) al.sm)⟩:AlS)=⟨al.sl,up1 al.ln k ((al.backL k (vOf k s)).erase (vOf k s)),mDel (vOf k s) al.sm⟩:=by
   rw [del_ins _ _ h0.al.rise]
   congr 1
   funext d
   unfold up1
   split<;>rfl
  rw [eal] at hw6;have hpre:RelPre ((p.on (q.toNat*512:Nat)).frB j B) cm win tb ⟨al.sl,up1 al.ln k ((al.backL k (vOf k s)).erase (vOf k s)),mDel (vOf k s) al.sm⟩ k s:=relPre_of hb1 rfl t1 (show s<(al.sl k).n from had_n h0.al hh) hh.2.1;refine(hpRelease b a c k s w6 hw6 ap (by omega) hpre).mono ?_;rintro e w7 ⟨rfl,o7,B7,cm7,tb7,h7,R7,f7⟩;obtain⟨y1,y2⟩:=fre_shut h0 hk hh hg hq hz' R7;refine⟨rfl,o7,B7,cm7,tb7,?_,fun y p' hy=>?_,y2,(((hS3.drew'.trans (f5.mono fun y q=>.inl (by rw [q];exact Und.app t [3,k]))).trans (f6.mono fun y q=>.inl (by rw [q];exact Und.app t [4]))).trans f7)⟩
  ·rw [y1]
   exact hmono h7 (by omega)
  ·rw [y1] at hy
   replace hy:mGet (mDel (vOf k s) al.sm) y=some p':=hy;by_cases e:y=vOf k s
   ·rw [e,mGet_del_same h0.al.rise] at hy;cases hy
   ·rw [mGet_del_other e] at hy
    rw [hx y p' hy];unfold pgOf;have hD:¬(vOf k s≤y∧y<vOf k s+pagesT k):=by rw [(pages_lt8 hk).1];omega
    unfold lookV;rw [R7.stay y hD]
end
end
section
open Go.RowKit
section
variable{o:Nat→Tag}{t u z:Tag}{x:HpX}{B:List UInt8}{m:Nat}{cm:CmS}{win:List Int}{tb:TbS}{al:AlS}
theorem hpFree_run(b a c k s j:Nat)(w:World)(h:HpW w o t u z b a c x B m cm win tb al)(hp:HpOk B cm win tb al)(hx:x.is tb al)(ap:Ap3 t u z)(hm:m≤800000)(hk:8≤k)(hh:Had al k s j) :
  Calls Tryz.prog 148 #[.pointer (some ⟨b,0,none⟩),.int .i64 (posT k s j)] w fun e w'=>e=.returned (.int .i64 0)∧FrePost w o t u z b a c x B (m+20) cm win tb al k s j w':=by
 have hb:=HD (hpBlock b a c k s j w h.hp hh (hp.al.n k hh.there.1));have hj0:j=0:=by
  have:=there_iff.1 hh.1;have hr:roomT k=1:=room_one (by rw [per_out (by omega)];omega);omega
 subst hj0;have hrel:=HD (show ∀n,Calls Tryz.prog 204 #[.pointer (some ⟨b,0,none⟩),.int .i64 k,.int .i64 s] (w.drewN n) (fun e w'=>e=.returned (.tuple #[])∧FrePost w o t u z b a c x B (m+20) cm win tb al k s 0 w') from fun n=>by
  refine(hpRelease b a c k s (w.drewN n) (h.still (fr_drewN n)) ap (by omega) (relPre_of hp rfl hh.there.1 (had_n hp.al hh) hh.2.1)).mono ?_;rintro e w7 ⟨rfl,o7,B7,cm7,tb7,h7,R7,f7⟩;have e:al.fre k s 0=⟨up1 al.sl k ((al.sl k).flip s),al.ln,al.sm⟩:=if_neg (by omega);refine⟨rfl,o7,B7,cm7,tb7,by rw [e];exact h7.mono (by omega),fun y p hy=>?_,fre_run hp hk hh R7,((fr_drewN n).mono fun y q=>q.elim).trans f7⟩;rw [e] at hy;replace hy:mGet al.sm y=some p:=hy;rw [hx y p hy];have hy1:=(hp.al.pg y p hy).1;have hD:¬(vOf k s≤y∧y<vOf k s+pagesT k):=by
   have hs:=slot_in hh.there.1 hh.there.2.1;unfold vOf;omega
  unfold pgOf lookV;rw [R7.stay y hD])
 have d2:decide ((8:Int)≤(k:Int))=true:=decide_eq_true (by omega);clear h hp hx hh;generalize posT k s 0=ad at *;go_enter Tryz.func148,Tryz.ntmps148
 go_wp2_with fail;refine hb.out.mono ?_;rintro e w1 ⟨rfl,n,rfl⟩;go_wp2_with fail;refine(hrel.out n).mono ?_;rintro e w2 ⟨rfl,r⟩;replace r:=HD r;clear hrel hb;go_wp2_with fail;go_ret
 exact⟨rfl,r.out⟩
theorem hpFree_small(b a c k s j:Nat)(w:World)(h:HpW w o t u z b a c x B m cm win tb al)(hp:HpOk B cm win tb al)(hx:x.is tb al)(ap:Ap3 t u z)(hm:m≤800000)(hk:k<8)(hh:Had al k s j) :
  Calls Tryz.prog 148 #[.pointer (some ⟨b,0,none⟩),.int .i64 (posT k s j)] w fun e w'=>e=.returned (.int .i64 0)∧FrePost w o t u z b a c x B (m+20) cm win tb al k s j w':=by
 have hb:=HD (hpBlock b a c k s j w h.hp hh (hp.al.n k hh.there.1));obtain⟨p,hg,e2,e3⟩:=hh.2.2 hk;have hlo:=HD (fun w=>hpLocal k s w (by omega) hh.there.2.1);have hsm:∀n,(w.drewN n).cell? ⟨b,36,none⟩=some (.map (some x.gm))∧(Instr.lookup 199 (.map (some x.gm)) (.int .i64 (vOf k s)) false).run Tryz.prog (w.drewN n)=.ok (.pointer (some ⟨x.bp (vOf k s),0,none⟩)) (w.drewN n):=fun n=>⟨(h.hp.drewN n).cm,(h.hp.drewN n).look hg⟩
 have hfu:=HD (show ∀n,Calls Tryz.prog 199 #[.pointer (some ⟨x.bp (vOf k s),0,none⟩)] (w.drewN n) (fun e w'=>e=.returned (.bool (decide (p.had.cnt=0)))∧w'=w.drewN n) from fun n=>by
  have:=pgFull (x.bp (vOf k s)) a (w.drewN n) (p:=p.on (x.pf (vOf k s)*512:Nat)) ((h.hp.drewN n).pg _ p hg);exact this)
 have hkd:kdV (vOf k s)=k:=by have:=hh.there.2.1;unfold kdV vOf;rw [(pages_lt8 hk).1,(pages_lt8 hk).2] at *;omega
 have hstay:=HD (show ¬p.had.cnt=0→∀n,FreC w o t u z b a c x B (m+20) cm win tb al k s j (p.fr j).had.tkn (w.drewN n) from fun hne n=>by
  refine freC b a c k s j w hp hx ap hm hk hh hg (w2:=w.drewN n) (o2:=o) ?_ ((fr_drewN n).mono fun y q=>q.elim)
  have e:up1 al.ln k (al.backL k (vOf k s))=al.ln:=by unfold AlS.backL;rw [pgAt_some hg,if_neg hne,up1_eq]
  rw [e];exact h.still (fr_drewN n))
 have hpush:=HD (show p.had.cnt=0→∀n,(w.drewN n).cell? ⟨b,28+k,none⟩=some (.pointer (some ⟨x.bl k,0,none⟩))∧Calls Tryz.prog 203 #[.pointer (some ⟨x.bl k,0,none⟩),.int .i64 (vOf k s)] (w.drewN n) (fun e w2=>e=.returned (.int .i64 0)∧FreC w o t u z b a c x B (m+20) cm win tb al k s j (p.fr j).had.tkn w2) from fun hz n=>by
  have hd:=h.still (fr_drewN n);refine⟨hd.hp.cl hk,?_⟩;obtain⟨ls,hls,hli⟩:=hd.hp.ln k hk;have hnot:vOf k s∉al.ln k:=fun q=>by
   obtain⟨p',f1,_,f2⟩:=((hp.al.ln k hk).2 _).1 q;rw [hg] at f1;obtain rfl:=Option.some.inj f1;omega
  have hvr:=(hp.al.pg _ p hg).1;have hpu:=hli.push (k:=vOf k s) (by omega) hnot;have hlen2:ls.m.length<900000:=by
   rw [hli.len];have:(al.ln k).length≤2304:=nodup_len 2304 _ (hp.al.ln k hk).1 (fun y hy=>by
    obtain⟨p',f1,_⟩:=((hp.al.ln k hk).2 y).1 hy;have:=(hp.al.pg y p' f1).1;omega)
   omega
  have hpc:=lnPush (x.bl k) (vOf k s) (w.drewN n) hls hlen2;rw [hpu.1] at hpc;refine hpc.mono ?_;rintro e w4 ⟨rfl,q4,f4⟩;refine⟨rfl,freC b a c k s j w hp hx ap hm hk hh hg (w2:=w4) ?_ (((fr_drewN n).mono fun y q=>q.elim).trans (f4.mono fun y q=>.inl (by rw [q];exact Und.app t [3,k])))⟩;have e:al.backL k (vOf k s)=al.ln k++[vOf k s]:=by unfold AlS.backL;rw [pgAt_some hg,if_pos hz]
  rw [e];exact hd.inLn ap hk f4 q4 hpu.2)
 have d2:decide ((8:Int)≤(k:Int))=false:=decide_eq_false (by omega);have hidx:0≤(k:Int)∧(k:Int)<8:=by omega
 have hkk:((k:Int)).toNat=k:=by omega
 replace hsm:=HD hsm;clear h hp hx hh hg e2 e3 hkd;generalize posT k s j=ad at *;generalize (p.fr j).had.tkn=us at *;by_cases hz:p.had.cnt=0
 ·have hpush':=HD (hpush.out hz)
  rw [decide_eq_true hz] at hfu;by_cases hu:us=0
  ·have hd0:((us:Int)==0)=true:=by rw [hu];rfl
   clear hpush hstay hz;go_enter Tryz.func148,Tryz.ntmps148
   go_wp2_with fail;refine hb.out.mono ?_;rintro e w1 ⟨rfl,n,rfl⟩;obtain⟨c6,hlk⟩:=hsm.out n;obtain⟨cl,hpu⟩:=hpush'.out n;replace hpu:=HD hpu;clear hpush' hsm hb;go_wp2_with fail;refine SM (hlo.out _) ?_;go_wp2_with fail;refine SM (hfu.out _) ?_;go_wp2_with fail;refine hpu.out.mono ?_;rintro e w2 ⟨rfl,hC⟩;unfold FreC at hC;replace hC:=HD hC;clear hpu hfu;go_wp2_with fail;refine hC.out.mono ?_;rintro e w3 ⟨rfl,hus,hno,hyes⟩;obtain⟨cl3,hrm⟩:=hyes (by omega);replace hus:=HD hus;replace hrm:=HD hrm;clear hC hno hyes;go_wp2_with fail;refine hus.out.mono ?_;rintro e w4 ⟨rfl,rfl⟩;clear hus;go_wp2_with fail;refine hrm.out.mono ?_;rintro e w5 ⟨rfl,c65,w6,hdl,hrl⟩;replace hrl:=HD hrl;clear hrm;go_wp2_with fail;refine hrl.out.mono ?_;rintro e w7 ⟨rfl,r⟩;replace r:=HD r;clear hrl;go_wp2_with fail;go_ret
   exact⟨rfl,r.out⟩
  ·have hd0:((us:Int)==0)=false:=by rw [beq_eq_false_iff_ne];omega
   clear hpush hstay hz;go_enter Tryz.func148,Tryz.ntmps148
   go_wp2_with fail;refine hb.out.mono ?_;rintro e w1 ⟨rfl,n,rfl⟩;obtain⟨c6,hlk⟩:=hsm.out n;obtain⟨cl,hpu⟩:=hpush'.out n;replace hpu:=HD hpu;clear hpush' hsm hb;go_wp2_with fail;refine SM (hlo.out _) ?_;go_wp2_with fail;refine SM (hfu.out _) ?_;go_wp2_with fail;refine hpu.out.mono ?_;rintro e w2 ⟨rfl,hC⟩;unfold FreC at hC;replace hC:=HD hC;clear hpu hfu;go_wp2_with fail;refine hC.out.mono ?_;rintro e w3 ⟨rfl,hus,hno,hyes⟩;have r:=HD (hno (by omega));replace hus:=HD hus;clear hC hno hyes;go_wp2_with fail;refine hus.out.mono ?_;rintro e w4 ⟨rfl,rfl⟩;clear hus;go_wp2_with fail;go_ret
   exact⟨rfl,r.out⟩
 ·have hstay':=HD (hstay.out hz)
  rw [decide_eq_false hz] at hfu;by_cases hu:us=0
  ·have hd0:((us:Int)==0)=true:=by rw [hu];rfl
   clear hpush hstay hz;go_enter Tryz.func148,Tryz.ntmps148
   go_wp2_with fail;refine hb.out.mono ?_;rintro e w1 ⟨rfl,n,rfl⟩;obtain⟨c6,hlk⟩:=hsm.out n;have hC:=hstay'.out n;unfold FreC at hC;replace hC:=HD hC;clear hstay' hsm hb;go_wp2_with fail;refine SM (hlo.out _) ?_;go_wp2_with fail;refine SM (hfu.out _) ?_;clear hfu;go_wp2_with fail;refine hC.out.mono ?_;rintro e w3 ⟨rfl,hus,hno,hyes⟩;obtain⟨cl3,hrm⟩:=hyes (by omega);replace hus:=HD hus;replace hrm:=HD hrm;clear hC hno hyes;go_wp2_with fail;refine hus.out.mono ?_;rintro e w4 ⟨rfl,rfl⟩;clear hus;go_wp2_with fail;refine hrm.out.mono ?_;rintro e w5 ⟨rfl,c65,w6,hdl,hrl⟩;replace hrl:=HD hrl;clear hrm;go_wp2_with fail;refine hrl.out.mono ?_;rintro e w7 ⟨rfl,r⟩;replace r:=HD r;clear hrl;go_wp2_with fail;go_ret
   exact⟨rfl,r.out⟩
  ·have hd0:((us:Int)==0)=false:=by rw [beq_eq_false_iff_ne];omega
   clear hpush hstay hz;go_enter Tryz.func148,Tryz.ntmps148
   go_wp2_with fail;refine hb.out.mono ?_;rintro e w1 ⟨rfl,n,rfl⟩;obtain⟨c6,hlk⟩:=hsm.out n;have hC:=hstay'.out n;unfold FreC at hC;replace hC:=HD hC;clear hstay' hsm hb;go_wp2_with fail;refine SM (hlo.out _) ?_;go_wp2_with fail;refine SM (hfu.out _) ?_;clear hfu;go_wp2_with fail;refine hC.out.mono ?_;rintro e w3 ⟨rfl,hus,hno,hyes⟩;have r:=HD (hno (by omega));replace hus:=HD hus;clear hC hno hyes;go_wp2_with fail;refine hus.out.mono ?_;rintro e w4 ⟨rfl,rfl⟩;clear hus;go_wp2_with fail;go_ret
   exact⟨rfl,r.out⟩
end
end
section
open Go.RowKit
theorem map_range_set{α:Type}(f:Nat→α)(n j:Nat)(v:α):((List.range n).map f).set j v=(List.range n).map (up1 f j v):=by
 apply List.ext_getElem
 ·simp
 ·intro i h1 h2
  simp only [List.getElem_set,List.getElem_map,List.getElem_range];unfold up1;by_cases e:j=i
  ·rw [if_pos e,if_pos e.symm]
  ·rw [if_neg e,if_neg (fun q=>e q.symm)]
section
variable{a c:Nat}{wv:Value}{bt:Nat}{sv lv:Nat→Value}{mv v:Value}
theorem hp_set_slot{j:Nat}(h:j<24):(hpL a c wv bt sv lv mv).toArray.setIfInBounds (4+j) v=(hpL a c wv bt (up1 sv j v) lv mv).toArray:=by
 rw [List.setIfInBounds_toArray]
 congr 1
 unfold hpL;rw [List.set_append_right _ _ (by simp),List.set_append_left _ _ (by simp;omega)];simp only [List.length_cons,List.length_nil];rw [show 4+j-(0+1+1+1+1)=j by omega,map_range_set]
theorem hp_set_line{j:Nat}(h:j<8):(hpL a c wv bt sv lv mv).toArray.setIfInBounds (28+j) v=(hpL a c wv bt sv (up1 lv j v) mv).toArray:=by
 rw [List.setIfInBounds_toArray]
 congr 1
 unfold hpL;rw [List.set_append_right _ _ (by simp;omega),List.set_append_right _ _ (by simp;omega),List.set_append_left _ _ (by simp;omega)];simp only [List.length_cons,List.length_nil,List.length_map,List.length_range];rw [show 28+j-(0+1+1+1+1)-24=j by omega,map_range_set]
theorem hp_set_map:(hpL a c wv bt sv lv mv).toArray.setIfInBounds 36 v=(hpL a c wv bt sv lv v).toArray:=by
 rw [List.setIfInBounds_toArray]
 congr 1
end
structure EmpRel(w:World)(o:Nat→Tag)(t:Tag)(b a c:Nat)(wv:Value)(bt gm:Nat)(w':World)(o':Nat→Tag)(sv lv:Nat→Value)(bs bl gl:Nat→Nat)(j i:Nat):Prop where
 blk:Blk w' o' t b (hpL a c wv bt sv lv (.map (some gm))).toArray 201
 mp:MpAt w' o' (t++[4]) gm .i64 eP []
 tab:Tab w' o'
 sl:∀k,k<j→sv k=eP (bs k)∧ShAt w' o' (t++[2,k]) (bs k) (ShS.new (slotsT k).toNat)
 ln:∀k,k<i→lv k=eP (bl k)∧LnG w' o' (t++[3,k]) (bl k) (gl k) LnS.new
 fr:Fr (fun y=>y=t) w o w' o'
theorem EmpRel.fr_{w:World}{o:Nat→Tag}{t:Tag}{b a c:Nat}{wv:Value}{bt gm:Nat}{w':World}{o':Nat→Tag}{sv lv:Nat→Value}{bs bl gl:Nat→Nat}{j i:Nat}(h:EmpRel w o t b a c wv bt gm w' o' sv lv bs bl gl j i){w2:World}{o2:Nat→Tag}(f:Fr (fun _=>False) w' o' w2 o2):EmpRel w o t b a c wv bt gm w2 o2 sv lv bs bl gl j i :=
 ⟨h.blk.fr f (fun q=>q),h.mp.fr f (fun q=>q),h.tab.fr f (fun q=>q),fun k hk=>⟨(h.sl k hk).1,(h.sl k hk).2.fr f off_no⟩,fun k hk=>⟨(h.ln k hk).1,(h.ln k hk).2.fr f (fun q=>q)⟩,h.fr.trans (f.mono fun y q=>q.elim)⟩
theorem eq_off{t:Tag}(h9:¬t <+: [9])(n:Nat)(r:Tag):Off (fun y=>y=t) (t++n :: r):=⟨fun y hy e=>not_und t n r (by have q:=hy;rwa [e] at q),fun e=>h9 (by rw [←e];exact List.prefix_refl _)⟩
theorem EmpRel.slot{w:World}{o:Nat→Tag}{t:Tag}{b a c:Nat}{wv:Value}{bt gm:Nat}{w':World}{o':Nat→Tag}{sv lv:Nat→Value}{bs bl gl:Nat→Nat}{j i:Nat}(h:EmpRel w o t b a c wv bt gm w' o' sv lv bs bl gl j i)(h9:¬t <+: [9])(hj:j<24){w2:World}{o2:Nat→Tag}{bn:Nat}(f:Fr (fun _=>False) w' o' w2 o2)(q:ShAt w2 o2 (t++[2,j]) bn (ShS.new (slotsT j).toNat)) :
  EmpRel w o t b a c wv bt gm (w2.setCell ⟨b,4+j,none⟩ (eP bn)) o2 (up1 sv j (eP bn)) lv (up1 bs j bn) bl gl (j+1) i:=by
 have h2:=h.fr_ f;have fs:Fr (fun y=>y=t) w2 o2 (w2.setCell ⟨b,4+j,none⟩ (eP bn)) o2:=Fr.setCell (fun _=>h2.blk.1) _;refine⟨by have:=h2.blk.set (4+j) (eP bn);rwa [hp_set_slot hj] at this,h2.mp.fr fs (eq_off h9 4 []).self,h2.tab.fr fs (fun e=>h9 (by rw [←e];exact List.prefix_refl _)),fun k hk=>?_,fun k hk=>⟨(h2.ln k hk).1,(h2.ln k hk).2.fr fs (eq_off h9 3 [k]).self⟩,h2.fr.trans fs⟩;by_cases e:k=j
 ·subst e;rw [up1_same,up1_same];exact⟨rfl,q.fr fs (eq_off h9 2 [k])⟩
 ·rw [up1_other e,up1_other e]
  have:=h2.sl k (by omega);exact⟨this.1,this.2.fr fs (eq_off h9 2 [k])⟩
theorem EmpRel.line{w:World}{o:Nat→Tag}{t:Tag}{b a c:Nat}{wv:Value}{bt gm:Nat}{w':World}{o':Nat→Tag}{sv lv:Nat→Value}{bs bl gl:Nat→Nat}{j i:Nat}(h:EmpRel w o t b a c wv bt gm w' o' sv lv bs bl gl j i)(h9:¬t <+: [9])(hi:i<8){w2:World}{o2:Nat→Tag}{bn gn:Nat}(f:Fr (fun _=>False) w' o' w2 o2)(q:LnG w2 o2 (t++[3,i]) bn gn LnS.new) :
  EmpRel w o t b a c wv bt gm (w2.setCell ⟨b,28+i,none⟩ (eP bn)) o2 sv (up1 lv i (eP bn)) bs (up1 bl i bn) (up1 gl i gn) j (i+1):=by
 have h2:=h.fr_ f;have fs:Fr (fun y=>y=t) w2 o2 (w2.setCell ⟨b,28+i,none⟩ (eP bn)) o2:=Fr.setCell (fun _=>h2.blk.1) _;refine⟨by have:=h2.blk.set (28+i) (eP bn);rwa [hp_set_line hi] at this,h2.mp.fr fs (eq_off h9 4 []).self,h2.tab.fr fs (fun e=>h9 (by rw [←e];exact List.prefix_refl _)),fun k hk=>⟨(h2.sl k hk).1,(h2.sl k hk).2.fr fs (eq_off h9 2 [k])⟩,fun k hk=>?_,h2.fr.trans fs⟩;by_cases e:k=i
 ·subst e;rw [up1_same,up1_same,up1_same];exact⟨rfl,q.fr fs (eq_off h9 3 [k]).self⟩
 ·rw [up1_other e,up1_other e,up1_other e]
  have:=h2.ln k (by omega);exact⟨this.1,this.2.fr fs (eq_off h9 3 [k]).self⟩
theorem hpEmpty(b a c:Nat)(w:World){o:Nat→Tag}{t:Tag}{wv:Value}{bt:Nat}{sv lv:Nat→Value}{mv:Value}(h:Blk w o t b (hpL a c wv bt sv lv mv).toArray 201)(hT:Tab w o)(h9:¬t <+: [9]) :
  Calls Tryz.prog 126 #[.pointer (some ⟨b,0,none⟩)] w fun e w'=>e=.returned (.tuple #[])∧∃gm o' sv' lv' bs bl gl,EmpRel w o t b a c wv bt gm w' o' sv' lv' bs bl gl 24 8:=by
 have hmk:∀w,(Instr.makeMap 199 none).run Tryz.prog w=.ok (.map (some w.heap.size)) (w.alloc (.map #[] 0)):=fun w=>run_makeMap _ w
 have ha:=Fr.alloc (S:=fun y=>y=t) (w:=w) (o:=o) (.map #[] 0) (t++[4]);have hba:=(h.setO (k:=w.heap.size) (u:=t++[4]) (Nat.le_refl _)).alloc (.map #[] 0);have fs:Fr (fun y=>y=t) (w.alloc (.map #[] 0)) (setO o w.heap.size (t++[4])) ((w.alloc (.map #[] 0)).setCell ⟨b,36,none⟩ (.map (some w.heap.size))) (setO o w.heap.size (t++[4])):=Fr.setCell (fun _=>hba.1) _;have c36:(w.alloc (.map #[] 0)).cell? ⟨b,36,none⟩=some mv:=hba.cell' (i:=36) rfl;have f36:=hba.free 36;have hR0:Hid (EmpRel w o t b a c wv bt w.heap.size ((w.alloc (.map #[] 0)).setCell ⟨b,36,none⟩ (.map (some w.heap.size))) (setO o w.heap.size (t++[4])) sv lv (fun _=>0) (fun _=>0) (fun _=>0) 0 0):=Lib.hid
  ⟨by have:=hba.set 36 (.map (some w.heap.size));rwa [hp_set_map] at this,(MpAt.made w o (t++[4]) .i64 eP).fr fs (eq_off h9 4 []).self,(hT.fr ha (fun e=>h9 (by rw [←e];exact List.prefix_refl _))).fr fs (fun e=>h9 (by rw [←e];exact List.prefix_refl _)),fun k hk=>by omega,fun k hk=>by omega,ha.trans fs⟩
 have hsl:=HD (fun c w=>slots_any c w);clear ha hba fs h hT;generalize hgm:w.heap.size=gm at *;go_enter Tryz.func126,Tryz.ntmps126
 go_wp2_with fail;go_loopg [8] 24 (fun gh i wx=>∃(j:Nat) (o':Nat→Tag) (sv':Nat→Value) (bs:Nat→Nat),j≤24∧gh=24-j∧i=.int .i64 j∧Hid (EmpRel w o t b a c wv bt gm wx o' sv' lv bs (fun _=>0) (fun _=>0) j 0))
 case atStart=>exact⟨0,_,_,_,Nat.zero_le _,rfl,rfl,hR0⟩
 case round =>
  clear hR0;obtain⟨j,o',sv',bs,hj,rfl,rfl,hR⟩:=hrel;by_cases hlt:j<24
  ·have d0:decide ((j:Int)<24)=true:=decide_eq_true (by omega)
   have hidx:0≤(j:Int)∧(j:Int)<24:=by omega
   have hjj:((j:Int)).toNat=j:=by omega
   have hcd:Blk wr.drew o' t b (hpL a c wv bt sv' lv (.map (some gm))).toArray 201:=hR.out.blk;have hc0:wr.drew.cell? ⟨b,4+j,none⟩=some (sv' j)∧wr.drew.frozen? ⟨b,4+j,none⟩=false:=⟨hcd.cell' (hp_slot hlt),hcd.free _⟩
   have hkf:=kind_facts (c:=(j:Int)) (by omega) (by omega);have hnw:=HD (show ∀v:Int,v=slotsT j→Calls Tryz.prog 77 #[.int .i64 v] wr.drew (ShNew wr.drew o' (t++[2,j]) (slotsT j).toNat) from fun v e=>by
    have:=shNew (slotsT j).toNat wr.drew o' (t++[2,j]) (hR.out.tab.fr (S:=fun _=>False) Fr.drew (fun q=>q)) (by omega)
    rwa [show (((slotsT j).toNat:Nat):Int)=v by omega] at this)
   have hfin:=HD (show ∀w3 bn o3,ShAt w3 o3 (t++[2,j]) bn (ShS.new (slotsT j).toNat)→Fr (fun _=>False) wr.drew o' w3 o3→(w3.cell? ⟨b,4+j,none⟩=some (sv' j)∧w3.frozen? ⟨b,4+j,none⟩=false) ∧
     ((w3.setCell ⟨b,4+j,none⟩ (eP bn)).cell? ⟨b,4+j,none⟩=some (eP bn)∧(w3.setCell ⟨b,4+j,none⟩ (eP bn)).frozen? ⟨b,4+j,none⟩=false)∧EmpRel w o t b a c wv bt gm (w3.setCell ⟨b,4+j,none⟩ (eP bn)) o3 (up1 sv' j (eP bn)) lv (up1 bs j bn) (fun _=>0) (fun _=>0) (j+1) 0 from fun w3 bn o3 q3 f3=>by
    have h3:=hcd.fr f3 (fun q=>q);have hs:=(hR.out.fr_ (Fr.drew (S:=fun _=>False))).slot h9 hlt f3 q3;exact⟨⟨h3.cell' (hp_slot hlt),h3.free _⟩,⟨by have:=hs.blk.cell' (hp_slot hlt);rwa [up1_same] at this,hs.blk.free _⟩,hs⟩)
   clear hR hcd hkf;go_wp2_with fail;refine wp_region_noPanic ?_;refine wp_region_held_drew (S:=(fun W=>W.frozen? ⟨b,4+j,none⟩=false)) (by kernel_rfl) ?_ (fun hHeld=>?_)
   ·(try dsimp only)
    (first|exact hc0.2|exact hcs|exact hcs3)
   refine tkH 0 (h:=?_);refine tkH 1 (h:=?_);refine tkH 2 (h:=?_);refine tkH 8 (h:=?_);refine tkH 9 (h:=?_);refine onH 3 (h:=fun K hK=>?_);go_simp;refine(hsl.out _ _).mono ?_;rintro e w2 ⟨rfl,rfl⟩;have hcs:=hc0.2;go_wp2_with fail;refine hK.out _ _ ?_ (fun hHeld=>?_)
   ·(try dsimp only)
    (first|exact hc0.2|exact hcs|exact hcs3)
   clear hK;refine nmH (h:=?_);refine onH 4 (h:=fun K hK=>?_);go_simp;refine(hnw.out _ rfl).mono ?_;rintro e w3 ⟨bn,o3,rfl,q3,f3⟩;have hnx:=HD (hfin.out w3 bn o3 q3 f3);have hcs:=hnx.out.1.2;have hce:=hnx.out.1.1;have hcs3:=hnx.out.2.1.2;clear q3 f3;go_wp2_with fail;refine hK.out _ _ ?_ (fun hHeld=>?_)
   ·(try dsimp only)
    (first|exact hc0.2|exact hcs|exact hcs3)
   clear hK;refine nmH (h:=?_);refine tkH 5 (h:=?_);refine tkH 6 (h:=?_);refine tkH 7 (h:=?_);refine tkH 10 (h:=?_);refine onH 11 (h:=fun K hK=>?_);go_simp;refine hK.out _ _ ?_ (fun hHeld=>?_)
   ·(try dsimp only)
    (first|exact hc0.2|exact hcs|exact hcs3)
   clear hK;refine nmH (h:=?_);refine wpAnyH_done (by kernel_rfl) ?_ _;refine NoPanic.normal ?_;replace hnx:=HD hnx.out.2.2;clear hcs hcs3 hce hfin hnw hc0;go_wp2_with fail;go_roundg (24-(j+1))
   case measure=>omega
   case rel=>exact⟨j+1,_,_,_,by omega,rfl,by go_num,hnx⟩
  ·obtain rfl:j=24:=by omega
   have hR1:=HD hR.out;clear hR;go_wp2_with fail;go_loopg [23] 8 (fun gh i wx=>∃(j:Nat) (o':Nat→Tag) (lv':Nat→Value) (bl gl:Nat→Nat),j≤8∧gh=8-j∧i=.int .i64 j∧Hid (EmpRel w o t b a c wv bt gm wx o' sv' lv' bs bl gl 24 j))
   case atStart=>exact⟨0,_,_,_,_,Nat.zero_le _,rfl,rfl,hR1⟩
   case round =>
    clear hR1;obtain⟨j,o1,lv',bl,gl,hj,rfl,rfl,hR⟩:=hrel;by_cases hlt:j<8
    ·have d0:decide ((j:Int)<8)=true:=decide_eq_true (by omega)
     have hidx:0≤(j:Int)∧(j:Int)<8:=by omega
     have hjj:((j:Int)).toNat=j:=by omega
     have hcd:Blk wr.drew o1 t b (hpL a c wv bt sv' lv' (.map (some gm))).toArray 201:=hR.out.blk;have hc0:wr.drew.cell? ⟨b,28+j,none⟩=some (lv' j)∧wr.drew.frozen? ⟨b,28+j,none⟩=false:=⟨hcd.cell' (hp_line hlt),hcd.free _⟩
     have hnw:=HD (lnNew wr.drew o1 (t++[3,j]));have hfin:=HD (show ∀w3 bn,LnAt w3 (newO o1 wr.drew (t++[3,j])) (t++[3,j]) bn LnS.new→Below wr.drew.heap.size wr.drew w3→(w3.cell? ⟨b,28+j,none⟩=some (lv' j)∧w3.frozen? ⟨b,28+j,none⟩=false) ∧
       ((w3.setCell ⟨b,28+j,none⟩ (eP bn)).cell? ⟨b,28+j,none⟩=some (eP bn)∧(w3.setCell ⟨b,28+j,none⟩ (eP bn)).frozen? ⟨b,28+j,none⟩=false)∧∃gn,EmpRel w o t b a c wv bt gm (w3.setCell ⟨b,28+j,none⟩ (eP bn)) (newO o1 wr.drew (t++[3,j])) sv' (up1 lv' j (eP bn)) bs (up1 bl j bn) (up1 gl j gn) 24 (j+1) from fun w3 bn q3 f3=>by
      have ff:Fr (fun _=>False) wr.drew o1 w3 (newO o1 wr.drew (t++[3,j])):=Fr.below' f3 _;have h3:=hcd.fr ff (fun q=>q);obtain⟨gn,q3⟩:=q3;have hs:=(hR.out.fr_ (Fr.drew (S:=fun _=>False))).line h9 hlt (gn:=gn) ff q3;exact⟨⟨h3.cell' (hp_line hlt),h3.free _⟩,⟨by have:=hs.blk.cell' (hp_line hlt);rwa [up1_same] at this,hs.blk.free _⟩,gn,hs⟩)
     clear hR hcd;go_wp2_with fail;refine wp_region_noPanic ?_;refine wp_region_held_drew (S:=(fun W=>W.frozen? ⟨b,28+j,none⟩=false)) (by kernel_rfl) ?_ (fun hHeld=>?_)
     ·(try dsimp only)
      (first|exact hc0.2|exact hcs|exact hcs3)
     refine tkH 0 (h:=?_);refine tkH 1 (h:=?_);refine tkH 3 (h:=?_);refine tkH 4 (h:=?_);refine onH 2 (h:=fun K hK=>?_);go_simp;refine hnw.out.mono ?_;rintro e w3 ⟨⟨bn,rfl,q3⟩,f3⟩;have hnx:=HD (hfin.out w3 bn q3 f3);have hcs:=hnx.out.1.2;have hce:=hnx.out.1.1;have hcs3:=hnx.out.2.1.2;clear q3 f3;go_wp2_with fail;refine hK.out _ _ ?_ (fun hHeld=>?_)
     ·(try dsimp only)
      (first|exact hc0.2|exact hcs|exact hcs3)
     clear hK;refine nmH (h:=?_);refine tkH 5 (h:=?_);refine onH 6 (h:=fun K hK=>?_);go_simp;refine hK.out _ _ ?_ (fun hHeld=>?_)
     ·(try dsimp only)
      (first|exact hc0.2|exact hcs|exact hcs3)
     clear hK;refine nmH (h:=?_);refine wpAnyH_done (by kernel_rfl) ?_ _;refine NoPanic.normal ?_;obtain⟨gn,hnx⟩:=hnx.out.2.2;replace hnx:=HD hnx;clear hcs hcs3 hce hfin hnw hc0;go_wp2_with fail;go_roundg (8-(j+1))
     case measure=>omega
     case rel=>exact⟨j+1,_,_,_,_,by omega,rfl,by go_num,hnx⟩
    ·obtain rfl:j=8:=by omega
     go_wp2_with fail;exact bodyPost_end (results_none (by kernel_rfl) _ _ _) rfl ⟨rfl,gm,o1,sv',lv',bs,bl,gl,hR.out⟩
end
end Go.Proofs.YtfliaggjkianpaaGreatDoor
