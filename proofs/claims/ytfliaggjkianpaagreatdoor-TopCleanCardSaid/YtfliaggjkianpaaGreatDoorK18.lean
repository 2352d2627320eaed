import Derived.Test.YtfliaggjkianpaaGreatDoorK17
set_option linter.unusedVariables false
set_option linter.unusedSimpArgs false
set_option maxRecDepth 100000
namespace Go.Proofs.YtfliaggjkianpaaGreatDoor
section
open Go.RowKit Flt
theorem loc_some{pg:List (Int×Int)}{x q:Int}(h:mGet pg (x/512)=some q):loc pg x=q.toNat*512+(x%512).toNat:=by unfold loc;rw [lookV_some h]
structure WrL(tb:TbS)(B:List UInt8)(a n:Int)(g:Nat→UInt8)(B':List UInt8):Prop where
 len:B'.length=B.length
 in_:∀i:Nat,(i:Int)<n→lb tb B' (a+i)=g i
 out:∀p:Nat,(∀i:Nat,(i:Int)<n→p≠loc tb.pg (a+i))→byt B' p=byt B p
theorem WrL.of{tb:TbS}{B B':List UInt8}{L:Nat}{a n:Int}{T:List (Int×Int)}{g:Nat→UInt8}(hp:PcT tb.pg L a n T)(h:WrI B T g T.length B'):WrL tb B a n g B':=by
 have hl:=hp.lo;have h1:=h.in_;have h2:=h.out;rw [List.take_length] at h1 h2;refine⟨h.len,fun i hi=>?_,fun p hq=>h2 p fun hm=>?_⟩
 ·have hk:i<(locs T).length:=by rw [hl,List.length_map,List.length_range];omega
  have:=h1 i hk;have e:(locs T)[i]=loc tb.pg (a+i):=by simp [hl]
  rw [e] at this;rw [lb_loc];exact this
 ·rw [hl] at hm
  obtain⟨i,hi,e⟩:=List.mem_map.1 hm;have:=List.mem_range.1 hi;exact hq i (by omega) e.symm
section
variable{B B':List UInt8}{cm:CmS}{win:List Int}{tb:TbS}{al:AlS}{k s j:Nat}{f n:Int}{g:Nat→UInt8}
theorem loc_inj(h:HpOk B cm win tb al){x y p q:Int}(hx:mGet tb.pg (x/512)=some p)(hy:mGet tb.pg (y/512)=some q)(e:loc tb.pg x=loc tb.pg y):x=y:=by
 rw [loc_some hx,loc_some hy] at e;by_cases c:x/512=y/512
 ·rw [c,hy] at hx
  obtain rfl:=Option.some.inj hx;omega
 ·have:=pg_sep h hx hy c
  omega
theorem had_loc(h:HpOk B cm win tb al)(hh:Had al k s j){i:Int}(i0:0≤i)(i1:i<unitT k):∃q,mGet tb.pg ((posT k s j+i)/512)=some q:=had_mapped h hh (blk_page hh.1 i0 i1)
theorem had_view(h:HpOk B cm win tb al)(hh:Had al k s j)(f0:0≤f)(n0:0≤n)(fn:f+n≤unitT k):∃T,VwPre tb B (posT k s j+f) n T∧(locs T).Nodup:=by
 have hpb:=find_pos hh.1;have hk:=hh.there.1;have hu:=kind_facts (c:=(k:Int)) (by omega) (by omega);have hpz:=pos_bounds hh.1;have hpg:∀i:Int,0≤i→i<n→∃q,mGet tb.pg ((posT k s j+f+i)/512)=some q∧0≤q∧q<cm.P:=fun i i0 i1=>by
  obtain⟨q,hq⟩:=had_loc h hh (i:=f+i) (by omega) (by omega);rw [←Int.add_assoc] at hq;exact⟨q,hq,(h.ton.rng _ q hq).2.1⟩
 obtain⟨T,h1,h2⟩:=pcL_ok n.toNat (posT k s j+f) n (Nat.le_refl _) (by omega) n0 hpg;rw [←h.len] at h2;refine⟨T,⟨inside_iff.2 ?_,h1,h2,fun p hp=>?_,by omega⟩,?_⟩
 ·obtain⟨a1,a2,_⟩:=hpb
  refine⟨n0,by omega,?_,?_⟩
  ·omega
  ·omega
 ·have:=(h.ton.rng p.1 p.2 (mGet_of h.ton.rise.1 hp)).2.1
  have:=h.cmo.2.2.2.1;omega
 ·rw [h2.lo]
  refine List.pairwise_map.2 (List.Pairwise.imp_of_mem (R:=fun a b=>a≠b) (fun {x y} hx hy hne e=>hne ?_) List.nodup_range);have x1:=List.mem_range.1 hx;have y1:=List.mem_range.1 hy;obtain⟨p,hp,_⟩:=hpg x (by omega) (by omega);obtain⟨q,hq,_⟩:=hpg y (by omega) (by omega);have:=loc_inj h hp hq e;omega
theorem had_read(h:HpOk B cm win tb al)(hh:Had al k s j)(f0:0≤f)(n0:0≤n)(fn:f+n≤unitT k){T:List (Int×Int)}(hp:VwPre tb B (posT k s j+f) n T):rdT B T=(List.range n.toNat).map fun (i:Nat)=>lb tb B (posT k s j+f+i):=by
 rw [rdT_locs (fun x hx=>by have:=hp.pt.sp x hx;omega),hp.pt.lo,List.map_map];rfl
theorem HpOk.wrt(h:HpOk B cm win tb al)(hh:Had al k s j)(f0:0≤f)(fn:f+n≤unitT k)(W:WrL tb B (posT k s j+f) n g B') :
  HpOk B' cm win tb al∧Keep win B cm B' cm∧(∀c1 s1 k1,Had al c1 s1 k1→¬(c1=k∧s1=s∧k1=j)→∀i,0≤i→i<unitT c1→lb tb B' (posT c1 s1 k1+i)=lb tb B (posT c1 s1 k1+i)) ∧
   (∀i,0≤i→i<unitT k→lb tb B' (posT k s j+i)=if f≤i∧i<f+n then g (i-f).toNat else lb tb B (posT k s j+i)):=by
 have hpg:∀i:Nat,(i:Int)<n→∃q,mGet tb.pg ((posT k s j+f+i)/512)=some q∧loc tb.pg (posT k s j+f+i)=q.toNat*512+((posT k s j+f+i)%512).toNat:=fun i i1=>by
  obtain⟨q,hq⟩:=had_loc h hh (i:=f+i) (by omega) (by omega);rw [←Int.add_assoc] at hq;exact⟨q,hq,loc_some hq⟩
 refine⟨⟨h.al,h.cmo,W.len.trans h.len,h.ton,h.dom,h.cnt,fun p hp hf i hi=>?_,fun u p r hp hr=>?_⟩,⟨W.len,rfl,rfl,fun _ _=>rfl,fun p hp hc i hi=>?_⟩,fun c1 s1 k1 hh1 hne i i0 i1=>?_,fun i i0 i1=>?_⟩
 ·rw [W.out _ (fun i' hi' e=>?_)]
  ·exact h.z p hp hf i hi
  ·obtain⟨q,q1,q2⟩:=hpg i' hi'
   rw [q2] at e;have h4:=(h.ton.rng _ q q1).2.2.2;have:p=q.toNat:=by omega
   rw [←this,hf] at h4;cases h4
 ·have hz:=h.c u p r hp hr
  obtain⟨_,_,g3,hok,_⟩:=h.al.pg u p hp;intro kk hk hf i hi;have hb:=blk_at hok hk;rw [W.out _ (fun i' hi' e=>?_)]
  ·exact hz kk hk hf i hi
  ·obtain⟨q,q1,q2⟩:=hpg i' hi'
   rw [q2,Nat.add_assoc] at e;have hqr:r.toNat=q.toNat:=by omega
   have hv:u=(posT k s j+f+i')/512:=by
    by_cases c:u=(posT k s j+f+i')/512
    ·exact c
    ·exact absurd hqr (pg_sep h hr q1 c)
   have hoff:kk*p.unit.toNat+i=((posT k s j+f+i')%512).toNat:=by omega
   have hbp:=blk_page hh.1 (i:=f+i') (by omega) (by omega);rw [←Int.add_assoc,←hv] at hbp;obtain⟨t1,t2,t3⟩:=hh.there;have hin:=(in_slot t1 t2 u).1 hbp;have hk8:k<8:=by
    have:=h.al.pg u p hp;unfold kdV at hin;omega
   have hbs:=blk_small hk8 hh.1 (i:=f+i') (by omega) (by omega);rw [←Int.add_assoc,←hv,←hoff] at hbs;obtain⟨p1,p2,p3,p4⟩:=hh.2.2 hk8;rw [←hbs.1,hp] at p2;obtain rfl:=Option.some.inj p2;have hu:p.unit=unitT k:=by unfold PgS.unit;rw [g3,hin.2.1]
   rw [hu] at hbs hi;exact mul_sep (a:=kk) (b:=j) (u:=(unitT (k:Int)).toNat) (fun e=>by rw [e,p3] at hf;cases hf) hi (show (f+i').toNat<_ by omega) hbs.2.1
 ·rw [W.out _ (fun i' hi' e=>?_)]
  obtain⟨q,q1,q2⟩:=hpg i' hi';rw [q2] at e;have h4:=(h.ton.rng _ q q1).2.2.1;have:p=q.toNat:=by omega
  rw [←this] at h4;exact hc h4
 ·rw [lb_loc,lb_loc]
  refine W.out _ (fun i' hi' e=>?_);obtain⟨q,q1,_⟩:=hpg i' hi';obtain⟨r,r1⟩:=had_loc h hh1 i0 i1;have e2:=loc_inj h r1 q1 e;rcases pos_apart hh1.1 hh.1 with ⟨a1,a2,a3⟩|a|a
  ·exact hne ⟨by omega,by omega,by omega⟩
  ·omega
  ·omega
 ·by_cases c:f≤i∧i<f+n
  ·rw [if_pos c]
   have:=W.in_ (i-f).toNat (by omega)
   rwa [show posT k s j+f+((i-f).toNat:Nat)=posT k s j+i by omega] at this
  ·rw [if_neg c,lb_loc,lb_loc]
   refine W.out _ (fun i' hi' e=>?_);obtain⟨q,q1,_⟩:=hpg i' hi';obtain⟨r,r1⟩:=had_loc h hh i0 i1;have e2:=loc_inj h r1 q1 e;omega
end
def TnS.setOb(s:TnS)(a:Int)(d:List UInt8):TnS:={s with ob:=mIns a d s.ob}
theorem mIns_keys{α:Type}{M:List (Int×α)}{a:Int}{d:α}(h:Rise M)(hd:mGet M a=some d)(d':α):(mIns a d' M).map (·.1)=M.map (·.1):=by
 induction M with
 |nil=>cases hd
 |cons y M ih =>
  obtain⟨b,u⟩:=y;obtain⟨h1,h2⟩:=List.pairwise_cons.1 h;unfold mIns;unfold mGet at hd;by_cases e:b=a
  ·rw [if_neg (by omega),if_pos e,e];rfl
  ·rw [if_neg e] at hd
   have hm:=h1 _ (mGet_mem hd);simp only at hm;rw [if_neg (by omega),if_neg e];simp only [List.map_cons];rw [ih h2 hd]
section
variable{B B':List UInt8}{cm:CmS}{win:List Int}{tb:TbS}{s:TnS}
theorem obsum_keys(ob ob':List (Int×List UInt8))(h:ob'.map (·.1)=ob.map (·.1)):obsum ob'=obsum ob:=by
 unfold obsum;have e:∀l:List (Int×List UInt8),(l.map fun y=>unitT (kdT y.1))=(l.map (·.1)).map fun a=>unitT (kdT a):=fun l=>by rw [List.map_map];rfl
 rw [e,e,h]
theorem TnOk.wrt(h:TnOk B cm win tb s){k sl j:Nat}{d d':List UInt8}{f n:Int}{g:Nat→UInt8}(hd:mGet s.ob (posT k sl j)=some d)(hh:Had s.al k sl j)(f0:0≤f)(fn:f+n≤unitT k)(W:WrL tb B (posT k sl j+f) n g B')
  (h1:1≤d'.length) (h2:(d'.length:Int)≤unitT k) (hb:∀i:Nat,(i:Int)<unitT k→d'.getD i 0=if f≤i∧(i:Int)<f+n then g (i-f).toNat else d.getD i 0) :
  TnOk B' cm win tb (s.setOb (posT k sl j) d')∧Keep win B cm B' cm:=by
 obtain⟨r1,r2,r3,r4⟩:=h.hp.wrt hh f0 fn W;have hkeys:=mIns_keys h.ob.rise hd d';refine⟨⟨r1,h.used,h.dem,h.wl,h.room,h.quo,h.may,h.cost,?_,⟨mIns_rise h.ob.rise _ _,fun a dd q=>?_⟩,?_⟩,r2⟩
 ·show obsum (mIns _ _ _)=_
  rw [obsum_keys _ _ hkeys];exact h.sum
 ·by_cases c:a=posT k sl j
  ·subst c
   rw [show (s.setOb (posT k sl j) d').ob=mIns (posT k sl j) d' s.ob from rfl,mGet_ins_same h.ob.rise] at q;obtain rfl:=Option.some.inj q;refine⟨k,sl,j,rfl,hh,h1,h2,fun i hi=>?_⟩;obtain⟨k2,s2,j2,e2,g1,g2,g3,g4⟩:=h.ob.at_ _ _ hd;have hku:unitT k2=unitT k:=by
    have a1:=(find_pos hh.1).2.2.1;have a2:=(find_pos g1.1).2.2.1;rw [←e2,a1] at a2;rw [a2]
   rw [r4 i (by omega) hi,hb i hi,g4 i (by rw [hku];exact hi)]
  ·rw [show (s.setOb (posT k sl j) d').ob=mIns (posT k sl j) d' s.ob from rfl,mGet_ins_other c] at q
   obtain⟨k2,s2,j2,e2,g1,g2,g3,g4⟩:=h.ob.at_ a dd q;refine⟨k2,s2,j2,e2,g1,g2,g3,fun i hi=>?_⟩;rw [e2,r3 k2 s2 j2 g1 (fun w=>c (by rw [e2,w.1,w.2.1,w.2.2])) i (by omega) hi,←e2];exact g4 i hi
 ·show CpR s.cp ((mIns _ _ _).map _)
  rw [hkeys];exact h.cp
theorem TnOk.obj(h:TnOk B cm win tb s){a:Int}{d:List UInt8}(hd:mGet s.ob a=some d){f n:Int}(f0:0≤f)(n0:0≤n)(fn:f+n≤d.length) :
  ∃T,VwPre tb B (a+f) n T∧(locs T).Nodup∧rdT B T=(d.drop f.toNat).take n.toNat:=by
 obtain⟨k,sl,j,rfl,hh,h1,h2,h3⟩:=h.ob.at_ _ _ hd;obtain⟨T,p1,p2⟩:=had_view h.hp hh f0 n0 (by omega);refine⟨T,p1,p2,?_⟩;rw [had_read h.hp hh f0 n0 (by omega) p1];apply List.ext_getElem?
 intro i;by_cases hi:i<n.toNat
 ·rw [List.getElem?_map,List.getElem?_range hi,List.getElem?_take,if_pos hi,List.getElem?_drop]
  have:=h3 (f.toNat+i) (by omega);simp only [Option.map_some];rw [show posT k sl j+f+(i:Int)=posT k sl j+((f.toNat+i:Nat):Int) by omega,this];rw [List.getD_eq_getElem?_getD,List.getElem?_eq_getElem (by omega)];rfl
 ·rw [List.getElem?_eq_none (by rw [List.length_map,List.length_range];omega),List.getElem?_eq_none (by rw [List.length_take];omega)]
end
end
section
open Go.RowKit Flt
attribute [local irreducible] CpS.rv
def TnS.bytes(s:TnS)(a:Int):List UInt8:=(mGet s.ob a).getD []
def TnS.spanR(s:TnS)(h:Nat)(r fr n:Int):Int×Int :=
 if (s.cp.findF h r).2=0 then
  if 0≤fr∧0≤n∧fr+n≤(s.bytes (s.cp.findF h r).1).length then ((s.cp.findF h r).1+fr,0) else (0,4)
 else (0,(s.cp.findF h r).2)
section
variable{w w':World}{o o':Nat→Tag}{t u z:Tag}{b a c:Nat}{B:List UInt8}{m:Nat}{cm:CmS}{win:List Int}{tb:TbS}{s:TnS}
theorem TnOk.size(ok:TnOk B cm win tb s){ad:Int}{d:List UInt8}(hd:mGet s.ob ad=some d):1≤d.length∧d.length≤8192∧131072≤ad∧ad<3276800:=by
 obtain⟨k,sl,j,e,hh,h1,h2,_⟩:=ok.ob.at_ _ _ hd;have hk:=hh.there.1;have hu:=kind_facts (c:=(k:Int)) (by omega) (by omega);have hf:=find_pos hh.1;omega
theorem TnAt.look(h:TnAt w o t u z b a c B m cm win tb s){ad:Int}{d:List UInt8}(hd:mGet s.ob ad=some d):∃go,w.cell? ⟨b,7,none⟩=some (.map (some go))∧(Instr.lookup 131 (.map (some go)) (.int .i64 ad) false).run Tryz.prog w=.ok (.int .i64 d.length) w:=by
 obtain⟨y,h⟩:=h;refine⟨y.go,h.tn.c7,?_⟩;have:=mp_lookup h.tn.ob (P:=Tryz.prog) Tryz.underlying131 Tryz.underlying3 zeroI ad false;have e:mGet (obM s.ob) ad=some (d.length:Int):=by
  unfold obM;rw [get_map (fun d:List UInt8=>(d.length:Int)),hd];rfl
 rw [e] at this;exact this
theorem tnSpan(hn:Nat)(r fr n:Int)(hh:hn<18446744073709551616)(h:TnAt w o t u z b a c B m cm win tb s)(ok:TnOk B cm win tb s) :
  Calls Tryz.prog 108 #[eP b,.int .u64 hn,.int .i64 r,.int .i64 fr,.int .i64 n] w fun e w'=>e=.returned (.tuple #[.int .i64 (s.spanR hn r fr n).1,.int .i64 (s.spanR hn r fr n).2])∧Below w.heap.size w w':=by
 have hf:=HD (tnFindA hn r hh h);have hob:=find_ob (hn:=hn) (r:=r) ok;unfold TnS.spanR TnS.bytes;generalize s.cp.findF hn r=p at *;obtain⟨ad,e0⟩:=p;simp only at hob hf ⊢;by_cases hc0:e0=0
 ·subst hc0
  rw [if_pos rfl];obtain⟨d,hd⟩:=hob rfl;rw [hd,Option.getD_some];have hs:=ok.size hd;have hlk:=HD (fun w1 (hb:Below w.heap.size w w1)=>(h.still (Fr.below hb)).look hd);clear h ok hob hd;generalize d.length=sz at *;have e1:Hid (Calls Tryz.prog 100 #[eP b,.int .u64 hn,.int .i64 r] w (fun e w'=>e=.returned (.tuple #[.int .i64 ad,.int .i64 0])∧Below w.heap.size w w')):=hf;by_cases c1:min fr n<0
  ·rw [if_neg (by omega)]
   have d1:decide (min fr n<0)=true:=decide_eq_true c1;clear hs c1;go_enter Tryz.func108,Tryz.ntmps108
   go_wp2_with fail;refine e1.out.mono ?_;rintro e w1 ⟨rfl,hb⟩;obtain⟨go,c7,hl⟩:=hlk.out w1 hb;replace hb:=HD hb;clear hf e1 hlk;go_wp2_with fail;go_ret2
   exact⟨rfl,hb.out⟩
  have d1:decide (min fr n<0)=false:=decide_eq_false c1;by_cases c2:(sz:Int)<fr
  ·rw [if_neg (by omega)]
   have d2:decide ((sz:Int)<fr)=true:=decide_eq_true c2;clear hs c1 c2;go_enter Tryz.func108,Tryz.ntmps108
   go_wp2_with fail;refine e1.out.mono ?_;rintro e w1 ⟨rfl,hb⟩;obtain⟨go,c7,hl⟩:=hlk.out w1 hb;replace hb:=HD hb;clear hf e1 hlk;go_wp2_with fail;go_ret2
   exact⟨rfl,hb.out⟩
  have d2:decide ((sz:Int)<fr)=false:=decide_eq_false c2;have u1:=IntWalk.i64_in ((sz:Int)-fr) (by omega);by_cases c3:(sz:Int)-fr<n
  ·rw [if_neg (by omega)]
   have d3:decide ((sz:Int)-fr<n)=true:=decide_eq_true c3;clear hs c1 c2 c3;go_enter Tryz.func108,Tryz.ntmps108
   go_wp2_with fail;refine e1.out.mono ?_;rintro e w1 ⟨rfl,hb⟩;obtain⟨go,c7,hl⟩:=hlk.out w1 hb;replace hb:=HD hb;clear hf e1 hlk;go_wp2_with fail;go_ret2
   exact⟨rfl,hb.out⟩
  have d3:decide ((sz:Int)-fr<n)=false:=decide_eq_false c3;rw [if_pos (by omega)];have u2:=IntWalk.i64_in (ad+fr) (by omega);clear hs c1 c2 c3;go_enter Tryz.func108,Tryz.ntmps108
  go_wp2_with fail;refine e1.out.mono ?_;rintro e w1 ⟨rfl,hb⟩;obtain⟨go,c7,hl⟩:=hlk.out w1 hb;replace hb:=HD hb;clear hf e1 hlk;go_wp2_with fail;go_ret2
  exact⟨rfl,hb.out⟩
 ·rw [if_neg hc0]
  have hc:(e0 != 0)=true:=by simpa using hc0
  clear h ok hob hc0;go_enter Tryz.func108,Tryz.ntmps108
  go_wp2_with fail;refine hf.out.mono ?_;rintro e w1 ⟨rfl,hb⟩;replace hb:=HD hb;clear hf;go_wp2_with fail;go_ret2
  exact⟨rfl,hb.out⟩
end
end
section
open Go.RowKit Flt
attribute [local irreducible] CpS.rv
def baL(l:List UInt8):ByteArray:=⟨l.toArray⟩
def TnS.read(s:TnS)(h:Nat)(fr n:Int):Ans×TnS :=
 if (s.spanR h 1 fr n).2=0 then (⟨0,0,0,0,baL (((s.bytes (s.cp.findF h 1).1).drop fr.toNat).take n.toNat),s.cb⟩,s) else (⟨(s.spanR h 1 fr n).2,0,0,0,ByteArray.empty,s.cb⟩,s)
section
variable{w w':World}{o o':Nat→Tag}{t u z:Tag}{b a c:Nat}{y:TnX}{B B':List UInt8}{m m':Nat}{cm:CmS}{win:List Int}{tb:TbS}{s:TnS}{id pk:Int}{al:AlS}{cp:CpS}{q:QS}{M:List (Int×Int)}
theorem span_ok{hn:Nat}{r fr n:Int}(ok:TnOk B cm win tb s)(h:(s.spanR hn r fr n).2=0):∃ad d,s.cp.findF hn r=(ad,0)∧mGet s.ob ad=some d∧s.bytes ad=d∧0≤fr∧0≤n∧fr+n≤d.length∧(s.spanR hn r fr n).1=ad+fr:=by
 have hob:=find_ob (hn:=hn) (r:=r) ok;unfold TnS.spanR TnS.bytes at *;generalize s.cp.findF hn r=p at *;obtain⟨ad,e0⟩:=p;simp only at hob h ⊢;by_cases c:e0=0
 ·subst c
  obtain⟨d,hd⟩:=hob rfl;rw [if_pos rfl] at h ⊢;rw [hd,Option.getD_some] at h ⊢;by_cases c2:0≤fr∧0≤n∧fr+n≤d.length
  ·rw [if_pos c2]
   exact⟨ad,d,rfl,hd,by rw [hd];rfl,c2.1,c2.2.1,c2.2.2,rfl⟩
  ·rw [if_neg c2] at h;simp at h
 ·rw [if_neg c] at h;exact absurd h c
theorem TnW.inAr(h:TnW w o t u z b a c y B m cm win tb id pk al cp q M)(ap:Ap3 t u z)(f:Fr (Und z) w o w' o')(g:ArAt w' o' z a B' m'):TnW w' o' t u z b a c y B' m' cm win tb id pk al cp q M :=
 ⟨h.tn.fr f ap.tz.swap.off,h.is_,h.cma.fr f ap.uz.swap.off,g⟩
theorem fr_ar(f:Fr (Und z) w o w' o'):Fr (S3 t u z) w o w' o':=f.mono fun v q=>.inr (.inr q)
set_option maxHeartbeats 1000000 in
theorem tnRead(hn:Nat)(fr n:Int)(hh:hn<18446744073709551616)(h:TnAt w o t u z b a c B m cm win tb s)(ok:TnOk B cm win tb s)(ap:Ap3 t u z)(h7:T7 t u z)(h8:¬z <+: [8])(hm:m≤800000) :
  Calls Tryz.prog 65 #[eP b,.int .u64 hn,.int .i64 fr,.int .i64 n] w fun e w'=>e=.returned (ansV (s.read hn fr n).1)∧TnGo w o t u z b a c B (m+8192) cm win (s.read hn fr n).2 w':=by
 have h1:=h.made (.cells (ansC ans0) 47);have hf:=HD (tnSpan hn 1 fr n hh h1 ok);unfold TnS.read;have hsp:=span_ok (hn:=hn) (r:=1) (fr:=fr) (n:=n) ok;generalize s.spanR hn 1 fr n=p at *;obtain⟨at_,e0⟩:=p;simp only at hsp hf ⊢;by_cases hc0:e0=0
 ·subst hc0
  rw [if_pos rfl];obtain⟨ad,d,e1,hd,e2,f0,n0,fn,e3⟩:=hsp rfl;rw [e1];simp only;rw [e2];have hall:=HD (show ∀w1,Below (w.alloc (.cells (ansC ans0) 47)).heap.size (w.alloc (.cells (ansC ans0) 47)) w1→∃bh bt,(w1.drew.cell? ⟨b,0,none⟩=some (eP a)∧w1.drew.cell? ⟨b,2,none⟩=some (eP bh)) ∧
    Calls Tryz.prog 106 #[eP bh] w1.drew (fun e w2=>e=.returned (eP bt)∧w2=w1.drew) ∧
    Calls Tryz.prog 109 #[eP a,eP bt,.int .i64 at_,.int .i64 n] w1.drew (fun e w2=>e=.returned (.tuple #[.string (baL ((d.drop fr.toNat).take n.toNat)),.int .i64 0])∧(w2.cell? ⟨b,0,none⟩=some (eP a)∧w2.cell? ⟨b,2,none⟩=some (eP bh))∧TnGo (w.alloc (.cells (ansC ans0) 47)) (setO o w.heap.size [7]) t u z b a c B (m+8192) cm win s w2) from fun w1 hb=>by
   have h2:=(h1.still (Fr.below hb)).still Fr.drew;obtain⟨y,h3⟩:=h2;obtain⟨T,p1,p2,p3⟩:=ok.obj hd f0 n0 fn;refine⟨y.bh,y.x.bt,⟨h3.tn.c0,h3.tn.c2⟩,hpTable y.bh a c _ h3.tn.hp,?_⟩;rw [e3];refine(vwRead a y.x.bt (ad+fr) n _ h3.ar (by omega) h3.tn.hp.ta p1 ap.tz.u9 h8).mono ?_;rintro e w2 ⟨rfl,o2,g2,f2⟩;have h4:=h3.inAr ap f2 g2;refine⟨by rw [p3];rfl,⟨h4.tn.c0,h4.tn.c2⟩,o2,B,cm,tb,⟨y,h4⟩,ok,Keep.refl _ _ _,?_⟩;exact((Fr.below hb).trans Fr.drew).trans (fr_ar f2))
  generalize baL ((d.drop fr.toNat).take n.toNat)=ds at *;have hsay:=HD (fun w1 (q:TnGo (w.alloc (.cells (ansC ans0) 47)) (setO o w.heap.size [7]) t u z b a c B (m+8192) cm win s w1)=>q.say ⟨0,0,0,0,ds,0⟩);have hrow:=HD (fun w1 (q:TnGo (w.alloc (.cells (ansC ans0) 47)) (setO o w.heap.size [7]) t u z b a c B (m+8192) cm win s w1)=>(q.row h7 ⟨0,0,0,0,ds,s.cb⟩));clear h h1 ok hsp hd e1 e2 e3 f0 n0 fn hm;go_enter Tryz.func65,Tryz.ntmps65
  go_wp2_with fail;refine hf.out.mono ?_;rintro e w1 ⟨rfl,hb⟩;obtain⟨bh,bt,hcc,htb,hrd⟩:=hall.out w1 hb;replace htb:=HD htb;replace hrd:=HD hrd;clear hf hb hall;go_wp2_with fail;refine wp_region_noPanic ?_;refine wp_region_held_drew (S:=(fun W'=>W'.cell? ⟨b,0,none⟩=some (eP a)∧W'.cell? ⟨b,2,none⟩=some (eP bh))) (by kernel_rfl) ?_ (fun hHeld=>?_)
  ·(first|exact hcc|exact hcs)
  refine tkH 0 (h:=?_);refine tkH 1 (h:=?_);refine tkH 2 (h:=?_);refine tkH 3 (h:=?_);refine tkH 4 (h:=?_);refine tkH 5 (h:=?_);refine tkH 6 (h:=?_);refine tkH 7 (h:=?_);refine tkH 9 (h:=?_);refine tkH 10 (h:=?_);refine onH 8 (h:=fun K hK=>?_);go_simp;refine SM htb.out ?_;go_wp2_with fail;refine hK.out _ _ ?_ (fun hHeld=>?_)
  ·(first|exact hcc|exact hcs)
  clear hK;refine nmH (h:=?_);refine onH 11 (h:=fun K hK=>?_);go_simp;refine hrd.out.mono ?_;rintro e w2 ⟨rfl,hcs,g2⟩;replace g2:=HD g2;go_wp2_with fail;refine hK.out _ _ ?_ (fun hHeld=>?_)
  ·(first|exact hcc|exact hcs)
  clear hK;refine nmH (h:=?_);refine tkH 12 (h:=?_);refine tkH 13 (h:=?_);refine tkH 14 (h:=?_);refine tkH 15 (h:=?_);refine tkH 16 (h:=?_);refine wpAnyH_done (by kernel_rfl) ?_ _;refine NoPanic.normal ?_;go_wp2_with fail;refine(hsay.out _ g2.out).mono ?_;rintro e w3 ⟨rfl,g3⟩;obtain⟨qB,gE⟩:=hrow.out w3 g3;obtain⟨l0,l1,l2,l3,l4,l5,g0,g1,g2,g3,g4,g5⟩:=qB.cells;replace qB:=HD qB;clear hsay hrow;simp only [ansV];go_wp2_with fail;refine bodyPost_ret (v:=ansV ⟨0,0,0,0,ds,s.cb⟩) ?_ rfl ⟨rfl,gE⟩;exact ans_results_at 8 (by kernel_rfl) _ _ _ rfl (qB.out.store ⟨0,0,0,0,ds,s.cb⟩)
 ·rw [if_neg hc0]
  simp only;have hgo:=HD (show ∀w1,Below (w.alloc (.cells (ansC ans0) 47)).heap.size (w.alloc (.cells (ansC ans0) 47)) w1→TnGo (w.alloc (.cells (ansC ans0) 47)) (setO o w.heap.size [7]) t u z b a c B (m+8192) cm win s w1 from fun w1 hb=>((h1.mono (by omega)).go ok).still hb);have hfa:=HD (fun w1 (q:TnGo (w.alloc (.cells (ansC ans0) 47)) (setO o w.heap.size [7]) t u z b a c B (m+8192) cm win s w1)=>q.fail e0);have hrow:=HD (fun w1 (q:TnGo (w.alloc (.cells (ansC ans0) 47)) (setO o w.heap.size [7]) t u z b a c B (m+8192) cm win s w1)=>(q.row h7 ⟨e0,0,0,0,ByteArray.empty,s.cb⟩));have hc:(e0 != 0)=true:=by simpa using hc0
  clear h h1 ok hsp hc0 hm;go_enter Tryz.func65,Tryz.ntmps65
  go_wp2_with fail;refine hf.out.mono ?_;rintro e w1 ⟨rfl,hb⟩;replace hgo:=HD (hgo.out w1 hb);clear hf hb;go_wp2_with fail;refine(hfa.out w1 hgo.out).mono ?_;rintro e w3 ⟨rfl,g3⟩;obtain⟨qB,gE⟩:=hrow.out w3 g3;obtain⟨l0,l1,l2,l3,l4,l5,g0,g1,g2,g3,g4,g5⟩:=qB.cells;replace qB:=HD qB;clear hfa hrow hgo;simp only [ansV];go_wp2_with fail;refine bodyPost_ret (v:=ansV ⟨e0,0,0,0,ByteArray.empty,s.cb⟩) ?_ rfl ⟨rfl,gE⟩;exact ans_results_at 8 (by kernel_rfl) _ _ _ rfl (qB.out.store ⟨e0,0,0,0,ByteArray.empty,s.cb⟩)
end
end
section
open Go.RowKit Flt
attribute [local irreducible] CpS.rv
theorem mIns_id{α:Type}{M:List (Int×α)}{k:Int}{v:α}(hr:Rise M)(h:mGet M k=some v):mIns k v M=M:=by
 induction M with
 |nil=>cases h
 |cons y M ih =>
  obtain⟨b,u⟩:=y;obtain⟨h1,h2⟩:=List.pairwise_cons.1 hr;unfold mIns;unfold mGet at h;by_cases e:b=k
  ·rw [if_pos e] at h
   obtain rfl:=Option.some.inj h;rw [if_neg (by omega),if_pos e,e]
  ·rw [if_neg e] at h
   have hm:=h1 _ (mGet_mem h);simp only at hm;rw [if_neg (by omega),if_neg e,ih h2 h]
theorem obM_rise{ob:List (Int×List UInt8)}(h:Rise ob):Rise (obM ob):=by
 unfold obM;exact List.pairwise_map.2 h
theorem obM_set{ob:List (Int×List UInt8)}(ad:Int)(d:List UInt8):obM (mIns ad d ob)=mIns ad (d.length:Int) (obM ob):=by
 unfold obM;exact ins_map (fun d:List UInt8=>(d.length:Int)) ad d ob
theorem obM_get{ob:List (Int×List UInt8)}{ad:Int}{d:List UInt8}(h:mGet ob ad=some d):mGet (obM ob) ad=some (d.length:Int):=by
 unfold obM;rw [get_map (fun d:List UInt8=>(d.length:Int)),h];rfl
theorem splice_length{d l:List UInt8}{i:Nat}(h:i+l.length≤d.length):(splice d i l).length=d.length:=by
 unfold splice;simp only [List.length_append,List.length_take,List.length_drop];omega
def TnS.write(s:TnS)(h:Nat)(fr:Int)(x:ByteArray):Ans×TnS :=
 if (s.spanR h 2 fr x.size).2=0 then (⟨0,0,0,0,ByteArray.empty,s.cb⟩,s.setOb (s.cp.findF h 2).1 (splice (s.bytes (s.cp.findF h 2).1) fr.toNat x.data.toList)) else (⟨(s.spanR h 2 fr x.size).2,0,0,0,ByteArray.empty,s.cb⟩,s)
section
variable{w w':World}{o o':Nat→Tag}{t u z:Tag}{b a c:Nat}{y:TnX}{B B':List UInt8}{m m':Nat}{cm:CmS}{win:List Int}{tb:TbS}{s:TnS}
theorem TnOk.wrote(h:TnOk B cm win tb s){ad:Int}{d l:List UInt8}{f n:Int}(hd:mGet s.ob ad=some d)(f0:0≤f)(fn:f+n≤d.length)(hn:(l.length:Int)=n)(W:WrL tb B (ad+f) n (fun k=>l.getD k 0) B') :
  TnOk B' cm win tb (s.setOb ad (splice d f.toNat l))∧Keep win B cm B' cm:=by
 obtain⟨k,sl,j,rfl,hh,h1,h2,_⟩:=h.ob.at_ _ _ hd;have hl:=splice_length (d:=d) (l:=l) (i:=f.toNat) (by omega);refine h.wrt hd hh f0 (by omega) W (by omega) (by omega) fun i hi=>?_
 have:=byt_splice (B:=d) (l:=l) (i:=f.toNat) (by omega) i;unfold byt at this;rw [this];by_cases c:f≤i∧(i:Int)<f+n
 ·rw [if_pos (by omega),if_pos c,show ((i:Int)-f).toNat=i-f.toNat by omega]
 ·rw [if_neg (by omega),if_neg c]
set_option maxHeartbeats 1000000 in
theorem tnWrite(hn:Nat)(fr:Int)(x:ByteArray)(hh:hn<18446744073709551616)(hx:x.size≤8192)(h:TnAt w o t u z b a c B m cm win tb s)(ok:TnOk B cm win tb s)(ap:Ap3 t u z)(h7:T7 t u z)(hm:m≤800000) :
  Calls Tryz.prog 66 #[eP b,.int .u64 hn,.int .i64 fr,.string x] w fun e w'=>e=.returned (ansV (s.write hn fr x).1)∧TnGo w o t u z b a c B (m+8192) cm win (s.write hn fr x).2 w':=by
 have h1:=h.made (.cells (ansC ans0) 47);have hf:=HD (tnSpan hn 2 fr x.size hh h1 ok);unfold TnS.write;have hsp:=span_ok (hn:=hn) (r:=2) (fr:=fr) (n:=x.size) ok;generalize s.spanR hn 2 fr x.size=p at *;obtain⟨at_,e0⟩:=p;simp only at hsp hf ⊢;by_cases hc0:e0=0
 ·subst hc0
  rw [if_pos rfl];obtain⟨ad,d,e1,hd,e2,f0,n0,fn,e3⟩:=hsp rfl;rw [e1];simp only;rw [e2];have hxl:(x.data.toList.length:Int)=x.size:=by rw [Array.length_toList];rfl
  have hall:=HD (show ∀w1,Below (w.alloc (.cells (ansC ans0) 47)).heap.size (w.alloc (.cells (ansC ans0) 47)) w1→∃bh bt,(w1.drew.cell? ⟨b,0,none⟩=some (eP a)∧w1.drew.cell? ⟨b,2,none⟩=some (eP bh)) ∧
    Calls Tryz.prog 106 #[eP bh] w1.drew (fun e w2=>e=.returned (eP bt)∧w2=w1.drew) ∧
    Calls Tryz.prog 110 #[eP a,eP bt,.int .i64 at_,.string x] w1.drew (fun e w2=>e=.returned (.int .i64 0)∧(w2.cell? ⟨b,0,none⟩=some (eP a)∧w2.cell? ⟨b,2,none⟩=some (eP bh))∧TnGo (w.alloc (.cells (ansC ans0) 47)) (setO o w.heap.size [7]) t u z b a c B (m+8192) cm win (s.setOb ad (splice d fr.toNat x.data.toList)) w2) from fun w1 hb=>by
   have h2:=(h1.still (Fr.below hb)).still Fr.drew;obtain⟨y,h3⟩:=h2;obtain⟨T,p1,p2,p3⟩:=ok.obj hd f0 n0 fn;refine⟨y.bh,y.x.bt,⟨h3.tn.c0,h3.tn.c2⟩,hpTable y.bh a c _ h3.tn.hp,?_⟩;rw [e3];refine(vwWrite a y.x.bt (ad+fr) x _ h3.ar (by omega) h3.tn.hp.ta p1 p2 ap.tz.u9).mono ?_;rintro e w2 ⟨rfl,o2,B2,g2,W2,f2⟩;have h4:=h3.inAr ap f2 g2;obtain⟨ok2,K2⟩:=ok.wrote hd f0 fn hxl (WrL.of p1.pt W2);refine⟨rfl,⟨h4.tn.c0,h4.tn.c2⟩,o2,B2,cm,tb,⟨y,?_⟩,ok2,K2,?_⟩
   ·have e4:obM (s.setOb ad (splice d fr.toNat x.data.toList)).ob=obM s.ob:=by
     show obM (mIns ad _ s.ob)=_;rw [obM_set,splice_length (by omega)];exact mIns_id (obM_rise ok.ob.rise) (obM_get hd)
    rw [e4];exact h4
   ·exact((Fr.below hb).trans Fr.drew).trans (fr_ar f2))
  have ecb:(s.setOb ad (splice d fr.toNat x.data.toList)).cb=s.cb:=rfl;generalize s.setOb ad (splice d fr.toNat x.data.toList)=s' at *;rw [←ecb];have hfa:=HD (fun w1 (q:TnGo (w.alloc (.cells (ansC ans0) 47)) (setO o w.heap.size [7]) t u z b a c B (m+8192) cm win s' w1)=>q.fail 0);have hrow:=HD (fun w1 (q:TnGo (w.alloc (.cells (ansC ans0) 47)) (setO o w.heap.size [7]) t u z b a c B (m+8192) cm win s' w1)=>(q.row h7 ⟨0,0,0,0,ByteArray.empty,s'.cb⟩));clear h h1 ok hsp hd e1 e2 e3 f0 n0 fn hm ecb hxl;go_enter Tryz.func66,Tryz.ntmps66
  go_wp2_with fail;refine hf.out.mono ?_;rintro e w1 ⟨rfl,hb⟩;obtain⟨bh,bt,hcc,htb,hrd⟩:=hall.out w1 hb;replace htb:=HD htb;replace hrd:=HD hrd;clear hf hb hall;go_wp2_with fail;refine wp_region_noPanic ?_;refine wp_region_held_drew (S:=(fun W'=>W'.cell? ⟨b,0,none⟩=some (eP a)∧W'.cell? ⟨b,2,none⟩=some (eP bh))) (by kernel_rfl) ?_ (fun hHeld=>?_)
  ·(first|exact hcc|exact hcs)
  refine tkH 0 (h:=?_);refine tkH 1 (h:=?_);refine tkH 2 (h:=?_);refine tkH 3 (h:=?_);refine tkH 4 (h:=?_);refine tkH 5 (h:=?_);refine tkH 6 (h:=?_);refine tkH 7 (h:=?_);refine tkH 9 (h:=?_);refine tkH 10 (h:=?_);refine onH 8 (h:=fun K hK=>?_);go_simp;refine SM htb.out ?_;go_wp2_with fail;refine hK.out _ _ ?_ (fun hHeld=>?_)
  ·(first|exact hcc|exact hcs)
  clear hK;refine nmH (h:=?_);refine onH 11 (h:=fun K hK=>?_);go_simp;refine hrd.out.mono ?_;rintro e w2 ⟨rfl,hcs,g2⟩;replace g2:=HD g2;go_wp2_with fail;refine hK.out _ _ ?_ (fun hHeld=>?_)
  ·(first|exact hcc|exact hcs)
  clear hK;refine nmH (h:=?_);refine tkH 12 (h:=?_);refine wpAnyH_done (by kernel_rfl) ?_ _;refine NoPanic.normal ?_;go_wp2_with fail;refine(hfa.out _ g2.out).mono ?_;rintro e w3 ⟨rfl,g3⟩;obtain⟨qB,gE⟩:=hrow.out w3 g3;obtain⟨l0,l1,l2,l3,l4,l5,g0,g1,g2,g3,g4,g5⟩:=qB.cells;replace qB:=HD qB;clear hfa hrow;simp only [ansV];go_wp2_with fail;refine bodyPost_ret (v:=ansV ⟨0,0,0,0,ByteArray.empty,s'.cb⟩) ?_ rfl ⟨rfl,gE⟩;exact ans_results_at 8 (by kernel_rfl) _ _ _ rfl (qB.out.store ⟨0,0,0,0,ByteArray.empty,s'.cb⟩)
 ·rw [if_neg hc0]
  simp only;have hgo:=HD (show ∀w1,Below (w.alloc (.cells (ansC ans0) 47)).heap.size (w.alloc (.cells (ansC ans0) 47)) w1→TnGo (w.alloc (.cells (ansC ans0) 47)) (setO o w.heap.size [7]) t u z b a c B (m+8192) cm win s w1 from fun w1 hb=>((h1.mono (by omega)).go ok).still hb);have hfa:=HD (fun w1 (q:TnGo (w.alloc (.cells (ansC ans0) 47)) (setO o w.heap.size [7]) t u z b a c B (m+8192) cm win s w1)=>q.fail e0);have hrow:=HD (fun w1 (q:TnGo (w.alloc (.cells (ansC ans0) 47)) (setO o w.heap.size [7]) t u z b a c B (m+8192) cm win s w1)=>(q.row h7 ⟨e0,0,0,0,ByteArray.empty,s.cb⟩));have hc:(e0==0)=false:=by simpa using hc0
  clear h h1 ok hsp hc0 hm;go_enter Tryz.func66,Tryz.ntmps66
  go_wp2_with fail;refine hf.out.mono ?_;rintro e w1 ⟨rfl,hb⟩;replace hgo:=HD (hgo.out w1 hb);clear hf hb;go_wp2_with fail;refine(hfa.out w1 hgo.out).mono ?_;rintro e w3 ⟨rfl,g3⟩;obtain⟨qB,gE⟩:=hrow.out w3 g3;obtain⟨l0,l1,l2,l3,l4,l5,g0,g1,g2,g3,g4,g5⟩:=qB.cells;replace qB:=HD qB;clear hfa hrow hgo;simp only [ansV];go_wp2_with fail;refine bodyPost_ret (v:=ansV ⟨e0,0,0,0,ByteArray.empty,s.cb⟩) ?_ rfl ⟨rfl,gE⟩;exact ans_results_at 8 (by kernel_rfl) _ _ _ rfl (qB.out.store ⟨e0,0,0,0,ByteArray.empty,s.cb⟩)
end
end
section
open Go.RowKit Flt
attribute [local irreducible] CpS.rv
theorem unit_mono{c d:Int}(h0:0≤c)(h:c≤d)(h1:d≤23):unitT c≤unitT d:=by
 by_cases c7:c≤7
 ·rw [unit_small h0 c7]
  have a:=small_cases h0 c7;by_cases d7:d≤7
  ·rw [unit_small (by omega) d7]
   have b:=small_cases (c:=d) (by omega) d7;omega
  ·rw [unit_run (by omega) h1];omega
 ·rw [unit_run (by omega) (by omega),unit_run (by omega) h1];omega
def sized(d:List UInt8)(n:Nat):List UInt8:=d.take n++List.replicate (n-d.length) 0
theorem sized_len(d:List UInt8)(n:Nat):(sized d n).length=n:=by
 unfold sized;rw [List.length_append,List.length_take,List.length_replicate];omega
theorem sized_get(d:List UInt8)(n i:Nat):(sized d n).getD i 0=if i<n then d.getD i 0 else 0:=by
 unfold sized;simp only [List.getD_eq_getElem?_getD];by_cases h:i<n
 ·rw [if_pos h]
  by_cases h2:i<d.length
  ·rw [List.getElem?_append_left (by rw [List.length_take];omega),List.getElem?_take,if_pos h]
  ·rw [List.getElem?_append_right (by rw [List.length_take];omega),List.getElem?_replicate,List.getElem?_eq_none (show d.length≤i by omega)]
   split<;>rfl
 ·rw [if_neg h,List.getElem?_eq_none (by rw [List.length_append,List.length_take,List.length_replicate];omega)]
  rfl
theorem sized_splice{d:List UInt8}{n:Nat}(h:d.length≤n):splice (List.replicate n 0) 0 d=sized d n:=by
 unfold splice sized;rw [List.take_of_length_le h,List.take_zero,List.nil_append,Nat.zero_add,List.drop_replicate]
def TnS.realloc(s:TnS)(h:Nat)(n:Int):Ans×TnS :=
 if (s.cp.findF h 4).2≠0 then (⟨(s.cp.findF h 4).2,0,0,0,ByteArray.empty,s.cb⟩,s)
 else if kindT n<0 then (⟨2,0,0,0,ByteArray.empty,s.cb⟩,s)
 else if chargeT n≤unitT (kdT (s.cp.findF h 4).1) then (⟨0,h,(s.cp.findF h 4).1,0,ByteArray.empty,s.cb⟩,s.setOb (s.cp.findF h 4).1 (sized (s.bytes (s.cp.findF h 4).1) n.toNat))
 else if s.qb<s.cb+chargeT n then (⟨3,0,0,0,ByteArray.empty,s.cb⟩,s)
 else (⟨0,s.cp.grH,s.getA (kindT n).toNat,0,ByteArray.empty,(((s.get (kindT n).toNat (List.replicate n.toNat 0)).setOb (s.getA (kindT n).toNat) (sized (s.bytes (s.cp.findF h 4).1) n.toNat)).put (s.cp.findF h 4).1).cb⟩,
  ((s.get (kindT n).toNat (List.replicate n.toNat 0)).setOb (s.getA (kindT n).toNat) (sized (s.bytes (s.cp.findF h 4).1) n.toNat)).put (s.cp.findF h 4).1)
section
variable{w w' w1 w2:World}{o o' o1:Nat→Tag}{t u z:Tag}{b a c:Nat}{y:TnX}{B B' B1:List UInt8}{m m':Nat}{cm cm1:CmS}{win:List Int}{tb tb1:TbS}{s s':TnS}
theorem TnOk.shrunk(h:TnOk B cm win tb s){ad:Int}{d:List UInt8}{n:Nat}(hd:mGet s.ob ad=some d)(n0:1≤n)(hn:n≤d.length)(W:WrL tb B (ad+n) (d.length-n) (fun _=>0) B'):TnOk B' cm win tb (s.setOb ad (sized d n))∧Keep win B cm B' cm:=by
 obtain⟨k,sl,j,rfl,hh,h1,h2,_⟩:=h.ob.at_ _ _ hd;refine h.wrt hd hh (f:=(n:Int)) (by omega) (by omega) W (by rw [sized_len];exact n0) (by rw [sized_len];omega) fun i hi=>?_
 rw [sized_get];by_cases c:i<n
 ·rw [if_pos c,if_neg (by omega)]
 ·rw [if_neg c]
  by_cases c2:i<d.length
  ·rw [if_pos (by omega)]
  ·rw [if_neg (by omega),List.getD_eq_getElem?_getD,List.getElem?_eq_none (by omega)];rfl
theorem TnOk.grown(h:TnOk B cm win tb s){ad:Int}{d:List UInt8}{n:Nat}(hd:mGet s.ob ad=some d)(hn:d.length≤n)(hu:(n:Int)≤unitT (kdT ad)):TnOk B cm win tb (s.setOb ad (sized d n)):=by
 obtain⟨k,sl,j,rfl,hh,h1,h2,_⟩:=h.ob.at_ _ _ hd;rw [(find_pos hh.1).2.2.1] at hu;refine(h.wrt hd hh (f:=0) (n:=0) (g:=fun _=>0) (B':=B) (by omega) (by omega) ⟨rfl,fun i hi=>by omega,fun p _=>rfl⟩ (by rw [sized_len];omega) (by rw [sized_len];exact hu) fun i hi=>?_).1;rw [sized_get,if_neg (show ¬((0:Int)≤i∧(i:Int)<0+0) by omega)];by_cases c:i<n
 ·rw [if_pos c]
 ·rw [if_neg c,List.getD_eq_getElem?_getD,List.getElem?_eq_none (by omega)];rfl
theorem TnOk.get_new(h:TnOk B cm win tb s){k:Nat}{d:List UInt8}(h':TnOk B1 cm1 win tb1 (s.get k d))(hk:0<unitT k):mGet s.ob (s.getA k)=none:=by
 cases e:mGet s.ob (s.getA k) with
 |none=>rfl
 |some d0 =>
  exfalso
  have h1:=h'.sum;have h2:=h.sum;replace h1:obsum (mIns (s.getA k) d s.ob)=s.cb+unitT k:=h1;rw [obsum_keys _ _ (mIns_keys h.ob.rise e d)] at h1;omega
theorem TnGo.behind(K:Keep win B cm B1 cm1)(f:Fr (S3 t u z) w o w1 o1)(g:TnGo w1 o1 t u z b a c B1 m cm1 win s w2):TnGo w o t u z b a c B m cm win s w2:=by
 obtain⟨o',B',cm',tb',h1,h2,h3,h4⟩:=g;exact⟨o',B',cm',tb',h1,h2,K.trans h3,f.trans h4⟩
theorem TnW.sto{y:TnX}(h:TnW w o t u z b a c y B m cm win tb s.cp.tenant s.pk s.al s.cp ⟨s.qb,((win.length*(cm.P/cm.C):Nat):Int),s.cb,(tb.pg.length:Int),0,0⟩ (obM s.ob))(ap:Ap3 t u z){ad:Int}{d:List UInt8}{n:Nat}(hl:s.ob.length≤4096)(ok':TnOk B cm win tb (s.setOb ad d))(hn:d.length=n) :
  w.cell? ⟨b,7,none⟩=some (.map (some y.go))∧∃w2,(Instr.mapUpdate 131 (.map (some y.go)) (.int .i64 ad) (.int .i64 n)).run Tryz.prog w=.ok () w2∧TnGo w o t u z b a c B m cm win (s.setOb ad d) w2:=by
 obtain⟨w6,g6,p6⟩:=mp_store h.tn.ob (P:=Tryz.prog) Tryz.underlying131 Tryz.underlying3 ad (n:Int) (by rw [obM_len];omega);obtain⟨h6,fr6⟩:=h.inOb ap p6;refine⟨h.tn.c7,w6,g6,o,B,cm,tb,⟨y,?_⟩,ok',Keep.refl _ _ _,fr6⟩;have e:obM (s.setOb ad d).ob=mIns ad (n:Int) (obM s.ob):=by
  show obM (mIns ad d s.ob)=_;rw [obM_set,hn]
 rw [e];exact h6
theorem tnShr{ad:Int}{d:List UInt8}{n:Nat}(h:TnAt w o t u z b a c B m cm win tb s)(ok:TnOk B cm win tb s)(ap:Ap3 t u z)(hm:m≤800000)(hd:mGet s.ob ad=some d)(n0:1≤n)(hn:n≤d.length) :
  ∃bh bt go,(w.cell? ⟨b,0,none⟩=some (eP a)∧w.cell? ⟨b,2,none⟩=some (eP bh))∧Calls Tryz.prog 106 #[eP bh] w (fun e w2=>e=.returned (eP bt)∧w2=w) ∧
   Calls Tryz.prog 105 #[eP a,eP bt,.int .i64 (ad+n),.int .i64 ((d.length:Int)-n)] w (fun e w2=>e=.returned (.int .i64 0)∧(w2.cell? ⟨b,0,none⟩=some (eP a)∧w2.cell? ⟨b,2,none⟩=some (eP bh))∧w2.cell? ⟨b,7,none⟩=some (.map (some go)) ∧
    ∃w3,(Instr.mapUpdate 131 (.map (some go)) (.int .i64 ad) (.int .i64 n)).run Tryz.prog w2=.ok () w3∧TnGo w o t u z b a c B (m+8192) cm win (s.setOb ad (sized d n)) w3):=by
 obtain⟨y,h3⟩:=h;have hz:=ok.size hd;obtain⟨T,p1,p2,p3⟩:=ok.obj hd (f:=n) (n:=(d.length:Int)-n) (by omega) (by omega) (by omega);refine⟨y.bh,y.x.bt,y.go,⟨h3.tn.c0,h3.tn.c2⟩,hpTable y.bh a c _ h3.tn.hp,?_⟩;refine(vwZero a y.x.bt (ad+n) _ _ h3.ar (by omega) h3.tn.hp.ta p1 p2 ap.tz.u9).mono ?_;rintro e w2 ⟨rfl,o2,B2,g2,W2,f2⟩;have h4:=h3.inAr ap f2 g2;obtain⟨ok2,K2⟩:=ok.shrunk hd n0 hn (WrL.of p1.pt W2);obtain⟨c7,w3,q3,g3⟩:=TnW.sto h4 ap ok.obs ok2 (sized_len d n);exact⟨rfl,⟨h4.tn.c0,h4.tn.c2⟩,c7,w3,q3,g3.behind K2 (fr_ar f2)⟩
theorem tnCpy{ad:Int}{d:List UInt8}{k n:Nat}(h:TnAt w o t u z b a c B m cm win tb (s.get k (List.replicate n 0)))(ok:TnOk B cm win tb (s.get k (List.replicate n 0)))(ap:Ap3 t u z)(h8:¬z <+: [8])(hm:m≤700000)
  (hr:Rise s.ob) (hnew:mGet s.ob (s.getA k)=none) (hd:mGet s.ob ad=some d) (hn:d.length≤n) :
  ∃bh bt,(w.cell? ⟨b,0,none⟩=some (eP a)∧w.cell? ⟨b,2,none⟩=some (eP bh))∧Calls Tryz.prog 106 #[eP bh] w (fun e w2=>e=.returned (eP bt)∧w2=w) ∧
   Calls Tryz.prog 107 #[eP a,eP bt,.int .i64 (s.getA k),.int .i64 ad,.int .i64 d.length] w (fun e w2=>e=.returned (.int .i64 0)∧(w2.cell? ⟨b,0,none⟩=some (eP a)∧w2.cell? ⟨b,2,none⟩=some (eP bh)) ∧
    Calls Tryz.prog 101 #[eP b,.int .i64 ad] w2 fun e w3=>e=.returned (.tuple #[])∧TnGo w o t u z b a c B (m+20020) cm win (((s.get k (List.replicate n 0)).setOb (s.getA k) (sized d n)).put ad) w3):=by
 obtain⟨y,h3⟩:=h;have hne:ad≠s.getA k:=fun e=>by rw [e,hnew] at hd;cases hd
 have hto:mGet (s.get k (List.replicate n 0)).ob (s.getA k)=some (List.replicate n 0):=mGet_ins_same hr _ _;have hfr:mGet (s.get k (List.replicate n 0)).ob ad=some d:=(mGet_ins_other hne _).trans hd;have hz:=ok.size hto;rw [List.length_replicate] at hz;obtain⟨T,p1,p2,p3⟩:=ok.obj hto (f:=0) (n:=d.length) (by omega) (by omega) (by rw [List.length_replicate];omega);obtain⟨T2,r1,r2,r3⟩:=ok.obj hfr (f:=0) (n:=d.length) (by omega) (by omega) (by omega);rw [Int.add_zero] at p1 r1;refine⟨y.bh,y.x.bt,⟨h3.tn.c0,h3.tn.c2⟩,hpTable y.bh a c _ h3.tn.hp,?_⟩;refine(vwCopy a y.x.bt (s.getA k) ad d.length _ h3.ar (by omega) h3.tn.hp.ta p1 r1 p2 ap.tz.u9 h8 ((ap.tz.swap.off.sub [0]).sub [1])).mono ?_;rintro e w2 ⟨rfl,o2,B2,g2,W2,f2⟩;have h4:=h3.inAr ap f2 g2;have er:rdT B T2=d:=by rw [r3];simp
 rw [er] at W2;have W3:=WrL.of p1.pt W2;obtain⟨ok2,K2⟩:=ok.wrote (l:=d) (f:=0) hto (by omega) (by rw [List.length_replicate];omega) rfl (by rw [Int.add_zero];exact W3);rw [show (0:Int).toNat=0 from rfl,sized_splice hn] at ok2;refine⟨rfl,⟨h4.tn.c0,h4.tn.c2⟩,?_⟩;have h5:TnAt w2 o2 t u z b a c B2 (m+20000) cm win tb ((s.get k (List.replicate n 0)).setOb (s.getA k) (sized d n)):=by
  refine⟨y,?_⟩;have e4:obM ((s.get k (List.replicate n 0)).setOb (s.getA k) (sized d n)).ob=obM (s.get k (List.replicate n 0)).ob:=by
   show obM (mIns _ _ (s.get k (List.replicate n 0)).ob)=_;rw [obM_set,sized_len];refine mIns_id (obM_rise ok.ob.rise) ?_;rw [obM_get hto,List.length_replicate]
  rw [e4];exact h4
 refine(tnPutA ad d h5 ok2 ap (by omega) ((mGet_ins_other hne _).trans hfr)).mono ?_;rintro e w3 ⟨rfl,g⟩;exact⟨rfl,g.behind K2 (fr_ar f2)⟩
end
end
section
open Go.RowKit Flt
attribute [local irreducible] CpS.rv
theorem sorted_mem{xs:List Int}(x:Int):x∈sorted xs↔x∈xs:=(List.mergeSort_perm xs _).mem_iff
theorem sorted_len(xs:List Int):(sorted xs).length=xs.length:=by simp [sorted]
theorem compact_sorted{xs:List Int}(hn:xs.Nodup):Lib.compact (sorted xs)=sorted xs:=by
 have h2:(sorted xs).Nodup:=(List.mergeSort_perm xs _).symm.nodup hn;refine Lib.compact_all _ fun j hj=>?_
 unfold Lib.keeps;rw [decide_eq_true_eq];rcases Nat.eq_zero_or_pos j with h0|h0
 ·exact .inl h0
 ·right
  have:=List.pairwise_iff_getElem.1 h2 (j-1) j (by omega) hj (by omega);intro e;apply this
  have e1:(sorted xs).toArray[j]! = (sorted xs)[j]:=by rw [getElem!_pos (sorted xs).toArray j (by simp [sorted_len] at hj ⊢;omega)];simp
  have e2:(sorted xs).toArray[j-1]! = (sorted xs)[j-1]:=by rw [getElem!_pos (sorted xs).toArray (j-1) (by simp [sorted_len] at hj ⊢;omega)];simp
  rw [←e1,←e2,e]
theorem IntsW.ints{w:World}{v:Value}{xs:List Int}(h:IntsW w v xs):Ints w (fun _=>[]) [] v xs:=by
 obtain⟨A,c,rfl,h⟩:=h;refine⟨A,c,rfl,fun hp=>?_⟩;obtain⟨g,off,rfl,h3⟩:=h hp;exact⟨g,off,rfl,block_lt (h3 0 hp),rfl,h3⟩
theorem tnRoom(c:Nat)(v:Value)(win:List Int)(w:World){o:Nat→Tag}{u:Tag}{cm:CmS}(hc:CmAt w o u c cm)(hv:IntsW w v win)(hn:win.Nodup)(hr:∀x∈win,0≤x∧x<cm.C) :
  Calls Tryz.prog 86 #[eP c,v] w fun e w'=>e=.returned (.int .i64 (win.length*(cm.P/cm.C):Nat))∧Below w.heap.size w w':=by
 obtain⟨hC1,hC2,hP1,hP2,hPC,hsh⟩:=hc.cells.2.2;have hl:=nodup_len cm.C win hn hr;have hCP:cm.C≤cm.P:=Nat.le_of_dvd (by omega) (Nat.dvd_of_mod_eq_zero hPC);have hdiv:cm.P/cm.C≤4096:=Nat.le_trans (Nat.div_le_self _ _) hP2;have hcl:=HD (slClone hv.ints [1] (by omega));have hso:=HD (fun w1 o1 v1 (h:IRow w1 o1 [1] v1 win)=>slSort h (by omega));have hco:=HD (fun w1 o1 v1 (h:IRow w1 o1 [1] v1 (sorted win))=>slCompact h (by rw [sorted_len];omega));rw [compact_sorted hn] at hco;have hz:∀j (h:j<(sorted win).length),0≤(sorted win)[j]∧(sorted win)[j]<cm.C:=fun j h=>hr _ ((sorted_mem _).1 (List.getElem_mem h))
 have hzl:=sorted_len win;have hcol:∀x:Int,0≤x∧x<cm.C→cm.col x=x:=fun x hx=>by
  unfold CmS.col;rw [if_pos (by omega),Int.emod_eq_of_lt hx.1 hx.2]
 replace hc:=HD hc;replace hz:=HD hz;replace hcol:=HD hcol;have hfrz:Hid (∀w' o',Fr (fun v=>v=[1]) w (newO (fun _=>[]) w [1]) w' o'→Below w.heap.size w w'):=HD (fun w' o' f=>f.to_below (Nat.le_refl _) (fun k hk e=>by rw [newO_old hk] at e;cases e));clear hv hn hr hPC hsh;rw [←hzl] at hl ⊢;generalize sorted win=zs at *;obtain⟨E,hE⟩:∃E,cm.P/cm.C=E:=⟨_,rfl⟩
 rw [hE] at hdiv ⊢;replace hE:=HD hE;have hEl:zs.length*E≤131072:=Nat.le_trans (Nat.mul_le_mul (show zs.length≤32 by omega) hdiv) (by decide);go_enter Tryz.func86,Tryz.ntmps86
 go_wp2_with fail;refine hcl.out.mono ?_;rintro e w1 ⟨v1,rfl,r1,hb1⟩;have f1:Fr (fun v=>v=[1]) w (newO (fun _=>[]) w [1]) w1 (newO (fun _=>[]) w [1]):=⟨(Only.of_below hb1).mono (fun k hk q=>absurd hk (by omega)),fun k hk=>rfl⟩
 have hso1:=HD (hso.out _ _ _ r1);replace f1:=HD f1;obtain⟨A1,c1,rfl,_⟩:=r1.ints;clear r1 hso hcl hb1;go_wp2_with fail;refine hso1.out.mono ?_;rintro e w2 ⟨rfl,r2,f2⟩;have hco2:=HD (hco.out _ _ _ r2);replace f2:=HD (f1.out.trans f2);clear r2 hco f1 hso1;go_wp2_with fail;refine hco2.out.mono ?_;rintro e w3 ⟨v3,rfl,r3,f3⟩;have hB3:=hfrz.out _ _ (f2.out.trans f3);obtain⟨A3,c3,rfl,hcs⟩:=r3.ints;replace hcs:=HD hcs;replace hB3:=HD hB3;clear r3 f3 f2 hco2 hfrz;go_wp2_with fail;go_loopg [6,16] zs.length (fun gh n i wx=>∃(j:Nat),j≤zs.length∧gh=zs.length-j∧i=.int .i64 j∧n=.int .i64 (j*E:Nat)∧Below w3.heap.size w3 wx)
 case atStart=>exact⟨0,Nat.zero_le _,rfl,rfl,by simp,Below.refl _ _⟩
 case round =>
  obtain⟨j,hj,rfl,rfl,rfl,hB⟩:=hrel;have hh:=hc.out.fr (S:=fun _=>False) (Fr.below (hB3.out.trans (hB.mono hB3.out.size))) off_no;by_cases hlt:j<zs.length
  ·have d8:decide ((j:Int)<(zs.length:Int))=true:=decide_eq_true (by omega)
   obtain⟨gw,ow,rfl,_,_,hcc⟩:=hcs.out (by omega);have c0:=keep_b hB (hcc j hlt);have hx:=hz.out j hlt;generalize zs[j]=x at *;have hi:=HD (cmColour c x wr hh);rw [hcol.out x hx] at hi;have hea:=HD (cmEach c wr hh);rw [hE.out] at hea;have dx:decide (x<0)=false:=decide_eq_false (by omega);have dx2:decide (0≤x)=true:=decide_eq_true (by omega);have hmul:(j+1)*E≤131072:=Nat.le_trans (Nat.mul_le_mul_right _ (by omega)) hEl;rw [Nat.add_mul,Nat.one_mul] at hmul;have u1:=IntWalk.i64_in (((j*E:Nat):Int)+(E:Int)) (by omega);replace hB:=HD hB;clear hh hx hcc;go_wp2_with fail;refine SM hi.out ?_;go_wp2_with fail;refine SM hea.out ?_;go_wp2_with fail;go_roundg (zs.length-(j+1))
   case measure=>omega
   case rel=>exact⟨j+1,by omega,rfl,by go_num,by rw [Nat.add_mul,Nat.one_mul];go_num,hB.out.drew⟩
  ·have d8:decide ((j:Int)<(zs.length:Int))=false:=decide_eq_false (by omega)
   have e:j=zs.length:=by omega
   subst e;replace hB:=HD hB;clear hh;go_wp2_with fail;go_ret
   exact⟨rfl,hB3.out.trans (hB.out.mono hB3.out.size)⟩
end
section
open Go.RowKit Flt
attribute [local irreducible] CpS.rv
def TnS.nextP(s:TnS)(q:Int):Int:=if s.ob=[] then q else max q s.pk
def TnS.fitsE(s:TnS)(q p:Int):Int:=if mayB q=false then 2 else if q<s.cb then 3 else if (mayB (s.nextP q)&&decide (demT (s.nextP q)≤p))=true then 0 else 8
section
variable{w w':World}{o o':Nat→Tag}{t u z:Tag}{b a c:Nat}{B:List UInt8}{m:Nat}{cm:CmS}{win:List Int}{tb:TbS}{s:TnS}
theorem tnNextR{y:TnX}{id:Int}{al:AlS}{cp:CpS}{qs:QS}(q:Int)(h:TnR w o t b a c y win tb id s.pk al cp qs (obM s.ob)) :
  Calls Tryz.prog 90 #[eP b,.int .i64 q] w fun e w'=>e=.returned (.int .i64 (s.nextP q))∧w'=w:=by
 have c7:=h.c7;have c6:=h.c6;obtain⟨es,clock,hb,hs⟩:=mp_len h.ob;have hlen:∀w' ty,w'=w→(Builtin.len_ #[131] ty #[.map (some y.go)]).run Tryz.prog w'=.ok (.int .i64 s.ob.length) w:=by
  intro w' ty e;subst e;rw [obM_len] at hs;simp [Builtin.len_,run_getObj_map _ _ _ _ hb,hs,goInt]
 unfold TnS.nextP;by_cases c0:s.ob=[]
 ·rw [if_pos c0]
  have d0:((s.ob.length:Int)==0)=true:=by rw [c0];rfl
  clear h hb hs c0;generalize (s.ob.length:Int)=l at *;go_enter Tryz.func90,Tryz.ntmps90
  go_wp2_with fail;go_ret
  exact⟨rfl,rfl⟩
 ·rw [if_neg c0]
  have d0:((s.ob.length:Int)==0)=false:=by
   have:0<s.ob.length:=List.length_pos_iff.2 c0;simp;omega
  clear h hb hs c0;generalize (s.ob.length:Int)=l at *;go_enter Tryz.func90,Tryz.ntmps90
  go_wp2_with fail;go_ret
  exact⟨rfl,rfl⟩
theorem tnNext(q:Int)(h:TnAt w o t u z b a c B m cm win tb s) :
  Calls Tryz.prog 90 #[eP b,.int .i64 q] w fun e w'=>e=.returned (.int .i64 (s.nextP q))∧w'=w:=by
 obtain⟨y,h⟩:=h;exact tnNextR q h.tn
theorem tnChargedA(h:TnAt w o t u z b a c B m cm win tb s)(ok:TnOk B cm win tb s):Calls Tryz.prog 40 #[eP b] w fun e w'=>e=.returned (.int .i64 s.cb)∧w'=w:=by
 obtain⟨y,h⟩:=h;exact tnCharged h.tn ok.wf
theorem tnQuotaA(h:TnAt w o t u z b a c B m cm win tb s)(ok:TnOk B cm win tb s):Calls Tryz.prog 41 #[eP b] w fun e w'=>e=.returned (.int .i64 s.qb)∧w'=w:=by
 obtain⟨y,h⟩:=h;exact tnQuota h.tn ok.wf
theorem tnSerialA(h:TnAt w o t u z b a c B m cm win tb s):Calls Tryz.prog 57 #[eP b] w fun e w'=>e=.returned (.int .i64 s.cp.next)∧w'=w:=by
 obtain⟨y,h⟩:=h;exact tnSerial h.tn
theorem tnFits(q p:Int)(h:TnAt w o t u z b a c B m cm win tb s)(ok:TnOk B cm win tb s) :
  Calls Tryz.prog 53 #[eP b,.int .i64 q,.int .i64 p] w fun e w'=>e=.returned (.int .i64 (s.fitsE q p))∧w'=w:=by
 unfold TnS.fitsE;cases hm:mayB q with
 |false =>
  rw [if_pos rfl];have hd:=HD (demOf_no q w hm);clear h ok hm;go_enter Tryz.func53,Tryz.ntmps53
  go_wp2_with fail;refine SM hd.out ?_;go_wp2_with fail;go_ret
  exact⟨rfl,rfl⟩
 |true =>
  rw [if_neg (by decide)];have hd:=HD (demOf_yes q w hm);have hc:=HD (tnChargedA h ok);have hn:=HD (tnNext q h);have hf:=HD (demFits_any (s.nextP q) p w);generalize s.nextP q=nx at *;generalize s.cb=cb at *;clear h ok hm;by_cases c1:q<cb
  ·rw [if_pos c1]
   have d1:decide (q<cb)=true:=decide_eq_true c1;generalize F (demT q)=fd at *;generalize F q=fq at *;clear c1;go_enter Tryz.func53,Tryz.ntmps53
   go_wp2_with fail;refine SM hd.out ?_;go_wp2_with fail;refine SM hc.out ?_;go_wp2_with fail;go_ret
   exact⟨rfl,rfl⟩
  ·rw [if_neg c1]
   have d1:decide (q<cb)=false:=decide_eq_false c1;generalize F (demT q)=fd at *;generalize F q=fq at *;clear c1;cases hb:(mayB nx&&decide (demT nx≤p)) with
   |true =>
    rw [if_pos rfl];rw [hb] at hf;clear hb;go_enter Tryz.func53,Tryz.ntmps53
    go_wp2_with fail;refine SM hd.out ?_;go_wp2_with fail;refine SM hc.out ?_;go_wp2_with fail;refine SM hn.out ?_;go_wp2_with fail;refine SM hf.out ?_;go_wp2_with fail;go_ret
    exact⟨rfl,rfl⟩
   |false =>
    rw [if_neg (by decide)];rw [hb] at hf;clear hb;go_enter Tryz.func53,Tryz.ntmps53
    go_wp2_with fail;refine SM hd.out ?_;go_wp2_with fail;refine SM hc.out ?_;go_wp2_with fail;refine SM hn.out ?_;go_wp2_with fail;refine SM hf.out ?_;go_wp2_with fail;go_ret
    exact⟨rfl,rfl⟩
end
end
section
open Go.RowKit Flt
attribute [local irreducible] CpS.rv
section
variable{B B':List UInt8}{cm cm':CmS}{win W:List Int}{tb tb':TbS}{al:AlS}{s:TnS}
theorem Keep.free(K:Keep W B cm B' cm')(p:Nat)(h:((p%cm.C:Nat):Int)∉W):cm'.free p=cm.free p:=by
 unfold CmS.free;rw [K.C,K.sh _ h]
theorem HpOk.other(h:HpOk B cm win tb al)(K:Keep W B cm B' cm')(hd:∀x∈win,x∉W)(ok':cm'.ok)(z':FreeZ B' cm') :
  HpOk B' cm' win tb al∧∀x q,mGet tb.pg (x/512)=some q→lb tb B' x=lb tb B x:=by
 have hby:∀v q,mGet tb.pg v=some q→∀i,i<512→byt B' (q.toNat*512+i)=byt B (q.toNat*512+i):=fun v q hq i hi=>by
  obtain⟨r1,r2,r3,r4⟩:=h.ton.rng v q hq;exact K.by_ q.toNat (by omega) (hd _ r3) i hi
 refine⟨⟨h.al,ok',by rw [K.len,K.P];exact h.len,⟨h.ton.rise,h.ton.inv,fun v p hp=>?_,⟨h.ton.wok.1,fun x hx=>by rw [K.C];exact h.ton.wok.2 x hx⟩,fun c hc=>?_⟩,h.dom,h.cnt,z',fun v p q hp hq=>?_⟩,fun x q hq=>?_⟩
 ·obtain⟨r1,r2,r3,r4⟩:=h.ton.rng v p hp
  refine⟨r1,by rw [K.P];exact r2,by rw [K.C];exact r3,?_⟩;rw [K.free _ (hd _ r3)];exact r4
 ·rw [K.sh c (hd _ hc),K.P,K.C]
  exact h.ton.cov c hc
 ·have hz:=h.c v p q hp hq
  have hok:=(h.al.pg v p hp).2.2.2.1;intro k hk hf i hi;have hb:=blk_at hok hk;have:=hby v q hq (k*p.unit.toNat+i) (by omega);rw [←Nat.add_assoc] at this;rw [this];exact hz k hk hf i hi
 ·rw [lb_loc,lb_loc,loc_some hq]
  exact hby _ q hq _ (by omega)
theorem TnOk.other(h:TnOk B cm win tb s)(K:Keep W B cm B' cm')(hd:∀x∈win,x∉W)(ok':cm'.ok)(z':FreeZ B' cm'):TnOk B' cm' win tb s:=by
 obtain⟨h1,h2⟩:=h.hp.other K hd ok' z';refine⟨h1,h.used,h.dem,h.wl,by rw [K.P,K.C];exact h.room,h.quo,h.may,h.cost,h.sum,⟨h.ob.rise,fun a d q=>?_⟩,h.cp⟩;obtain⟨k,sl,j,e,hh,g1,g2,g3⟩:=h.ob.at_ a d q;refine⟨k,sl,j,e,hh,g1,g2,fun i hi=>?_⟩;obtain⟨p,hp⟩:=had_loc h.hp hh (i:=(i:Int)) (by omega) hi;rw [e,h2 _ p hp,←e];exact g3 i hi
def TnS.new(id serial q:Int)(wl:Nat):TnS:=⟨CpS.new id serial,q,0,q,wl,[],AlS.new⟩
theorem TnOk.new{id serial q:Int}(hid:0≤id∧id≤7)(hs:1≤serial∧serial≤17592186044416)(hq:mayB q=true)(hr:demT q≤(win.length*(cm.P/cm.C):Nat))(h:HpOk B cm win ⟨[],[]⟩ AlS.new):TnOk B cm win ⟨[],[]⟩ (TnS.new id serial q win.length):=by
 have hm:=may_iff.1 hq;refine⟨h,new_used,⟨hq,fun c hc=>?_,?_⟩,rfl,hr,⟨by show (0:Int)≤q;omega,Int.le_refl _⟩,hq,?_,rfl,⟨List.Pairwise.nil,fun a d hg=>by cases hg⟩,CpR.new hid hs⟩
 ·show (((ShS.new _).tkn:Nat):Int)≤byT c q
  rw [tkn_new];have:=by_bound c q;omega
 ·show ((AlS.new.cost:Nat):Int)≤q
  rw [cost_new];omega
 ·show (0:Int)=((AlS.new.cost:Nat):Int)
  rw [cost_new];rfl
theorem TnOk.none(h:TnOk B cm win tb s)(h0:s.ob=[]):∀c:Nat,c<8→(s.al.sl c).tkn=0:=by
 have h1:=h.sum;rw [h0] at h1;have h2:=h.cost;rw [←h1] at h2;have h3:smcost s.al.sm=0:=by
  have:s.al.cost=0:=by
   have e:obsum ([]:List (Int×List UInt8))=0:=rfl;omega
  unfold AlS.cost at this;omega
 have hsm:s.al.sm=[]:=by
  cases e:s.al.sm with
  |nil=>rfl
  |cons y M =>
   exfalso
   have hg:mGet s.al.sm y.1=some y.2:=mGet_of h.hp.al.rise (by rw [e];exact List.mem_cons_self);have hu:=h.used _ _ hg;have hpa:=(h.hp.al.pg _ _ hg).2.2.2.1;have hun:=hpa.unit;rw [e] at h3;unfold smcost at h3;simp only [List.map_cons,List.sum_cons] at h3;have h4:y.2.had.tkn*y.2.unit.toNat=0:=by omega
   rcases Nat.mul_eq_zero.1 h4 with h5|h5
   ·unfold ShS.tkn at h5;omega
   ·omega
 intro c hc;rw [h.hp.al.cnt c hc,hsm];rfl
def TnS.resized(s:TnS)(q:Int)(wl:Nat):TnS:={s with qb:=q,pk:=s.nextP q,wl:=wl}
theorem TnOk.demNext(h:TnOk B cm win tb s){q:Int}(hq:mayB q=true)(hc:s.cb≤q):Dem s.al (s.nextP q):=by
 have hm:=may_iff.1 hq;have hp:=may_iff.1 h.dem.may;have h2:=h.cost;unfold TnS.nextP;by_cases c:s.ob=[]
 ·rw [if_pos c]
  refine⟨hq,fun d hd=>?_,by omega⟩;rw [h.none c d hd];have:=by_bound d q;omega
 ·rw [if_neg c]
  have hmx:mayB (max q s.pk)=true:=may_iff.2 (by omega);refine⟨hmx,fun d hd=>?_,by omega⟩;have h3:=h.dem.small d hd;have h4:=by_mono (c:=(d:Int)) (by omega) (by omega) h.dem.may hmx (by omega);omega
theorem fits_ok{q p:Int}(h:s.fitsE q p=0):mayB q=true∧s.cb≤q∧mayB (s.nextP q)=true∧demT (s.nextP q)≤p:=by
 unfold TnS.fitsE at h;cases c:mayB q with
 |false=>rw [c,if_pos rfl] at h;cases h
 |true =>
  rw [c,if_neg (by decide)] at h;by_cases c1:q<s.cb
  ·rw [if_pos c1] at h;cases h
  ·rw [if_neg c1] at h
   cases c2:(mayB (s.nextP q)&&decide (demT (s.nextP q)≤p)) with
   |false=>rw [c2,if_neg (by decide)] at h;cases h
   |true =>
    rw [Bool.and_eq_true,decide_eq_true_eq] at c2;exact⟨rfl,by omega,c2.1,c2.2⟩
theorem TnOk.mvPre(h:TnOk B cm win tb s){q:Int}{U:List Int}(hf:s.fitsE q (W.length*(cm.P/cm.C):Nat)=0)(hU:TbOk cm U tb)(hW:∀x∈W,x∈U)(hn:W.Nodup):MvPre B cm win U W tb s.al:=by
 obtain⟨f1,f2,f3,f4⟩:=fits_ok hf;have h1:=(h.demNext f1 f2).pages;refine⟨h.hp,hU,hW,hn,?_⟩;rw [h.hp.cnt];omega
theorem TnOk.resized(h:TnOk B cm win tb s){q:Int}(hP:cm'.P=cm.P)(hC:cm'.C=cm.C)(hf:s.fitsE q (W.length*(cm.P/cm.C):Nat)=0)(hp:HpOk B' cm' W tb' s.al)(hl:∀c s1 k,Had s.al c s1 k→∀i,0≤i→i<unitT c→lb tb' B' (posT c s1 k+i)=lb tb B (posT c s1 k+i)) :
  TnOk B' cm' W tb' (s.resized q W.length):=by
 obtain⟨f1,f2,f3,f4⟩:=fits_ok hf;refine⟨hp,h.used,h.demNext f1 f2,rfl,by rw [hP,hC];exact f4,⟨f2,?_⟩,f1,h.cost,h.sum,⟨h.ob.rise,fun a d g=>?_⟩,h.cp⟩
 ·show q≤s.nextP q
  unfold TnS.nextP
  split<;>omega
 ·obtain⟨k,sl,j,e,hh,g1,g2,g3⟩:=h.ob.at_ a d g
  refine⟨k,sl,j,e,hh,g1,g2,fun i hi=>?_⟩;rw [e,hl k sl j hh i (by omega) hi,←e];exact g3 i hi
end
end
section
open Go.RowKit Flt
attribute [local irreducible] CpS.rv
section
variable{w w':World}{o o':Nat→Tag}{t u z:Tag}{b a c:Nat}{B:List UInt8}{m:Nat}{cm:CmS}{win:List Int}{tb:TbS}{s:TnS}
def DropPost(w:World)(o:Nat→Tag)(t u z:Tag)(a c:Nat)(B:List UInt8)(m:Nat)(cm:CmS)(win:List Int)(w':World):Prop :=
 ∃o' B' cm',CmAt w' o' u c cm'∧ArAt w' o' z a B' m∧HpOk B' cm' win ⟨[],[]⟩ AlS.new∧Keep win B cm B' cm'∧Fr (S3 t u z) w o w' o'
set_option maxHeartbeats 1000000 in
theorem tnDrop(h:TnAt w o t u z b a c B m cm win tb s)(ok:TnOk B cm win tb s)(ap:Ap3 t u z)(hT:Tab w o)(hm:m≤700000) :
  Calls Tryz.prog 58 #[eP b] w fun e w'=>e=.returned (.tuple #[])∧DropPost w o t u z a c B (m+7000) cm win w':=by
 have hmk:∀w,(Instr.makeMap 131 none).run Tryz.prog w=.ok (.map (some w.heap.size)) (w.alloc (.map #[] 0)):=fun w=>run_makeMap _ w
 have hq:=ok.wf;have htn:=ok.cp.ok.tenant;have hnx:=ok.cp.ok.next;have hall:=HD (show ∃bh bc bq go,w.cell? ⟨b,2,none⟩=some (eP bh)∧Calls Tryz.prog 95 #[eP bh] w (fun e w1=>e=.returned (.tuple #[])∧w1.drew.cell? ⟨b,4,none⟩=some (eP bq) ∧
   Calls Tryz.prog 69 #[eP bq] w1.drew (fun e w2=>e=.returned (.complex .f64 (F s.cb) (F tb.pg.length))∧w2=w1.drew) ∧
   Calls Tryz.prog 96 #[eP bq,.complex .f64 (F s.cb) (F tb.pg.length)] w1.drew (fun e w2=>e=.returned (.int .i64 0)∧w2.cell? ⟨b,4,none⟩=some (eP bq)∧(w2.drew.cell? ⟨b,5,none⟩=some (.int .i64 s.cp.tenant)∧w2.drew.cell? ⟨b,3,none⟩=some (eP bc)) ∧
    Calls Tryz.prog 94 #[eP bc] w2.drew (fun e w3=>e=.returned (.int .i64 s.cp.next)∧w3=w2.drew) ∧
    Calls Tryz.prog 85 #[.int .i64 s.cp.tenant,.int .i64 s.cp.next] w2.drew (fun e w3=>∃bn,e=.returned (.tuple #[eP bn,.int .i64 0])∧(w3.cell? ⟨b,5,none⟩=some (.int .i64 s.cp.tenant)∧w3.cell? ⟨b,3,none⟩=some (eP bc))∧w3.frozen? ⟨b,3,none⟩=false ∧
     (((w3.setCell ⟨b,3,none⟩ (eP bn)).alloc (.map #[] 0)).frozen? ⟨b,7,none⟩=false∧((w3.setCell ⟨b,3,none⟩ (eP bn)).alloc (.map #[] 0)).cell? ⟨b,7,none⟩=some (.map (some go))) ∧
     DropPost w o t u z a c B (m+7000) cm win (((w3.setCell ⟨b,3,none⟩ (eP bn)).alloc (.map #[] 0)).setCell ⟨b,7,none⟩ (.map (some w3.heap.size)))))) from by
  obtain⟨y,h⟩:=h;refine⟨y.bh,y.bc,y.bq,y.go,h.tn.c2,(hpDrop y.bh a c w h.hw (ap.sub [0]) (by omega) ok.hp).mono ?_⟩;rintro e w1 ⟨rfl,x1,o1,B1,cm1,g1,p1,K1,f1⟩;have h1:TnR w1 o1 t b a c ⟨x1,y.bh,y.bc,y.bq,y.go⟩ win ⟨[],[]⟩ s.cp.tenant s.pk AlS.new s.cp ⟨s.qb,((win.length*(cm.P/cm.C):Nat):Int),s.cb,(tb.pg.length:Int),0,0⟩ (obM s.ob) :=
   h.tn.inHp ap.tu.t9 f1 (s3_self ap 0) (off_s3_one ap (by decide)) (off_s3_one ap (by decide)) (off_s3_one ap (by decide)) g1.hp
  have h1d:=h1.fr (S:=fun _=>False) (Fr.drew (o:=o1)) off_no;refine⟨rfl,h1d.c4,charged_any y.bq _ w1.drew h1d.qa,?_⟩;have s5:=refund_yes y.bq _ s.cb tb.pg.length w1.drew hq (QS.ok hq).2.1 h1d.qa;rw [show QS.refE ⟨s.qb,((win.length*(cm.P/cm.C):Nat):Int),s.cb,(tb.pg.length:Int),0,0⟩ s.cb tb.pg.length=0 from if_pos ⟨Int.le_refl _,Int.le_refl _⟩] at s5;refine s5.mono ?_;rintro e w2 ⟨rfl,q5,f5⟩;have h2:=h1d.inQ ap.tu.t9 f5 q5;have f2:=h1d.frQ f5;have h2d:=h2.fr (S:=fun _=>False) (Fr.drew (o:=o1)) off_no;have fW:Fr (S3 t u z) w o w2.drew o1:=((fr_hp f1).trans (Fr.drew (o:=o1))).trans ((f2.mono fun v q=>.inl q.up).trans (Fr.drew (o:=o1)));have hT2:Tab w2.drew o1:=hT.fr fW (s3_nine ap);refine⟨rfl,h2.c4,⟨h2d.c5,h2d.c3⟩,cpSerial y.bc w2.drew h2d.cp,?_⟩;refine(cpNew s.cp.tenant s.cp.next w2.drew (t:=t++[1]) hT2 htn hnx).mono ?_;rintro e w3 ⟨bn,o3,rfl,g3,f3⟩;have h3:=h2d.fr f3 off_no;have fr3:=h3.blk.free 3;have fr7:=(((h3.blk.set 3 (eP bn)).alloc (.map #[] 0)).free 7)
  have c7:=(((h3.blk.set 3 (eP bn)).alloc (.map #[] 0)).cell' (i:=7) rfl)
  refine⟨bn,rfl,⟨h3.c5,h3.c3⟩,fr3,⟨fr7,c7⟩,o3,B1,cm1,?_⟩;have ho3:o3 b=t:=h3.blk.1;have fS:Fr (fun v=>v=t) w3 o3 (((w3.setCell ⟨b,3,none⟩ (eP bn)).alloc (.map #[] 0)).setCell ⟨b,7,none⟩ (.map (some w3.heap.size))) o3 :=
   ((Fr.setCell (w:=w3) (o:=o3) (p:=⟨b,3,none⟩) (fun _=>ho3) _).trans (Fr.alloc' _)).set' (p:=⟨b,7,none⟩) (fun _=>ho3) _
  have hu:Off (fun v=>v=t) u:=⟨fun x hx e=>ap.tu.off.1 x hx (by rw [e];exact Und.self t),fun e=>ap.tu.off.2 (by rw [e];exact Und.self t)⟩
  have hz:Off (fun v=>v=t) z:=⟨fun x hx e=>ap.tz.off.1 x hx (by rw [e];exact Und.self t),fun e=>ap.tz.off.2 (by rw [e];exact Und.self t)⟩
  have fq:Fr (fun v=>Und (t++[2]) v) w1 o1 w2.drew o1:=(Fr.drew (o:=o1)).trans (f2.trans (Fr.drew (o:=o1)));refine⟨(((g1.cma.fr fq (ap.tu.sub [2]).off).fr f3 off_no).fr fS hu),(((g1.ar.fr fq (ap.tz.sub [2]).off).fr f3 off_no).fr fS hz).mono (by omega),p1,K1,(fW.trans (f3.mono fun v q=>q.elim)).trans (fS.mono fun v q=>by rw [q];exact .inl (Und.self t))⟩)
 obtain⟨bh,bc,bq,go,c2,hdr⟩:=hall.out;replace hdr:=HD hdr;clear h ok hT hq htn hnx hall;generalize F s.cb=fa at *;generalize F (tb.pg.length:Int)=fb at *;go_enter Tryz.func58,Tryz.ntmps58
 go_wp2_with fail;refine hdr.out.mono ?_;rintro e w1 ⟨rfl,hcc,hch,hre⟩;replace hch:=HD hch;replace hre:=HD hre;clear hdr c2;go_wp2_with fail;refine wp_region_noPanic ?_;refine wp_region_held_drew (S:=(fun W'=>W'.cell? ⟨b,4,none⟩=some (eP bq))) (by kernel_rfl) ?_ (fun hHeld=>?_)
 ·(first|exact hcc|exact hcs)
 refine tkH 0 (h:=?_);refine tkH 1 (h:=?_);refine tkH 2 (h:=?_);refine tkH 3 (h:=?_);refine tkH 4 (h:=?_);refine tkH 5 (h:=?_);refine tkH 6 (h:=?_);refine tkH 7 (h:=?_);refine onH 8 (h:=fun K hK=>?_);go_simp;refine SM hch.out ?_;go_wp2_with fail;refine hK.out _ _ ?_ (fun hHeld=>?_)
 ·(first|exact hcc|exact hcs)
 clear hK;refine nmH (h:=?_);refine onH 9 (h:=fun K hK=>?_);go_simp;refine hre.out.mono ?_;rintro e w2 ⟨rfl,hcs,hc2,hse,hne⟩;replace hse:=HD hse;replace hne:=HD hne;go_wp2_with fail;refine hK.out _ _ ?_ (fun hHeld=>?_)
 ·(first|exact hcc|exact hcs)
 clear hK;refine nmH (h:=?_);refine wpAnyH_done (by kernel_rfl) ?_ _;refine NoPanic.normal ?_;go_wp2_with fail;refine wp_region_noPanic ?_;refine wp_region_T (S:=(fun W'=>W'.cell? ⟨b,5,none⟩=some (.int .i64 s.cp.tenant)∧W'.cell? ⟨b,3,none⟩=some (eP bc))) 16 (by kernel_rfl) ?_ (fun hHeld=>?_)
 ·(first|exact hc2|exact hc3)
 refine tkY 0 (h:=?_);refine tkY 1 (h:=?_);refine tkY 2 (h:=?_);refine tkY 3 (h:=?_);refine tkT 4 (h:=?_);refine tkY 5 (h:=?_);refine tkY 6 (h:=?_);refine tkY 7 (h:=?_);refine tkT 8 (h:=?_);refine onT 9 (h:=fun K hK=>?_);go_simp;refine SM hse.out ?_;go_wp2_with fail;refine hK.out _ _ ?_ (fun hHeld=>?_)
 ·(first|exact hc2|exact hc3)
 clear hK;refine nmT (h:=?_);refine onT 10 (h:=fun K hK=>?_);go_simp;refine hne.out.mono ?_;rintro e w3 ⟨bn,rfl,hc3,z1,⟨z3,z4⟩,hfin⟩;replace hfin:=HD hfin;go_wp2_with fail;refine hK.out _ _ ?_ (fun hHeld=>?_)
 ·(first|exact hc2|exact hc3)
 clear hK;refine nmT (h:=?_);refine tkY 11 (h:=?_);refine tkY 12 (h:=?_);refine tkY 13 (h:=?_);refine tkY 14 (h:=?_);refine tkY 15 (h:=?_);refine laT (h:=fun K hK=>?_);go_simp;refine hK.out _ _ ?_;clear hK;refine NoPanic.normal ?_;go_wp2_with fail;exact bodyPost_end (results_none (by kernel_rfl) _ _ _) rfl ⟨rfl,hfin.out⟩
end
end
end Go.Proofs.YtfliaggjkianpaaGreatDoor
