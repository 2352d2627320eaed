import Derived.Test.YtfliaggjkianpaaGreatDoorK00
import Derived.Test.YtfliaggjkianpaaGreatDoorK25
import Derived.Test.YtfliaggjkianpaaGreatDoorK03
set_option linter.unusedVariables false
set_option linter.unusedSimpArgs false
set_option maxRecDepth 100000
namespace Go.Proofs.YtfliaggjkianpaaGreatDoor
section
open Go.RowKit Flt
attribute [local irreducible] CpS.rv
def TnS.calloc(s:TnS)(k n:Int):Ans×TnS :=
 if 1≤k∧1≤n∧k≤(8192:Int).tdiv n then s.malloc (k*n) else (⟨2,0,0,0,ByteArray.empty,s.cb⟩,s)
section
variable{w w':World}{o o':Nat→Tag}{t u z:Tag}{b a c:Nat}{B:List UInt8}{m:Nat}{cm:CmS}{win:List Int}{tb:TbS}{s:TnS}
set_option maxHeartbeats 1000000 in
theorem tnCalloc(k n:Int)(h:TnAt w o t u z b a c B m cm win tb s)(ok:TnOk B cm win tb s)(ap:Ap3 t u z)(h7:T7 t u z)(hm:m≤900000)(hx:s.cp.next<17592186044416) :
  Calls Tryz.prog 61 #[eP b,.int .i64 k,.int .i64 n] w fun e w'=>e=.returned (ansV (s.calloc k n).1)∧TnGo w o t u z b a c B (m+2) cm win (s.calloc k n).2 w':=by
 have h1:=h.made (.cells (ansC ans0) 47);unfold TnS.calloc;by_cases hc:1≤k∧1≤n∧k≤(8192:Int).tdiv n
 ·rw [if_pos hc]
  have hg:=HD (tnMalloc (k*n) h1 ok ap h7 hm hx);have hmul:0≤k*n∧k*n≤8192:=by
   obtain⟨c1,c2,c3⟩:=hc;rw [Int.tdiv_eq_ediv_of_nonneg (by omega)] at c3;have:=Int.mul_le_mul_of_nonneg_right c3 (show (0:Int)≤n by omega);have h2:=Int.ediv_mul_le 8192 (b:=n) (by omega);exact⟨Int.mul_nonneg (by omega) (by omega),by omega⟩
  have u1:=IntWalk.i64_in (k*n) (by omega);generalize s.malloc (k*n)=r at *;obtain⟨⟨re,rh,ra,rn,rd,rc⟩,s'⟩:=r;simp only at hg ⊢;have hrow:=HD (fun w1 (q:TnGo (w.alloc (.cells (ansC ans0) 47)) (setO o w.heap.size [7]) t u z b a c B (m+2) cm win s' w1)=>(q.row h7 ⟨re,rh,ra,rn,rd,rc⟩));have d1:decide (k<1)=false:=decide_eq_false (by omega);have d2:decide (n<1)=false:=decide_eq_false (by omega);have d3:(n==0)=false:=by simp;omega
  have d5:¬n=0:=by omega
  have hq:=IntWalk.i64_in ((8192:Int).tdiv n) (by
   rw [Int.tdiv_eq_ediv_of_nonneg (by omega)];have:=Int.ediv_nonneg (a:=8192) (b:=n) (by omega) (by omega);have:=Int.ediv_le_self (a:=8192) n (by omega);omega)
  have d4:decide ((8192:Int).tdiv n<k)=false:=decide_eq_false (by omega);clear h h1 ok hm hx hc hmul;go_enter Tryz.func61,Tryz.ntmps61
  go_wp2_with fail;refine hg.out.mono ?_;rintro e w1 ⟨rfl,g1⟩;obtain⟨qB,gE⟩:=hrow.out w1 g1;obtain⟨l0,l1,l2,l3,l4,l5,g0,g1,g2,g3,g4,g5⟩:=qB.cells;replace qB:=HD qB;clear hg hrow;simp only [ansV];go_wp2_with fail;refine bodyPost_ret (v:=ansV ⟨re,rh,ra,rn,rd,rc⟩) ?_ rfl ⟨rfl,gE⟩;exact ans_results_at 6 (by kernel_rfl) _ _ _ rfl (qB.out.store ⟨re,rh,ra,rn,rd,rc⟩)
 ·rw [if_neg hc]
  simp only;have hgo:=HD (show TnGo (w.alloc (.cells (ansC ans0) 47)) (setO o w.heap.size [7]) t u z b a c B (m+2) cm win s (w.alloc (.cells (ansC ans0) 47)) from(h1.mono (by omega)).go ok);have hfa:=HD (fun w1 (q:TnGo (w.alloc (.cells (ansC ans0) 47)) (setO o w.heap.size [7]) t u z b a c B (m+2) cm win s w1)=>q.fail 2);have hrow:=HD (fun w1 (q:TnGo (w.alloc (.cells (ansC ans0) 47)) (setO o w.heap.size [7]) t u z b a c B (m+2) cm win s w1)=>(q.row h7 ⟨2,0,0,0,ByteArray.empty,s.cb⟩));clear h h1 ok hm hx;by_cases c1:k<1
  ·have d1:decide (k<1)=true:=decide_eq_true c1
   clear hc c1;go_enter Tryz.func61,Tryz.ntmps61
   go_wp2_with fail;refine(hfa.out _ hgo.out).mono ?_;rintro e w3 ⟨rfl,g3⟩;obtain⟨qB,gE⟩:=hrow.out w3 g3;obtain⟨l0,l1,l2,l3,l4,l5,g0,g1,g2,g3,g4,g5⟩:=qB.cells;replace qB:=HD qB;clear hfa hrow hgo;simp only [ansV];go_wp2_with fail;refine bodyPost_ret (v:=ansV ⟨2,0,0,0,ByteArray.empty,s.cb⟩) ?_ rfl ⟨rfl,gE⟩;exact ans_results_at 6 (by kernel_rfl) _ _ _ rfl (qB.out.store ⟨2,0,0,0,ByteArray.empty,s.cb⟩)
  by_cases c2:n<1
  ·have d1:decide (k<1)=false:=decide_eq_false c1
   have d2:decide (n<1)=true:=decide_eq_true c2;clear hc c1 c2;go_enter Tryz.func61,Tryz.ntmps61
   go_wp2_with fail;refine(hfa.out _ hgo.out).mono ?_;rintro e w3 ⟨rfl,g3⟩;obtain⟨qB,gE⟩:=hrow.out w3 g3;obtain⟨l0,l1,l2,l3,l4,l5,g0,g1,g2,g3,g4,g5⟩:=qB.cells;replace qB:=HD qB;clear hfa hrow hgo;simp only [ansV];go_wp2_with fail;refine bodyPost_ret (v:=ansV ⟨2,0,0,0,ByteArray.empty,s.cb⟩) ?_ rfl ⟨rfl,gE⟩;exact ans_results_at 6 (by kernel_rfl) _ _ _ rfl (qB.out.store ⟨2,0,0,0,ByteArray.empty,s.cb⟩)
  have c3:(8192:Int).tdiv n<k:=by omega
  have d1:decide (k<1)=false:=decide_eq_false c1;have d2:decide (n<1)=false:=decide_eq_false c2;have d3:(n==0)=false:=by simp;omega
  have d5:¬n=0:=by omega
  have hq:=IntWalk.i64_in ((8192:Int).tdiv n) (by
   rw [Int.tdiv_eq_ediv_of_nonneg (by omega)];have:=Int.ediv_nonneg (a:=8192) (b:=n) (by omega) (by omega);have:=Int.ediv_le_self (a:=8192) n (by omega);omega)
  have d4:decide ((8192:Int).tdiv n<k)=true:=decide_eq_true c3;clear hc c1 c2 c3;go_enter Tryz.func61,Tryz.ntmps61
  go_wp2_with fail;refine(hfa.out _ hgo.out).mono ?_;rintro e w3 ⟨rfl,g3⟩;obtain⟨qB,gE⟩:=hrow.out w3 g3;obtain⟨l0,l1,l2,l3,l4,l5,g0,g1,g2,g3,g4,g5⟩:=qB.cells;replace qB:=HD qB;clear hfa hrow hgo;simp only [ansV];go_wp2_with fail;refine bodyPost_ret (v:=ansV ⟨2,0,0,0,ByteArray.empty,s.cb⟩) ?_ rfl ⟨rfl,gE⟩;exact ans_results_at 6 (by kernel_rfl) _ _ _ rfl (qB.out.store ⟨2,0,0,0,ByteArray.empty,s.cb⟩)
end
end
section
open Go.RowKit Flt
theorem loc_some{pg:List (Int×Int)}{x q:Int}(h:mGet pg (x/512)=some q):loc pg x=q.toNat*512+(x%512).toNat:=by unfold loc;rw [lookV_some h]
structure WrL(tb:TbS)(B:List UInt8)(a n:Int)(g:Nat→UInt8)(B':List UInt8):Prop where
 len:B'.length=B.length
 in_:∀i:Nat,(i:Int)<n→lb tb B' (a+i)=g i
 out:∀p:Nat,(∀i:Nat,(i:Int)<n→p≠loc tb.pg (a+i))→byt B' p=byt B p
theorem WrL.of{tb:TbS}{B B':List UInt8}{L:Nat}{a n:Int}{T:List (Int×Int)}{g:Nat→UInt8}(hp:PcT tb.pg L a n T)(h:WrI B T g T.length B'):WrL tb B a n g B':=by
 have hl:=hp.lo;have h1:=h.in_;have h2:=h.out;rw [List.take_length] at h1 h2;refine⟨h.len,fun i hi=>?_,fun p hq=>h2 p fun hm=>?_⟩
 ·have hk:i<(locs T).length:=by rw [hl,List.length_map,List.length_range];omega
  have:=h1 i hk;have e:(locs T)[i]=loc tb.pg (a+i):=by simp [hl]
  rw [e] at this;rw [lb_loc];exact this
 ·rw [hl] at hm
  obtain⟨i,hi,e⟩:=List.mem_map.1 hm;have:=List.mem_range.1 hi;exact hq i (by omega) e.symm
section
variable{B B':List UInt8}{cm:CmS}{win:List Int}{tb:TbS}{al:AlS}{k s j:Nat}{f n:Int}{g:Nat→UInt8}
theorem loc_inj(h:HpOk B cm win tb al){x y p q:Int}(hx:mGet tb.pg (x/512)=some p)(hy:mGet tb.pg (y/512)=some q)(e:loc tb.pg x=loc tb.pg y):x=y:=by
 rw [loc_some hx,loc_some hy] at e;by_cases c:x/512=y/512
 ·rw [c,hy] at hx
  obtain rfl:=Option.some.inj hx;omega
 ·have:=pg_sep h hx hy c
  omega
theorem had_loc(h:HpOk B cm win tb al)(hh:Had al k s j){i:Int}(i0:0≤i)(i1:i<unitT k):∃q,mGet tb.pg ((posT k s j+i)/512)=some q:=had_mapped h hh (blk_page hh.1 i0 i1)
theorem had_view(h:HpOk B cm win tb al)(hh:Had al k s j)(f0:0≤f)(n0:0≤n)(fn:f+n≤unitT k):∃T,VwPre tb B (posT k s j+f) n T∧(locs T).Nodup:=by
 have hpb:=find_pos hh.1;have hk:=hh.there.1;have hu:=kind_facts (c:=(k:Int)) (by omega) (by omega);have hpz:=pos_bounds hh.1;have hpg:∀i:Int,0≤i→i<n→∃q,mGet tb.pg ((posT k s j+f+i)/512)=some q∧0≤q∧q<cm.P:=fun i i0 i1=>by
  obtain⟨q,hq⟩:=had_loc h hh (i:=f+i) (by omega) (by omega);rw [←Int.add_assoc] at hq;exact⟨q,hq,(h.ton.rng _ q hq).2.1⟩
 obtain⟨T,h1,h2⟩:=pcL_ok n.toNat (posT k s j+f) n (Nat.le_refl _) (by omega) n0 hpg;rw [←h.len] at h2;refine⟨T,⟨inside_iff.2 ?_,h1,h2,fun p hp=>?_,by omega⟩,?_⟩
 ·obtain⟨a1,a2,_⟩:=hpb
  refine⟨n0,by omega,?_,?_⟩
  ·omega
  ·omega
 ·have:=(h.ton.rng p.1 p.2 (mGet_of h.ton.rise.1 hp)).2.1
  have:=h.cmo.2.2.2.1;omega
 ·rw [h2.lo]
  refine List.pairwise_map.2 (List.Pairwise.imp_of_mem (R:=fun a b=>a≠b) (fun {x y} hx hy hne e=>hne ?_) List.nodup_range);have x1:=List.mem_range.1 hx;have y1:=List.mem_range.1 hy;obtain⟨p,hp,_⟩:=hpg x (by omega) (by omega);obtain⟨q,hq,_⟩:=hpg y (by omega) (by omega);have:=loc_inj h hp hq e;omega
theorem had_read(h:HpOk B cm win tb al)(hh:Had al k s j)(f0:0≤f)(n0:0≤n)(fn:f+n≤unitT k){T:List (Int×Int)}(hp:VwPre tb B (posT k s j+f) n T):rdT B T=(List.range n.toNat).map fun (i:Nat)=>lb tb B (posT k s j+f+i):=by
 rw [rdT_locs (fun x hx=>by have:=hp.pt.sp x hx;omega),hp.pt.lo,List.map_map];rfl
theorem HpOk.wrt(h:HpOk B cm win tb al)(hh:Had al k s j)(f0:0≤f)(fn:f+n≤unitT k)(W:WrL tb B (posT k s j+f) n g B') :
  HpOk B' cm win tb al∧Keep win B cm B' cm∧(∀c1 s1 k1,Had al c1 s1 k1→¬(c1=k∧s1=s∧k1=j)→∀i,0≤i→i<unitT c1→lb tb B' (posT c1 s1 k1+i)=lb tb B (posT c1 s1 k1+i)) ∧
   (∀i,0≤i→i<unitT k→lb tb B' (posT k s j+i)=if f≤i∧i<f+n then g (i-f).toNat else lb tb B (posT k s j+i)):=by
 have hpg:∀i:Nat,(i:Int)<n→∃q,mGet tb.pg ((posT k s j+f+i)/512)=some q∧loc tb.pg (posT k s j+f+i)=q.toNat*512+((posT k s j+f+i)%512).toNat:=fun i i1=>by
  obtain⟨q,hq⟩:=had_loc h hh (i:=f+i) (by omega) (by omega);rw [←Int.add_assoc] at hq;exact⟨q,hq,loc_some hq⟩
 refine⟨⟨h.al,h.cmo,W.len.trans h.len,h.ton,h.dom,h.cnt,fun p hp hf i hi=>?_,fun u p r hp hr=>?_⟩,⟨W.len,rfl,rfl,fun _ _=>rfl,fun p hp hc i hi=>?_⟩,fun c1 s1 k1 hh1 hne i i0 i1=>?_,fun i i0 i1=>?_⟩
 ·rw [W.out _ (fun i' hi' e=>?_)]
  ·exact h.z p hp hf i hi
  ·obtain⟨q,q1,q2⟩:=hpg i' hi'
   rw [q2] at e;have h4:=(h.ton.rng _ q q1).2.2.2;have:p=q.toNat:=by omega
   rw [←this,hf] at h4;cases h4
 ·have hz:=h.c u p r hp hr
  obtain⟨_,_,g3,hok,_⟩:=h.al.pg u p hp;intro kk hk hf i hi;have hb:=blk_at hok hk;rw [W.out _ (fun i' hi' e=>?_)]
  ·exact hz kk hk hf i hi
  ·obtain⟨q,q1,q2⟩:=hpg i' hi'
   rw [q2,Nat.add_assoc] at e;have hqr:r.toNat=q.toNat:=by omega
   have hv:u=(posT k s j+f+i')/512:=by
    by_cases c:u=(posT k s j+f+i')/512
    ·exact c
    ·exact absurd hqr (pg_sep h hr q1 c)
   have hoff:kk*p.unit.toNat+i=((posT k s j+f+i')%512).toNat:=by omega
   have hbp:=blk_page hh.1 (i:=f+i') (by omega) (by omega);rw [←Int.add_assoc,←hv] at hbp;obtain⟨t1,t2,t3⟩:=hh.there;have hin:=(in_slot t1 t2 u).1 hbp;have hk8:k<8:=by
    have:=h.al.pg u p hp;unfold kdV at hin;omega
   have hbs:=blk_small hk8 hh.1 (i:=f+i') (by omega) (by omega);rw [←Int.add_assoc,←hv,←hoff] at hbs;obtain⟨p1,p2,p3,p4⟩:=hh.2.2 hk8;rw [←hbs.1,hp] at p2;obtain rfl:=Option.some.inj p2;have hu:p.unit=unitT k:=by unfold PgS.unit;rw [g3,hin.2.1]
   rw [hu] at hbs hi;exact mul_sep (a:=kk) (b:=j) (u:=(unitT (k:Int)).toNat) (fun e=>by rw [e,p3] at hf;cases hf) hi (show (f+i').toNat<_ by omega) hbs.2.1
 ·rw [W.out _ (fun i' hi' e=>?_)]
  obtain⟨q,q1,q2⟩:=hpg i' hi';rw [q2] at e;have h4:=(h.ton.rng _ q q1).2.2.1;have:p=q.toNat:=by omega
  rw [←this] at h4;exact hc h4
 ·rw [lb_loc,lb_loc]
  refine W.out _ (fun i' hi' e=>?_);obtain⟨q,q1,_⟩:=hpg i' hi';obtain⟨r,r1⟩:=had_loc h hh1 i0 i1;have e2:=loc_inj h r1 q1 e;rcases pos_apart hh1.1 hh.1 with ⟨a1,a2,a3⟩|a|a
  ·exact hne ⟨by omega,by omega,by omega⟩
  ·omega
  ·omega
 ·by_cases c:f≤i∧i<f+n
  ·rw [if_pos c]
   have:=W.in_ (i-f).toNat (by omega)
   rwa [show posT k s j+f+((i-f).toNat:Nat)=posT k s j+i by omega] at this
  ·rw [if_neg c,lb_loc,lb_loc]
   refine W.out _ (fun i' hi' e=>?_);obtain⟨q,q1,_⟩:=hpg i' hi';obtain⟨r,r1⟩:=had_loc h hh i0 i1;have e2:=loc_inj h r1 q1 e;omega
end
def TnS.setOb(s:TnS)(a:Int)(d:List UInt8):TnS:={s with ob:=mIns a d s.ob}
theorem mIns_keys{α:Type}{M:List (Int×α)}{a:Int}{d:α}(h:Rise M)(hd:mGet M a=some d)(d':α):(mIns a d' M).map (·.1)=M.map (·.1):=by
 induction M with
 |nil=>cases hd
 |cons y M ih =>
  obtain⟨b,u⟩:=y;obtain⟨h1,h2⟩:=List.pairwise_cons.1 h;unfold mIns;unfold mGet at hd;by_cases e:b=a
  ·rw [if_neg (by omega),if_pos e,e];rfl
  ·rw [if_neg e] at hd
   have hm:=h1 _ (mGet_mem hd);simp only at hm;rw [if_neg (by omega),if_neg e];simp only [List.map_cons];rw [ih h2 hd]
section
variable{B B':List UInt8}{cm:CmS}{win:List Int}{tb:TbS}{s:TnS}
theorem obsum_keys(ob ob':List (Int×List UInt8))(h:ob'.map (·.1)=ob.map (·.1)):obsum ob'=obsum ob:=by
 unfold obsum;have e:∀l:List (Int×List UInt8),(l.map fun y=>unitT (kdT y.1))=(l.map (·.1)).map fun a=>unitT (kdT a):=fun l=>by rw [List.map_map];rfl
 rw [e,e,h]
theorem TnOk.wrt(h:TnOk B cm win tb s){k sl j:Nat}{d d':List UInt8}{f n:Int}{g:Nat→UInt8}(hd:mGet s.ob (posT k sl j)=some d)(hh:Had s.al k sl j)(f0:0≤f)(fn:f+n≤unitT k)(W:WrL tb B (posT k sl j+f) n g B')
  (h1:1≤d'.length) (h2:(d'.length:Int)≤unitT k) (hb:∀i:Nat,(i:Int)<unitT k→d'.getD i 0=if f≤i∧(i:Int)<f+n then g (i-f).toNat else d.getD i 0) :
  TnOk B' cm win tb (s.setOb (posT k sl j) d')∧Keep win B cm B' cm:=by
 obtain⟨r1,r2,r3,r4⟩:=h.hp.wrt hh f0 fn W;have hkeys:=mIns_keys h.ob.rise hd d';refine⟨⟨r1,h.used,h.dem,h.wl,h.room,h.quo,h.may,h.cost,?_,⟨mIns_rise h.ob.rise _ _,fun a dd q=>?_⟩,?_⟩,r2⟩
 ·show obsum (mIns _ _ _)=_
  rw [obsum_keys _ _ hkeys];exact h.sum
 ·by_cases c:a=posT k sl j
  ·subst c
   rw [show (s.setOb (posT k sl j) d').ob=mIns (posT k sl j) d' s.ob from rfl,mGet_ins_same h.ob.rise] at q;obtain rfl:=Option.some.inj q;refine⟨k,sl,j,rfl,hh,h1,h2,fun i hi=>?_⟩;obtain⟨k2,s2,j2,e2,g1,g2,g3,g4⟩:=h.ob.at_ _ _ hd;have hku:unitT k2=unitT k:=by
    have a1:=(find_pos hh.1).2.2.1;have a2:=(find_pos g1.1).2.2.1;rw [←e2,a1] at a2;rw [a2]
   rw [r4 i (by omega) hi,hb i hi,g4 i (by rw [hku];exact hi)]
  ·rw [show (s.setOb (posT k sl j) d').ob=mIns (posT k sl j) d' s.ob from rfl,mGet_ins_other c] at q
   obtain⟨k2,s2,j2,e2,g1,g2,g3,g4⟩:=h.ob.at_ a dd q;refine⟨k2,s2,j2,e2,g1,g2,g3,fun i hi=>?_⟩;rw [e2,r3 k2 s2 j2 g1 (fun w=>c (by rw [e2,w.1,w.2.1,w.2.2])) i (by omega) hi,←e2];exact g4 i hi
 ·show CpR s.cp ((mIns _ _ _).map _)
  rw [hkeys];exact h.cp
theorem TnOk.obj(h:TnOk B cm win tb s){a:Int}{d:List UInt8}(hd:mGet s.ob a=some d){f n:Int}(f0:0≤f)(n0:0≤n)(fn:f+n≤d.length) :
  ∃T,VwPre tb B (a+f) n T∧(locs T).Nodup∧rdT B T=(d.drop f.toNat).take n.toNat:=by
 obtain⟨k,sl,j,rfl,hh,h1,h2,h3⟩:=h.ob.at_ _ _ hd;obtain⟨T,p1,p2⟩:=had_view h.hp hh f0 n0 (by omega);refine⟨T,p1,p2,?_⟩;rw [had_read h.hp hh f0 n0 (by omega) p1];apply List.ext_getElem?
 intro i;by_cases hi:i<n.toNat
 ·rw [List.getElem?_map,List.getElem?_range hi,List.getElem?_take,if_pos hi,List.getElem?_drop]
  have:=h3 (f.toNat+i) (by omega);simp only [Option.map_some];rw [show posT k sl j+f+(i:Int)=posT k sl j+((f.toNat+i:Nat):Int) by omega,this];rw [List.getD_eq_getElem?_getD,List.getElem?_eq_getElem (by omega)];rfl
 ·rw [List.getElem?_eq_none (by rw [List.length_map,List.length_range];omega),List.getElem?_eq_none (by rw [List.length_take];omega)]
end
end
section
open Go.RowKit Flt
attribute [local irreducible] CpS.rv
def TnS.bytes(s:TnS)(a:Int):List UInt8:=(mGet s.ob a).getD []
def TnS.spanR(s:TnS)(h:Nat)(r fr n:Int):Int×Int :=
 if (s.cp.findF h r).2=0 then
  if 0≤fr∧0≤n∧fr+n≤(s.bytes (s.cp.findF h r).1).length then ((s.cp.findF h r).1+fr,0) else (0,4)
 else (0,(s.cp.findF h r).2)
section
variable{w w':World}{o o':Nat→Tag}{t u z:Tag}{b a c:Nat}{B:List UInt8}{m:Nat}{cm:CmS}{win:List Int}{tb:TbS}{s:TnS}
theorem TnOk.size(ok:TnOk B cm win tb s){ad:Int}{d:List UInt8}(hd:mGet s.ob ad=some d):1≤d.length∧d.length≤8192∧131072≤ad∧ad<3276800:=by
 obtain⟨k,sl,j,e,hh,h1,h2,_⟩:=ok.ob.at_ _ _ hd;have hk:=hh.there.1;have hu:=kind_facts (c:=(k:Int)) (by omega) (by omega);have hf:=find_pos hh.1;omega
theorem TnAt.look(h:TnAt w o t u z b a c B m cm win tb s){ad:Int}{d:List UInt8}(hd:mGet s.ob ad=some d):∃go,w.cell? ⟨b,7,none⟩=some (.map (some go))∧(Instr.lookup 131 (.map (some go)) (.int .i64 ad) false).run Tryz.prog w=.ok (.int .i64 d.length) w:=by
 obtain⟨y,h⟩:=h;refine⟨y.go,h.tn.c7,?_⟩;have:=mp_lookup h.tn.ob (P:=Tryz.prog) Tryz.underlying131 Tryz.underlying3 zeroI ad false;have e:mGet (obM s.ob) ad=some (d.length:Int):=by
  unfold obM;rw [get_map (fun d:List UInt8=>(d.length:Int)),hd];rfl
 rw [e] at this;exact this
theorem tnSpan(hn:Nat)(r fr n:Int)(hh:hn<18446744073709551616)(h:TnAt w o t u z b a c B m cm win tb s)(ok:TnOk B cm win tb s) :
  Calls Tryz.prog 108 #[eP b,.int .u64 hn,.int .i64 r,.int .i64 fr,.int .i64 n] w fun e w'=>e=.returned (.tuple #[.int .i64 (s.spanR hn r fr n).1,.int .i64 (s.spanR hn r fr n).2])∧Below w.heap.size w w':=by
 have hf:=HD (tnFindA hn r hh h);have hob:=find_ob (hn:=hn) (r:=r) ok;unfold TnS.spanR TnS.bytes;generalize s.cp.findF hn r=p at *;obtain⟨ad,e0⟩:=p;simp only at hob hf ⊢;by_cases hc0:e0=0
 ·subst hc0
  rw [if_pos rfl];obtain⟨d,hd⟩:=hob rfl;rw [hd,Option.getD_some];have hs:=ok.size hd;have hlk:=HD (fun w1 (hb:Below w.heap.size w w1)=>(h.still (Fr.below hb)).look hd);clear h ok hob hd;generalize d.length=sz at *;have e1:Hid (Calls Tryz.prog 100 #[eP b,.int .u64 hn,.int .i64 r] w (fun e w'=>e=.returned (.tuple #[.int .i64 ad,.int .i64 0])∧Below w.heap.size w w')):=hf;by_cases c1:min fr n<0
  ·rw [if_neg (by omega)]
   have d1:decide (min fr n<0)=true:=decide_eq_true c1;clear hs c1;go_enter Tryz.func108,Tryz.ntmps108
   go_wp2_with fail;refine e1.out.mono ?_;rintro e w1 ⟨rfl,hb⟩;obtain⟨go,c7,hl⟩:=hlk.out w1 hb;replace hb:=HD hb;clear hf e1 hlk;go_wp2_with fail;go_ret2
   exact⟨rfl,hb.out⟩
  have d1:decide (min fr n<0)=false:=decide_eq_false c1;by_cases c2:(sz:Int)<fr
  ·rw [if_neg (by omega)]
   have d2:decide ((sz:Int)<fr)=true:=decide_eq_true c2;clear hs c1 c2;go_enter Tryz.func108,Tryz.ntmps108
   go_wp2_with fail;refine e1.out.mono ?_;rintro e w1 ⟨rfl,hb⟩;obtain⟨go,c7,hl⟩:=hlk.out w1 hb;replace hb:=HD hb;clear hf e1 hlk;go_wp2_with fail;go_ret2
   exact⟨rfl,hb.out⟩
  have d2:decide ((sz:Int)<fr)=false:=decide_eq_false c2;have u1:=IntWalk.i64_in ((sz:Int)-fr) (by omega);by_cases c3:(sz:Int)-fr<n
  ·rw [if_neg (by omega)]
   have d3:decide ((sz:Int)-fr<n)=true:=decide_eq_true c3;clear hs c1 c2 c3;go_enter Tryz.func108,Tryz.ntmps108
   go_wp2_with fail;refine e1.out.mono ?_;rintro e w1 ⟨rfl,hb⟩;obtain⟨go,c7,hl⟩:=hlk.out w1 hb;replace hb:=HD hb;clear hf e1 hlk;go_wp2_with fail;go_ret2
   exact⟨rfl,hb.out⟩
  have d3:decide ((sz:Int)-fr<n)=false:=decide_eq_false c3;rw [if_pos (by omega)];have u2:=IntWalk.i64_in (ad+fr) (by omega);clear hs c1 c2 c3;go_enter Tryz.func108,Tryz.ntmps108
  go_wp2_with fail;refine e1.out.mono ?_;rintro e w1 ⟨rfl,hb⟩;obtain⟨go,c7,hl⟩:=hlk.out w1 hb;replace hb:=HD hb;clear hf e1 hlk;go_wp2_with fail;go_ret2
  exact⟨rfl,hb.out⟩
 ·rw [if_neg hc0]
  have hc:(e0 != 0)=true:=by simpa using hc0
  clear h ok hob hc0;go_enter Tryz.func108,Tryz.ntmps108
  go_wp2_with fail;refine hf.out.mono ?_;rintro e w1 ⟨rfl,hb⟩;replace hb:=HD hb;clear hf;go_wp2_with fail;go_ret2
  exact⟨rfl,hb.out⟩
end
end
section
open Go.RowKit Flt
attribute [local irreducible] CpS.rv
def baL(l:List UInt8):ByteArray:=⟨l.toArray⟩
def TnS.read(s:TnS)(h:Nat)(fr n:Int):Ans×TnS :=
 if (s.spanR h 1 fr n).2=0 then (⟨0,0,0,0,baL (((s.bytes (s.cp.findF h 1).1).drop fr.toNat).take n.toNat),s.cb⟩,s) else (⟨(s.spanR h 1 fr n).2,0,0,0,ByteArray.empty,s.cb⟩,s)
section
variable{w w':World}{o o':Nat→Tag}{t u z:Tag}{b a c:Nat}{y:TnX}{B B':List UInt8}{m m':Nat}{cm:CmS}{win:List Int}{tb:TbS}{s:TnS}{id pk:Int}{al:AlS}{cp:CpS}{q:QS}{M:List (Int×Int)}
theorem span_ok{hn:Nat}{r fr n:Int}(ok:TnOk B cm win tb s)(h:(s.spanR hn r fr n).2=0):∃ad d,s.cp.findF hn r=(ad,0)∧mGet s.ob ad=some d∧s.bytes ad=d∧0≤fr∧0≤n∧fr+n≤d.length∧(s.spanR hn r fr n).1=ad+fr:=by
 have hob:=find_ob (hn:=hn) (r:=r) ok;unfold TnS.spanR TnS.bytes at *;generalize s.cp.findF hn r=p at *;obtain⟨ad,e0⟩:=p;simp only at hob h ⊢;by_cases c:e0=0
 ·subst c
  obtain⟨d,hd⟩:=hob rfl;rw [if_pos rfl] at h ⊢;rw [hd,Option.getD_some] at h ⊢;by_cases c2:0≤fr∧0≤n∧fr+n≤d.length
  ·rw [if_pos c2]
   exact⟨ad,d,rfl,hd,by rw [hd];rfl,c2.1,c2.2.1,c2.2.2,rfl⟩
  ·rw [if_neg c2] at h;simp at h
 ·rw [if_neg c] at h;exact absurd h c
theorem TnW.inAr(h:TnW w o t u z b a c y B m cm win tb id pk al cp q M)(ap:Ap3 t u z)(f:Fr (Und z) w o w' o')(g:ArAt w' o' z a B' m'):TnW w' o' t u z b a c y B' m' cm win tb id pk al cp q M :=
 ⟨h.tn.fr f ap.tz.swap.off,h.is_,h.cma.fr f ap.uz.swap.off,g⟩
theorem fr_ar(f:Fr (Und z) w o w' o'):Fr (S3 t u z) w o w' o':=f.mono fun v q=>.inr (.inr q)
set_option maxHeartbeats 1000000 in
theorem tnRead(hn:Nat)(fr n:Int)(hh:hn<18446744073709551616)(h:TnAt w o t u z b a c B m cm win tb s)(ok:TnOk B cm win tb s)(ap:Ap3 t u z)(h7:T7 t u z)(h8:¬z <+: [8])(hm:m≤800000) :
  Calls Tryz.prog 65 #[eP b,.int .u64 hn,.int .i64 fr,.int .i64 n] w fun e w'=>e=.returned (ansV (s.read hn fr n).1)∧TnGo w o t u z b a c B (m+8192) cm win (s.read hn fr n).2 w':=by
 have h1:=h.made (.cells (ansC ans0) 47);have hf:=HD (tnSpan hn 1 fr n hh h1 ok);unfold TnS.read;have hsp:=span_ok (hn:=hn) (r:=1) (fr:=fr) (n:=n) ok;generalize s.spanR hn 1 fr n=p at *;obtain⟨at_,e0⟩:=p;simp only at hsp hf ⊢;by_cases hc0:e0=0
 ·subst hc0
  rw [if_pos rfl];obtain⟨ad,d,e1,hd,e2,f0,n0,fn,e3⟩:=hsp rfl;rw [e1];simp only;rw [e2];have hall:=HD (show ∀w1,Below (w.alloc (.cells (ansC ans0) 47)).heap.size (w.alloc (.cells (ansC ans0) 47)) w1→∃bh bt,(w1.drew.cell? ⟨b,0,none⟩=some (eP a)∧w1.drew.cell? ⟨b,2,none⟩=some (eP bh)) ∧
    Calls Tryz.prog 106 #[eP bh] w1.drew (fun e w2=>e=.returned (eP bt)∧w2=w1.drew) ∧
    Calls Tryz.prog 109 #[eP a,eP bt,.int .i64 at_,.int .i64 n] w1.drew (fun e w2=>e=.returned (.tuple #[.string (baL ((d.drop fr.toNat).take n.toNat)),.int .i64 0])∧(w2.cell? ⟨b,0,none⟩=some (eP a)∧w2.cell? ⟨b,2,none⟩=some (eP bh))∧TnGo (w.alloc (.cells (ansC ans0) 47)) (setO o w.heap.size [7]) t u z b a c B (m+8192) cm win s w2) from fun w1 hb=>by
   have h2:=(h1.still (Fr.below hb)).still Fr.drew;obtain⟨y,h3⟩:=h2;obtain⟨T,p1,p2,p3⟩:=ok.obj hd f0 n0 fn;refine⟨y.bh,y.x.bt,⟨h3.tn.c0,h3.tn.c2⟩,hpTable y.bh a c _ h3.tn.hp,?_⟩;rw [e3];refine(vwRead a y.x.bt (ad+fr) n _ h3.ar (by omega) h3.tn.hp.ta p1 ap.tz.u9 h8).mono ?_;rintro e w2 ⟨rfl,o2,g2,f2⟩;have h4:=h3.inAr ap f2 g2;refine⟨by rw [p3];rfl,⟨h4.tn.c0,h4.tn.c2⟩,o2,B,cm,tb,⟨y,h4⟩,ok,Keep.refl _ _ _,?_⟩;exact((Fr.below hb).trans Fr.drew).trans (fr_ar f2))
  generalize baL ((d.drop fr.toNat).take n.toNat)=ds at *;have hsay:=HD (fun w1 (q:TnGo (w.alloc (.cells (ansC ans0) 47)) (setO o w.heap.size [7]) t u z b a c B (m+8192) cm win s w1)=>q.say ⟨0,0,0,0,ds,0⟩);have hrow:=HD (fun w1 (q:TnGo (w.alloc (.cells (ansC ans0) 47)) (setO o w.heap.size [7]) t u z b a c B (m+8192) cm win s w1)=>(q.row h7 ⟨0,0,0,0,ds,s.cb⟩));clear h h1 ok hsp hd e1 e2 e3 f0 n0 fn hm;go_enter Tryz.func65,Tryz.ntmps65
  go_wp2_with fail;refine hf.out.mono ?_;rintro e w1 ⟨rfl,hb⟩;obtain⟨bh,bt,hcc,htb,hrd⟩:=hall.out w1 hb;replace htb:=HD htb;replace hrd:=HD hrd;clear hf hb hall;go_wp2_with fail;refine wp_region_noPanic ?_;refine wp_region_held_drew (S:=(fun W'=>W'.cell? ⟨b,0,none⟩=some (eP a)∧W'.cell? ⟨b,2,none⟩=some (eP bh))) (by kernel_rfl) ?_ (fun hHeld=>?_)
  ·(try dsimp only)
   (first|exact hcc|exact hcs)
  refine tkH 0 (h:=?_);refine tkH 1 (h:=?_);refine tkH 2 (h:=?_);refine tkH 3 (h:=?_);refine tkH 4 (h:=?_);refine tkH 5 (h:=?_);refine tkH 6 (h:=?_);refine tkH 7 (h:=?_);refine tkH 9 (h:=?_);refine tkH 10 (h:=?_);refine onH 8 (h:=fun K hK=>?_);go_simp;refine SM htb.out ?_;go_wp2_with fail;refine hK.out _ _ ?_ (fun hHeld=>?_)
  ·(try dsimp only)
   (first|exact hcc|exact hcs)
  clear hK;refine nmH (h:=?_);refine onH 11 (h:=fun K hK=>?_);go_simp;refine hrd.out.mono ?_;rintro e w2 ⟨rfl,hcs,g2⟩;replace g2:=HD g2;go_wp2_with fail;refine hK.out _ _ ?_ (fun hHeld=>?_)
  ·(try dsimp only)
   (first|exact hcc|exact hcs)
  clear hK;refine nmH (h:=?_);refine tkH 12 (h:=?_);refine tkH 13 (h:=?_);refine tkH 14 (h:=?_);refine tkH 15 (h:=?_);refine tkH 16 (h:=?_);refine wpAnyH_done (by kernel_rfl) ?_ _;refine NoPanic.normal ?_;go_wp2_with fail;refine(hsay.out _ g2.out).mono ?_;rintro e w3 ⟨rfl,g3⟩;obtain⟨qB,gE⟩:=hrow.out w3 g3;obtain⟨l0,l1,l2,l3,l4,l5,g0,g1,g2,g3,g4,g5⟩:=qB.cells;replace qB:=HD qB;clear hsay hrow;simp only [ansV];go_wp2_with fail;refine bodyPost_ret (v:=ansV ⟨0,0,0,0,ds,s.cb⟩) ?_ rfl ⟨rfl,gE⟩;exact ans_results_at 8 (by kernel_rfl) _ _ _ rfl (qB.out.store ⟨0,0,0,0,ds,s.cb⟩)
 ·rw [if_neg hc0]
  simp only;have hgo:=HD (show ∀w1,Below (w.alloc (.cells (ansC ans0) 47)).heap.size (w.alloc (.cells (ansC ans0) 47)) w1→TnGo (w.alloc (.cells (ansC ans0) 47)) (setO o w.heap.size [7]) t u z b a c B (m+8192) cm win s w1 from fun w1 hb=>((h1.mono (by omega)).go ok).still hb);have hfa:=HD (fun w1 (q:TnGo (w.alloc (.cells (ansC ans0) 47)) (setO o w.heap.size [7]) t u z b a c B (m+8192) cm win s w1)=>q.fail e0);have hrow:=HD (fun w1 (q:TnGo (w.alloc (.cells (ansC ans0) 47)) (setO o w.heap.size [7]) t u z b a c B (m+8192) cm win s w1)=>(q.row h7 ⟨e0,0,0,0,ByteArray.empty,s.cb⟩));have hc:(e0 != 0)=true:=by simpa using hc0
  clear h h1 ok hsp hc0 hm;go_enter Tryz.func65,Tryz.ntmps65
  go_wp2_with fail;refine hf.out.mono ?_;rintro e w1 ⟨rfl,hb⟩;replace hgo:=HD (hgo.out w1 hb);clear hf hb;go_wp2_with fail;refine(hfa.out w1 hgo.out).mono ?_;rintro e w3 ⟨rfl,g3⟩;obtain⟨qB,gE⟩:=hrow.out w3 g3;obtain⟨l0,l1,l2,l3,l4,l5,g0,g1,g2,g3,g4,g5⟩:=qB.cells;replace qB:=HD qB;clear hfa hrow hgo;simp only [ansV];go_wp2_with fail;refine bodyPost_ret (v:=ansV ⟨e0,0,0,0,ByteArray.empty,s.cb⟩) ?_ rfl ⟨rfl,gE⟩;exact ans_results_at 8 (by kernel_rfl) _ _ _ rfl (qB.out.store ⟨e0,0,0,0,ByteArray.empty,s.cb⟩)
end
end
section
open Go.RowKit Flt
attribute [local irreducible] CpS.rv
theorem mIns_id{α:Type}{M:List (Int×α)}{k:Int}{v:α}(hr:Rise M)(h:mGet M k=some v):mIns k v M=M:=by
 induction M with
 |nil=>cases h
 |cons y M ih =>
  obtain⟨b,u⟩:=y;obtain⟨h1,h2⟩:=List.pairwise_cons.1 hr;unfold mIns;unfold mGet at h;by_cases e:b=k
  ·rw [if_pos e] at h
   obtain rfl:=Option.some.inj h;rw [if_neg (by omega),if_pos e,e]
  ·rw [if_neg e] at h
   have hm:=h1 _ (mGet_mem h);simp only at hm;rw [if_neg (by omega),if_neg e,ih h2 h]
theorem obM_rise{ob:List (Int×List UInt8)}(h:Rise ob):Rise (obM ob):=by
 unfold obM;exact List.pairwise_map.2 h
theorem obM_set{ob:List (Int×List UInt8)}(ad:Int)(d:List UInt8):obM (mIns ad d ob)=mIns ad (d.length:Int) (obM ob):=by
 unfold obM;exact ins_map (fun d:List UInt8=>(d.length:Int)) ad d ob
theorem obM_get{ob:List (Int×List UInt8)}{ad:Int}{d:List UInt8}(h:mGet ob ad=some d):mGet (obM ob) ad=some (d.length:Int):=by
 unfold obM;rw [get_map (fun d:List UInt8=>(d.length:Int)),h];rfl
theorem splice_length{d l:List UInt8}{i:Nat}(h:i+l.length≤d.length):(splice d i l).length=d.length:=by
 unfold splice;simp only [List.length_append,List.length_take,List.length_drop];omega
def TnS.write(s:TnS)(h:Nat)(fr:Int)(x:ByteArray):Ans×TnS :=
 if (s.spanR h 2 fr x.size).2=0 then (⟨0,0,0,0,ByteArray.empty,s.cb⟩,s.setOb (s.cp.findF h 2).1 (splice (s.bytes (s.cp.findF h 2).1) fr.toNat x.data.toList)) else (⟨(s.spanR h 2 fr x.size).2,0,0,0,ByteArray.empty,s.cb⟩,s)
section
variable{w w':World}{o o':Nat→Tag}{t u z:Tag}{b a c:Nat}{y:TnX}{B B':List UInt8}{m m':Nat}{cm:CmS}{win:List Int}{tb:TbS}{s:TnS}
theorem TnOk.wrote(h:TnOk B cm win tb s){ad:Int}{d l:List UInt8}{f n:Int}(hd:mGet s.ob ad=some d)(f0:0≤f)(fn:f+n≤d.length)(hn:(l.length:Int)=n)(W:WrL tb B (ad+f) n (fun k=>l.getD k 0) B') :
  TnOk B' cm win tb (s.setOb ad (splice d f.toNat l))∧Keep win B cm B' cm:=by
 obtain⟨k,sl,j,rfl,hh,h1,h2,_⟩:=h.ob.at_ _ _ hd;have hl:=splice_length (d:=d) (l:=l) (i:=f.toNat) (by omega);refine h.wrt hd hh f0 (by omega) W (by omega) (by omega) fun i hi=>?_
 have:=byt_splice (B:=d) (l:=l) (i:=f.toNat) (by omega) i;unfold byt at this;rw [this];by_cases c:f≤i∧(i:Int)<f+n
 ·rw [if_pos (by omega),if_pos c,show ((i:Int)-f).toNat=i-f.toNat by omega]
 ·rw [if_neg (by omega),if_neg c]
set_option maxHeartbeats 1000000 in
theorem tnWrite(hn:Nat)(fr:Int)(x:ByteArray)(hh:hn<18446744073709551616)(hx:x.size≤8192)(h:TnAt w o t u z b a c B m cm win tb s)(ok:TnOk B cm win tb s)(ap:Ap3 t u z)(h7:T7 t u z)(hm:m≤800000) :
  Calls Tryz.prog 66 #[eP b,.int .u64 hn,.int .i64 fr,.string x] w fun e w'=>e=.returned (ansV (s.write hn fr x).1)∧TnGo w o t u z b a c B (m+8192) cm win (s.write hn fr x).2 w':=by
 have h1:=h.made (.cells (ansC ans0) 47);have hf:=HD (tnSpan hn 2 fr x.size hh h1 ok);unfold TnS.write;have hsp:=span_ok (hn:=hn) (r:=2) (fr:=fr) (n:=x.size) ok;generalize s.spanR hn 2 fr x.size=p at *;obtain⟨at_,e0⟩:=p;simp only at hsp hf ⊢;by_cases hc0:e0=0
 ·subst hc0
  rw [if_pos rfl];obtain⟨ad,d,e1,hd,e2,f0,n0,fn,e3⟩:=hsp rfl;rw [e1];simp only;rw [e2];have hxl:(x.data.toList.length:Int)=x.size:=by rw [Array.length_toList];rfl
  have hall:=HD (show ∀w1,Below (w.alloc (.cells (ansC ans0) 47)).heap.size (w.alloc (.cells (ansC ans0) 47)) w1→∃bh bt,(w1.drew.cell? ⟨b,0,none⟩=some (eP a)∧w1.drew.cell? ⟨b,2,none⟩=some (eP bh)) ∧
    Calls Tryz.prog 106 #[eP bh] w1.drew (fun e w2=>e=.returned (eP bt)∧w2=w1.drew) ∧
    Calls Tryz.prog 110 #[eP a,eP bt,.int .i64 at_,.string x] w1.drew (fun e w2=>e=.returned (.int .i64 0)∧(w2.cell? ⟨b,0,none⟩=some (eP a)∧w2.cell? ⟨b,2,none⟩=some (eP bh))∧TnGo (w.alloc (.cells (ansC ans0) 47)) (setO o w.heap.size [7]) t u z b a c B (m+8192) cm win (s.setOb ad (splice d fr.toNat x.data.toList)) w2) from fun w1 hb=>by
   have h2:=(h1.still (Fr.below hb)).still Fr.drew;obtain⟨y,h3⟩:=h2;obtain⟨T,p1,p2,p3⟩:=ok.obj hd f0 n0 fn;refine⟨y.bh,y.x.bt,⟨h3.tn.c0,h3.tn.c2⟩,hpTable y.bh a c _ h3.tn.hp,?_⟩;rw [e3];refine(vwWrite a y.x.bt (ad+fr) x _ h3.ar (by omega) h3.tn.hp.ta p1 p2 ap.tz.u9).mono ?_;rintro e w2 ⟨rfl,o2,B2,g2,W2,f2⟩;have h4:=h3.inAr ap f2 g2;obtain⟨ok2,K2⟩:=ok.wrote hd f0 fn hxl (WrL.of p1.pt W2);refine⟨rfl,⟨h4.tn.c0,h4.tn.c2⟩,o2,B2,cm,tb,⟨y,?_⟩,ok2,K2,?_⟩
   ·have e4:obM (s.setOb ad (splice d fr.toNat x.data.toList)).ob=obM s.ob:=by
     show obM (mIns ad _ s.ob)=_;rw [obM_set,splice_length (by omega)];exact mIns_id (obM_rise ok.ob.rise) (obM_get hd)
    rw [e4];exact h4
   ·exact((Fr.below hb).trans Fr.drew).trans (fr_ar f2))
  have ecb:(s.setOb ad (splice d fr.toNat x.data.toList)).cb=s.cb:=rfl;generalize s.setOb ad (splice d fr.toNat x.data.toList)=s' at *;rw [←ecb];have hfa:=HD (fun w1 (q:TnGo (w.alloc (.cells (ansC ans0) 47)) (setO o w.heap.size [7]) t u z b a c B (m+8192) cm win s' w1)=>q.fail 0);have hrow:=HD (fun w1 (q:TnGo (w.alloc (.cells (ansC ans0) 47)) (setO o w.heap.size [7]) t u z b a c B (m+8192) cm win s' w1)=>(q.row h7 ⟨0,0,0,0,ByteArray.empty,s'.cb⟩));clear h h1 ok hsp hd e1 e2 e3 f0 n0 fn hm ecb hxl;go_enter Tryz.func66,Tryz.ntmps66
  go_wp2_with fail;refine hf.out.mono ?_;rintro e w1 ⟨rfl,hb⟩;obtain⟨bh,bt,hcc,htb,hrd⟩:=hall.out w1 hb;replace htb:=HD htb;replace hrd:=HD hrd;clear hf hb hall;go_wp2_with fail;refine wp_region_noPanic ?_;refine wp_region_held_drew (S:=(fun W'=>W'.cell? ⟨b,0,none⟩=some (eP a)∧W'.cell? ⟨b,2,none⟩=some (eP bh))) (by kernel_rfl) ?_ (fun hHeld=>?_)
  ·(try dsimp only)
   (first|exact hcc|exact hcs)
  refine tkH 0 (h:=?_);refine tkH 1 (h:=?_);refine tkH 2 (h:=?_);refine tkH 3 (h:=?_);refine tkH 4 (h:=?_);refine tkH 5 (h:=?_);refine tkH 6 (h:=?_);refine tkH 7 (h:=?_);refine tkH 9 (h:=?_);refine tkH 10 (h:=?_);refine onH 8 (h:=fun K hK=>?_);go_simp;refine SM htb.out ?_;go_wp2_with fail;refine hK.out _ _ ?_ (fun hHeld=>?_)
  ·(try dsimp only)
   (first|exact hcc|exact hcs)
  clear hK;refine nmH (h:=?_);refine onH 11 (h:=fun K hK=>?_);go_simp;refine hrd.out.mono ?_;rintro e w2 ⟨rfl,hcs,g2⟩;replace g2:=HD g2;go_wp2_with fail;refine hK.out _ _ ?_ (fun hHeld=>?_)
  ·(try dsimp only)
   (first|exact hcc|exact hcs)
  clear hK;refine nmH (h:=?_);refine tkH 12 (h:=?_);refine wpAnyH_done (by kernel_rfl) ?_ _;refine NoPanic.normal ?_;go_wp2_with fail;refine(hfa.out _ g2.out).mono ?_;rintro e w3 ⟨rfl,g3⟩;obtain⟨qB,gE⟩:=hrow.out w3 g3;obtain⟨l0,l1,l2,l3,l4,l5,g0,g1,g2,g3,g4,g5⟩:=qB.cells;replace qB:=HD qB;clear hfa hrow;simp only [ansV];go_wp2_with fail;refine bodyPost_ret (v:=ansV ⟨0,0,0,0,ByteArray.empty,s'.cb⟩) ?_ rfl ⟨rfl,gE⟩;exact ans_results_at 8 (by kernel_rfl) _ _ _ rfl (qB.out.store ⟨0,0,0,0,ByteArray.empty,s'.cb⟩)
 ·rw [if_neg hc0]
  simp only;have hgo:=HD (show ∀w1,Below (w.alloc (.cells (ansC ans0) 47)).heap.size (w.alloc (.cells (ansC ans0) 47)) w1→TnGo (w.alloc (.cells (ansC ans0) 47)) (setO o w.heap.size [7]) t u z b a c B (m+8192) cm win s w1 from fun w1 hb=>((h1.mono (by omega)).go ok).still hb);have hfa:=HD (fun w1 (q:TnGo (w.alloc (.cells (ansC ans0) 47)) (setO o w.heap.size [7]) t u z b a c B (m+8192) cm win s w1)=>q.fail e0);have hrow:=HD (fun w1 (q:TnGo (w.alloc (.cells (ansC ans0) 47)) (setO o w.heap.size [7]) t u z b a c B (m+8192) cm win s w1)=>(q.row h7 ⟨e0,0,0,0,ByteArray.empty,s.cb⟩));have hc:(e0==0)=false:=by simpa using hc0
  clear h h1 ok hsp hc0 hm;go_enter Tryz.func66,Tryz.ntmps66
  go_wp2_with fail;refine hf.out.mono ?_;rintro e w1 ⟨rfl,hb⟩;replace hgo:=HD (hgo.out w1 hb);clear hf hb;go_wp2_with fail;refine(hfa.out w1 hgo.out).mono ?_;rintro e w3 ⟨rfl,g3⟩;obtain⟨qB,gE⟩:=hrow.out w3 g3;obtain⟨l0,l1,l2,l3,l4,l5,g0,g1,g2,g3,g4,g5⟩:=qB.cells;replace qB:=HD qB;clear hfa hrow hgo;simp only [ansV];go_wp2_with fail;refine bodyPost_ret (v:=ansV ⟨e0,0,0,0,ByteArray.empty,s.cb⟩) ?_ rfl ⟨rfl,gE⟩;exact ans_results_at 8 (by kernel_rfl) _ _ _ rfl (qB.out.store ⟨e0,0,0,0,ByteArray.empty,s.cb⟩)
end
end
end Go.Proofs.YtfliaggjkianpaaGreatDoor
