import Derived.Test.YtfliaggjkianpaaGreatDoorK24
set_option linter.unusedVariables false
set_option linter.unusedSimpArgs false
set_option maxRecDepth 100000
namespace Go.Proofs.YtfliaggjkianpaaGreatDoor
section
open Go.RowKit Flt
abbrev stL(x:StS):List Value:=[.int .i64 x.o.K,.int .i64 x.o.T,.int .i64 x.o.N,.int .i64 x.o.M,.int .u64 x.o.H,.string x.o.s,.int .i64 x.bk]
theorem infoStp:(Tryz.prog.info? 34).map (fun i=>(i.zero,i.size,i.bytes))=some (some (.agg #[.int .i64 0,.int .i64 0,.int .i64 0,.int .i64 0,.int .u64 0,.string ⟨#[]⟩,.int .i64 0]),7,64):=by kernel_rfl
def StpRow(w:World)(base:Nat)(v:Value)(l:List StS):Prop:=w.ownsRow base 34 7 v l.length (l.flatMap stL)
theorem own_slice{w:World}{base:Nat}{e:TypeId}{size:Nat}{v:Value}{n:Nat}{xs:List Value}(h:w.ownsRow base e size v n xs):∃a c,v=.slice a n c:=by
 rcases h.2 with ⟨h1,h2⟩|⟨g,cap,cur,rfl,_⟩
 ·subst h1;subst h2;exact⟨_,_,rfl⟩
 ·exact⟨_,_,rfl⟩
section
variable{w w':World}{g:Nat}{rest:ByteArray}{sh:Bool}
theorem tpStep(h:TpAt w g rest sh)(hr:rest.size≤100000):Calls Tryz.prog 43 #[eP g] w (StPost w g):=by
 by_cases c:rest=⟨#[]⟩
 ·subst c
  refine(tpStep_none h).mono ?_;rintro e w' ⟨rfl,k⟩;exact⟨st0,false,⟨by decide,by decide,by decide,by decide,by decide,by decide,by decide⟩,rfl,k⟩
 ·exact tpStep_some h hr c
structure RdS(w:World)(g:Nat)(v:Value)(l:List StS)(wx:World):Prop where
 tp:∃rest sh,TpAt wx g rest sh∧rest.size≤100000
 row:StpRow wx (g+1) v l
 ok:∀x∈l,StOk x
 bl:Below g w wx
 lt:g<wx.heap.size
theorem RdS.alloc{v:Value}{l:List StS}{wx:World}(h:RdS w g v l wx)(o:Obj):RdS w g v l (wx.alloc o):=by
 obtain⟨⟨r,s,h1,h2⟩,h3,h4,h5,h6⟩:=h;exact⟨⟨r,s,(h1.blk.alloc o).2,h2⟩,World.ownsRow.alloc h3 o,h4,h5.alloc (Nat.le_of_lt h6) o,by simp;omega⟩
theorem RdS.append{v v2:Value}{l:List StS}{wx w2:World}{o1 o2:Obj}(h:RdS w g v l wx)(x:StS)(hx:StOk x)(hg:((wx.alloc o1).alloc o2).grownBy w2 v.ownBlock)(hr:w2.ownsRow (g+1) 34 7 v2 (l.length+1) (l.flatMap stL++stL x)):RdS w g v2 (l++[x]) w2:=by
 have h2:=(h.alloc o1).alloc o2;obtain⟨⟨r,s,h1,h2⟩,h3,h4,h5,h6⟩:=h2;have hb:∀k,v.ownBlock=some k→g+1≤k:=fun k hk=>(World.ownsRow.lt h3 k hk).1
 refine⟨⟨r,s,(hg.block g h6 (fun e=>?_)).trans h1,h2⟩,?_,fun y hy=>?_,h5.grown hg (Nat.le_of_lt h6) (fun k hk=>by have:=hb k hk;omega),Nat.lt_of_lt_of_le h6 hg.size⟩
 ·have:=hb g e.symm;omega
 ·unfold StpRow
  rw [List.length_append,List.flatMap_append];simpa using hr
 ·rcases List.mem_append.1 hy with q|q
  ·exact h4 y q
  ·rw [List.mem_singleton.1 q];exact hx
end
set_option maxHeartbeats 4000000 in
theorem scRead(s:ByteArray)(w:World)(hs:s.size≤8192) :
  Calls Tryz.prog 26 #[.string s] w fun e w'=>∃v l,l.length≤4000∧(∀x∈l,StOk x)∧e=.returned v∧StpRow w' (w.heap.size+1) v l∧Below w.heap.size w w':=by
 obtain⟨i0,hi,hz0,hz1,hz2⟩:=info_parts infoStp;have hmin:min (s.size:Int) 16384=s.size:=by omega
 have hmn:min s.size 16384=s.size:=by omega
 go_enter Tryz.func26,Tryz.ntmps26
 go_wp2_with fail;have hT:TpAt (w.alloc (.cells #[.string s,.bool false] 93)) w.heap.size s false:=heap_alloc_new w _;have h0:Hid (RdS w w.heap.size (.slice none 0 0) [] (w.alloc (.cells #[.string s,.bool false] 93))):=HD ⟨⟨_,_,hT,by omega⟩,World.ownsRow_nil _ _ _ _,fun x hx=>(by cases hx),(Below.refl _ _).alloc (Nat.le_refl _) _,by simp⟩;have hsz:(w.alloc (.cells #[.string s,.bool false] 93)).heap.size=w.heap.size+1:=by simp
 clear hT hmin hmn;generalize w.alloc (.cells #[.string s,.bool false] 93)=W0 at *;generalize hg:w.heap.size=g at *;have hstep:=HD (show ∀wx v l,RdS w g v l wx→Calls Tryz.prog 43 #[eP g] wx (fun e w1=>∃x ok,StOk x∧e=.returned (.tuple #[stpV x,.bool ok])∧RdS w g v l w1) from fun wx v l hR=>by
  obtain⟨⟨r,sh,h1,h2⟩,h3,h4,h5,h6⟩:=hR;refine(tpStep h1 h2).mono ?_;rintro e w1 ⟨x,ok,k1,rfl,r2,s2,k2,k3,k4⟩;exact⟨x,ok,k1,rfl,⟨r2,s2,k2,k3⟩,k4.owns h3 (fun q hq=>by have:=(h3.lt q hq).1;omega),h4,h5.trans (k4.below (by have:=h5.size;omega) (fun k hk=>by omega)),Nat.lt_of_lt_of_le h6 k4.size⟩)
 go_loopg [2] 4000 (fun gh v wx=>∃l:List StS,l.length≤4000∧gh=4000-l.length∧Hid (RdS w g v l wx))
 case atStart=>exact⟨[],by simp,rfl,h0⟩
 case round =>
  clear h0;obtain⟨l,hl,rfl,hR⟩:=hrel;obtain⟨a,c,rfl⟩:=own_slice hR.out.row;by_cases hlt:l.length<4000
  ·have d0:decide ((l.length:Int)<4000)=true:=decide_eq_true (by omega)
   have hst:=HD (hstep.out _ _ _ hR.out);clear hstep hR;go_wp2_with fail;refine hst.out.mono ?_;rintro e w1 ⟨x,ok,hx,rfl,hR1⟩;clear hst;have hbl:=hR1.bl.size;obtain⟨⟨K,T,N,M,H,sd⟩,bk⟩:=x;unfold stpV stC;simp only;cases ok with
   |false =>
    have hfin:=HD (show RdS w g (.slice a l.length c) l (w1.alloc (.cells #[.int .i64 K,.int .i64 T,.int .i64 N,.int .i64 M,.int .u64 H,.string sd,.int .i64 bk] 34)) from hR1.alloc _);clear hR1;go_wp2_with fail;go_ret
    exact⟨.slice a l.length c,l,hl,hfin.out.ok,rfl,by rw [hg];exact hfin.out.row,by rw [hg];exact hfin.out.bl⟩
   |true =>
    have hrow:World.ownsRow w1 (g+1) 34 7 (.slice a l.length c) l.length (l.flatMap stL):=hR1.row;have hlt2:=hR1.lt;replace hR1:=HD hR1;go_wp2_with (at_builtin;refine wpList_append_own _ rfl _ _ 26 rfl (g+1) 34 i0 (.agg #[.int .i64 0,.int .i64 0,.int .i64 0,.int .i64 0,.int .u64 0,.string ⟨#[]⟩,.int .i64 0]) 7 64 Tryz.underlying26 hi hz0 hz1 hz2 rfl (by decide) _ _ _ rfl ((hrow.alloc _).alloc _) _ 1 1 [.int .i64 K,.int .i64 T,.int .i64 N,.int .i64 M,.int .u64 H,.string sd,.int .i64 bk] rfl rfl ?c1 ?c2 ?c3 ?c4 ?c5 ?_)
    case c1 =>
     intro q u hq;match q,hq with
     |0,hq=>simp at hq;subst hq;simp [Addr.add]
     |1,hq=>simp at hq;subst hq;simp [Addr.add]
     |2,hq=>simp at hq;subst hq;simp [Addr.add]
     |3,hq=>simp at hq;subst hq;simp [Addr.add]
     |4,hq=>simp at hq;subst hq;simp [Addr.add]
     |5,hq=>simp at hq;subst hq;simp [Addr.add]
     |6,hq=>simp at hq;subst hq;simp [Addr.add]
    case c2=>intro u hu;simp at hu;rcases hu with rfl|rfl|rfl|rfl|rfl|rfl|rfl<;>rfl
    case c3=>unfold maxLen;omega
    case c4=>omega
    case c5=>simp;omega
    intro v2 w2 hr2 hg2 _;have hR2:=HD (hR1.out.append ⟨⟨K,T,N,M,H,sd⟩,bk⟩ hx hg2 hr2);clear hr2 hg2 hR1 hrow;go_wp2_with fail;go_roundg (4000-(l.length+1))
    case measure=>omega
    case rel=>exact⟨l++[⟨⟨K,T,N,M,H,sd⟩,bk⟩],by simp;omega,by simp,hR2⟩
  ·have d0:decide ((l.length:Int)<4000)=false:=decide_eq_false (by omega)
   clear hstep;go_wp2_with fail;go_ret
   exact⟨.slice a l.length c,l,hl,hR.out.ok,rfl,by rw [hg];exact hR.out.row,by rw [hg];exact hR.out.bl⟩
end
section
open Go.RowKit Flt
structure RowT(w:World)(o:Nat→Tag)(t:Tag)(base:Nat)(e:TypeId)(size:Nat)(v:Value)(n:Nat)(xs:List Value):Prop where
 own:w.ownsRow base e size v n xs
 tag:∀q,v.ownBlock=some q→o q=t
section
variable{S:Tag→Prop}{w w':World}{o o':Nat→Tag}{t:Tag}{base:Nat}{e:TypeId}{size:Nat}{v:Value}{n:Nat}{xs:List Value}
theorem RowT.fr(h:RowT w o t base e size v n xs)(f:Fr S w o w' o')(hS:¬S t):RowT w' o' t base e size v n xs :=
 ⟨f.only.owns h.own (fun q hq hs=>hS (by have:=h.tag q hq;rwa [this] at hs)),fun q hq=>(f.ext q (h.own.lt q hq).2).trans (h.tag q hq)⟩
theorem RowT.nil(w:World)(o:Nat→Tag)(t:Tag)(base:Nat)(e:TypeId)(size:Nat):RowT w o t base e size (.slice none 0 0) 0 []:=⟨World.ownsRow_nil _ _ _ _,fun q hq=>(by cases hq)⟩
theorem RowT.slice(h:RowT w o t base e size v n xs):∃a c,v=.slice a n c:=own_slice h.own
theorem RowT.app{T ty:TypeId}{i:TypeInfo}{z:Value}{bytes p:Nat}{C:Array Value}(h:RowT w o t base e size v n xs)(hT:Tryz.prog.underlying T=some (.slice e))(hi:Tryz.prog.info? e=some i)(hz:i.zero=some z)
  (hsize:i.size=size) (hby:i.bytes=bytes) (hzs:z.cells.size=size) (hsz:0<size) (hp:w.heap[p]? = some (.cells C e (0,0))) (hC:C.size=size) (h1:∀u∈C.toList,u.oneCell'=true)
  (hn:n≤1000000) (hb:bytes≤100) (hbase:base≤w.heap.size) :
  ∃A k c w',(Builtin.append_ #[T,T] ty #[v,.slice (some ⟨p,0,none⟩) 1 1]).run Tryz.prog w=.ok (.slice A k c) w'∧RowT w' (newO o w t) t base e size (.slice A k c) (n+1) (xs++C.toList)∧Fr (fun u=>u=t) w o w' (newO o w t):=by
 have hc:∀(j:Nat) u,C.toList[j]? = some u→w.cell? ((⟨p,0,none⟩:Addr).add j)=some u:=fun j u hu=>by
  rw [add_pl,Nat.zero_add,cell_of_row _ p j C e (0,0) hp];simpa using hu
 have hb2:(n+1)*bytes≤140737488355328:=by
  have:(n+1)*bytes≤1000001*100:=Nat.mul_le_mul (by omega) hb;omega
 obtain⟨v',w1,hr,q2,q3,_,q5⟩:=run_append_own_at (P:=Tryz.prog) w base T ty e i z size bytes hT hi hz hsize hby hzs hsz v n xs h.own ⟨p,0,none⟩ 1 1 C.toList (by rw [Array.length_toList,hC];omega) hc h1 (by unfold maxLen;omega) hb2 hbase;have hO:Only (fun k=>o k=t) w w1:=(Only.refl _ _).grown q3 (fun k hk hlt=>h.tag k hk);have htag:∀q,v'.ownBlock=some q→newO o w t q=t:=fun q hq=>by
  rcases q5 with q5|q5
  ·rw [q5] at hq
   exact(newO_old (h.own.lt q hq).2).trans (h.tag q hq)
  ·rw [q5] at hq
   obtain rfl:=Option.some.inj hq;exact newO_new (Nat.le_refl _)
 obtain⟨a,c,rfl⟩:=own_slice q2;exact⟨a,n+1,c,w1,hr,⟨q2,htag⟩,Fr.of_new hO _⟩
end
abbrev opL(x:OpS):List Value:=[.int .i64 x.K,.int .i64 x.T,.int .i64 x.N,.int .i64 x.M,.int .u64 x.H,.string x.s]
abbrev ansL(x:Ans):List Value:=[.int .i64 x.err,.int .u64 x.h,.int .i64 x.addr,.int .i64 x.n,.string x.data,.int .i64 x.ch]
theorem infoAn:(Tryz.prog.info? 47).map (fun i=>(i.zero,i.size,i.bytes))=some (some (.agg #[.int .i64 0,.int .u64 0,.int .i64 0,.int .i64 0,.string ⟨#[]⟩,.int .i64 0]),6,56):=by kernel_rfl
structure RnS where
 s:AdS
 G:List (Int×List Nat)
 ops:List OpS
 said:List Ans
def gvn(G:List (Int×List Nat))(k:Int):List Nat:=(mGet G k).getD []
def hnd(G:List (Int×List Nat))(x:StS):Nat:=if 0<x.bk then (if x.bk≤(gvn G x.o.T).length then (gvn G x.o.T).getD ((gvn G x.o.T).length-x.bk.toNat) 0 else 0) else x.o.H
def opOf(G:List (Int×List Nat))(x:StS):OpS:={x.o with H:=hnd G x}
def giv(G:List (Int×List Nat))(k:Int)(h:Nat):List (Int×List Nat):=if h=0 then G else mIns k (gvn G k++[h]) G
def RnS.step(R:RnS)(x:StS):RnS :=
 ⟨(R.s.do_ (opOf R.G x)).2,giv R.G x.o.T (R.s.do_ (opOf R.G x)).1.h,R.ops++[opOf R.G x],R.said++[(R.s.do_ (opOf R.G x)).1]⟩
def RnS.new(P C:Nat):RnS:=⟨AdS.new P C,[],[],[]⟩
def runAll(P C:Nat)(l:List StS):RnS:=l.foldl RnS.step (RnS.new P C)
end
section
open Go.RowKit Flt
theorem flat_get{α β:Type}{f:α→List β}{m:Nat}(hf:∀x,(f x).length=m):∀(l:List α) (j i:Nat) (h:j<l.length),i<m→(l.flatMap f)[m*j+i]? = (f l[j])[i]?
 |[],j,i,h,_=>by simp at h
 |x :: l,0,i,h,hi=>by
  rw [List.flatMap_cons,Nat.mul_zero,Nat.zero_add,List.getElem?_append_left (by rw [hf];exact hi)];rfl
 |x :: l,j+1,i,h,hi=>by
  rw [List.flatMap_cons,List.getElem?_append_right (by rw [hf,Nat.mul_add];omega),hf];rw [show m*(j+1)+i-m=m*j+i by rw [Nat.mul_add];omega];exact flat_get hf l j i (by simpa using h) hi
structure Own(r:Tag)(q:Nat):Prop where
 rt:Root r
 h9:q≠9
 h50:q≠50
 hr:∀u,¬r <+: (q :: u)
theorem Own.off{r:Tag}{q k:Nat}{l:Tag}(h:Own r q):Off (fun v=>v=q :: k :: l) r:=⟨fun u hu e=>h.hr _ (e▸hu),fun e=>by simp at e⟩
theorem Own.off2{r:Tag}{q k:Nat}{l:Tag}(h:Own r q):Off (fun v=>v=q :: k :: l) (sg r):=⟨fun u hu e=>by
 subst e;exact h.h50 (List.cons_prefix_cons.1 hu).1.symm,fun e=>by simp at e⟩
theorem Own.no{r:Tag}{q:Nat}(h:Own r q)(u:Tag):¬UndS r (q :: u):=fun e=>by
 rcases e with e|e
 ·exact h.hr _ e
 ·exact h.h50 (List.cons_prefix_cons.1 e).1.symm
structure RnG(w0:World)(o0:Nat→Tag)(w:World)(o:Nat→Tag)(r:Tag)(q b mb:Nat)(vO vA:Value)(B:List UInt8)(K:Nat)(M:List (Int×(Value×List Nat)))(R:RnS):Prop where
 sv:SvAt w o r b B K R.s
 mp:MpAt w o [q,0] mb .i64 Prod.fst M
 gr:∀p∈M,RowT w o [q,3,p.1.toNat] 0 30 1 p.2.1 p.2.2.length (p.2.2.map (fun h:Nat=>Value.int .u64 (h:Int)))
 gk:∀p∈M,0≤p.1∧p.1≤255
 gh:∀p∈M,∀h∈p.2.2,h<18446744073709551616
 gl:∀p∈M,p.2.2.length≤K
 lk:R.ops.length≤K
 rG:R.G=M.map (fun p=>(p.1,p.2.2))
 ro:RowT w o [q,1] 0 32 6 vO R.ops.length (R.ops.flatMap opL)
 ra:RowT w o [q,2] 0 47 6 vA R.said.length (R.said.flatMap ansL)
 ln:R.said.length=R.ops.length
 fr:Fr (fun _=>False) w0 o0 w o
 old:∀k,k<w0.heap.size→¬UndS r (o0 k)∧∀l,o0 k≠q :: l
section
variable{S:Tag→Prop}{w0 w w':World}{o0 o o':Nat→Tag}{r:Tag}{q b mb:Nat}{vO vA:Value}{B B':List UInt8}{K:Nat}{M:List (Int×(Value×List Nat))}{R:RnS}
theorem RnG.does(h:RnG w0 o0 w o r q b mb vO vA B K M R)(hq:Own r q){s':AdS}{K':Nat}(hs:SvAt w' o' r b B' K' s')(f:Fr (UndS r) w o w' o')(hK:K≤K'):RnG w0 o0 w' o' r q b mb vO vA B' K' M {R with s:=s'} :=
 ⟨hs,h.mp.fr f (hq.no _),fun p hp=>(h.gr p hp).fr f (hq.no _),h.gk,h.gh,fun p hp=>Nat.le_trans (h.gl p hp) hK,Nat.le_trans h.lk hK,h.rG,h.ro.fr f (hq.no _),h.ra.fr f (hq.no _),h.ln,
  ⟨h.fr.only.seq f.only (fun i hi hu=>(h.old i hi).1 (by rw [←h.fr.ext i hi];exact hu)),fun i hi=>(f.ext i (Nat.lt_of_lt_of_le hi h.fr.size)).trans (h.fr.ext i hi)⟩,h.old⟩
theorem RnG.calm(h:RnG w0 o0 w o r q b mb vO vA B K M R)(f:Fr (fun _=>False) w o w' o'):RnG w0 o0 w' o' r q b mb vO vA B K M R :=
 ⟨h.sv.fr f ⟨fun _ _ e=>e,fun e=>e⟩ ⟨fun _ _ e=>e,fun e=>e⟩,h.mp.fr f (fun e=>e),fun p hp=>(h.gr p hp).fr f (fun e=>e),h.gk,h.gh,h.gl,h.lk,h.rG,h.ro.fr f (fun e=>e),h.ra.fr f (fun e=>e),h.ln,h.fr.trans f,h.old⟩
theorem get_G(h:RnG w0 o0 w o r q b mb vO vA B K M R)(k:Int):mGet R.G k=(mGet M k).map Prod.snd:=by
 rw [h.rG];clear h;induction M with
 |nil=>rfl
 |cons p M ih =>
  obtain⟨a,v⟩:=p;simp only [List.map_cons,mGet]
  split
  ·rfl
  ·exact ih
theorem zeroU(w:World):(zeroValue 62).run Tryz.prog w=.ok (.slice none 0 0) w:=by kernel_rfl
theorem mIns_map{α β:Type}(f:α→β)(k:Int)(v:α):∀M:List (Int×α),(mIns k v M).map (fun p=>(p.1,f p.2))=mIns k (f v) (M.map (fun p=>(p.1,f p.2)))
 |[]=>rfl
 |(a,u) :: M=>by
  simp only [mIns,List.map_cons]
  split
  ·rfl
  ·split
   ·rfl
   ·simp only [List.map_cons,mIns_map f k v M]
abbrev u64L(l:List Nat):List Value:=l.map (fun h:Nat=>Value.int .u64 (h:Int))
theorem RnG.given(h:RnG w0 o0 w o r q b mb vO vA B K M R)(T:Int):∃gv,RowT w o [q,3,T.toNat] 0 30 1 gv (gvn R.G T).length (u64L (gvn R.G T))∧(gvn R.G T).length≤K∧(∀x∈gvn R.G T,x<18446744073709551616) ∧
  ∀W' O',MpAt W' O' [q,0] mb .i64 Prod.fst M→(Instr.lookup 70 (.map (some mb)) (.int .i64 T) false).run Tryz.prog W'=.ok gv W':=by
 have hg:=get_G h T;cases hm:mGet M T with
 |none =>
  rw [hm] at hg;have e:gvn R.G T=[]:=by unfold gvn;rw [hg];rfl
  rw [e];refine⟨.slice none 0 0,RowT.nil _ _ _ _ _ _,Nat.zero_le _,fun x hx=>(by cases hx),fun W' O' hW=>?_⟩;have:=mp_lookup (P:=Tryz.prog) hW Tryz.underlying70 Tryz.underlying3 zeroU T false;rw [hm] at this;exact this
 |some v =>
  rw [hm] at hg;have hmem:=mGet_mem hm;have e:gvn R.G T=v.2:=by unfold gvn;rw [hg];rfl
  rw [e];refine⟨v.1,h.gr _ hmem,h.gl _ hmem,h.gh _ hmem,fun W' O' hW=>?_⟩;have:=mp_lookup (P:=Tryz.prog) hW Tryz.underlying70 Tryz.underlying3 zeroU T false;rw [hm] at this;exact this
theorem RnG.gvl(h:RnG w0 o0 w o r q b mb vO vA B K M R)(T:Int):(gvn R.G T).length≤K:=by
 obtain⟨_,_,h1,_⟩:=h.given T;exact h1
theorem RnG.mlen(h:RnG w0 o0 w o r q b mb vO vA B K M R):M.length≤256:=by
 have h1:(M.map (·.1)).Nodup:=by
  have:(M.map (·.1)).Pairwise (· < ·):=List.pairwise_map.2 h.mp.2.1;exact this.imp (fun q=>by omega)
 have:=nodup_len 256 (M.map (·.1)) h1 (fun x hx=>by
  obtain⟨p,hp,rfl⟩:=List.mem_map.1 hx;have:=h.gk p hp;omega)
 rwa [List.length_map] at this
theorem RnG.give(h:RnG w0 o0 w o r q b mb vO vA B K M R)(hq:Own r q){T:Int}(hT:0≤T∧T≤255){g:Nat}(hg0:g≠0)(hg:g<18446744073709551616){gv:Value}(hgv:RowT w o [q,3,T.toNat] 0 30 1 gv (gvn R.G T).length (u64L (gvn R.G T)))(hgl:(gvn R.G T).length+1≤K)(hgh:∀x∈gvn R.G T,x<18446744073709551616)(hK:K≤1000000)(hml:M.length<1000000000) :
  ∃A k c w2 w3 o2,(Builtin.append_ #[62,62] 62 #[gv,.slice (some ⟨w.heap.size,0,none⟩) 1 1]).run Tryz.prog (w.alloc (.cells #[.int .u64 (g:Int)] 30))=.ok (.slice A k c) w2∧Fr (fun v=>v=[q,3,T.toNat]) w o w2 o2∧MpAt w2 o2 [q,0] mb .i64 Prod.fst M ∧
   (Instr.mapUpdate 70 (.map (some mb)) (.int .i64 T) (.slice A k c)).run Tryz.prog w2=.ok () w3∧RnG w0 o0 w3 o2 r q b mb vO vA B K (mIns T (.slice A k c,gvn R.G T++[g]) M) {R with G:=giv R.G T g}∧Fr (fun v=>v=[q,0]∨v=[q,3,T.toNat]) w o w3 o2:=by
 obtain⟨i0,hi,hz0,hz1,hz2⟩:=info_parts infoU64;have f1:Fr (fun _=>False) w o (w.alloc (.cells #[.int .u64 (g:Int)] 30)) o:=Fr.alloc' _;have hg1:=hgv.fr f1 (fun e=>e);obtain⟨A,k,c,w2,e1,r2,f2⟩:=hg1.app (T:=62) (ty:=62) (p:=w.heap.size) (C:=#[.int .u64 (g:Int)]) Tryz.underlying62 hi hz0 hz1 hz2 rfl (by decide) (heap_alloc_new w _) rfl (fun u hu=>by simp at hu;rw [hu];rfl) (by omega) (by decide) (Nat.zero_le _);generalize newO o (w.alloc (.cells #[.int .u64 (g:Int)] 30)) [q,3,T.toNat]=o2 at r2 f2;have f3:Fr (fun v=>v=[q,3,T.toNat]) w o w2 o2:=(f1.mono (fun v e=>e.elim)).trans f2;have m2:=h.mp.fr f3 (fun e=>by simp at e);obtain⟨w3,e3,m3,f4,_⟩:=mp_store (P:=Tryz.prog) m2 Tryz.underlying70 Tryz.underlying3 T (.slice A k c,gvn R.G T++[g]) hml;have f5:Fr (fun v=>v=[q,0]∨v=[q,3,T.toNat]) w o w3 o2:=(f3.mono (fun v e=>.inr e)).trans (f4.mono (fun v e=>.inl e));have hn0:∀n:Nat,¬([q,3,n]:Tag)=[q,0]:=fun n e=>by simp at e
 have hmem:∀p∈mIns T (Value.slice A k c,gvn R.G T++[g]) M,(p.1=T∧p.2=(.slice A k c,gvn R.G T++[g]))∨(p∈M∧p.1≠T):=fun p hp=>by
  by_cases c1:p.1=T
  ·refine .inl ⟨c1,?_⟩
   have hr:=m3.2.1;have x1:=mGet_of hr (k:=p.1) (v:=p.2) hp;rw [c1,mGet_ins_same h.mp.2.1] at x1;exact(Option.some.inj x1).symm
  ·rcases mIns_mem p hp with e|e
   ·exact absurd (by rw [e]) c1
   ·exact .inr ⟨e,c1⟩
 refine⟨A,k,c,w2,w3,o2,e1,f3,m2,e3,⟨?_,m3,fun p hp=>?_,fun p hp=>?_,fun p hp=>?_,fun p hp=>?_,h.lk,?_,h.ro.fr f5 (fun e=>by simp at e),h.ra.fr f5 (fun e=>by simp at e),h.ln,?_,h.old⟩,f5⟩
 ·exact(h.sv.fr f3 hq.off hq.off2).fr f4 hq.off hq.off2
 ·rcases hmem p hp with ⟨c1,c2⟩|⟨c1,c2⟩
  ·rw [c1,c2]
   have r3:=r2.fr f4 (hn0 _);simp only [List.length_append,List.length_singleton];rw [List.map_append];exact r3
  ·have hk:=h.gk p c1
   refine((h.gr p c1).fr f3 (fun e=>?_)).fr f4 (hn0 _);injection e with _ e;injection e with _ e;injection e with e _
   omega
 ·rcases hmem p hp with ⟨c1,c2⟩|⟨c1,c2⟩
  ·rw [c1];exact hT
  ·exact h.gk p c1
 ·rcases hmem p hp with ⟨c1,c2⟩|⟨c1,c2⟩
  ·rw [c2]
   intro y hy;rcases List.mem_append.1 hy with z|z
   ·exact hgh y z
   ·rw [List.mem_singleton.1 z];exact hg
  ·exact h.gh p c1
 ·rcases hmem p hp with ⟨c1,c2⟩|⟨c1,c2⟩
  ·rw [c2];simpa using hgl
  ·exact h.gl p c1
 ·show giv R.G T g=_
  unfold giv;rw [if_neg hg0,mIns_map Prod.snd,←h.rG]
 ·refine⟨h.fr.only.seq f5.only (fun i hi hu=>?_),fun i hi=>(f5.ext i (Nat.lt_of_lt_of_le hi h.fr.size)).trans (h.fr.ext i hi)⟩
  have ho:=(h.old i hi).2;rw [h.fr.ext i hi] at hu;rcases hu with hu|hu
  ·exact ho _ hu
  ·exact ho _ hu
end
end
section
open Go.RowKit Flt
def PendO(W:World)(O:Nat→Tag)(p:Nat)(x:OpS):Prop:=OpRow W p x∧O p=[7]
def PendA(W:World)(O:Nat→Tag)(p:Nat)(y:Ans):Prop:=Row W p y∧O p=[7]
section
variable{S:Tag→Prop}{w W W':World}{o O O':Nat→Tag}{q p px py:Nat}{x:OpS}{y:Ans}{vO vA:Value}{nO nA:Nat}{lo la:List Value}
theorem PendO.fr(h:PendO W O p x)(f:Fr S W O W' O')(hS:¬S [7]):PendO W' O' p x:=by
 have hb:Blk W O [7] p (opC x) 32:=⟨h.2,h.1⟩
 have:=hb.fr f hS;exact⟨this.2,this.1⟩
theorem PendA.fr(h:PendA W O p y)(f:Fr S W O W' O')(hS:¬S [7]):PendA W' O' p y:=by
 have hb:Blk W O [7] p (ansC y) 47:=⟨h.2,h.1⟩
 have:=hb.fr f hS;exact⟨this.2,this.1⟩
structure Mid(w:World)(o:Nat→Tag)(q px py:Nat)(x:OpS)(y:Ans)(W:World)(O:Nat→Tag)(vO vA:Value)(nO nA:Nat)(lo la:List Value):Prop where
 fr:Fr (fun v=>v=[q,1]∨v=[q,2]) w o W O
 ro:RowT W O [q,1] 0 32 6 vO nO lo
 ra:RowT W O [q,2] 0 47 6 vA nA la
 kx:PendO W O px x
 ky:PendA W O py y
abbrev MidS(px py:Nat)(x:OpS)(y:Ans)(W:World):Prop :=
 W.cell? ⟨px,0,none⟩=some (.int .i64 x.K)∧W.cell? ⟨px,1,none⟩=some (.int .i64 x.T)∧W.cell? ⟨px,2,none⟩=some (.int .i64 x.N)∧W.cell? ⟨px,3,none⟩=some (.int .i64 x.M)∧W.cell? ⟨px,4,none⟩=some (.int .u64 x.H)∧W.cell? ⟨px,5,none⟩=some (.string x.s) ∧
 W.cell? ⟨py,0,none⟩=some (.int .i64 y.err)∧W.cell? ⟨py,1,none⟩=some (.int .u64 y.h)∧W.cell? ⟨py,2,none⟩=some (.int .i64 y.addr)∧W.cell? ⟨py,3,none⟩=some (.int .i64 y.n)∧W.cell? ⟨py,4,none⟩=some (.string y.data)∧W.cell? ⟨py,5,none⟩=some (.int .i64 y.ch)
theorem Mid.cl(h:Mid w o q px py x y W O vO vA nO nA lo la):MidS px py x y W:=by
 obtain⟨a0,a1,a2,a3,a4,a5⟩:=h.kx.1.cells;obtain⟨b0,b1,b2,b3,b4,b5,_⟩:=h.ky.1.cells;exact⟨a0,a1,a2,a3,a4,a5,b0,b1,b2,b3,b4,b5⟩
theorem Mid.drew(h:Mid w o q px py x y W O vO vA nO nA lo la):Mid w o q px py x y W.drew O vO vA nO nA lo la :=
 ⟨h.fr.drew',h.ro.fr (S:=fun _=>False) Fr.drew (fun e=>e),h.ra.fr (S:=fun _=>False) Fr.drew (fun e=>e),h.kx,h.ky⟩
theorem Mid.alloc(h:Mid w o q px py x y W O vO vA nO nA lo la)(z:Obj):Mid w o q px py x y (W.alloc z) (setO O W.heap.size [7]) vO vA nO nA lo la:=by
 have f:Fr (fun _=>False) W O (W.alloc z) (setO O W.heap.size [7]):=Fr.alloc _ _;exact⟨h.fr.al' _ _,h.ro.fr f (fun e=>e),h.ra.fr f (fun e=>e),h.kx.fr f (fun e=>e),h.ky.fr f (fun e=>e)⟩
theorem PendO.new(W:World)(O:Nat→Tag)(x:OpS):PendO (W.alloc (.cells (opC x) 32)) (setO O W.heap.size [7]) W.heap.size x:=⟨heap_alloc_new W _,setO_same⟩
theorem PendA.new(W:World)(O:Nat→Tag)(y:Ans):PendA (W.alloc (.cells (ansC y) 47)) (setO O W.heap.size [7]) W.heap.size y:=⟨heap_alloc_new W _,setO_same⟩
theorem Mid.alloc'(h:Mid w o q px py x y W O vO vA nO nA lo la)(z:Obj){k:Nat}(hk:W.heap.size=k):Mid w o q px py x y (W.alloc z) (setO O k [7]) vO vA nO nA lo la:=by subst hk;exact h.alloc z
theorem PendO.new'(W:World)(O:Nat→Tag)(x:OpS){k:Nat}(hk:W.heap.size=k):PendO (W.alloc (.cells (opC x) 32)) (setO O k [7]) k x:=by subst hk;exact PendO.new W O x
theorem PendA.new'(W:World)(O:Nat→Tag)(y:Ans){k:Nat}(hk:W.heap.size=k):PendA (W.alloc (.cells (ansC y) 47)) (setO O k [7]) k y:=by subst hk;exact PendA.new W O y
theorem PendO.al(h:PendO W O p x)(z:Obj){k:Nat}(hk:W.heap.size=k):PendO (W.alloc z) (setO O k [7]) p x:=by subst hk;exact h.fr (S:=fun _=>False) (Fr.alloc z [7]) (fun e=>e)
theorem PendA.al(h:PendA W O p y)(z:Obj){k:Nat}(hk:W.heap.size=k):PendA (W.alloc z) (setO O k [7]) p y:=by subst hk;exact h.fr (S:=fun _=>False) (Fr.alloc z [7]) (fun e=>e)
theorem Mid.alO(h:Mid w o q px py x y W O vO vA nO nA lo la)(z:OpS){k:Nat}(hk:W.heap.size=k):Mid w o q px py x y (W.alloc (.cells (opC z) 32)) (setO O k [7]) vO vA nO nA lo la∧PendO (W.alloc (.cells (opC z) 32)) (setO O k [7]) k z:=⟨h.alloc' _ hk,PendO.new' W O z hk⟩
theorem Mid.alA(h:Mid w o q px py x y W O vO vA nO nA lo la)(z:Ans){k:Nat}(hk:W.heap.size=k):Mid w o q px py x y (W.alloc (.cells (ansC z) 47)) (setO O k [7]) vO vA nO nA lo la∧PendA (W.alloc (.cells (ansC z) 47)) (setO O k [7]) k z:=⟨h.alloc' _ hk,PendA.new' W O z hk⟩
theorem Mid.appO(h:Mid w o q px py x y W O vO vA nO nA lo la)(hp:PendO W O p x)(hn:nO≤1000000) :
  ∃A k c W' O',(Builtin.append_ #[36,36] 36 #[vO,.slice (some ⟨p,0,none⟩) 1 1]).run Tryz.prog W=.ok (.slice A k c) W'∧Mid w o q px py x y W' O' (.slice A k c) vA (nO+1) nA (lo++opL x) la∧(∀p' y',PendA W O p' y'→PendA W' O' p' y'):=by
 obtain⟨i0,hi,hz0,hz1,hz2⟩:=info_parts infoOp;obtain⟨A,k,c,W',e1,r2,f2⟩:=h.ro.app (T:=36) (ty:=36) (p:=p) (C:=opC x) Tryz.underlying36 hi hz0 hz1 hz2 rfl (by decide) hp.1 rfl (fun u hu=>by simp at hu;rcases hu with rfl|rfl|rfl|rfl|rfl|rfl<;>rfl) hn (by decide) (Nat.zero_le _);refine⟨A,k,c,W',_,e1,⟨h.fr.trans (f2.mono fun v e=>.inl e),r2,h.ra.fr f2 (fun e=>by simp at e),h.kx.fr f2 (fun e=>by simp at e),h.ky.fr f2 (fun e=>by simp at e)⟩,fun p' y' hp'=>hp'.fr f2 (fun e=>by simp at e)⟩
theorem Mid.appA(h:Mid w o q px py x y W O vO vA nO nA lo la)(hp:PendA W O p y)(hn:nA≤1000000) :
  ∃A k c W' O',(Builtin.append_ #[37,37] 37 #[vA,.slice (some ⟨p,0,none⟩) 1 1]).run Tryz.prog W=.ok (.slice A k c) W'∧Mid w o q px py x y W' O' vO (.slice A k c) nO (nA+1) lo (la++ansL y):=by
 obtain⟨i0,hi,hz0,hz1,hz2⟩:=info_parts infoAn;obtain⟨A,k,c,W',e1,r2,f2⟩:=h.ra.app (T:=37) (ty:=37) (p:=p) (C:=ansC y) Tryz.underlying37 hi hz0 hz1 hz2 rfl (by decide) hp.1 rfl (fun u hu=>by simp at hu;rcases hu with rfl|rfl|rfl|rfl|rfl|rfl<;>rfl) hn (by decide) (Nat.zero_le _);exact⟨A,k,c,W',_,e1,⟨h.fr.trans (f2.mono fun v e=>.inr e),h.ro.fr f2 (fun e=>by simp at e),r2,h.kx.fr f2 (fun e=>by simp at e),h.ky.fr f2 (fun e=>by simp at e)⟩⟩
end
section
variable{w0 w W:World}{o0 o O:Nat→Tag}{r:Tag}{q b mb px py:Nat}{x:OpS}{y:Ans}{vO vA vO' vA':Value}{B:List UInt8}{K:Nat}{M:List (Int×(Value×List Nat))}{R:RnS}
theorem RnG.mid(h:RnG w0 o0 w o r q b mb vO vA B K M R)(hx:PendO w o px x)(hy:PendA w o py y):Mid w o q px py x y w o vO vA R.ops.length R.said.length (R.ops.flatMap opL) (R.said.flatMap ansL) :=
 ⟨Fr.refl _ _ _,h.ro,h.ra,hx,hy⟩
theorem RnG.noted(h:RnG w0 o0 w o r q b mb vO vA B K M R)(hq:Own r q)(hM:Mid w o q px py x y W O vO' vA' (R.ops.length+1) (R.said.length+1) (R.ops.flatMap opL++opL x) (R.said.flatMap ansL++ansL y))(hK:R.ops.length<K) :
  RnG w0 o0 W O r q b mb vO' vA' B K M {R with ops:=R.ops++[x],said:=R.said++[y]}:=by
 have f:=hM.fr;refine⟨?_,h.mp.fr f (fun e=>by simp at e),fun p hp=>(h.gr p hp).fr f (fun e=>by simp at e),h.gk,h.gh,h.gl,by simp;omega,h.rG,?_,?_,by simp [h.ln],?_,h.old⟩
 ·refine h.sv.fr f ⟨fun u hu e=>?_,fun e=>by simp at e⟩ ⟨fun u hu e=>?_,fun e=>by simp at e⟩
  ·rcases e with e|e
   ·exact hq.hr _ (e▸hu)
   ·exact hq.hr _ (e▸hu)
  ·rcases e with e|e
   ·subst e;exact hq.h50 (List.cons_prefix_cons.1 hu).1.symm
   ·subst e;exact hq.h50 (List.cons_prefix_cons.1 hu).1.symm
 ·simp only [List.length_append,List.length_singleton,List.flatMap_append]
  have:=hM.ro;simpa using this
 ·simp only [List.length_append,List.length_singleton,List.flatMap_append]
  have:=hM.ra;simpa using this
 ·refine⟨h.fr.only.seq f.only (fun i hi hu=>?_),fun i hi=>(f.ext i (Nat.lt_of_lt_of_le hi h.fr.size)).trans (h.fr.ext i hi)⟩
  have ho:=(h.old i hi).2;rw [h.fr.ext i hi] at hu;rcases hu with hu|hu
  ·exact ho _ hu
  ·exact ho _ hu
theorem RnG.dos(h:RnG w0 o0 W O r q b mb vO vA B K M R)(hq:Own r q)(hx:PendO W O px x)(hK:K≤900000)(hH:x.H<18446744073709551616)(hs:x.s.size≤255){t:Tag}{v:Value}{l:List StS}(hv:RowT W O t 0 34 7 v l.length (l.flatMap stL))(ht:¬UndS r t) :
  Calls Tryz.prog 18 #[eP b,x.v] W fun e W'=>e=.returned (ansV (R.s.do_ x).1)∧∃O' B',RnG w0 o0 W' O' r q b mb vO vA B' (K+1) M {R with s:=(R.s.do_ x).2}∧PendO W' O' px x∧RowT W' O' t 0 34 7 v l.length (l.flatMap stL):=by
 refine(svDo x h.sv hq.rt hK hH (by unfold maxLen;omega)).mono ?_;rintro e W' ⟨rfl,O',B',h1,f,_⟩;have h7:¬UndS r [7]:=fun e=>by
  rcases e with e|e
  ·exact hq.rt.r7 e
  ·have:=(List.cons_prefix_cons.1 e).1;omega
 exact⟨rfl,O',B',h.does hq h1 f (Nat.le_succ _),hx.fr f h7,hv.fr f ht⟩
end
end
section
open Go.RowKit Flt
attribute [local irreducible] CpS.rv
theorem grH_lt{cp:CpS}{K:List Int}(h:CpR cp K)(hx:cp.next<17592186044416)(ht:cp.tenant<8):cp.grH<18446744073709551616:=by
 have hl:(cp.obj.low.getD 0:Nat)≤8191:=by
  cases e:cp.obj.low with
  |none=>simp
  |some k =>
   have:=(low_spec e).1;rw [h.ok.obj] at this;simp;omega
 unfold CpS.grH packN;generalize cp.obj.low.getD 0=z at *;omega
theorem restA_lt{cp:CpS}{K:List Int}(h:CpR cp K)(g:Nat)(r:Int):(cp.restA g r).1<18446744073709551616:=by
 unfold CpS.restA
 split
 ·exact Nat.two_pow_pos 64
 ·split
  ·exact Nat.two_pow_pos 64
  ·split
   ·unfold CpS.putA
    split
    ·exact Nat.two_pow_pos 64
    ·rename_i hr _ hn
     split
     ·exact Nat.two_pow_pos 64
     ·rename_i k e
      have hk:=(low_spec e).1;have hs:cp.sh false=cp.ext:=rfl;rw [hs,h.ok.ext] at hk;have ht:=h.ok.tenant;have hb:CpS.base false=4096:=rfl;show packN cp.tenant (CpS.base false+k) r cp.next<_;rw [hb];unfold packN;omega
   ·exact Nat.two_pow_pos 64
theorem ask_h{B:List UInt8}{cm:CmS}{win:List Int}{tb:TbS}{t:TnS}(x:OpS)(ok:TnOk B cm win tb t)(hx:t.cp.next<17592186044416)(ht:t.cp.tenant<8)(hH:x.H<18446744073709551616):(t.ask x).1.h<18446744073709551616:=by
 have hg:=grH_lt ok.cp hx ht;have hR:∀n,(t.getR n).1.h<18446744073709551616:=fun n=>by
  unfold TnS.getR
  split
  ·exact Nat.two_pow_pos 64
  ·split
   ·exact Nat.two_pow_pos 64
   ·exact hg
 have hM:∀n,(t.malloc n).1.h<18446744073709551616:=hR;have h0:(0:Nat)<18446744073709551616:=by decide
 unfold TnS.ask
 split
 ·exact hM _
 split
 ·unfold TnS.calloc
  split
  ·exact hM _
  ·exact h0
 split
 ·unfold TnS.free;(repeat' split)<;>exact h0
 split
 ·unfold TnS.realloc
  (repeat' split)<;>first|exact h0|exact hH|exact hg
 split
 ·unfold TnS.usable;(repeat' split)<;>exact h0
 split
 ·unfold TnS.read;(repeat' split)<;>exact h0
 split
 ·unfold TnS.write;(repeat' split)<;>exact h0
 ·exact restA_lt ok.cp _ _
theorem do_h{w:World}{o:Nat→Tag}{r:Tag}{b:Nat}{B:List UInt8}{K:Nat}{s:AdS}(x:OpS)(h:SvAt w o r b B K s)(hK:K≤900000)(hH:x.H<18446744073709551616):(s.do_ x).1.h<18446744073709551616:=by
 obtain⟨ba,dv,n,tv,m,h1,hn,hm,hx⟩:=h;obtain⟨y,cm,p,tbs,g⟩:=h1.ad;have h0:(0:Nat)<18446744073709551616:=by decide
 unfold AdS.do_
 split
 ·rename_i hr
  obtain⟨g1,g2,g3,g4,g5,g6⟩:=right_iff.1 hr
  (repeat' split)<;>first|exact h0|skip
  rename_i t ht;obtain⟨a1,a2,a3⟩:=g.ok.tn x.T.toNat t (by omega) ht;have:=(hx x.T.toNat (by omega)).2 t ht;exact ask_h x a1 (by omega) (by omega) hH
 ·exact h0
end
section
open Go.RowKit Flt
structure RnI(w0:World)(o0:Nat→Tag)(r:Tag)(q:Nat)(t:Tag)(P C b mb:Nat)(v:Value)(l:List StS)(vO vA:Value)(j:Nat)(w:World):Prop where
 g:∃o B M,RnG w0 o0 w o r q b mb vO vA B j M ((l.take j).foldl RnS.step (RnS.new P C))∧RowT w o t 0 34 7 v l.length (l.flatMap stL)
theorem results_tmp4{fn:Func}{t u v z:Tmp}(h:fn.results=#[.tmp t,.tmp u,.tmp v,.tmp z])(tmps:Array Value)(P:Program)(w:World) :
  (results fn tmps).run P w=.ok (.tuple #[tmps.getD t undef,tmps.getD u undef,tmps.getD v undef,tmps.getD z undef]) w:=by
 simp only [results,h];simp [Sem.run_bind,Result.andThen]
theorem stepCells{w:World}{o:Nat→Tag}{t:Tag}{va:Option Addr}{vc:Nat}{l:List StS}(h:RowT w o t 0 34 7 (.slice va l.length vc) l.length (l.flatMap stL)){j:Nat}(hj:j<l.length) :
  ∃g,va=some ⟨g,0,none⟩∧(∀i,i<7→w.cell? ⟨g,j*7+i,none⟩=(stL l[j])[i]?):=by
 rcases h.own.2 with ⟨h1,h2⟩|⟨g,cap,cur,e,_⟩
 ·omega
 ·injection e with e1 e2 e3
  subst e1;refine⟨g,rfl,fun i hi=>?_⟩;have:=h.own.cellAt (7*j+i) (by omega);rw [Nat.mul_comm j 7,this];exact flat_get (f:=stL) (m:=7) (fun _=>rfl) l j i hj hi
theorem run_succ{l:List StS}{j:Nat}(h:j<l.length)(R0:RnS):(l.take (j+1)).foldl RnS.step R0=RnS.step ((l.take j).foldl RnS.step R0) l[j]:=by
 rw [List.take_succ_eq_append_getElem h,List.foldl_append];rfl
section
variable{w0 W:World}{o0 O:Nat→Tag}{r t:Tag}{q P C b mb px py j:Nat}{x:OpS}{y:Ans}{z:StS}{vO vA v:Value}{B:List UInt8}{M:List (Int×(Value×List Nat))}{l:List StS}{R:RnS}
theorem fin0(hq:Own r q)(hlt:j<l.length)(hlj:l[j]=z)(hop:opOf ((l.take j).foldl RnS.step (RnS.new P C)).G z=x)(hy:(((l.take j).foldl RnS.step (RnS.new P C)).s.do_ x).1=y)(hh:y.h=0)
  (h:RnG w0 o0 W O r q b mb vO vA B (j+1) M {((l.take j).foldl RnS.step (RnS.new P C)) with s:=(((l.take j).foldl RnS.step (RnS.new P C)).s.do_ x).2}) (hv:RowT W O t 0 34 7 v l.length (l.flatMap stL)) (ht:¬UndS r t∧∀u,t≠q :: u) (hlk:((l.take j).foldl RnS.step (RnS.new P C)).ops.length≤j) :
  ∀W' O' vO' vA',Mid W O q px py x y W' O' vO' vA' (((l.take j).foldl RnS.step (RnS.new P C)).ops.length+1) (((l.take j).foldl RnS.step (RnS.new P C)).said.length+1) (((l.take j).foldl RnS.step (RnS.new P C)).ops.flatMap opL++opL x) (((l.take j).foldl RnS.step (RnS.new P C)).said.flatMap ansL++ansL y)→RnI w0 o0 r q t P C b mb v l vO' vA' (j+1) W':=by
 intro W' O' vO' vA' m;have g:=h.noted hq m (Nat.lt_succ_of_le hlk);refine⟨O',B,M,?_,hv.fr m.fr (fun e=>by rcases e with e|e<;>exact ht.2 _ e)⟩;rw [run_succ hlt,hlj];generalize (l.take j).foldl RnS.step (RnS.new P C)=R at *;unfold RnS.step;rw [hop,hy];unfold giv;rw [if_pos hh];exact g
theorem fin1(hq:Own r q)(hlt:j<l.length)(hlj:l[j]=z)(hop:opOf ((l.take j).foldl RnS.step (RnS.new P C)).G z=x)(hy:(((l.take j).foldl RnS.step (RnS.new P C)).s.do_ x).1=y)
  (h:RnG w0 o0 W O r q b mb vO vA B (j+1) M {({((l.take j).foldl RnS.step (RnS.new P C)) with s:=(((l.take j).foldl RnS.step (RnS.new P C)).s.do_ x).2}:RnS) with G:=giv ((l.take j).foldl RnS.step (RnS.new P C)).G z.o.T y.h}) (hv:RowT W O t 0 34 7 v l.length (l.flatMap stL)) (ht:¬UndS r t∧∀u,t≠q :: u) (hlk:((l.take j).foldl RnS.step (RnS.new P C)).ops.length≤j) :
  ∀W' O' vO' vA',Mid W O q px py x y W' O' vO' vA' (((l.take j).foldl RnS.step (RnS.new P C)).ops.length+1) (((l.take j).foldl RnS.step (RnS.new P C)).said.length+1) (((l.take j).foldl RnS.step (RnS.new P C)).ops.flatMap opL++opL x) (((l.take j).foldl RnS.step (RnS.new P C)).said.flatMap ansL++ansL y)→RnI w0 o0 r q t P C b mb v l vO' vA' (j+1) W':=by
 intro W' O' vO' vA' m;have g:=h.noted hq m (Nat.lt_succ_of_le hlk);refine⟨O',B,M,?_,hv.fr m.fr (fun e=>by rcases e with e|e<;>exact ht.2 _ e)⟩;rw [run_succ hlt,hlj];generalize (l.take j).foldl RnS.step (RnS.new P C)=R at *;unfold RnS.step;rw [hop,hy];exact g
end
set_option maxHeartbeats 8000000 in
theorem scRun(P C:Nat)(v:Value)(l:List StS)(w:World)(o:Nat→Tag)(r t:Tag)(q:Nat)(hq:Own r q)(hT:Tab w o)(hc:cfgB P C=true)(hl:l.length≤4000)(hok:∀x∈l,StOk x)
  (hv:RowT w o t 0 34 7 v l.length (l.flatMap stL)) (ht:¬UndS r t∧∀u,t≠q :: u) (hold:∀k,k<w.heap.size→¬UndS r (o k)∧∀u,o k≠q :: u) :
  Calls Tryz.prog 10 #[.agg #[.int .i64 P,.int .i64 C],v] w fun e w'=>∃b vO vA,e=.returned (.tuple #[eP b,vO,vA,.int .i64 0])∧∃o' B mb M,RnG w o w' o' r q b mb vO vA B l.length M (runAll P C l):=by
 obtain⟨va,vc,rfl⟩:=hv.slice;have hnew:=HD (svNew P C (w.alloc (.cells #[.int .i64 P,.int .i64 C] 23)) o r hq.rt (hT.fr (S:=fun _=>False) (Fr.alloc' _) (fun e=>e)) hc);have hini:=HD (show ∀b w1 o1,SvAt w1 o1 r b (List.replicate (P*512) 0) 0 (AdS.new P C)→Fr (fun _=>False) (w.alloc (.cells #[.int .i64 P,.int .i64 C] 23)) o w1 o1→RnI w o r q t P C b w1.heap.size (.slice va l.length vc) l (.slice none 0 0) (.slice none 0 0) 0 (w1.alloc (.map #[] 0)) from fun b w1 o1 h1 f1=>by
  have fa:Fr (fun _=>False) w o (w.alloc (.cells #[.int .i64 P,.int .i64 C] 23)) o:=Fr.alloc' _;have fb:Fr (fun _=>False) w1 o1 (w1.alloc (.map #[] 0)) (setO o1 w1.heap.size [q,0]):=Fr.alloc _ _;refine⟨_,_,[],⟨h1.fr fb ⟨fun _ _ e=>e,fun e=>e⟩ ⟨fun _ _ e=>e,fun e=>e⟩,MpAt.made _ _ _ _ _,fun p hp=>(by cases hp),fun p hp=>(by cases hp),fun p hp=>(by cases hp),fun p hp=>(by cases hp),Nat.le_refl _,rfl,RowT.nil _ _ _ _ _ _,RowT.nil _ _ _ _ _ _,rfl,(fa.trans f1).trans fb,hold⟩,hv.fr ((fa.trans f1).trans fb) (fun e=>e)⟩)
 have hmk:∀w,(Instr.makeMap 70 none).run Tryz.prog w=.ok (.map (some w.heap.size)) (w.alloc (.map #[] 0)):=fun w=>run_makeMap _ w
 clear hT hc hv;go_enter Tryz.func10,Tryz.ntmps10
 go_wp2_with fail;refine hnew.out.mono ?_;rintro e w1 ⟨b,o1,rfl,h1,f1⟩;have hI:=HD (hini.out b w1 o1 h1 f1);clear hnew hini h1 f1;go_wp2_with fail;generalize hW1:w1.alloc (.map #[] 0)=W1 at *;generalize w1.heap.size=mb at *;clear hW1 hmk;go_loopg [11,12,29] l.length (fun gh vO vA i wx=>∃j:Nat,j≤l.length∧gh=l.length-j∧i=.int .i64 j∧Hid (RnI w o r q t P C b mb (.slice va l.length vc) l vO vA j wx))
 case atStart=>exact⟨0,Nat.zero_le _,rfl,rfl,hI⟩
 case round =>
  clear hI;obtain⟨j,hj,rfl,rfl,hR⟩:=hrel;by_cases hlt:j<l.length
  ·have d0:decide ((j:Int)<(l.length:Int))=true:=decide_eq_true (by omega)
   obtain⟨⟨o2,B,M,hG,hv⟩⟩:=hR.out;obtain⟨sg,rfl,hce⟩:=stepCells hv hlt;have hx:=hok l[j] (List.getElem_mem hlt);have e0:=hce 0 (by decide);have e1:=hce 1 (by decide);have e2:=hce 2 (by decide);have e3:=hce 3 (by decide);have e4:=hce 4 (by decide);have e5:=hce 5 (by decide);have e6:=hce 6 (by decide);generalize hlj:l[j]=x at *;obtain⟨⟨sK,sT,sN,sM,sH,sD⟩,bk⟩:=x;have hG':=HD hG;have hv':=HD hv;clear hR hce;simp only [stL,List.getElem?_cons_zero,List.getElem?_cons_succ,Nat.add_zero] at e0 e1 e2 e3 e4 e5 e6;obtain⟨gv0,gr0,gl01,gl02,gl03⟩:=hG.given sT;obtain⟨ga,gc,rfl⟩:=gr0.slice;have mk:∀h:Nat,RnG w o ((wr.alloc (.cells #[.int .i64 sK,.int .i64 sT,.int .i64 sN,.int .i64 sM,.int .u64 sH,.string sD,.int .i64 bk] 34)).alloc (.cells #[.int .i64 sK,.int .i64 sT,.int .i64 sN,.int .i64 sM,.int .u64 (h:Int),.string sD] 32)) (setO o2 (wr.heap.size+1) [7]) r q b mb u11 u12 B j M ((l.take j).foldl RnS.step (RnS.new P C))∧PendO ((wr.alloc (.cells #[.int .i64 sK,.int .i64 sT,.int .i64 sN,.int .i64 sM,.int .u64 sH,.string sD,.int .i64 bk] 34)).alloc (.cells #[.int .i64 sK,.int .i64 sT,.int .i64 sN,.int .i64 sM,.int .u64 (h:Int),.string sD] 32)) (setO o2 (wr.heap.size+1) [7]) (wr.heap.size+1) ⟨sK,sT,sN,sM,h,sD⟩∧RowT ((wr.alloc (.cells #[.int .i64 sK,.int .i64 sT,.int .i64 sN,.int .i64 sM,.int .u64 sH,.string sD,.int .i64 bk] 34)).alloc (.cells #[.int .i64 sK,.int .i64 sT,.int .i64 sN,.int .i64 sM,.int .u64 (h:Int),.string sD] 32)) (setO o2 (wr.heap.size+1) [7]) t 0 34 7 (.slice (some ⟨sg,0,none⟩) l.length vc) l.length (l.flatMap stL)∧RowT ((wr.alloc (.cells #[.int .i64 sK,.int .i64 sT,.int .i64 sN,.int .i64 sM,.int .u64 sH,.string sD,.int .i64 bk] 34)).alloc (.cells #[.int .i64 sK,.int .i64 sT,.int .i64 sN,.int .i64 sM,.int .u64 (h:Int),.string sD] 32)) (setO o2 (wr.heap.size+1) [7]) [q,3,sT.toNat] 0 30 1 (.slice ga (gvn ((l.take j).foldl RnS.step (RnS.new P C)).G sT).length gc) (gvn ((l.take j).foldl RnS.step (RnS.new P C)).G sT).length (u64L (gvn ((l.take j).foldl RnS.step (RnS.new P C)).G sT)):=by
    intro h;have fa:Fr (fun _=>False) wr o2 (wr.alloc (.cells #[.int .i64 sK,.int .i64 sT,.int .i64 sN,.int .i64 sM,.int .u64 sH,.string sD,.int .i64 bk] 34)) o2:=Fr.alloc' _;have fb:Fr (fun _=>False) (wr.alloc (.cells #[.int .i64 sK,.int .i64 sT,.int .i64 sN,.int .i64 sM,.int .u64 sH,.string sD,.int .i64 bk] 34)) o2 ((wr.alloc (.cells #[.int .i64 sK,.int .i64 sT,.int .i64 sN,.int .i64 sM,.int .u64 sH,.string sD,.int .i64 bk] 34)).alloc (.cells #[.int .i64 sK,.int .i64 sT,.int .i64 sN,.int .i64 sM,.int .u64 (h:Int),.string sD] 32)) (setO o2 (wr.heap.size+1) [7]):=by
     have:=Fr.alloc (S:=fun _=>False) (w:=wr.alloc (.cells #[.int .i64 sK,.int .i64 sT,.int .i64 sN,.int .i64 sM,.int .u64 sH,.string sD,.int .i64 bk] 34)) (o:=o2) (.cells #[.int .i64 sK,.int .i64 sT,.int .i64 sN,.int .i64 sM,.int .u64 (h:Int),.string sD] 32) [7];rw [World.size_alloc] at this;exact this
    have G2:=hG.calm (fa.trans fb);have v2:=hv.fr (fa.trans fb) (fun e=>e);have P2:PendO ((wr.alloc (.cells #[.int .i64 sK,.int .i64 sT,.int .i64 sN,.int .i64 sM,.int .u64 sH,.string sD,.int .i64 bk] 34)).alloc (.cells #[.int .i64 sK,.int .i64 sT,.int .i64 sN,.int .i64 sM,.int .u64 (h:Int),.string sD] 32)) (setO o2 (wr.heap.size+1) [7]) (wr.heap.size+1) ⟨sK,sT,sN,sM,h,sD⟩:=by
     have:=PendO.new (wr.alloc (.cells #[.int .i64 sK,.int .i64 sT,.int .i64 sN,.int .i64 sM,.int .u64 sH,.string sD,.int .i64 bk] 34)) o2 ⟨sK,sT,sN,sM,h,sD⟩;rw [World.size_alloc] at this;exact this
    exact⟨G2,P2,v2,gr0.fr (fa.trans fb) (fun e=>e)⟩
   obtain⟨G2,P2,v2,_⟩:=mk sH;clear hG hv;have h3:(0<bk∧bk≤((gvn ((l.take j).foldl RnS.step (RnS.new P C)).G sT).length:Int))∨(0<bk∧¬bk≤((gvn ((l.take j).foldl RnS.step (RnS.new P C)).G sT).length:Int))∨¬0<bk:=by omega
   rcases h3 with h|h|h
   case' inl =>
    obtain⟨c,c2⟩:=h;have dc:decide (0<bk)=true:=decide_eq_true c;have hlk:=gl03 _ _ G2.mp;have d2:=decide_eq_true c2;have hbk:=hx.bk;have hgs:=(mk 0).2.2.2;generalize hgg:gvn ((l.take j).foldl RnS.step (RnS.new P C)).G sT=gl at *;obtain⟨gg,rfl,hgc⟩:∃gg,ga=some ⟨gg,0,none⟩∧∀i,i<gl.length→((wr.alloc (.cells #[.int .i64 sK,.int .i64 sT,.int .i64 sN,.int .i64 sM,.int .u64 sH,.string sD,.int .i64 bk] 34)).alloc (.cells #[.int .i64 sK,.int .i64 sT,.int .i64 sN,.int .i64 sM,.int .u64 0,.string sD] 32)).cell? ⟨gg,i,none⟩=some (.int .u64 (gl.getD i 0:Nat)):=by
     rcases hgs.own.2 with ⟨h1,h2⟩|⟨gg,cap,cur,e,_⟩
     ·simp only at c2 hbk;omega
     ·injection e with e1 e2 e3
      subst e1;refine⟨gg,rfl,fun i hi=>?_⟩;have:=hgs.own.cellAt i (by omega);refine Eq.trans this ?_;simp [hi,List.getD_eq_getElem?_getD]
    obtain⟨kb,rfl⟩:∃kb:Nat,bk=kb:=⟨bk.toNat,by omega⟩
    have hkb:0<kb∧kb≤gl.length:=by omega
    have ht1:((gl.length:Int)-kb).toNat=gl.length-kb:=by omega
    have hin:gl.length-kb<gl.length:=by omega
    have hw1:=IntWalk.i64_in ((gl.length:Int)-kb) (by omega);have ce:=hgc _ hin;obtain⟨z,hz⟩:∃z:Nat,Hid (gl.getD (gl.length-kb) 0=z):=⟨_,HD rfl⟩
    rw [hz.out] at ce;have hHx:z<18446744073709551616:=by
     rw [←hz.out,List.getD_eq_getElem?_getD,List.getElem?_eq_getElem hin];exact gl02 _ (List.getElem_mem hin)
    have hop:opOf ((l.take j).foldl RnS.step (RnS.new P C)).G ⟨⟨sK,sT,sN,sM,sH,sD⟩,(kb:Int)⟩=⟨sK,sT,sN,sM,z,sD⟩:=by
     unfold opOf hnd;simp only [hgg];rw [if_pos c,if_pos c2,Int.toNat_natCast,hz.out]
    have hlk0:=G2.lk;have hgl0:=G2.gvl sT;obtain⟨G2',P2',v2',_⟩:=mk z;have G3h:=HD G2'.sv;have hdo:=HD (G2'.dos hq P2' (by omega) hHx hx.s v2' ht.1);have hlg:((kb:Int)≤(gl.length:Int))=True:=eq_true (by omega);clear G2' P2' v2' G2 P2 v2 gr0 gl03 gl02 mk hgs hgc;go_wp2_with fail;refine hdo.out.mono ?_;rintro e w3 ⟨rfl,o3,B3,G3,P3,v3⟩;clear hdo hlk d2
   case' inr.inl =>
    obtain⟨c,c2⟩:=h;have dc:decide (0<bk)=true:=decide_eq_true c;have hlk:=gl03 _ _ G2.mp;have d2:=decide_eq_false c2;obtain⟨z,hz⟩:∃z:Nat,Hid (z=0):=⟨0,HD rfl⟩
    have hop:opOf ((l.take j).foldl RnS.step (RnS.new P C)).G ⟨⟨sK,sT,sN,sM,sH,sD⟩,bk⟩=⟨sK,sT,sN,sM,z,sD⟩:=by unfold opOf hnd;rw [if_pos c,if_neg c2,hz.out]
    have hHx:z<18446744073709551616:=by rw [hz.out];decide
    have ez:Value.int .u64 0=Value.int .u64 (z:Int):=by rw [hz.out];rfl
    have hlk0:=G2.lk;have hgl0:=G2.gvl sT;obtain⟨G2',P2',v2',_⟩:=mk z;have G3h:=HD G2'.sv;have hdo:=HD (G2'.dos hq P2' (by omega) hHx hx.s v2' ht.1);clear G2' P2' v2' G2 P2 v2 gr0 gl03 gl02 mk;replace ez:=HD ez;go_wp2_with fail;rw [ez.out];refine hdo.out.mono ?_;rintro e w3 ⟨rfl,o3,B3,G3,P3,v3⟩;clear hdo hlk d2
   case' inr.inr =>
    have c:=h;clear h;obtain⟨z,rfl⟩:∃z,z=sH:=⟨sH,rfl⟩
    have dc:decide (0<bk)=false:=decide_eq_false c;have hop:opOf ((l.take j).foldl RnS.step (RnS.new P C)).G ⟨⟨sK,sT,sN,sM,z,sD⟩,bk⟩=⟨sK,sT,sN,sM,z,sD⟩:=by unfold opOf hnd;rw [if_neg c]
    have G3h:=HD G2.sv;have hlk0:=G2.lk;have hgl0:=G2.gvl sT;have hdo:=HD (G2.dos hq P2 (by omega) hx.H hx.s v2 ht.1);clear G2 P2 v2;go_wp2_with fail;refine hdo.out.mono ?_;rintro e w3 ⟨rfl,o3,B3,G3,P3,v3⟩;clear hdo;have hHx:=hx.H;simp only at hHx
   all_goals
    have hrh:=do_h ⟨sK,sT,sN,sM,z,sD⟩ G3h.out (by omega) hHx;rw [show (((l.take j).foldl RnS.step (RnS.new P C)).s.do_ ⟨sK,sT,sN,sM,z,sD⟩).1=(((l.take j).foldl RnS.step (RnS.new P C)).s.do_ ⟨sK,sT,sN,sM,z,sD⟩).1 from rfl] at hrh;clear G3h;generalize hyy:(((l.take j).foldl RnS.step (RnS.new P C)).s.do_ ⟨sK,sT,sN,sM,z,sD⟩).1=y at *;obtain⟨re,rh,ra,rn,rd,rc⟩:=y;simp only at hrh;have fy:Fr (fun _=>False) w3 o3 (w3.alloc (.cells #[.int .i64 re,.int .u64 rh,.int .i64 ra,.int .i64 rn,.string rd,.int .i64 rc] 47)) (setO o3 w3.heap.size [7]):=Fr.alloc _ _;have G4:=G3.calm fy;have P4:=P3.fr fy (fun e=>e);have A4:=PendA.new w3 o3 ⟨re,rh,ra,rn,rd,rc⟩;have v4:=v3.fr fy (fun e=>e);clear G3 P3 v3 fy;have hs4:(w3.alloc (.cells #[.int .i64 re,.int .u64 rh,.int .i64 ra,.int .i64 rn,.string rd,.int .i64 rc] 47)).heap.size=w3.heap.size+1:=by simp
    simp only [ansV];by_cases ch:rh=0
    case' pos =>
     have dh:((rh:Int) != 0)=false:=by rw [ch];rfl
     replace ch:=HD ch;replace G4:=HD G4;replace P4:=HD P4;replace A4:=HD A4;replace v4:=HD v4;go_wp2_with fail;generalize w3.alloc (.cells #[.int .i64 re,.int .u64 rh,.int .i64 ra,.int .i64 rn,.string rd,.int .i64 rc] 47)=Wn at *;generalize w3.heap.size=py at *;have m0:=(G4.out.mid P4.out A4.out).drew;have hfin:=HD (fin0 (px:=wr.heap.size+1) (py:=py) hq hlt hlj hop hyy ch.out G4.out v4.out ht hlk0);have hlo:=G4.out.lk;have hla:=G4.out.ln;clear G4 P4 A4 v4
    case' neg =>
     have dh:((rh:Int) != 0)=true:=by rw [bne_iff_ne];omega
     obtain⟨gv,gr,gl1,gl2,gl3⟩:=G4.given sT;have gr':=gr.fr (S:=fun _=>False) Fr.drew (fun e=>e);have G4d:=G4.calm Fr.drew;have Ks:=P4.1.cells.k1;have Ky:=A4.1.cells.k1;replace G4:=HD G4;replace P4:=HD P4;replace A4:=HD A4;replace v4:=HD v4;go_wp2_with fail;generalize w3.alloc (.cells #[.int .i64 re,.int .u64 rh,.int .i64 ra,.int .i64 rn,.string rd,.int .i64 rc] 47)=W4 at *;generalize w3.heap.size=py at *;obtain⟨Ag,kg,cg,w5,Wn,o6,hap,f5,mp5,hup,G6,f6⟩:=G4d.give hq hx.T ch hrh gr' (Nat.succ_le_succ hgl0) gl2 (by omega) (by have:=G4d.mlen;omega);have P4d:=P4.out.fr (S:=fun _=>False) Fr.drew (fun e=>e);have A4d:=A4.out.fr (S:=fun _=>False) Fr.drew (fun e=>e);have P5:=P4d.fr f5 (fun e=>by simp at e);have A5:=A4d.fr f5 (fun e=>by simp at e);have P6:=P4d.fr f6 (fun e=>by simp at e);have A6:=A4d.fr f6 (fun e=>by simp at e);have v6:=(v4.out.fr (S:=fun _=>False) Fr.drew (fun e=>e)).fr f6 (fun e=>by rcases e with e|e<;>exact ht.2 _ e);have s1:W4.drew.cell? ⟨wr.heap.size+1,1,none⟩=some (.int .i64 sT)∧W4.drew.cell? ⟨py,1,none⟩=some (.int .u64 rh)∧(Instr.lookup 70 (.map (some mb)) (.int .i64 sT) false).run Tryz.prog W4.drew=.ok gv W4.drew:=⟨P4d.1.cells.k1,A4d.1.cells.k1,gl3 _ _ G4d.mp⟩
     replace hap:(Builtin.append_ #[62,62] 62 #[gv,.slice (some ⟨W4.heap.size,0,none⟩) 1 1]).run Tryz.prog (W4.alloc (.cells #[.int .u64 (rh:Int)] 30)).drew=.ok (.slice Ag kg cg) w5:=hap;have fal:Fr (fun _=>False) W4.drew (setO o3 py [7]) (W4.drew.alloc (.cells #[.int .u64 (rh:Int)] 30)) (setO o3 py [7]):=Fr.alloc' _;have s2:(W4.drew.alloc (.cells #[.int .u64 (rh:Int)] 30)).cell? ⟨wr.heap.size+1,1,none⟩=some (.int .i64 sT)∧(W4.drew.alloc (.cells #[.int .u64 (rh:Int)] 30)).cell? ⟨py,1,none⟩=some (.int .u64 rh)∧(Instr.lookup 70 (.map (some mb)) (.int .i64 sT) false).run Tryz.prog (W4.drew.alloc (.cells #[.int .u64 (rh:Int)] 30))=.ok gv (W4.drew.alloc (.cells #[.int .u64 (rh:Int)] 30)):=⟨(P4d.fr fal (fun e=>e)).1.cells.k1,(A4d.fr fal (fun e=>e)).1.cells.k1,gl3 _ _ (G4d.mp.fr fal (fun e=>e))⟩
     have s3:w5.cell? ⟨wr.heap.size+1,1,none⟩=some (.int .i64 sT)∧w5.cell? ⟨py,1,none⟩=some (.int .u64 rh)∧(Instr.lookup 70 (.map (some mb)) (.int .i64 sT) false).run Tryz.prog w5=.ok gv w5:=⟨P5.1.cells.k1,A5.1.cells.k1,gl3 _ _ mp5⟩
     have m0:=(G6.mid P6 A6).drew;have hfin:=HD (fin1 (px:=wr.heap.size+1) (py:=py) hq hlt hlj hop hyy G6 v6 ht hlk0);have hlo:=G6.lk;have hla:=G6.ln;clear fal G4d P4d A4d P5 A5 P6 A6 v6 f5 f6 mp5 gr gr' gl3 G4 P4 A4 v4 Ks Ky G6;refine wp_region_noPanic ?_;refine wp_region_T (S:=(fun W'=>W'.cell? ⟨wr.heap.size+1,1,none⟩=some (.int .i64 sT)∧W'.cell? ⟨py,1,none⟩=some (.int .u64 rh)∧(Instr.lookup 70 (.map (some mb)) (.int .i64 sT) false).run Tryz.prog W'=.ok gv W')) 11 (by kernel_rfl) ?_ (fun hHeld=>?_)
     ·(first|exact s1|exact s2|exact s3)
     refine tkY 0 (h:=?_);refine tkY 1 (h:=?_);refine tkT 2 (h:=?_);refine tkY 3 (h:=?_);refine tkY 4 (h:=?_);refine tkT 5 (h:=?_);refine tkT 6 (h:=?_);refine tkY 7 (h:=?_);refine tkT 8 (h:=?_);refine onT 9 (h:=fun K hK=>?_);go_simp;refine hK.out _ _ ?_ (fun hHeld=>?_)
     ·(first|exact s1|exact s2|exact s3)
     clear hK;refine nmT (h:=?_);refine onT 10 (h:=fun K hK=>?_);refine step_append_is _ rfl _ _ 62 rfl ?_ ?_ hap ?_
     ·first|(go_simp;done)|rfl
     ·first|(go_simp;done)|rfl
     refine hK.out _ _ ?_ (fun hHeld=>?_)
     ·(first|exact s1|exact s2|exact s3)
     clear hK;refine nmT (h:=?_);refine laT (h:=fun K hK=>?_);go_simp;refine hK.out _ _ ?_;clear hK;refine NoPanic.normal ?_;clear s1 s2 s3 hap hup;go_wp2_with fail
    all_goals
     refine wp_region_noPanic ?_;refine wp_region_held_drew (S:=(fun W'=>W'.cell? ⟨wr.heap.size+1,0,none⟩=some (.int .i64 sK)∧W'.cell? ⟨wr.heap.size+1,1,none⟩=some (.int .i64 sT)∧W'.cell? ⟨wr.heap.size+1,2,none⟩=some (.int .i64 sN)∧W'.cell? ⟨wr.heap.size+1,3,none⟩=some (.int .i64 sM)∧W'.cell? ⟨wr.heap.size+1,4,none⟩=some (.int .u64 z)∧W'.cell? ⟨wr.heap.size+1,5,none⟩=some (.string sD)∧W'.cell? ⟨py,0,none⟩=some (.int .i64 re)∧W'.cell? ⟨py,1,none⟩=some (.int .u64 rh)∧W'.cell? ⟨py,2,none⟩=some (.int .i64 ra)∧W'.cell? ⟨py,3,none⟩=some (.int .i64 rn)∧W'.cell? ⟨py,4,none⟩=some (.string rd)∧W'.cell? ⟨py,5,none⟩=some (.int .i64 rc))) (by kernel_rfl) ?_ (fun hHeld=>?_)
     ·exact m0.cl
     refine tkH 0 (h:=?_);refine tkH 1 (h:=?_);refine tkH 4 (h:=?_);refine tkH 5 (h:=?_);refine wpAnyH_ready (rs:=[2,6]) (by kernel_rfl) (by simp) ?_;refine conH (h:=fun K hK=>?_) (hs:=?_)
     ·obtain⟨m11,po11⟩:=m0.alO ⟨sK,sT,sN,sM,z,sD⟩ (k:=Wn.heap.size) (by simp)
      go_simp;refine hK.out _ _ ?_ (fun hHeld=>?_)
      ·exact m11.cl
      clear hK;refine nmH (h:=?_);refine wpAnyH_ready (rs:=[3,6]) (by kernel_rfl) (by simp) ?_;refine conH (h:=fun K hK=>?_) (hs:=?_)
      ·have hW12:(Wn.drew).alloc (.cells #[.int .i64 sK,.int .i64 sT,.int .i64 sN,.int .i64 sM,.int .u64 z,.string sD] 32)=((Wn).alloc (.cells #[.int .i64 sK,.int .i64 sT,.int .i64 sN,.int .i64 sM,.int .u64 z,.string sD] 32)).drew:=rfl
       rw [hW12] at m11 po11;clear hW12;generalize ((Wn).alloc (.cells #[.int .i64 sK,.int .i64 sT,.int .i64 sN,.int .i64 sM,.int .u64 z,.string sD] 32)).drew=V12 at *;obtain⟨A12,k12,c12,w12,o12,ap12,m12,pf12⟩:=m11.appO po11 (by omega);refine step_append_is _ rfl _ _ 36 rfl ?_ ?_ ap12 ?_
       ·first|(go_simp;done)|rfl
       ·first|(go_simp;done)|rfl
       refine hK.out _ _ ?_ (fun hHeld=>?_)
       ·exact m12.cl
       clear hK;refine nmH (h:=?_);refine wpAnyH_ready (rs:=[6]) (by kernel_rfl) (by simp) ?_;refine conH (h:=fun K hK=>?_) (hs:=AllReadyH.nil)
       ·obtain⟨m13,pa13⟩:=m12.alA ⟨re,rh,ra,rn,rd,rc⟩ (k:=w12.heap.size) (by simp)
        go_simp;refine hK.out _ _ ?_ (fun hHeld=>?_)
        ·exact m13.cl
        clear hK;refine nmH (h:=?_);refine wpAnyH_ready (rs:=[7]) (by kernel_rfl) (by simp) ?_;refine conH (h:=fun K hK=>?_) (hs:=AllReadyH.nil)
        ·generalize (w12).alloc (.cells #[.int .i64 re,.int .u64 rh,.int .i64 ra,.int .i64 rn,.string rd,.int .i64 rc] 47)=V14 at *
         obtain⟨A14,k14,c14,w14,o14,ap14,m14⟩:=m13.appA pa13 (by omega);refine step_append_is _ rfl _ _ 37 rfl ?_ ?_ ap14 ?_
         ·first|(go_simp;done)|rfl
         ·first|(go_simp;done)|rfl
         refine hK.out _ _ ?_ (fun hHeld=>?_)
         ·exact m14.cl
         clear hK;refine nmH (h:=?_);refine tkH 8 (h:=?_);refine tkH 9 (h:=?_);refine wpAnyH_done (by kernel_rfl) ?_ _;refine NoPanic.normal ?_;have hz:=HD (hfin.out _ _ _ _ m14);clear hfin m0;go_wp2_with fail;go_roundg (l.length-(j+1))
         case measure=>omega
         case rel=>exact⟨j+1,by omega,rfl,by go_num,hz⟩
      refine conH (h:=fun K hK=>?_) (hs:=AllReadyH.nil)
      ·obtain⟨m12,pa12⟩:=m11.alA ⟨re,rh,ra,rn,rd,rc⟩ (k:=Wn.heap.size+1) (by simp)
       have po12:=po11.al (.cells #[.int .i64 re,.int .u64 rh,.int .i64 ra,.int .i64 rn,.string rd,.int .i64 rc] 47) (k:=Wn.heap.size+1) (by simp);go_simp;refine hK.out _ _ ?_ (fun hHeld=>?_)
       ·exact m12.cl
       clear hK;refine nmH (h:=?_);refine wpAnyH_ready (rs:=[3]) (by kernel_rfl) (by simp) ?_;refine conH (h:=fun K hK=>?_) (hs:=AllReadyH.nil)
       ·have hW13:((Wn.drew).alloc (.cells #[.int .i64 sK,.int .i64 sT,.int .i64 sN,.int .i64 sM,.int .u64 z,.string sD] 32)).alloc (.cells #[.int .i64 re,.int .u64 rh,.int .i64 ra,.int .i64 rn,.string rd,.int .i64 rc] 47)=(((Wn).alloc (.cells #[.int .i64 sK,.int .i64 sT,.int .i64 sN,.int .i64 sM,.int .u64 z,.string sD] 32)).alloc (.cells #[.int .i64 re,.int .u64 rh,.int .i64 ra,.int .i64 rn,.string rd,.int .i64 rc] 47)).drew:=rfl
        rw [hW13] at m12 po12 pa12;clear hW13;generalize (((Wn).alloc (.cells #[.int .i64 sK,.int .i64 sT,.int .i64 sN,.int .i64 sM,.int .u64 z,.string sD] 32)).alloc (.cells #[.int .i64 re,.int .u64 rh,.int .i64 ra,.int .i64 rn,.string rd,.int .i64 rc] 47)).drew=V13 at *;obtain⟨A13,k13,c13,w13,o13,ap13,m13,pf13⟩:=m12.appO po12 (by omega);have pa13:=pf13 _ _ pa12;refine step_append_is _ rfl _ _ 36 rfl ?_ ?_ ap13 ?_
        ·first|(go_simp;done)|rfl
        ·first|(go_simp;done)|rfl
        refine hK.out _ _ ?_ (fun hHeld=>?_)
        ·exact m13.cl
        clear hK;refine nmH (h:=?_);refine wpAnyH_ready (rs:=[7]) (by kernel_rfl) (by simp) ?_;refine conH (h:=fun K hK=>?_) (hs:=AllReadyH.nil)
        ·obtain⟨A14,k14,c14,w14,o14,ap14,m14⟩:=m13.appA pa13 (by omega)
         refine step_append_is _ rfl _ _ 37 rfl ?_ ?_ ap14 ?_
         ·first|(go_simp;done)|rfl
         ·first|(go_simp;done)|rfl
         refine hK.out _ _ ?_ (fun hHeld=>?_)
         ·exact m14.cl
         clear hK;refine nmH (h:=?_);refine tkH 8 (h:=?_);refine tkH 9 (h:=?_);refine wpAnyH_done (by kernel_rfl) ?_ _;refine NoPanic.normal ?_;have hz:=HD (hfin.out _ _ _ _ m14);clear hfin m0;go_wp2_with fail;go_roundg (l.length-(j+1))
         case measure=>omega
         case rel=>exact⟨j+1,by omega,rfl,by go_num,hz⟩
     refine conH (h:=fun K hK=>?_) (hs:=AllReadyH.nil)
     ·obtain⟨m11,pa11⟩:=m0.alA ⟨re,rh,ra,rn,rd,rc⟩ (k:=Wn.heap.size) (by simp)
      go_simp;refine hK.out _ _ ?_ (fun hHeld=>?_)
      ·exact m11.cl
      clear hK;refine nmH (h:=?_);refine wpAnyH_ready (rs:=[2]) (by kernel_rfl) (by simp) ?_;refine conH (h:=fun K hK=>?_) (hs:=AllReadyH.nil)
      ·obtain⟨m12,po12⟩:=m11.alO ⟨sK,sT,sN,sM,z,sD⟩ (k:=Wn.heap.size+1) (by simp)
       have pa12:=pa11.al (.cells #[.int .i64 sK,.int .i64 sT,.int .i64 sN,.int .i64 sM,.int .u64 z,.string sD] 32) (k:=Wn.heap.size+1) (by simp);go_simp;refine hK.out _ _ ?_ (fun hHeld=>?_)
       ·exact m12.cl
       clear hK;refine nmH (h:=?_);refine wpAnyH_ready (rs:=[3]) (by kernel_rfl) (by simp) ?_;refine conH (h:=fun K hK=>?_) (hs:=AllReadyH.nil)
       ·have hW13:((Wn.drew).alloc (.cells #[.int .i64 re,.int .u64 rh,.int .i64 ra,.int .i64 rn,.string rd,.int .i64 rc] 47)).alloc (.cells #[.int .i64 sK,.int .i64 sT,.int .i64 sN,.int .i64 sM,.int .u64 z,.string sD] 32)=(((Wn).alloc (.cells #[.int .i64 re,.int .u64 rh,.int .i64 ra,.int .i64 rn,.string rd,.int .i64 rc] 47)).alloc (.cells #[.int .i64 sK,.int .i64 sT,.int .i64 sN,.int .i64 sM,.int .u64 z,.string sD] 32)).drew:=rfl
        rw [hW13] at m12 po12 pa12;clear hW13;generalize (((Wn).alloc (.cells #[.int .i64 re,.int .u64 rh,.int .i64 ra,.int .i64 rn,.string rd,.int .i64 rc] 47)).alloc (.cells #[.int .i64 sK,.int .i64 sT,.int .i64 sN,.int .i64 sM,.int .u64 z,.string sD] 32)).drew=V13 at *;obtain⟨A13,k13,c13,w13,o13,ap13,m13,pf13⟩:=m12.appO po12 (by omega);have pa13:=pf13 _ _ pa12;refine step_append_is _ rfl _ _ 36 rfl ?_ ?_ ap13 ?_
        ·first|(go_simp;done)|rfl
        ·first|(go_simp;done)|rfl
        refine hK.out _ _ ?_ (fun hHeld=>?_)
        ·exact m13.cl
        clear hK;refine nmH (h:=?_);refine wpAnyH_ready (rs:=[7]) (by kernel_rfl) (by simp) ?_;refine conH (h:=fun K hK=>?_) (hs:=AllReadyH.nil)
        ·obtain⟨A14,k14,c14,w14,o14,ap14,m14⟩:=m13.appA pa13 (by omega)
         refine step_append_is _ rfl _ _ 37 rfl ?_ ?_ ap14 ?_
         ·first|(go_simp;done)|rfl
         ·first|(go_simp;done)|rfl
         refine hK.out _ _ ?_ (fun hHeld=>?_)
         ·exact m14.cl
         clear hK;refine nmH (h:=?_);refine tkH 8 (h:=?_);refine tkH 9 (h:=?_);refine wpAnyH_done (by kernel_rfl) ?_ _;refine NoPanic.normal ?_;have hz:=HD (hfin.out _ _ _ _ m14);clear hfin m0;go_wp2_with fail;go_roundg (l.length-(j+1))
         case measure=>omega
         case rel=>exact⟨j+1,by omega,rfl,by go_num,hz⟩
  ·have d0:decide ((j:Int)<(l.length:Int))=false:=decide_eq_false (by omega)
   obtain rfl:j=l.length:=by omega
   go_wp2_with fail;obtain⟨⟨o2,B,M,hG,hv⟩⟩:=hR.out;rw [List.take_length] at hG;refine bodyPost_ret (v:=.tuple #[eP b,u11,u12,.int .i64 0]) ?_ rfl ⟨b,_,_,rfl,o2,B,mb,M,hG⟩;rw [results_tmp4 (t:=4) (u:=5) (v:=6) (z:=7) (by kernel_rfl)];rfl
end
section
open Go.RowKit Flt
def AdS.says:AdS→List OpS→List Ans
 |_,[]=>[]
 |s,x :: l=>(s.do_ x).1 :: AdS.says (s.do_ x).2 l
def AdS.aft:AdS→List OpS→AdS
 |s,[]=>s
 |s,x :: l=>AdS.aft (s.do_ x).2 l
theorem says_snoc(x:OpS):∀(l:List OpS) (s:AdS),s.says (l++[x])=s.says l++[((s.aft l).do_ x).1]
 |[],s=>rfl
 |y :: l,s=>by
  show (s.do_ y).1 :: AdS.says (s.do_ y).2 (l++[x])=_;rw [says_snoc x l];rfl
theorem aft_snoc(x:OpS):∀(l:List OpS) (s:AdS),s.aft (l++[x])=((s.aft l).do_ x).2
 |[],s=>rfl
 |y :: l,s=>aft_snoc x l (s.do_ y).2
theorem says_len:∀(l:List OpS) (s:AdS),(s.says l).length=l.length
 |[],s=>rfl
 |y :: l,s=>by
  show (AdS.says (s.do_ y).2 l).length+1=l.length+1;rw [says_len l]
theorem run_says0(s0:AdS):∀(l:List StS) (R:RnS),R.said=s0.says R.ops∧R.s=s0.aft R.ops→(l.foldl RnS.step R).said=s0.says (l.foldl RnS.step R).ops∧(l.foldl RnS.step R).s=s0.aft (l.foldl RnS.step R).ops
 |[],R,h=>h
 |x :: l,R,h=>run_says0 s0 l (R.step x) ⟨by
   show R.said++[(R.s.do_ (opOf R.G x)).1]=s0.says (R.ops++[opOf R.G x]);rw [says_snoc,h.1,h.2],by
   show (R.s.do_ (opOf R.G x)).2=s0.aft (R.ops++[opOf R.G x]);rw [aft_snoc,h.2]⟩
theorem run_says(P C:Nat)(l:List StS):(runAll P C l).said=(AdS.new P C).says (runAll P C l).ops∧(runAll P C l).s=(AdS.new P C).aft (runAll P C l).ops :=
 run_says0 _ l (RnS.new P C) ⟨rfl,rfl⟩
theorem run_len0:∀(l:List StS) (R:RnS),(l.foldl RnS.step R).ops.length=R.ops.length+l.length
 |[],R=>rfl
 |x :: l,R=>by
  show (l.foldl RnS.step (R.step x)).ops.length=_;rw [run_len0 l];show (R.ops++[opOf R.G x]).length+l.length=R.ops.length+(l.length+1);simp;omega
theorem run_len(P C:Nat)(l:List StS):(runAll P C l).ops.length=l.length:=by
 have:=run_len0 l (RnS.new P C);simpa [RnS.new,runAll] using this
theorem giv_rise{G:List (Int×List Nat)}(h:Rise G)(k:Int)(g:Nat):Rise (giv G k g):=by
 unfold giv
 split
 ·exact h
 ·exact mIns_rise h _ _
theorem gvn_giv{G:List (Int×List Nat)}(h:Rise G)(k:Int)(g:Nat)(j:Int):gvn (giv G k g) j=if j=k∧g≠0 then gvn G k++[g] else gvn G j:=by
 unfold giv
 split
 ·rename_i e
  rw [if_neg (fun q=>q.2 e)]
 ·rename_i e
  by_cases c:j=k
  ·subst c
   rw [if_pos ⟨rfl,e⟩];show (mGet (mIns j (gvn G j++[g]) G) j).getD []=_;rw [mGet_ins_same h];rfl
  ·rw [if_neg (fun q=>c q.1)]
   show (mGet (mIns k (gvn G k++[g]) G) j).getD []=_;rw [mGet_ins_other c];rfl
def OpsOk(R:RnS):Prop:=Rise R.G∧∀y∈R.ops,y.s.size≤255∧(y.H<18446744073709551616∨∃k,y.H∈gvn R.G k)
theorem OpsOk.step{R:RnS}(h:OpsOk R){x:StS}(hx:StOk x):OpsOk (R.step x):=by
 refine⟨giv_rise h.1 _ _,fun y hy=>?_⟩;have hm:∀g k,g∈gvn R.G k→g∈gvn (R.step x).G k:=fun g k hg=>by
  show g∈gvn (giv R.G _ _) k;rw [gvn_giv h.1]
  split
  ·rename_i e;rw [←e.1];simp [hg]
  ·exact hg
 rcases List.mem_append.1 hy with hy|hy
 ·obtain⟨h1,h2⟩:=h.2 y hy
  refine⟨h1,h2.imp id fun q=>?_⟩;obtain⟨k,hk⟩:=q;exact⟨k,hm _ _ hk⟩
 ·rw [List.mem_singleton.1 hy]
  refine⟨hx.s,?_⟩;show hnd R.G x<_∨∃k,hnd R.G x∈_;unfold hnd
  split
  ·split
   ·rename_i c1 c2
    right
    refine⟨x.o.T,hm _ _ ?_⟩;rw [List.getD_eq_getElem?_getD,List.getElem?_eq_getElem (by omega)];exact List.getElem_mem _
   ·left;decide
  ·left;exact hx.H
theorem run_ok0:∀(l:List StS) (R:RnS),(∀x∈l,StOk x)→OpsOk R→OpsOk (l.foldl RnS.step R)
 |[],R,_,h=>h
 |x :: l,R,hl,h=>run_ok0 l (R.step x) (fun y hy=>hl y (by simp [hy])) (h.step (hl x (by simp)))
theorem run_ok(P C:Nat){l:List StS}(h:∀x∈l,StOk x):OpsOk (runAll P C l):=run_ok0 l _ h ⟨List.Pairwise.nil,fun y hy=>(by cases hy)⟩
theorem do_bad{s:AdS}{x:OpS}(h:rightO x.K x.T x.s=false):s.do_ x=(⟨1,0,0,0,ByteArray.empty,0⟩,s):=by
 unfold AdS.do_;rw [if_neg (by rw [h];decide)]
end
end Go.Proofs.YtfliaggjkianpaaGreatDoor
