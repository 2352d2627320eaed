import Derived.Test.YtfliaggjkianpaaGreatDoorK15
import Derived.Laws.Rows
set_option linter.unusedVariables false
set_option linter.unusedSimpArgs false
set_option maxRecDepth 100000
namespace Go.Proofs.YtfliaggjkianpaaGreatDoor
section
open Go.RowKit
def rdT(B:List UInt8)(T:List (Int×Int)):List UInt8:=T.flatMap fun x=>sub B x.1.toNat x.2.toNat
theorem rdT_locs{B:List UInt8}{T:List (Int×Int)}(h:∀x∈T,0≤x.1∧0≤x.2∧x.1+x.2≤B.length):rdT B T=(locs T).map (byt B):=by
 induction T with
 |nil=>rfl
 |cons x T ih =>
  have hx:=h x (by simp);have e1:rdT B (x :: T)=sub B x.1.toNat x.2.toNat++rdT B T:=rfl;have e2:locs (x :: T)=(List.range x.2.toNat).map (fun j=>x.1.toNat+j)++locs T:=rfl;rw [e1,e2,List.map_append,ih (fun y hy=>h y (by simp [hy])),sub_map (by omega),List.map_map];rfl
theorem rdT_take{B:List UInt8}{T:List (Int×Int)}{i:Nat}{x:Int×Int}(h:T[i]? = some x):rdT B (T.take (i+1))=rdT B (T.take i)++sub B x.1.toNat x.2.toNat:=by
 obtain⟨hi,e⟩:=List.getElem?_eq_some_iff.1 h;rw [List.take_succ_eq_append_getElem hi,e];unfold rdT;simp
theorem vwRead(a bt:Nat)(ad n:Int)(w:World){o:Nat→Tag}{z tt:Tag}{B:List UInt8}{m:Nat}{tb:TbS}{T:List (Int×Int)}(ha:ArAt w o z a B m)(hm:m≤900000)(ht:TbAt w o tt bt tb)(hp:VwPre tb B ad n T)(h9:¬z <+: [9])(h8:¬z <+: [8]) :
  Calls Tryz.prog 109 #[.pointer (some ⟨a,0,none⟩),.pointer (some ⟨bt,0,none⟩),.int .i64 ad,.int .i64 n] w fun e w'=>e=.returned (.tuple #[.string ⟨(rdT B T).toArray⟩,.int .i64 0])∧∃o',ArAt w' o' z a B (m+8192)∧Fr (Und z) w o w' o':=by
 obtain⟨g,k0',v0',xs0',hk0',hc0'⟩:=ha;have hag:ArG w o z a g B m:=⟨k0',v0',xs0',hk0',hc0'⟩
 have hal:=hc0'.sb.lt;have hgl:=hc0'.bb.lt;have hTl:T.length≤8192:=by have:=hp.pt.len;have:=hp.n8;omega
 have hdb:=dones_bound (T:=T) (fun x hx=>by have:=hp.pt.sp x hx;omega) hp.pt.sum;have hn8:=hp.n8;generalize hW1:w.alloc (.cells #[.pointer (some ⟨a,0,none⟩)] 80)=W1 at *;have fa:Fr (fun _=>False) w o W1 o:=by rw [←hW1];exact Fr.alloc' _
 have hpc:=HD (vwPieces a bt ad n W1 (hag.at_.fr fa off_no) (ht.fr fa off_no) hp);have hka:W1.heap[w.heap.size]? = some (.cells #[.pointer (some ⟨a,0,none⟩)] 80 (0,0)):=by rw [←hW1];exact heap_alloc_new w _
 have hsz1:W1.heap.size=w.heap.size+1:=by rw [←hW1];simp
 have hbel:Below w.heap.size w W1:=by rw [←hW1];exact(Below.refl _ _).alloc (Nat.le_refl _) _
 have hk0:W1.cell? ⟨w.heap.size,0,none⟩=some (.pointer (some ⟨a,0,none⟩)):=cell_of_row _ w.heap.size 0 _ _ _ hka;have hea:=HD (show ∀v w0,Spn w0 W1.heap.size v T→Below W1.heap.size W1 w0 →
   Calls Tryz.prog 155 #[v,.func (.func 157) #[] #[.pointer (some ⟨w.heap.size,0,none⟩),.pointer (some ⟨w0.heap.size,0,none⟩)]] (w0.alloc (.cells #[.pointer none,.slice none 0 0] 221)) (fun e w'=>e=.returned (.tuple #[]) ∧
    Calls Tryz.prog 159 #[.pointer (some ⟨w0.heap.size,0,none⟩)] w' (fun e w2=>e=.returned (.string ⟨(rdT B T).toArray⟩)∧∃o',ArAt w2 o' z a B (m+8192)∧Fr (Und z) w o w2 o')) from fun v w0 hs hb=>by
  obtain⟨p,c,rfl,_⟩:=spn_cell hs;have hbw:Below w.heap.size w w0:=hbel.trans (hb.mono (by omega));have ff:Fr (fun _=>False) w o w0 (newO o w [9]):=Fr.below' hbw [9];have fb:Fr (fun _=>False) w0 (newO o w [9]) (w0.alloc (.cells #[.pointer none,.slice none 0 0] 221)) (setO (newO o w [9]) w0.heap.size [8]):=Fr.alloc _ _;have h0s:w.heap.size<w0.heap.size:=by have:=hb.size;omega
  obtain⟨g1,hg1,hg2⟩:=vw_each (o:=o) (z:=z) h9 hbw hs (by omega);have hstart:RdI w o z a g B m w0 w0.heap.size [] (w0.alloc (.cells #[.pointer none,.slice none 0 0] 221)) (setO (newO o w [9]) w0.heap.size [8]):=by
   refine⟨(hag.fr ff (fun q=>q)).fr fb (fun q=>q),⟨_,_,.inl rfl,heap_alloc_new w0 _,⟨rfl,.inl ⟨rfl,rfl⟩⟩,by simp [Value.ownBlock],setO_same,fun g hg=>by simp [Value.ownBlock] at hg⟩,((ff.trans fb).mono fun y q=>q.elim),fun k k1 k2=>?_,hal,hgl,by omega⟩;refine⟨heap_alloc_old _ _ k2,?_⟩;rw [setO_other (by omega),newO_new k1];exact h9
  have hcellk:∀wx o1 l mm,RdI w o z a g B mm w0 w0.heap.size l wx o1→(wx.cell? ⟨w.heap.size,0,none⟩=some (.pointer (some ⟨a,0,none⟩))):=fun wx o1 l mm q=>by
   have h1:w0.heap[w.heap.size]? = some (.cells #[.pointer (some ⟨a,0,none⟩)] 80 (0,0)):=(hb.block _ (by omega)).trans hka;exact cell_of_row _ w.heap.size 0 _ _ _ ((q.mid _ (Nat.le_refl _) h0s).1.trans h1)
  have hsc:∀(j:Nat) (x:Int×Int),T[j]? = some x→w0.cell? ⟨g1,j*3,none⟩=some (.int .i64 x.1)∧w0.cell? ⟨g1,j*3+1,none⟩=some (.int .i64 x.2)∧w0.cell? ⟨g1,j*3+2,none⟩=some (.bool false):=fun j x hx=>hg2 w0 _ (Fr.refl _ _ _) j x hx
  have hgb:T≠[]→W1.heap.size≤g1∧g1<w0.heap.size:=fun hT=>by
   obtain⟨p',c',e,h⟩:=spn_cell hs;obtain⟨g',hg',q1,q2,_⟩:=h hT;simp only [Value.slice.injEq] at e;have:=hg1 hT;rw [e.1,hg'] at this;injection this with this
   injection this with this
   omega
  refine(each_any 157 (enters_of Tryz.func157 (by kernel_rfl) rfl) #[.pointer (some ⟨w.heap.size,0,none⟩),.pointer (some ⟨w0.heap.size,0,none⟩)] g1 c p T (fun i wx=>∃o1,RdI w o z a g B (m+i) w0 w0.heap.size (rdT B (T.take i)) wx o1) _ hg1 (by omega) (fun i _=>by have:=hdb i;omega) (fun i w1 ⟨o1,q⟩ j x hx=>?_) (fun i w1 x hx ⟨o1,q⟩=>?_) ⟨_,hstart⟩).mono ?_
  ·have hT:T≠[]:=fun e=>by rw [e] at hx;simp at hx
   obtain⟨b1,b2⟩:=hgb hT;obtain⟨s1,s2,s3⟩:=hsc j x hx;have hm1:=(q.mid g1 (by omega) b2).1;exact⟨(World.cell?_of_block (w:=w0) hm1).trans s1,(World.cell?_of_block (w:=w0) hm1).trans s2,(World.cell?_of_block (w:=w0) hm1).trans s3⟩
  ·have hxs:=hp.pt.sp x (List.mem_of_getElem? hx)
   have hi:=(List.getElem?_eq_some_iff.1 hx).1;have hln:(rdT B (T.take i)).length≤100000:=by
    rw [rdT_locs (fun y hy=>by have:=hp.pt.sp y (List.mem_of_mem_take hy);omega),List.length_map];have h1:=dones_len (T:=T) (fun y hy=>by have:=hp.pt.sp y hy;omega) i;have:=hdb i;omega
   refine(vwRead1 a w.heap.size w0.heap.size x (dones T i) w1 q (by omega) (hcellk w1 o1 _ _ q) ⟨by omega,by omega,by omega,by omega⟩ hln h9 (fun e=>h8 e)).mono ?_;rintro e w2 ⟨rfl,o2,r⟩;refine⟨rfl,o2,?_⟩;rw [rdT_take hx];exact r
  ·rintro e w' ⟨rfl,o1,q⟩
   refine⟨rfl,?_⟩;rw [List.take_length] at q;have hb0:w0.heap.size<w'.heap.size:=by
    obtain⟨_,_,_,h2,_⟩:=q.bd;exact(Array.getElem?_eq_some_iff.1 h2).1
   have hst:=Any.Builder_String_any_k lays169 extra159 w0.heap.size w0.heap.size (rdT B T) w' q.bd.isB (by omega);change Calls Tryz.prog 159 _ w' _ at hst;refine hst.mono ?_;rintro e w2 ⟨rfl,hB2,hbel2,hok2⟩;refine⟨rfl,o1,?_,?_⟩
   ·have h0e:∃c,w'.heap[w0.heap.size]? = some (.cells c 221 (0,0)):=by
     obtain⟨_,_,_,h2,_⟩:=q.bd;exact⟨_,h2⟩
    exact(q.ar.others (o':=o1) (by omega) (by omega) hbel2 hok2 h0e (fun _ _ _ _=>rfl)).at_.mono (by omega)
   ·exact⟨⟨hbel2.os.trans q.fr.only.os,hbel2.tape.trans q.fr.only.tape,hbel2.output.trans q.fr.only.output,Nat.le_trans q.fr.only.size hbel2.size,fun k hk hn=>(hbel2.block k (by omega)).trans (q.fr.only.block k hk hn)⟩,fun k hk=>q.fr.ext k hk⟩)
 clear hag hal hgl hdb hka hsz1 hbel fa ht hp hc0';subst hW1;go_enter Tryz.func109,Tryz.ntmps109
 go_wp2_with fail;refine hpc.out.mono ?_;rintro e w0 ⟨v,rfl,hs,hb⟩;have he:=HD (hea.out v w0 hs hb);obtain⟨p,c,rfl,_⟩:=spn_cell hs;clear hs hb hea hpc;go_wp2_with fail;refine he.out.mono ?_;rintro e w1 ⟨rfl,r⟩;replace r:=HD r;clear he;go_wp2_with fail;refine r.out.mono ?_;rintro e w2 ⟨rfl,r2⟩;replace r2:=HD r2;clear r;go_wp2_with fail;go_ret2
 exact⟨rfl,r2.out⟩
end
section
open Go.RowKit
theorem vwCopy(a bt:Nat)(ad fr n:Int)(w:World){o:Nat→Tag}{z tt:Tag}{B:List UInt8}{m:Nat}{tb:TbS}{T T2:List (Int×Int)}(ha:ArAt w o z a B m)(hm:m≤800000)(ht:TbAt w o tt bt tb)(hp:VwPre tb B ad n T)(hp2:VwPre tb B fr n T2)(hnd:(locs T).Nodup)(h9:¬z <+: [9])(h8:¬z <+: [8])(hzt:Off (Und z) tt) :
  Calls Tryz.prog 107 #[.pointer (some ⟨a,0,none⟩),.pointer (some ⟨bt,0,none⟩),.int .i64 ad,.int .i64 fr,.int .i64 n] w fun e w'=>e=.returned (.int .i64 0)∧∃o' B',ArAt w' o' z a B' (m+20000)∧WrI B T (fun k=>(rdT B T2).getD k 0) T.length B'∧Fr (Und z) w o w' o':=by
 have hn0:0≤n:=by have:=dones_bound (T:=T2) (fun x hx=>by have:=hp2.pt.sp x hx;omega) hp2.pt.sum 0;omega
 have hlen:((rdT B T2).length:Int)=n:=by
  rw [rdT_locs (fun x hx=>by have:=hp2.pt.sp x hx;omega),List.length_map,locs_len (fun x hx=>by have:=hp2.pt.sp x hx;omega),hp2.pt.sum]
 have hpc:=HD (vwPieces a bt ad n w ha ht hp);have hall:=HD (show ∀w1,Below w.heap.size w w1→Calls Tryz.prog 109 #[.pointer (some ⟨a,0,none⟩),.pointer (some ⟨bt,0,none⟩),.int .i64 fr,.int .i64 n] w1 (fun e w2=>e=.returned (.tuple #[.string ⟨(rdT B T2).toArray⟩,.int .i64 0]) ∧
   Calls Tryz.prog 110 #[.pointer (some ⟨a,0,none⟩),.pointer (some ⟨bt,0,none⟩),.int .i64 ad,.string ⟨(rdT B T2).toArray⟩] w2 (fun e w3=>e=.returned (.int .i64 0)∧∃o' B',ArAt w3 o' z a B' (m+20000)∧WrI B T (fun k=>(rdT B T2).getD k 0) T.length B'∧Fr (Und z) w o w3 o')) from fun w1 hb=>by
  have ff:Fr (fun _=>False) w o w1 o:=Fr.below hb;refine(vwRead a bt fr n w1 (ha.fr ff off_no) (by omega) (ht.fr ff off_no) hp2 h9 h8).mono ?_;rintro e w2 ⟨rfl,o2,q2,f2⟩;have hsz:((⟨(rdT B T2).toArray⟩:ByteArray).size:Int)=n:=by show (((rdT B T2).toArray.size:Nat):Int)=n;simp [hlen]
  refine⟨rfl,(vwWrite a bt ad ⟨(rdT B T2).toArray⟩ w2 q2 (by omega) ((ht.fr ff off_no).fr f2 hzt) (by rw [hsz];exact hp) hnd h9).mono ?_⟩;rintro e w3 ⟨rfl,o3,B3,q3,g3,f3⟩;exact⟨rfl,o3,B3,q3.mono (by omega),by simpa using g3,((ff.mono fun y q=>q.elim).trans f2).trans f3⟩)
 clear ha ht hp hp2 hlen;go_enter Tryz.func107,Tryz.ntmps107
 go_wp2_with fail;refine hpc.out.mono ?_;rintro e w1 ⟨v,rfl,hs,hb⟩;have hrd:=HD (hall.out w1 hb);obtain⟨p,c,rfl,_⟩:=spn_cell hs;clear hs hb hall hpc;go_wp2_with fail;refine hrd.out.mono ?_;rintro e w2 ⟨rfl,hwr⟩;replace hwr:=HD hwr;clear hrd;go_wp2_with fail;refine hwr.out.mono ?_;rintro e w3 ⟨rfl,r⟩;replace r:=HD r;clear hwr;go_wp2_with fail;go_ret
 exact⟨rfl,r.out⟩
end
section
open Go.RowKit
theorem sum_split8(f:Nat→Nat):((List.range 24).map f).sum=((List.range 8).map f).sum+((List.range 16).map fun i=>f (8+i)).sum:=by
 have e:List.range 24=List.range 8++(List.range 16).map (8 + ·):=by rw [←List.range_add]
 rw [e];simp only [List.map_append,List.sum_append,List.map_map];rfl
theorem sum_one_le{f:Nat→Nat}:∀n i,i<n→f i≤((List.range n).map f).sum
 |0,i,h=>by omega
 |n+1,i,h=>by
  rw [List.range_succ];simp only [List.map_append,List.map_cons,List.map_nil,List.sum_append,List.sum_cons,List.sum_nil];by_cases e:i=n
  ·subst e;omega
  ·have:=sum_one_le (f:=f) n i (by omega);omega
def runpages(sl:Nat→ShS):Nat:=((List.range 16).map fun i=>(sl (8+i)).tkn*(pagesT ((8+i:Nat):Int)).toNat).sum
def smallpages(sl:Nat→ShS):Nat:=((List.range 8).map fun c=>(sl c).tkn).sum
theorem pgsum_parts(sl:Nat→ShS):pgsum sl=smallpages sl+runpages sl:=by
 have e:((List.range 8).map fun c:Nat=>(sl c).tkn*(pagesT (c:Int)).toNat)=(List.range 8).map fun c=>(sl c).tkn:=List.map_congr_left fun c hc=>by
  have hc8:=List.mem_range.1 hc;rw [(pages_lt8 hc8).1];simp
 have h:=sum_split8 fun c:Nat=>(sl c).tkn*(pagesT (c:Int)).toNat
 rw [e] at h;exact h
theorem runsum_pages(sl:Nat→ShS):runsum sl=runpages sl*512:=by
 unfold runsum runpages;have main:∀n,n≤16→((List.range n).map fun i=>(sl (8+i)).tkn*(unitT ((8+i:Nat):Int)).toNat).sum=((List.range n).map fun i=>(sl (8+i)).tkn*(pagesT ((8+i:Nat):Int)).toNat).sum*512:=by
  intro n;induction n with
  |zero=>intro _;simp only [List.range_zero,List.map_nil,List.sum_nil,Nat.zero_mul]
  |succ n ih =>
   intro h;have:=ih (by omega);rw [List.range_succ];simp only [List.map_append,List.map_cons,List.map_nil,List.sum_append,List.sum_cons,List.sum_nil,this];have hu:unitT ((8+n:Nat):Int)=((8+n:Nat)-7)*512:=unit_run (by omega) (by omega);have hp:pagesT ((8+n:Nat):Int)=((8+n:Nat):Int)-7:=pages_run (by omega) (by omega);rw [hu,hp];have e:((((8+n:Nat):Int)-7)*512).toNat=(((8+n:Nat):Int)-7).toNat*512:=by omega
   rw [e,←Nat.mul_assoc];omega
 exact main 16 (Nat.le_refl _)
theorem by_slots{c q:Int}(h0:0≤c)(h1:c≤7)(h:mayB q=true):byT c q≤256:=by
 obtain⟨a,b⟩:=may_iff.1 h;rw [by_in h0 h1 h];rcases per_unit h0 h1 with ⟨e,f⟩|⟨e,f⟩|⟨e,f⟩|⟨e,f⟩|⟨e,f⟩|⟨e,f⟩|⟨e,f⟩|⟨e,f⟩<;>rw [e,f]<;>omega
structure Dem(al:AlS)(pk:Int):Prop where
 may:mayB pk=true
 small:∀c:Nat,c<8→((al.sl c).tkn:Int)≤byT c pk
 cost:(al.cost:Int)≤pk
theorem small_le{al:AlS}{pk:Int}(h:∀c:Nat,c<8→((al.sl c).tkn:Int)≤byT c pk):∀k:Nat,k≤8→((((List.range k).map fun c=>(al.sl c).tkn).sum:Nat):Int)≤sumBy pk k
 |0,_=>by simp [sumBy]
 |k+1,hk=>by
  have:=small_le h k (by omega);have:=h k (by omega);rw [List.range_succ];simp only [List.map_append,List.map_cons,List.map_nil,List.sum_append,List.sum_cons,List.sum_nil];unfold sumBy;omega
theorem Dem.pages{al:AlS}{pk:Int}(h:Dem al pk):(pgsum al.sl:Int)≤demT pk:=by
 have h1:=small_le h.small 8 (Nat.le_refl _);have h2:=runsum_pages al.sl;have h3:=h.cost;have h4:=pgsum_parts al.sl;unfold AlS.cost at h3;unfold demT runsT;rw [if_pos h.may];unfold smallpages at h4;omega
theorem smcost_full{sm:List (Int×PgS)}{c u per:Nat}(h:∀y∈sm,kdV y.1=c→y.2.had.tkn=per∧y.2.unit.toNat=u):sm.countP (fun y=>decide (kdV y.1=c))*(per*u)≤smcost sm:=by
 unfold smcost;induction sm with
 |nil=>simp
 |cons y sm ih =>
  have h1:=ih (fun z hz=>h z (by simp [hz]));rw [List.countP_cons];simp only [List.map_cons,List.sum_cons];by_cases e:kdV y.1=c
  ·obtain⟨e1,e2⟩:=h y (by simp) e
   rw [if_pos (by simpa using e),Nat.add_mul,e1,e2];omega
  ·rw [if_neg (by simpa using e),Nat.add_zero]
   omega
theorem low_ex{s:ShS}(h:s.tkn<s.n):∃k:Nat,s.lowI=k:=by
 rcases low_cases s with ⟨e,_⟩|⟨k,e,_⟩
 ·have:=low_neg e
  unfold ShS.tkn at h;omega
 ·exact⟨k,e⟩
section
variable{B:List UInt8}{cm:CmS}{win:List Int}{tb:TbS}{al:AlS}{pk:Int}
theorem open_small(h:AlOk al)(hd:Dem al pk){c:Nat}(hc:c<8)(hl:al.ln c=[])(hq:(al.cost:Int)+unitT c≤pk):((al.sl c).tkn:Int)+1≤byT c pk:=by
 have hfull:∀y∈al.sm,kdV y.1=c→y.2.had.tkn=(perT c).toNat∧y.2.unit.toNat=(unitT c).toNat:=fun y hy hk=>by
  have hg:=mGet_of h.rise hy;obtain⟨g1,g2,g3,g4,g5⟩:=h.pg y.1 y.2 hg;have hz:y.2.had.cnt=0:=by
   rcases Nat.eq_zero_or_pos y.2.had.cnt with q|q
   ·exact q
   ·have:=((h.ln c hc).2 y.1).2 ⟨y.2,hg,hk,q⟩
    rw [hl] at this;cases this
  have hn:=g4.n;unfold PgS.per at hn;rw [g3,hk] at hn;refine⟨by unfold ShS.tkn;omega,by unfold PgS.unit;rw [g3,hk]⟩
 have h1:=smcost_full hfull;rw [←h.cnt c hc] at h1;have h2:((al.sl c).tkn*((perT c).toNat*(unitT c).toNat):Nat)≤al.cost:=by unfold AlS.cost;omega
 have hpu:=per_unit (c:=(c:Int)) (by omega) (by omega);obtain⟨b0,b1,b2,b3,b4,b5⟩:=by_ceil (c:=(c:Int)) (by omega) (by omega) hd.may;generalize byT c pk=y at *;generalize (al.sl c).tkn=k at *;rcases hpu with ⟨e,f⟩|⟨e,f⟩|⟨e,f⟩|⟨e,f⟩|⟨e,f⟩|⟨e,f⟩|⟨e,f⟩|⟨e,f⟩<;>rw [e,f] at h2<;>rw [f] at hq b2<;>rw [e] at b2<;>simp at h2<;>omega
theorem room_small(h:HpOk B cm win tb al)(hd:Dem al pk)(hr:demT pk≤(win.length*(cm.P/cm.C):Nat)){c:Nat}(hc:c<8)(hl:al.ln c=[])(hq:(al.cost:Int)+unitT c≤pk):∃s:Nat,HoldPre B cm win tb al c s:=by
 have h1:=open_small h.al hd hc hl hq;have h2:=by_slots (c:=(c:Int)) (by omega) (by omega) hd.may;have hn:=h.al.n c (by omega);rw [(pages_lt8 hc).2] at hn;obtain⟨s,hs⟩:=low_ex (s:=al.sl c) (by omega);refine⟨s,h,by omega,hs,?_⟩;rw [(pages_lt8 hc).1];have h3:((((List.range 8).map fun d=>(al.sl d).tkn).sum:Nat):Int)+1≤sumBy pk 8:=by
  have main:∀k:Nat,k≤8→((((List.range k).map fun d=>(al.sl d).tkn).sum:Nat):Int)+(if c<k then 1 else 0)≤sumBy pk k:=by
   intro k;induction k with
   |zero=>intro _;simp [sumBy]
   |succ k ih =>
    intro hk;have:=ih (by omega);have hk2:=hd.small k (by omega);rw [List.range_succ];simp only [List.map_append,List.map_cons,List.map_nil,List.sum_append,List.sum_cons,List.sum_nil];unfold sumBy;by_cases e:c=k
    ·subst e
     rw [if_neg (Nat.lt_irrefl _)] at this;rw [if_pos (Nat.lt_succ_self _)];omega
    ·by_cases e2:c<k
     ·rw [if_pos e2] at this;rw [if_pos (by omega)];omega
     ·rw [if_neg e2] at this;rw [if_neg (by omega)];omega
  have:=main 8 (Nat.le_refl _)
  rwa [if_pos hc] at this
 have h4:=runsum_pages al.sl;have h5:=pgsum_parts al.sl;have h6:=h.cnt;have h7:=hd.cost;unfold AlS.cost at h7;unfold demT runsT at hr;rw [if_pos hd.may] at hr;unfold smallpages at h5;simp
 omega
theorem room_run(h:HpOk B cm win tb al)(hd:Dem al pk)(hr:demT pk≤(win.length*(cm.P/cm.C):Nat)){c:Nat}(h8:8≤c)(hc:c<24)(hq:(al.cost:Int)+unitT c≤pk):∃s:Nat,HoldPre B cm win tb al c s:=by
 have hu:unitT c=(c-7)*512:=unit_run (by omega) (by omega);have hp:pagesT c=c-7:=pages_run (by omega) (by omega);have hmay:=may_iff.1 hd.may;have h1:=small_le hd.small 8 (Nat.le_refl _);have h4:=runsum_pages al.sl;have h5:=pgsum_parts al.sl;have h6:=h.cnt;have hcst:(al.cost:Int)=smcost al.sm+runsum al.sl:=by unfold AlS.cost;omega
 have hn:=h.al.n c hc;rw [slots_in (by omega) (by omega),hp] at hn;have hone:=sum_one_le (f:=fun i=>(al.sl (8+i)).tkn*(pagesT ((8+i:Nat):Int)).toNat) 16 (c-8) (by omega);simp only [show 8+(c-8)=c by omega,hp] at hone;have hone':(al.sl c).tkn*((c:Int)-7).toNat≤runpages al.sl:=hone;have hlt:(al.sl c).tkn<(al.sl c).n:=by
  have hk:((al.sl c).tkn*((c:Int)-7).toNat:Nat)+((c:Int)-7).toNat≤128:=by omega
  rcases(by omega:c=8∨c=9∨c=10∨c=11∨c=12∨c=13∨c=14∨c=15∨c=16∨c=17∨c=18∨c=19∨c=20∨c=21∨c=22∨c=23) with rfl|rfl|rfl|rfl|rfl|rfl|rfl|rfl|rfl|rfl|rfl|rfl|rfl|rfl|rfl|rfl<;>simp at hk hn<;>omega
 obtain⟨s,hs⟩:=low_ex hlt;refine⟨s,h,hc,hs,?_⟩;rw [hp];unfold demT runsT at hr;rw [if_pos hd.may] at hr;unfold smallpages at h5;omega
theorem mal_room(h:HpOk B cm win tb al)(hd:Dem al pk)(hr:demT pk≤(win.length*(cm.P/cm.C):Nat)){c:Nat}(hc:c<24)(hq:(al.cost:Int)+unitT c≤pk):MalPre B cm win tb al c :=
 ⟨h,hc,fun hl=>by
  by_cases h8:c<8
  ·exact room_small h hd hr h8 (hl h8) hq
  ·exact room_run h hd hr (by omega) hc hq⟩
end
end
section
open Go.RowKit Flt
structure Ans where
 err:Int
 h:Nat
 addr:Int
 n:Int
 data:ByteArray
 ch:Int
def ansV(x:Ans):Value:=.agg #[.int .i64 x.err,.int .u64 x.h,.int .i64 x.addr,.int .i64 x.n,.string x.data,.int .i64 x.ch]
structure TnX where
 x:HpX
 bh:Nat
 bc:Nat
 bq:Nat
 go:Nat
def tnL(a c:Nat)(y:TnX)(id pk:Int):List Value:=[eP a,eP c,eP y.bh,eP y.bc,eP y.bq,.int .i64 id,.int .i64 pk,.map (some y.go)]
structure TnR(w:World)(o:Nat→Tag)(t:Tag)(b a c:Nat)(y:TnX)(win:List Int)(tb:TbS)(id pk:Int)(al:AlS)(cp:CpS)(q:QS)(M:List (Int×Int)):Prop where
 blk:Blk w o t b (tnL a c y id pk).toArray 133
 hp:HpG w o (t++[0]) y.bh a c y.x win tb al
 cp:CpAt w o (t++[1]) y.bc cp
 qo:o y.bq=t++[2]
 qa:Qat w y.bq q
 ob:MpAt w o (t++[3]) y.go .i64 eI M
section
variable{S:Tag→Prop}{w w':World}{o o':Nat→Tag}{t u z:Tag}{b a c:Nat}{y:TnX}{win:List Int}{tb:TbS}{id pk:Int}{al:AlS}{cp:CpS}{q:QS}{M:List (Int×Int)}
theorem qat_lt(h:Qat w b q):b<w.heap.size:=lt_of_block h
theorem Qat.fr{tq:Tag}(h:Qat w b q)(hb:o b=tq)(f:Fr S w o w' o')(hS:¬S tq):o' b=tq∧Qat w' b q :=
 ⟨(f.ext b (qat_lt h)).trans hb,(f.only.block b (qat_lt h) (by rw [hb];exact hS)).trans h⟩
theorem TnR.fr(h:TnR w o t b a c y win tb id pk al cp q M)(f:Fr S w o w' o')(hS:Off S t):TnR w' o' t b a c y win tb id pk al cp q M where
 blk:=h.blk.fr f hS.self
 hp:=h.hp.fr f (hS.sub [0])
 cp:=h.cp.fr f (hS.sub [1])
 qo:=(Qat.fr h.qa h.qo f (hS.sub [2]).self).1
 qa:=(Qat.fr h.qa h.qo f (hS.sub [2]).self).2
 ob:=h.ob.fr f (hS.sub [3]).self
theorem TnR.inHp(h:TnR w o t b a c y win tb id pk al cp q M)(h9:¬t <+: [9])(f:Fr S w o w' o')(h0:¬S t)(h1:Off S (t++[1]))(h2:Off S (t++[2]))(h3:Off S (t++[3])){x':HpX}{win':List Int}{tb':TbS}{al':AlS}(g:HpG w' o' (t++[0]) y.bh a c x' win' tb' al'):TnR w' o' t b a c ⟨x',y.bh,y.bc,y.bq,y.go⟩ win' tb' id pk al' cp q M where
 blk:=h.blk.fr f h0
 hp:=g
 cp:=h.cp.fr f h1
 qo:=(Qat.fr h.qa h.qo f h2.self).1
 qa:=(Qat.fr h.qa h.qo f h2.self).2
 ob:=h.ob.fr f h3.self
theorem TnR.inCp(h:TnR w o t b a c y win tb id pk al cp q M)(h9:¬t <+: [9])(f:Fr (Und (t++[1])) w o w' o'){cp':CpS}(g:CpAt w' o' (t++[1]) y.bc cp'):TnR w' o' t b a c y win tb id pk al cp' q M where
 blk:=h.blk.fr f (not_und t 1 [])
 hp:=h.hp.fr f (off_one (by decide) h9)
 cp:=g
 qo:=(Qat.fr h.qa h.qo f (off_one (r':=[]) (by decide) h9).self).1
 qa:=(Qat.fr h.qa h.qo f (off_one (r':=[]) (by decide) h9).self).2
 ob:=h.ob.fr f (off_one (r':=[]) (by decide) h9).self
theorem TnR.frQ(h:TnR w o t b a c y win tb id pk al cp q M)(f:Only (· = y.bq) w w'):Fr (Und (t++[2])) w o w' o:=Fr.of_only (f.mono fun k _ e=>by rw [e,h.qo];exact Und.self _)
theorem TnR.inQ(h:TnR w o t b a c y win tb id pk al cp q M)(h9:¬t <+: [9])(f:Only (· = y.bq) w w'){q':QS}(g:Qat w' y.bq q'):TnR w' o t b a c y win tb id pk al cp q' M where
 blk:=h.blk.fr (h.frQ f) (not_und t 2 [])
 hp:=h.hp.fr (h.frQ f) (off_one (by decide) h9)
 cp:=h.cp.fr (h.frQ f) (off_one (by decide) h9)
 qo:=h.qo
 qa:=g
 ob:=h.ob.fr (h.frQ f) (off_one (r':=[]) (by decide) h9).self
theorem TnR.inOb(h:TnR w o t b a c y win tb id pk al cp q M)(h9:¬t <+: [9]){M':List (Int×Int)}(g:MpPost w w' o (t++[3]) y.go .i64 eI M'):TnR w' o t b a c y win tb id pk al cp q M':=by
 have f:Fr (Und (t++[3])) w o w' o:=g.2.1.mono fun v e=>by rw [e];exact Und.self _
 exact⟨h.blk.fr f (not_und t 3 []),h.hp.fr f (off_one (by decide) h9),h.cp.fr f (off_one (by decide) h9),(Qat.fr h.qa h.qo f (off_one (r':=[]) (by decide) h9).self).1,(Qat.fr h.qa h.qo f (off_one (r':=[]) (by decide) h9).self).2,g.1⟩
theorem TnR.c0(h:TnR w o t b a c y win tb id pk al cp q M):w.cell? ⟨b,0,none⟩=some (eP a):=h.blk.cell' (i:=0) rfl
theorem TnR.c1(h:TnR w o t b a c y win tb id pk al cp q M):w.cell? ⟨b,1,none⟩=some (eP c):=h.blk.cell' (i:=1) rfl
theorem TnR.c2(h:TnR w o t b a c y win tb id pk al cp q M):w.cell? ⟨b,2,none⟩=some (eP y.bh):=h.blk.cell' (i:=2) rfl
theorem TnR.c3(h:TnR w o t b a c y win tb id pk al cp q M):w.cell? ⟨b,3,none⟩=some (eP y.bc):=h.blk.cell' (i:=3) rfl
theorem TnR.c4(h:TnR w o t b a c y win tb id pk al cp q M):w.cell? ⟨b,4,none⟩=some (eP y.bq):=h.blk.cell' (i:=4) rfl
theorem TnR.c5(h:TnR w o t b a c y win tb id pk al cp q M):w.cell? ⟨b,5,none⟩=some (.int .i64 id):=h.blk.cell' (i:=5) rfl
theorem TnR.c6(h:TnR w o t b a c y win tb id pk al cp q M):w.cell? ⟨b,6,none⟩=some (.int .i64 pk):=h.blk.cell' (i:=6) rfl
theorem TnR.c7(h:TnR w o t b a c y win tb id pk al cp q M):w.cell? ⟨b,7,none⟩=some (.map (some y.go)):=h.blk.cell' (i:=7) rfl
end
theorem tnLimit(p n:Int)(w:World):Calls Tryz.prog 89 #[.int .i64 p,.int .i64 n] w fun e w'=>e=.returned (.complex .f64 (F p) (F n))∧w'=w:=by
 go_enter Tryz.func89,Tryz.ntmps89
 go_wp2_with fail;go_ret
 exact⟨rfl,rfl⟩
theorem tnCost(n:Int)(w:World):Calls Tryz.prog 104 #[.int .i64 n] w fun e w'=>e=.returned (.int .i64 (chargeT n))∧w'=w:=by
 rw [show chargeT n=unitT (kindT n) by unfold chargeT;rfl];have h1:=HD (kindOf_any n w);have h2:=HD (unit_any (kindT n) w);go_enter Tryz.func104,Tryz.ntmps104
 go_wp2_with fail;refine h1.out.mono ?_;rintro e w' ⟨rfl,hw⟩;obtain rfl:=hw.symm;clear hw;go_wp2_with fail;refine h2.out.mono ?_;rintro e w' ⟨rfl,hw⟩;obtain rfl:=hw.symm;clear hw;go_wp2_with fail;go_ret
 exact⟨rfl,rfl⟩
section
variable{w:World}{o:Nat→Tag}{t u z:Tag}{b a c:Nat}{y:TnX}{win:List Int}{tb:TbS}{id pk:Int}{al:AlS}{cp:CpS}{q:QS}{M:List (Int×Int)}
theorem tnCharged(h:TnR w o t b a c y win tb id pk al cp q M)(hq:q.wf):Calls Tryz.prog 40 #[eP b] w fun e w'=>e=.returned (.int .i64 q.cB)∧w'=w:=by
 have c4:=h.c4;have h1:=HD (charged_any y.bq q w h.qa);have h2:=HD (bytes_F q.cB q.cP w (QS.ok hq).2.1);clear h hq;go_enter Tryz.func40,Tryz.ntmps40
 go_wp2_with fail;refine h1.out.mono ?_;rintro e w' ⟨rfl,hw⟩;obtain rfl:=hw.symm;clear hw;go_wp2_with fail;refine h2.out.mono ?_;rintro e w' ⟨rfl,hw⟩;obtain rfl:=hw.symm;clear hw;go_wp2_with fail;go_ret
 exact⟨rfl,rfl⟩
theorem tnCharged_nil(w:World):Calls Tryz.prog 40 #[.pointer none] w fun e w'=>e=.returned (.int .i64 0)∧w'=w:=by
 go_enter Tryz.func40,Tryz.ntmps40
 go_wp2_with fail;go_ret
 exact⟨rfl,rfl⟩
theorem tnQuota(h:TnR w o t b a c y win tb id pk al cp q M)(hq:q.wf):Calls Tryz.prog 41 #[eP b] w fun e w'=>e=.returned (.int .i64 q.lB)∧w'=w:=by
 have c4:=h.c4;have h1:=HD (limit_any y.bq q w h.qa);have h2:=HD (bytes_F q.lB q.lP w (QS.ok hq).1);clear h hq;go_enter Tryz.func41,Tryz.ntmps41
 go_wp2_with fail;refine h1.out.mono ?_;rintro e w' ⟨rfl,hw⟩;obtain rfl:=hw.symm;clear hw;go_wp2_with fail;refine h2.out.mono ?_;rintro e w' ⟨rfl,hw⟩;obtain rfl:=hw.symm;clear hw;go_wp2_with fail;go_ret
 exact⟨rfl,rfl⟩
theorem tnQuota_nil(w:World):Calls Tryz.prog 41 #[.pointer none] w fun e w'=>e=.returned (.int .i64 0)∧w'=w:=by
 go_enter Tryz.func41,Tryz.ntmps41
 go_wp2_with fail;go_ret
 exact⟨rfl,rfl⟩
theorem tnSerial(h:TnR w o t b a c y win tb id pk al cp q M):Calls Tryz.prog 57 #[eP b] w fun e w'=>e=.returned (.int .i64 cp.next)∧w'=w:=by
 have c3:=h.c3;have h1:=HD (cpSerial y.bc w h.cp);clear h;go_enter Tryz.func57,Tryz.ntmps57
 go_wp2_with fail;refine h1.out.mono ?_;rintro e w' ⟨rfl,hw⟩;obtain rfl:=hw.symm;clear hw;go_wp2_with fail;go_ret
 exact⟨rfl,rfl⟩
end
end
section
open Go.RowKit Flt
theorem infoAns:(Tryz.prog.info? 47).map (·.size)=some 6:=by kernel_rfl
abbrev ansC(x:Ans):Array Value:=#[.int .i64 x.err,.int .u64 x.h,.int .i64 x.addr,.int .i64 x.n,.string x.data,.int .i64 x.ch]
theorem ans_results{fn:Func}(h:fn.results=#[.cell 4 47])(tmps:Array Value)(w:World){g:Nat}(x:Ans)(ht:tmps.getD 4 undef=eP g)(hb:w.heap[g]? = some (.cells (ansC x) 47 (0,0))):(results fn tmps).run Tryz.prog w=.ok (ansV x) w :=
 results_cell_row h tmps w g _ _ _ _ ht hb Tryz.underlying47 rfl infoAns
def Row(w:World)(g:Nat)(x:Ans):Prop:=w.heap[g]? = some (.cells (ansC x) 47 (0,0))
structure RowC(w:World)(g:Nat)(x:Ans):Prop where
 k0:w.cell? ⟨g,0,none⟩=some (.int .i64 x.err)
 k1:w.cell? ⟨g,1,none⟩=some (.int .u64 x.h)
 k2:w.cell? ⟨g,2,none⟩=some (.int .i64 x.addr)
 k3:w.cell? ⟨g,3,none⟩=some (.int .i64 x.n)
 k4:w.cell? ⟨g,4,none⟩=some (.string x.data)
 k5:w.cell? ⟨g,5,none⟩=some (.int .i64 x.ch)
 f0:w.frozen? ⟨g,0,none⟩=false
 f1:w.frozen? ⟨g,1,none⟩=false
 f2:w.frozen? ⟨g,2,none⟩=false
 f3:w.frozen? ⟨g,3,none⟩=false
 f4:w.frozen? ⟨g,4,none⟩=false
 f5:w.frozen? ⟨g,5,none⟩=false
theorem Row.cells{w:World}{g:Nat}{x:Ans}(h:Row w g x):RowC w g x:=by
 have c:=fun i=>cell_of_row w g i (ansC x) 47 (0,0) h
 have f:=fun i=>frozen_of_row w g i (ansC x) 47 h
 exact⟨c 0,c 1,c 2,c 3,c 4,c 5,f 0,f 1,f 2,f 3,f 4,f 5⟩
theorem Row.blk{w:World}{g:Nat}{x:Ans}(h:Row w g x):Blk w (fun _=>[]) [] g (ansC x) 47:=⟨rfl,h⟩
theorem Row.fr{w w':World}{g:Nat}{x:Ans}(h:Row w g x){B:Nat}(hb:Below B w w')(hg:g<B):Row w' g x:=(hb.block g hg).trans h
theorem Row.made(w:World)(x:Ans):Row (w.alloc (.cells (ansC x) 47)) w.heap.size x:=heap_alloc_new w _
theorem Row.alloc{w:World}{g:Nat}{x:Ans}(h:Row w g x)(y:Obj):Row (w.alloc y) g x:=(h.blk.alloc y).2
theorem Row.store{w:World}{g:Nat}{x:Ans}(h:Row w g x)(y:Ans):Row ((((((w.setCell ⟨g,0,none⟩ (.int .i64 y.err)).setCell ⟨g,1,none⟩ (.int .u64 y.h)).setCell ⟨g,2,none⟩ (.int .i64 y.addr)).setCell ⟨g,3,none⟩ (.int .i64 y.n)).setCell ⟨g,4,none⟩ (.string y.data)).setCell ⟨g,5,none⟩ (.int .i64 y.ch)) g y :=
 (((((((h.blk.set 0 (.int .i64 y.err)).set 1 (.int .u64 y.h)).set 2 (.int .i64 y.addr)).set 3 (.int .i64 y.n)).set 4 (.string y.data)).set 5 (.int .i64 y.ch))).2
theorem Row.set_ne{w:World}{g:Nat}{x:Ans}(h:Row w g x){p:Addr}(hp:p.block≠g)(u:Value):Row (w.setCell p u) g x:=(h.blk.set_ne hp u).2
theorem Row.set5{w:World}{g:Nat}{x:Ans}(h:Row w g x)(c:Int):Row (w.setCell ⟨g,5,none⟩ (.int .i64 c)) g {x with ch:=c}:=(h.blk.set 5 (.int .i64 c)).2
theorem below_store{w0 w:World}{B g:Nat}(h:Below B w0 w)(hg:B≤g)(y:Ans):Below B w0 ((((((w.setCell ⟨g,0,none⟩ (.int .i64 y.err)).setCell ⟨g,1,none⟩ (.int .u64 y.h)).setCell ⟨g,2,none⟩ (.int .i64 y.addr)).setCell ⟨g,3,none⟩ (.int .i64 y.n)).setCell ⟨g,4,none⟩ (.string y.data)).setCell ⟨g,5,none⟩ (.int .i64 y.ch)) :=
 (((((h.setCell hg _).setCell hg _).setCell hg _).setCell hg _).setCell hg _).setCell hg _
def ans0:Ans:=⟨0,0,0,0,ByteArray.empty,0⟩
section
variable{w:World}{o:Nat→Tag}{t u z:Tag}{b a c:Nat}{y:TnX}{win:List Int}{tb:TbS}{id pk:Int}{al:AlS}{cp:CpS}{q:QS}{M:List (Int×Int)}
theorem tnSay(x:Ans)(h:TnR w o t b a c y win tb id pk al cp q M)(hq:q.wf):Calls Tryz.prog 99 #[eP b,ansV x] w fun e w'=>e=.returned (ansV {x with ch:=q.cB})∧Below w.heap.size w w':=by
 obtain⟨e,h1,ad,n,d,ch⟩:=x;have hc:=HD (show ∀w',Below w.heap.size w w'→Calls Tryz.prog 40 #[eP b] w' (fun e w1=>e=.returned (.int .i64 q.cB)∧w1=w') from fun w' hb=>tnCharged (h.fr (S:=fun _=>False) (Fr.below hb) off_no) hq);clear h hq;unfold ansV;simp only;go_enter Tryz.func99,Tryz.ntmps99
 go_wp2_with fail;have qA:=(Row.made w ⟨e,h1,ad,n,d,ch⟩).alloc (.cells (ansC ans0) 47);have qB:=Row.made (w.alloc (.cells (ansC ⟨e,h1,ad,n,d,ch⟩) 47)) ans0;rw [World.size_alloc] at qB;have hb:=((Below.refl w.heap.size w).alloc (Nat.le_refl _) (.cells (ansC ⟨e,h1,ad,n,d,ch⟩) 47)).alloc (by simp) (.cells (ansC ans0) 47);have hsz:((w.alloc (.cells (ansC ⟨e,h1,ad,n,d,ch⟩) 47)).alloc (.cells (ansC ans0) 47)).heap.size=w.heap.size+2:=by simp
 change Calls _ _ _ ((w.alloc (.cells (ansC ⟨e,h1,ad,n,d,ch⟩) 47)).alloc (.cells (ansC ans0) 47)) _;generalize ((w.alloc (.cells (ansC ⟨e,h1,ad,n,d,ch⟩) 47)).alloc (.cells (ansC ans0) 47))=W at *;refine(hc.out W hb).mono ?_;rintro e w' ⟨rfl,hw⟩;obtain rfl:=hw.symm;clear hw hc;obtain⟨k0,k1,k2,k3,k4,k5,f0,f1,f2,f3,f4,f5⟩:=qA.cells;obtain⟨l0,l1,l2,l3,l4,l5,g0,g1,g2,g3,g4,g5⟩:=qB.cells;simp only at k0 k1 k2 k3 k4 k5;replace qA:=HD qA;replace qB:=HD qB;replace hb:=HD hb;go_wp2_with fail;refine bodyPost_ret (v:=ansV ⟨_,h1,ad,n,d,q.cB⟩) (ans_results (by kernel_rfl) _ _ _ rfl ((qB.out.set_ne (by simp) _).store ⟨_,h1,ad,n,d,q.cB⟩)) rfl ⟨rfl,?_⟩;exact below_store (hb.out.setCell (Nat.le_refl _) _) (by omega) ⟨_,h1,ad,n,d,q.cB⟩
end
end
section
open Go.RowKit Flt
section
variable{w:World}{o:Nat→Tag}{t u z:Tag}{b a c:Nat}{y:TnX}{win:List Int}{tb:TbS}{id pk:Int}{al:AlS}{cp:CpS}{q:QS}{M:List (Int×Int)}
theorem tnFail(k:Int)(h:TnR w o t b a c y win tb id pk al cp q M)(hq:q.wf):Calls Tryz.prog 97 #[eP b,.int .i64 k] w fun e w'=>e=.returned (ansV ⟨k,0,0,0,ByteArray.empty,q.cB⟩)∧Below w.heap.size w w':=by
 have hc:=HD (show ∀w',Below w.heap.size w w'→Calls Tryz.prog 99 #[eP b,ansV ⟨k,0,0,0,ByteArray.empty,0⟩] w' (fun e w1=>e=.returned (ansV ⟨k,0,0,0,ByteArray.empty,q.cB⟩)∧Below w'.heap.size w' w1) from fun w' hb=>tnSay _ (h.fr (S:=fun _=>False) (Fr.below hb) off_no) hq);clear h hq;go_enter Tryz.func97,Tryz.ntmps97
 go_wp2_with fail;have qB:=Row.made w ans0;have hb:=(Below.refl w.heap.size w).alloc (Nat.le_refl _) (.cells (ansC ans0) 47);have hsz:(w.alloc (.cells (ansC ans0) 47)).heap.size=w.heap.size+1:=by simp
 change Calls _ _ _ (w.alloc (.cells (ansC ans0) 47)) _;generalize (w.alloc (.cells (ansC ans0) 47))=W at *;refine(hc.out W hb).mono ?_;rintro e w1 ⟨rfl,hb1⟩;clear hc;replace qB:=qB.fr hb1 (by omega);replace hb:=hb.trans (hb1.mono (by omega));obtain⟨l0,l1,l2,l3,l4,l5,g0,g1,g2,g3,g4,g5⟩:=qB.cells;replace qB:=HD qB;replace hb:=HD hb;clear hb1;simp only [ansV];go_wp2_with fail;refine bodyPost_ret (v:=ansV ⟨k,0,0,0,ByteArray.empty,q.cB⟩) ?_ rfl ⟨rfl,?_⟩
 ·exact ans_results (by kernel_rfl) _ _ _ rfl (qB.out.store ⟨k,0,0,0,ByteArray.empty,q.cB⟩)
 ·exact below_store hb.out (Nat.le_refl _) ⟨k,0,0,0,ByteArray.empty,q.cB⟩
theorem tnFind(hn:Nat)(r:Int)(hh:hn<18446744073709551616)(h:TnR w o t b a c y win tb id pk al cp q M):Calls Tryz.prog 100 #[eP b,.int .u64 hn,.int .i64 r] w fun e w'=>e=.returned (.tuple #[.int .i64 (cp.findF hn r).1,.int .i64 (cp.findF hn r).2])∧Below w.heap.size w w':=by
 have c3:=h.c3;have hf:=HD (cpFind y.bc hn r hh w h.cp);generalize cp.findF hn r=p at *;obtain⟨p1,p2⟩:=p;clear h;go_enter Tryz.func100,Tryz.ntmps100
 go_wp2_with fail;refine hf.out.mono ?_;rintro e w1 ⟨rfl,hb1⟩;replace hb1:=HD hb1;go_wp2_with fail;go_ret2
 exact⟨rfl,hb1.out⟩
end
end
section
open Go.RowKit Flt
section
variable{B:List UInt8}{cm:CmS}{win:List Int}{tb:TbS}{al:AlS}{pk:Int}
theorem mal_sl{c:Nat}(h:MalPre B cm win tb al c):((al.mal c).2.sl=al.sl∧c<8∧al.ln c≠[])∨(∃s,s<(al.sl c).n∧(al.sl c).f s=true∧(al.mal c).2.sl=up1 al.sl c ((al.sl c).flip s)∧(c<8→al.ln c=[])):=by
 unfold AlS.mal;by_cases h8:c<8
 ·rw [if_pos h8]
  cases hl:al.ln c with
  |cons v l=>exact .inl ⟨rfl,h8,by simp⟩
  |nil =>
   obtain⟨s,hs⟩:=h.room (fun _=>hl);refine .inr ⟨s,hs.slot.1,hs.slot.2.1,?_,fun _=>rfl⟩;have:=hs.low;rw [show (al.sl c).lowI.toNat=s by omega];rfl
 ·rw [if_neg h8]
  obtain⟨s,hs⟩:=h.room (fun q=>absurd q h8);refine .inr ⟨s,hs.slot.1,hs.slot.2.1,?_,fun q=>absurd q h8⟩;have:=hs.low;rw [show (al.sl c).lowI.toNat=s by omega]
theorem mal_pg{c:Nat}(h:MalPre B cm win tb al c):pgsum al.sl≤pgsum (al.mal c).2.sl:=by
 rcases mal_sl h with ⟨e,_⟩|⟨s,h1,h2,e,_⟩
 ·rw [e];exact Nat.le_refl _
 ·rw [e,pgsum_take h.k24 h1 h2];exact Nat.le_add_right _ _
theorem mal_pg2{c:Nat}(h:MalPre B cm win tb al c):pgsum (al.mal c).2.sl≤pgsum al.sl+16:=by
 rcases mal_sl h with ⟨e,_⟩|⟨s,h1,h2,e,_⟩
 ·rw [e];omega
 ·rw [e,pgsum_take h.k24 h1 h2]
  have:=kind_facts (c:=(c:Int)) (by omega) (by have:=h.k24;omega);omega
theorem dem_mal{c:Nat}(h:MalPre B cm win tb al c)(hd:Dem al pk)(hq:(al.cost:Int)+unitT c≤pk)(hcost:(al.mal c).2.cost=al.cost+(unitT c).toNat):Dem (al.mal c).2 pk:=by
 have hu:0≤unitT c:=by have:=(kind_facts (c:=(c:Int)) (by omega) (by have:=h.k24;omega)).1;omega
 refine⟨hd.may,fun d hd8=>?_,by omega⟩;have hs:=hd.small d hd8;rcases mal_sl h with ⟨e,_⟩|⟨s,h1,h2,e,h3⟩
 ·rw [e];exact hs
 ·rw [e]
  by_cases hdc:d=c
  ·subst hdc
   rw [up1_same,tkn_take h1 h2];have:=open_small h.hp.al hd hd8 (h3 hd8) hq;omega
  ·rw [up1_other hdc];exact hs
theorem fre_sl{c s k:Nat}(h:AlOk al)(hh:Had al c s k):(al.fre c s k).sl=al.sl∨(al.fre c s k).sl=up1 al.sl c ((al.sl c).flip s):=by
 unfold AlS.fre;by_cases h8:c<8
 ·rw [if_pos h8]
  unfold AlS.giveP
  split
  ·right
   have:=hh.there.2.1;rw [show (vOf c s%256).toNat=s by unfold vOf;rw [(pages_lt8 h8).2] at this;rw [(pages_lt8 h8).1];omega]
  ·left;rfl
 ·rw [if_neg h8];right;rfl
theorem fre_pg{c s k:Nat}(h:AlOk al)(hh:Had al c s k):pgsum (al.fre c s k).sl≤pgsum al.sl:=by
 rcases fre_sl h hh with e|e
 ·rw [e];exact Nat.le_refl _
 ·have:=pgsum_give hh.there.1 (had_n h hh) hh.2.1
  rw [e];omega
theorem dem_fre{c s k:Nat}(h:AlOk al)(hh:Had al c s k)(hd:Dem al pk)(hcost:(al.fre c s k).cost+(unitT c).toNat=al.cost):Dem (al.fre c s k) pk:=by
 have:=hd.cost;refine⟨hd.may,fun d hd8=>?_,by omega⟩;have hs:=hd.small d hd8;rcases fre_sl h hh with e|e
 ·rw [e];exact hs
 ·rw [e]
  by_cases hdc:d=c
  ·subst hdc
   rw [up1_same];have:=tkn_give (had_n h hh) hh.2.1;omega
  ·rw [up1_other hdc];exact hs
end
section
variable{o:Nat→Tag}{t u z:Tag}{x:HpX}{B:List UInt8}{m:Nat}{cm:CmS}{win:List Int}{tb:TbS}{al:AlS}
theorem hpMalloc(b a c k:Nat)(n:Int)(w:World)(h:HpW w o t u z b a c x B m cm win tb al)(hx:x.is tb al)(ap:Ap3 t u z)(hm:m≤900000)(hpre:MalPre B cm win tb al k)(hn:kindT n=k) :
  Calls Tryz.prog 145 #[.pointer (some ⟨b,0,none⟩),.int .i64 n] w (MalEnd w o t u z b a c B (m+2) cm win tb al k):=by
 by_cases h8:k<8
 ·cases hl:al.ln k with
  |cons v l=>exact hpMalloc_small b a c k n w h hx ap hm hpre hn h8 hl
  |nil=>exact hpMalloc_open b a c k n w h hx ap hm hpre hn h8 hl
 ·exact hpMalloc_run b a c k n w h hx ap hm hpre hn (by omega)
theorem hpFree(b a c k s j:Nat)(w:World)(h:HpW w o t u z b a c x B m cm win tb al)(hp:HpOk B cm win tb al)(hx:x.is tb al)(ap:Ap3 t u z)(hm:m≤800000)(hh:Had al k s j) :
  Calls Tryz.prog 148 #[.pointer (some ⟨b,0,none⟩),.int .i64 (posT k s j)] w fun e w'=>e=.returned (.int .i64 0)∧FrePost w o t u z b a c x B (m+20) cm win tb al k s j w':=by
 by_cases h8:k<8
 ·exact hpFree_small b a c k s j w h hp hx ap hm h8 hh
 ·exact hpFree_run b a c k s j w h hp hx ap hm (by omega) hh
end
end
section
open Go.RowKit Flt
structure TnW(w:World)(o:Nat→Tag)(t u z:Tag)(b a c:Nat)(y:TnX)(B:List UInt8)(m:Nat)(cm:CmS)(win:List Int)(tb:TbS)(id pk:Int)(al:AlS)(cp:CpS)(q:QS)(M:List (Int×Int)):Prop where
 tn:TnR w o t b a c y win tb id pk al cp q M
 is_:y.x.is tb al
 cma:CmAt w o u c cm
 ar:ArAt w o z a B m
theorem s3_sub{t u z:Tag}{r:Tag}{v:Tag}(h:S3 (t++r) u z v):S3 t u z v:=h.elim (fun q=>.inl q.up) .inr
theorem Ap3.sub{t u z:Tag}(h:Ap3 t u z)(r:Tag):Ap3 (t++r) u z:=⟨h.tu.sub r,h.tz.sub r,h.uz⟩
theorem off_s3{t u z v:Tag}(h1:Off (Und t) v)(h2:Off (Und u) v)(h3:Off (Und z) v):Off (S3 t u z) v :=
 ⟨fun x hx q=>q.elim (h1.1 x hx) (fun q=>q.elim (h2.1 x hx) (h3.1 x hx)),fun q=>q.elim h1.2 (fun q=>q.elim h2.2 h3.2)⟩
theorem off_s3_one{t u z:Tag}(ap:Ap3 t u z){i j:Nat}(h:i≠j):Off (S3 (t++[i]) u z) (t++[j]) :=
 off_s3 (off_one (r:=[]) (r':=[]) h ap.tu.t9) (ap.tu.sub [j]).swap.off (ap.tz.sub [j]).swap.off
theorem s3_self{t u z:Tag}(ap:Ap3 t u z)(i:Nat):¬S3 (t++[i]) u z t:=fun q=>q.elim (not_und t i []) (fun q=>q.elim ap.tu.swap.off.self ap.tz.swap.off.self)
section
variable{S:Tag→Prop}{w w':World}{o o':Nat→Tag}{t u z:Tag}{b a c:Nat}{y:TnX}{B:List UInt8}{m:Nat}{cm:CmS}{win:List Int}{tb:TbS}{id pk:Int}{al:AlS}{cp:CpS}{q:QS}{M:List (Int×Int)}
theorem TnW.hw(h:TnW w o t u z b a c y B m cm win tb id pk al cp q M):HpW w o (t++[0]) u z y.bh a c y.x B m cm win tb al:=⟨h.tn.hp,h.cma,h.ar⟩
theorem TnW.still(h:TnW w o t u z b a c y B m cm win tb id pk al cp q M)(f:Fr (fun _=>False) w o w' o'):TnW w' o' t u z b a c y B m cm win tb id pk al cp q M:=⟨h.tn.fr f off_no,h.is_,h.cma.fr f off_no,h.ar.fr f off_no⟩
theorem TnW.inHp(h:TnW w o t u z b a c y B m cm win tb id pk al cp q M)(ap:Ap3 t u z)(f:Fr (S3 (t++[0]) u z) w o w' o'){x':HpX}{B':List UInt8}{m':Nat}{cm':CmS}{win':List Int}{tb':TbS}{al':AlS}(g:HpW w' o' (t++[0]) u z y.bh a c x' B' m' cm' win' tb' al')(gi:x'.is tb' al') :
  TnW w' o' t u z b a c ⟨x',y.bh,y.bc,y.bq,y.go⟩ B' m' cm' win' tb' id pk al' cp q M :=
 ⟨h.tn.inHp ap.tu.t9 f (s3_self ap 0) (off_s3_one ap (by decide)) (off_s3_one ap (by decide)) (off_s3_one ap (by decide)) g.hp,gi,g.cma,g.ar⟩
theorem TnW.inCp(h:TnW w o t u z b a c y B m cm win tb id pk al cp q M)(ap:Ap3 t u z)(f:Fr (Und (t++[1])) w o w' o'){cp':CpS}(g:CpAt w' o' (t++[1]) y.bc cp'):TnW w' o' t u z b a c y B m cm win tb id pk al cp' q M :=
 ⟨h.tn.inCp ap.tu.t9 f g,h.is_,h.cma.fr f (ap.tu.sub [1]).off,h.ar.fr f (ap.tz.sub [1]).off⟩
theorem TnW.inQ(h:TnW w o t u z b a c y B m cm win tb id pk al cp q M)(ap:Ap3 t u z)(f:Only (· = y.bq) w w'){q':QS}(g:Qat w' y.bq q'):TnW w' o t u z b a c y B m cm win tb id pk al cp q' M∧Fr (S3 t u z) w o w' o :=
 ⟨⟨h.tn.inQ ap.tu.t9 f g,h.is_,h.cma.fr (h.tn.frQ f) (ap.tu.sub [2]).off,h.ar.fr (h.tn.frQ f) (ap.tz.sub [2]).off⟩,(h.tn.frQ f).mono fun v q=>.inl q.up⟩
theorem TnW.inOb(h:TnW w o t u z b a c y B m cm win tb id pk al cp q M)(ap:Ap3 t u z){M':List (Int×Int)}(g:MpPost w w' o (t++[3]) y.go .i64 eI M'):TnW w' o t u z b a c y B m cm win tb id pk al cp q M'∧Fr (S3 t u z) w o w' o:=by
 have f:Fr (Und (t++[3])) w o w' o:=g.2.1.mono fun v e=>by rw [e];exact Und.self _
 exact⟨⟨h.tn.inOb ap.tu.t9 g,h.is_,h.cma.fr f (ap.tu.sub [3]).off,h.ar.fr f (ap.tz.sub [3]).off⟩,f.mono fun v q=>.inl q.up⟩
theorem TnW.mono(h:TnW w o t u z b a c y B m cm win tb id pk al cp q M){m':Nat}(hm:m≤m'):TnW w o t u z b a c y B m' cm win tb id pk al cp q M:=⟨h.tn,h.is_,h.cma,h.ar.mono hm⟩
theorem fr_cp(f:Fr (Und (t++[1])) w o w' o'):Fr (S3 t u z) w o w' o':=f.mono fun v q=>.inl q.up
theorem fr_hp(f:Fr (S3 (t++[0]) u z) w o w' o'):Fr (S3 t u z) w o w' o':=f.mono fun v q=>s3_sub q
end
structure GetPre(B:List UInt8)(cm:CmS)(win:List Int)(tb:TbS)(al:AlS)(cp cp':CpS)(q:QS)(k:Nat)(hn:Nat):Prop where
 mal:MalPre B cm win tb al k
 wf:q.wf
 r0:q.rB=0∧q.rP=0
 pages:q.cP=tb.pg.length
 fit:q.cB+unitT k≤q.lB
 room:(∃B' cm' tb',MalRes B cm win tb al k B' cm' tb' (al.mal k).2 (al.mal k).1)→(pgsum (al.mal k).2.sl:Int)≤q.lP
 next:cp.next<17592186044416
 cpo:CpOk cp
 grant:(∃B' cm' tb',MalRes B cm win tb al k B' cm' tb' (al.mal k).2 (al.mal k).1)→cp.grantF (al.mal k).1=(.tuple #[.int .u64 hn,.int .i64 0],cp')
def GetPost(w:World)(o:Nat→Tag)(t u z:Tag)(b a c:Nat)(B:List UInt8)(m:Nat)(cm:CmS)(win:List Int)(tb:TbS)(id pk:Int)(al:AlS)(cp':CpS)(q:QS)(M:List (Int×Int))(k:Nat)(n:Int)(w':World):Prop :=
 ∃y' o' B' cm' tb',TnW w' o' t u z b a c y' B' m cm' win tb' id pk (al.mal k).2 cp' {q with cB:=q.cB+unitT k,cP:=tb'.pg.length} (mIns (al.mal k).1 n M)∧MalRes B cm win tb al k B' cm' tb' (al.mal k).2 (al.mal k).1∧Fr (S3 t u z) w o w' o'
end
section
open Go.RowKit Flt
theorem qs_res{lB lP cB cP rB rP b p:Int}(h1:cB+rB+b≤lB)(h2:cP+rP+p≤lP):QS.resE ⟨lB,lP,cB,cP,rB,rP⟩ b p=0∧QS.res ⟨lB,lP,cB,cP,rB,rP⟩ b p=⟨lB,lP,cB,cP,rB+b,rP+p⟩:=by
 unfold QS.resE QS.res;rw [if_pos ⟨h1,h2⟩,if_pos ⟨h1,h2⟩];exact⟨rfl,rfl⟩
theorem qs_com{lB lP cB cP b p:Int}:QS.canE ⟨lB,lP,cB,cP,b,p⟩ b p=0∧QS.com ⟨lB,lP,cB,cP,b,p⟩ b p=⟨lB,lP,cB+b,cP+p,0,0⟩:=by
 unfold QS.canE QS.com;rw [if_pos ⟨Int.le_refl _,Int.le_refl _⟩,if_pos ⟨Int.le_refl _,Int.le_refl _⟩];simp
section
variable{w:World}{o:Nat→Tag}{t u z:Tag}{b a c:Nat}{y:TnX}{B:List UInt8}{m:Nat}{cm:CmS}{win:List Int}{tb:TbS}{id pk:Int}{al:AlS}{cp cp':CpS}{q:QS}{M:List (Int×Int)}
set_option maxHeartbeats 1000000 in
theorem tnGet(k:Nat)(n:Int)(hn:Nat)(h:TnW w o t u z b a c y B m cm win tb id pk al cp q M)(ap:Ap3 t u z)(hm:m≤900000)(hk:kindT n=k)(hM:M.length<100000)(hp:GetPre B cm win tb al cp cp' q k hn) :
  Calls Tryz.prog 98 #[eP b,.int .i64 n] w fun e w'=>e=.returned (.tuple #[.int .u64 hn,.int .i64 (al.mal k).1,.int .i64 0])∧GetPost w o t u z b a c B (m+2) cm win tb id pk al cp' q M k n w':=by
 obtain⟨hmal,hwf,⟨hr0,hr1⟩,hpg,hfit,hroom,hnext,hcpo,hgr⟩:=hp;obtain⟨lB,lP,cB,cP,rB,rP⟩:=q;simp only at hr0 hr1 hpg hfit hroom;subst hr0;subst hr1;have hb:=hwf;unfold QS.wf at hb;simp only at hb;have hu:=kind_facts (c:=(k:Int)) (by omega) (by have:=hmal.k24;omega);have hch:chargeT n=unitT k:=by unfold chargeT;rw [hk]
 have hpgm:=mal_pg hmal;have hpgm2:=mal_pg2 hmal;have hcnt:=hmal.hp.cnt;have hu1:16≤unitT (k:Int)∧unitT (k:Int)≤8192:=by omega
 obtain⟨ad,al',hmp⟩:∃ad al',al.mal k=(ad,al'):=⟨_,_,rfl⟩
 rw [hmp] at hpgm hpgm2 hroom hgr;simp only at hpgm hpgm2 hroom hgr;have hall:=HD (show Calls Tryz.prog 104 #[.int .i64 n] w (fun e w'=>e=.returned (.int .i64 (unitT k))∧w'=w)∧w.cell? ⟨b,2,none⟩=some (eP y.bh) ∧
   Calls Tryz.prog 142 #[eP y.bh] w (fun e w'=>e=.returned (.int .i64 tb.pg.length)∧w'=w)∧w.cell? ⟨b,4,none⟩=some (eP y.bq) ∧
   Calls Tryz.prog 143 #[eP y.bq,.complex .f64 (F (unitT k)) (F 0)] w (fun e w1=>e=.returned (.int .i64 0)∧w1.cell? ⟨b,3,none⟩=some (eP y.bc)∧w1.cell? ⟨b,2,none⟩=some (eP y.bh) ∧
    Calls Tryz.prog 94 #[eP y.bc] w1 (fun e w'=>e=.returned (.int .i64 cp.next)∧w'=w1) ∧
    Calls Tryz.prog 145 #[eP y.bh,.int .i64 n] w1 (fun e w2=>e=.returned (.tuple #[.int .i64 ad,.int .i64 0])∧w2.cell? ⟨b,2,none⟩=some (eP y.bh)∧w2.cell? ⟨b,3,none⟩=some (eP y.bc) ∧
     Calls Tryz.prog 142 #[eP y.bh] w2 (fun e w'=>e=.returned (.int .i64 (pgsum al'.sl))∧w'=w2) ∧
     Calls Tryz.prog 146 #[eP y.bc,.int .i64 ad] w2 (fun e w3=>e=.returned (.tuple #[.int .u64 hn,.int .i64 0])∧w3.cell? ⟨b,4,none⟩=some (eP y.bq) ∧
      Calls Tryz.prog 143 #[eP y.bq,.complex .f64 (F 0) (F (pgsum al'.sl-tb.pg.length))] w3 (fun e w4=>e=.returned (.int .i64 0)∧w4.cell? ⟨b,4,none⟩=some (eP y.bq) ∧
       Calls Tryz.prog 149 #[eP y.bq,.complex .f64 (F (unitT k+0)) (F (0+(pgsum al'.sl-tb.pg.length)))] w4 (fun e w5=>e=.returned (.int .i64 0)∧w5.cell? ⟨b,7,none⟩=some (.map (some y.go)) ∧
        ∃w6,(Instr.mapUpdate 131 (.map (some y.go)) (.int .i64 ad) (.int .i64 n)).run Tryz.prog w5=.ok () w6∧GetPost w o t u z b a c B (m+2) cm win tb id pk al cp' ⟨lB,lP,cB,cP,0,0⟩ M k n w6))))) from by
  refine⟨by have:=tnCost n w;rwa [hch] at this,h.tn.c2,hpPages y.bh a c w h.tn.hp,h.tn.c4,?_⟩;have s1:=reserve_yes y.bq _ (unitT k) 0 w hwf (okS_iff.2 (by omega)) h.tn.qa;rw [(qs_res (by omega) (by omega)).1,(qs_res (by omega) (by omega)).2,Int.zero_add,Int.add_zero] at s1;refine s1.mono ?_;rintro e w1 ⟨rfl,q1,f1⟩;obtain⟨h1,fr1⟩:=h.inQ ap f1 q1;refine⟨rfl,h1.tn.c3,h1.tn.c2,cpSerial y.bc w1 h1.tn.cp,?_⟩;refine(hpMalloc y.bh a c k n w1 h1.hw h1.is_ (ap.sub [0]) hm hmal hk).mono ?_;rintro e w2 ⟨ad2,rfl,x2,o2,B2,cm2,tb2,al2,g2,gi2,R2,e2,fr2⟩;rw [hmp] at e2;obtain⟨e3,e4⟩:=Prod.mk.inj e2;subst e3;subst e4;have h2:=h1.inHp ap fr2 g2 gi2;have hn2:=R2.hp.cnt;replace hgr:=hgr ⟨B2,cm2,tb2,R2⟩;replace hroom:=hroom ⟨B2,cm2,tb2,R2⟩;refine⟨rfl,h2.tn.c2,h2.tn.c3,by have:=hpPages y.bh a c w2 h2.tn.hp;rwa [hn2] at this,?_⟩;have s3:=cpGrant y.bc ad w2 h2.tn.cp hcpo (ap.tu.sub [1]).t9;rw [hgr] at s3;refine s3.mono ?_;rintro e w3 ⟨rfl,o3,g3,fr3⟩;have h3:=h2.inCp ap fr3 g3;refine⟨rfl,h3.tn.c4,?_⟩;have hwf3:QS.wf ⟨lB,lP,cB,cP,unitT k,0⟩:=by unfold QS.wf;simp only;omega
  have s4:=reserve_yes y.bq _ 0 (pgsum al'.sl-tb.pg.length) w3 hwf3 (okS_iff.2 (by omega)) h3.tn.qa;rw [(qs_res (by omega) (by omega)).1,(qs_res (by omega) (by omega)).2] at s4;refine s4.mono ?_;rintro e w4 ⟨rfl,q4,f4⟩;obtain⟨h4,fr4⟩:=h3.inQ ap f4 q4;refine⟨rfl,h4.tn.c4,?_⟩;have hwf4:QS.wf ⟨lB,lP,cB,cP,unitT k+0,0+(pgsum al'.sl-tb.pg.length)⟩:=by unfold QS.wf;simp only;omega
  have s5:=commit_yes y.bq _ (unitT k+0) (0+(pgsum al'.sl-tb.pg.length)) w4 hwf4 (okS_iff.2 (by omega)) h4.tn.qa;rw [qs_com.1,qs_com.2] at s5;refine s5.mono ?_;rintro e w5 ⟨rfl,q5,f5⟩;obtain⟨h5,fr5⟩:=h4.inQ ap f5 q5;obtain⟨w6,g6,p6⟩:=mp_store h5.tn.ob (P:=Tryz.prog) Tryz.underlying131 Tryz.underlying3 ad n (by omega);obtain⟨h6,fr6⟩:=h5.inOb ap p6;refine⟨rfl,h5.tn.c7,w6,g6,⟨x2,y.bh,y.bc,y.bq,y.go⟩,o3,B2,cm2,tb2,?_,?_,?_⟩
  ·rw [hmp]
   have e:(⟨lB,lP,cB+(unitT k+0),cP+(0+(pgsum al'.sl-tb.pg.length)),0,0⟩:QS)=⟨lB,lP,cB+unitT k,tb2.pg.length,0,0⟩:=by
    rw [hn2,hpg,Int.add_zero,Int.zero_add]
    congr 1
    omega
   rw [e] at h6;exact h6
  ·rw [hmp];exact R2
  ·exact((fr1.trans (fr_hp fr2)).trans (fr_cp fr3)).trans ((fr4.trans fr5).trans fr6))
 have hl1:=HD (fun w=>tnLimit (unitT k) 0 w);have hl2:=HD (fun w=>tnLimit 0 ((pgsum al'.sl:Int)-tb.pg.length) w);have hadd:=fun w t=>complex_add (a:=unitT k) (b:=0) (c:=0) (d:=pgsum al'.sl-tb.pg.length) (by omega) (by omega) (by omega) (by omega) (by omega) (by omega) w t
 have hs1:((unitT (k:Int))==0)=false:=by simp;omega
 have hs2:decide (17592186044416≤cp.next)=false:=decide_eq_false (by omega);have hs3:=IntWalk.i64_in ((pgsum al'.sl:Int)-tb.pg.length) (by omega);rw [hmp];simp only;obtain⟨e1,hall⟩:=hall.out;replace e1:=HD e1;obtain⟨c2,hpa,c4,hre⟩:=hall;replace hpa:=HD hpa;replace hre:=HD hre;clear h hmp hmal hgr hcnt hu hch hb hwf hk;generalize pgsum al'.sl=np at *;generalize unitT (k:Int)=cost at *;generalize F (cost+0)=fd at *;generalize F (0+((np:Int)-tb.pg.length))=fe at *;generalize F ((np:Int)-tb.pg.length)=fc at *;generalize F cost=fa at *;generalize F 0=fb at *;go_enter Tryz.func98,Tryz.ntmps98
 go_wp2_with fail;refine SM e1.out ?_;go_wp2_with fail;refine SM hpa.out ?_;go_wp2_with fail;refine SM (hl1.out _) ?_;go_wp2_with fail;refine hre.out.mono ?_;rintro e w1 ⟨rfl,c3,c2,hse,hall⟩;replace hse:=HD hse;replace hall:=HD hall;clear hre hpa e1 c4;go_wp2_with fail;refine SM hse.out ?_;go_wp2_with fail;refine hall.out.mono ?_;rintro e w2 ⟨rfl,c2,c3,hpa,hall⟩;replace hpa:=HD hpa;replace hall:=HD hall;clear hse;go_wp2_with fail;refine SM hpa.out ?_;go_wp2_with fail;refine SM (hl2.out _) ?_;go_wp2_with fail;refine hall.out.mono ?_;rintro e w3 ⟨rfl,c4,hall⟩;replace hall:=HD hall;clear hpa c2 c3;go_wp2_with fail;refine hall.out.mono ?_;rintro e w4 ⟨rfl,c4,hall⟩;replace hall:=HD hall;go_wp2_with fail;refine hall.out.mono ?_;rintro e w5 ⟨rfl,c7,w6,hmu,hall⟩;replace hall:=HD hall;clear c4;go_wp2_with fail;go_ret3
 exact⟨rfl,hall.out⟩
end
end
section
open Go.RowKit Flt
section
variable{w:World}{o:Nat→Tag}{t u z:Tag}{b a c:Nat}{y:TnX}{B:List UInt8}{m:Nat}{cm:CmS}{win:List Int}{tb:TbS}{id pk:Int}{al:AlS}{cp cp':CpS}{q:QS}{M:List (Int×Int)}
theorem tnGet_size(n:Int)(h:TnW w o t u z b a c y B m cm win tb id pk al cp q M)(hk:chargeT n=0) :
  Calls Tryz.prog 98 #[eP b,.int .i64 n] w fun e w'=>e=.returned (.tuple #[.int .u64 0,.int .i64 0,.int .i64 2])∧w'=w:=by
 have e1:=HD (tnCost n w);rw [hk] at e1;have c2:=h.tn.c2;have hpa:=HD (hpPages y.bh a c w h.tn.hp);have hl1:=HD (fun w=>tnLimit 0 0 w);generalize F 0=fb at *;clear h hk;go_enter Tryz.func98,Tryz.ntmps98
 go_wp2_with fail;refine SM e1.out ?_;go_wp2_with fail;refine SM hpa.out ?_;go_wp2_with fail;refine SM (hl1.out _) ?_;go_wp2_with fail;go_ret3
 exact⟨rfl,rfl⟩
theorem tnGet_quota(k:Nat)(n:Int)(h:TnW w o t u z b a c y B m cm win tb id pk al cp q M)(ap:Ap3 t u z)(hwf:q.wf)(hr:q.rB=0∧q.rP=0)(hk:kindT n=k)(hk2:k<24)(hq:q.lB<q.cB+unitT k) :
  Calls Tryz.prog 98 #[eP b,.int .i64 n] w fun e w'=>e=.returned (.tuple #[.int .u64 0,.int .i64 0,.int .i64 3])∧TnW w' o t u z b a c y B m cm win tb id pk al cp q M∧Fr (S3 t u z) w o w' o:=by
 have hu:=kind_facts (c:=(k:Int)) (by omega) (by omega);have hch:chargeT n=unitT k:=by unfold chargeT;rw [hk]
 have e1:=HD (tnCost n w);rw [hch] at e1;have c2:=h.tn.c2;have c4:=h.tn.c4;have hpa:=HD (hpPages y.bh a c w h.tn.hp);have hl1:=HD (fun w=>tnLimit (unitT k) 0 w);have hre:=HD (show Calls Tryz.prog 143 #[eP y.bq,.complex .f64 (F (unitT k)) (F 0)] w (fun e w1=>e=.returned (.int .i64 3)∧TnW w1 o t u z b a c y B m cm win tb id pk al cp q M∧Fr (S3 t u z) w o w1 o) from by
  have s1:=reserve_yes y.bq q (unitT k) 0 w hwf (okS_iff.2 (by omega)) h.tn.qa;rw [show q.resE (unitT k) 0=3 from if_neg (by omega),show q.res (unitT k) 0=q from if_neg (by omega)] at s1;refine s1.mono ?_;rintro e w1 ⟨rfl,q1,f1⟩;exact⟨rfl,h.inQ ap f1 q1⟩)
 have hs1:((unitT (k:Int))==0)=false:=by simp;omega
 generalize F 0=fb at *;generalize F (unitT (k:Int))=fa at *;generalize unitT (k:Int)=cost at *;clear h hk hu hch hwf hr hq;go_enter Tryz.func98,Tryz.ntmps98
 go_wp2_with fail;refine SM e1.out ?_;go_wp2_with fail;refine SM hpa.out ?_;go_wp2_with fail;refine SM (hl1.out _) ?_;go_wp2_with fail;refine hre.out.mono ?_;rintro e w1 ⟨rfl,hall⟩;replace hall:=HD hall;clear hre hpa e1 c4 c2;go_wp2_with fail;go_ret3
 exact⟨rfl,hall.out⟩
def PutPost(w:World)(o:Nat→Tag)(t u z:Tag)(b a c:Nat)(B:List UInt8)(m:Nat)(cm:CmS)(win:List Int)(tb:TbS)(id pk:Int)(al:AlS)(cp:CpS)(q:QS)(M:List (Int×Int))(k s j:Nat)(w':World):Prop :=
 ∃y' o' B' cm' tb',TnW w' o' t u z b a c y' B' m cm' win tb' id pk (al.fre k s j) (cp.rv (posT k s j) 4160).1 {q with cB:=q.cB-unitT k,cP:=tb'.pg.length} (mDel (posT k s j) M)∧FreRes B cm win tb al k s j B' cm' tb' (al.fre k s j)∧Fr (S3 t u z) w o w' o'
set_option maxHeartbeats 1000000 in
theorem tnPut(k s j:Nat)(h:TnW w o t u z b a c y B m cm win tb id pk al cp q M)(ap:Ap3 t u z)(hm:m≤800000)(hp:HpOk B cm win tb al)(hh:Had al k s j)(hwf:q.wf)(hr:q.rB=0∧q.rP=0)(hpg:q.cP=tb.pg.length)(hq:unitT k≤q.cB) :
  Calls Tryz.prog 101 #[eP b,.int .i64 (posT k s j)] w fun e w'=>e=.returned (.tuple #[])∧PutPost w o t u z b a c B (m+20) cm win tb id pk al cp q M k s j w':=by
 have hu:=kind_facts (c:=(k:Int)) (by omega) (by have:=hh.there.1;omega);have hpgm:=fre_pg hp.al hh;have hcnt:=hp.cnt;have hb:=hwf;unfold QS.wf at hb;obtain⟨lB,lP,cB,cP,rB,rP⟩:=q;simp only at hb hr hpg hq;obtain⟨hr0,hr1⟩:=hr;subst hr0;subst hr1;have hall:=HD (show w.cell? ⟨b,2,none⟩=some (eP y.bh)∧Calls Tryz.prog 103 #[eP y.bh,.int .i64 (posT k s j)] w (fun e w1=>e=.returned (.tuple #[.int .i64 (unitT k),.int .i64 0])∧w1.cell? ⟨b,2,none⟩=some (eP y.bh) ∧
   Calls Tryz.prog 142 #[eP y.bh] w1 (fun e w'=>e=.returned (.int .i64 tb.pg.length)∧w'=w1) ∧
   Calls Tryz.prog 148 #[eP y.bh,.int .i64 (posT k s j)] w1 (fun e w2=>e=.returned (.int .i64 0)∧w2.cell? ⟨b,3,none⟩=some (eP y.bc) ∧
    ∃r:Int,Calls Tryz.prog 147 #[eP y.bc,.int .i64 (posT k s j)] w2 (fun e w3=>e=.returned (.int .i64 r)∧w3.cell? ⟨b,7,none⟩=some (.map (some y.go)) ∧
     ∃w4,(Builtin.delete_ #[131,3] 0 #[.map (some y.go),.int .i64 (posT k s j)]).run Tryz.prog w3=.ok (.tuple #[]) w4∧(w4.drew.cell? ⟨b,4,none⟩=some (eP y.bq)∧w4.drew.cell? ⟨b,2,none⟩=some (eP y.bh)) ∧
      Calls Tryz.prog 142 #[eP y.bh] w4.drew (fun e w'=>e=.returned (.int .i64 (pgsum (al.fre k s j).sl))∧w'=w4.drew) ∧
      Calls Tryz.prog 96 #[eP y.bq,.complex .f64 (F (unitT k)) (F (tb.pg.length-pgsum (al.fre k s j).sl))] w4.drew (fun e w5=>e=.returned (.int .i64 0)∧(w5.cell? ⟨b,4,none⟩=some (eP y.bq)∧w5.cell? ⟨b,2,none⟩=some (eP y.bh))∧PutPost w o t u z b a c B (m+20) cm win tb id pk al cp ⟨lB,lP,cB,cP,0,0⟩ M k s j w5)))) from by
  refine⟨h.tn.c2,(hpUsable y.bh a c k s j w h.tn.hp hh (hp.al.n k hh.there.1)).mono ?_⟩;rintro e w1 ⟨rfl,nn,rfl⟩;have f1:Fr (fun _=>False) w o (w.drewN nn) o:=fr_drewN nn;have h1:=h.still f1;refine⟨rfl,h1.tn.c2,hpPages y.bh a c _ h1.tn.hp,(hpFree y.bh a c k s j _ h1.hw hp h1.is_ (ap.sub [0]) hm hh).mono ?_⟩;rintro e w2 ⟨rfl,o2,B2,cm2,tb2,g2,gi2,R2,fr2⟩;have h2:=h1.inHp ap fr2 g2 gi2;have hn2:=R2.hp.cnt;refine⟨rfl,h2.tn.c3,((cp.rv (posT k s j) 4160).2:Nat),(cpRevoke y.bc (posT k s j) w2 h2.tn.cp (ap.tu.sub [1]).t9).mono ?_⟩;rintro e w3 ⟨rfl,o3,g3,fr3⟩;have h3:=h2.inCp ap fr3 g3;obtain⟨w4,g4,p4⟩:=mp_delete h3.tn.ob (P:=Tryz.prog) (ty:=0) Tryz.underlying131 Tryz.underlying3 (posT k s j);obtain⟨h4,fr4⟩:=h3.inOb ap p4;replace h4:=h4.still (w':=w4.drew) (o':=o3) Fr.drew;have fd:Fr (S3 t u z) w4 o3 w4.drew o3:=Fr.drew;refine⟨rfl,h3.tn.c7,w4,g4,⟨h4.tn.c4,h4.tn.c2⟩,by have:=hpPages y.bh a c w4.drew h4.tn.hp;rwa [hn2] at this,?_⟩;have s5:=refund_yes y.bq _ (unitT k) (tb.pg.length-pgsum (al.fre k s j).sl) w4.drew hwf (okS_iff.2 (by omega)) h4.tn.qa;rw [show QS.refE ⟨lB,lP,cB,cP,0,0⟩ (unitT k) (tb.pg.length-pgsum (al.fre k s j).sl)=0 from if_pos ⟨hq,by simp only;omega⟩,show QS.ref ⟨lB,lP,cB,cP,0,0⟩ (unitT k) (tb.pg.length-pgsum (al.fre k s j).sl)=⟨lB,lP,cB-unitT k,cP-(tb.pg.length-pgsum (al.fre k s j).sl),0,0⟩ from if_pos ⟨hq,by simp only;omega⟩] at s5;refine s5.mono ?_;rintro e w5 ⟨rfl,q5,f5⟩;obtain⟨h5,fr5⟩:=h4.inQ ap f5 q5;refine⟨rfl,⟨h5.tn.c4,h5.tn.c2⟩,⟨y.x,y.bh,y.bc,y.bq,y.go⟩,o3,B2,cm2,tb2,?_,R2,?_⟩
  ·have e:cP-((tb.pg.length:Int)-(pgsum (al.fre k s j).sl:Int))=(tb2.pg.length:Int):=by omega
   rw [e] at h5;exact h5
  ·exact(((f1.mono fun v q=>q.elim).trans (fr_hp fr2)).trans (fr_cp fr3)).trans ((fr4.trans fd).trans fr5))
 have hl2:=HD (fun w=>tnLimit (unitT k) ((tb.pg.length:Int)-pgsum (al.fre k s j).sl) w);have hs3:=IntWalk.i64_in ((tb.pg.length:Int)-pgsum (al.fre k s j).sl) (by omega);generalize pgsum (al.fre k s j).sl=np at *;generalize posT k s j=ad at *;generalize unitT (k:Int)=cost at *;generalize F ((tb.pg.length:Int)-np)=fc at *;generalize F cost=fa at *;obtain⟨c2,hall⟩:=hall.out;replace hall:=HD hall;clear h hp hh hu hpgm hcnt hb hwf;go_enter Tryz.func101,Tryz.ntmps101
 go_wp2_with fail;refine hall.out.mono ?_;rintro e w1 ⟨rfl,c2,hpa,hall⟩;replace hpa:=HD hpa;replace hall:=HD hall;go_wp2_with fail;refine SM hpa.out ?_;go_wp2_with fail;refine hall.out.mono ?_;rintro e w2 ⟨rfl,c3,r,hall⟩;replace hall:=HD hall;clear hpa c2;go_wp2_with fail;refine hall.out.mono ?_;rintro e w3 ⟨rfl,c7,w4,hdl,hcc,hpa,hall⟩;replace hpa:=HD hpa;replace hall:=HD hall;clear c3;go_wp2_with fail;refine wp_region_noPanic ?_;refine wp_region_held_drew (S:=(fun W'=>W'.cell? ⟨b,4,none⟩=some (eP y.bq)∧W'.cell? ⟨b,2,none⟩=some (eP y.bh))) (by kernel_rfl) ?_ (fun hHeld=>?_)
 ·(first|exact hcc|exact hcs)
 refine tkH 0 (h:=?_);refine tkH 1 (h:=?_);refine tkH 2 (h:=?_);refine tkH 3 (h:=?_);refine tkH 4 (h:=?_);refine tkH 5 (h:=?_);refine tkH 6 (h:=?_);refine tkH 7 (h:=?_);refine tkH 8 (h:=?_);refine tkH 9 (h:=?_);refine onH 10 (h:=fun K hK=>?_);go_simp;refine SM hpa.out ?_;go_wp2_with fail;refine hK.out _ _ ?_ (fun hHeld=>?_)
 ·(first|exact hcc|exact hcs)
 clear hK;refine nmH (h:=?_);refine tkH 11 (h:=?_);refine onH 12 (h:=fun K hK=>?_);go_simp;refine SM (hl2.out _) ?_;go_wp2_with fail;refine hK.out _ _ ?_ (fun hHeld=>?_)
 ·(first|exact hcc|exact hcs)
 clear hK;refine nmH (h:=?_);refine onH 13 (h:=fun K hK=>?_);go_simp;refine hall.out.mono ?_;rintro e w5 ⟨rfl,hcs,hall⟩;replace hall:=HD hall;go_wp2_with fail;refine hK.out _ _ ?_ (fun hHeld=>?_)
 ·(first|exact hcc|exact hcs)
 clear hK;refine nmH (h:=?_);refine wpAnyH_done (by kernel_rfl) ?_ _;refine NoPanic.normal ?_;go_wp2_with fail;exact bodyPost_end (results_none (by kernel_rfl) _ _ _) rfl ⟨rfl,hall.out⟩
end
end
end Go.Proofs.YtfliaggjkianpaaGreatDoor
