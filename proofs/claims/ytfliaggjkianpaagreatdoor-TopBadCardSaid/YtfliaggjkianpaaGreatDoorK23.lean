import Derived.Test.YtfliaggjkianpaaGreatDoorK00
import Derived.Test.YtfliaggjkianpaaGreatDoorK22
import Derived.Shelf.Strings.BuilderK
import Derived.Lib.OthersKept
import Derived.Test.YtfliaggjkianpaaGreatDoorK21
set_option linter.unusedVariables false
set_option linter.unusedSimpArgs false
set_option maxRecDepth 100000
namespace Go.Proofs.YtfliaggjkianpaaGreatDoor
section
open Go.RowKit
theorem toNat_ext(s:ByteArray)(d x:Nat)(k:Nat)(h:k<x)(hd:d+x≤s.size):(s.extract d (d+x)).data.toList.getD k 0=s.data.toList.getD (d+k) 0:=by
 have e:(s.extract d (d+x)).data=s.data.extract d (d+x):=ByteArray.data_extract;rw [e];have hs:s.data.size=s.size:=rfl;simp only [List.getD_eq_getElem?_getD]
 congr 1
 simp only [Array.getElem?_toList];rw [Array.getElem?_extract];rw [if_pos (by omega)]
theorem vwWrite(a bt:Nat)(ad:Int)(s:ByteArray)(w:World){o:Nat→Tag}{z tt:Tag}{B:List UInt8}{m:Nat}{tb:TbS}{T:List (Int×Int)}(ha:ArAt w o z a B m)(hm:m≤900000)(ht:TbAt w o tt bt tb)(hp:VwPre tb B ad s.size T)(hnd:(locs T).Nodup)(h9:¬z <+: [9]) :
  Calls Tryz.prog 110 #[.pointer (some ⟨a,0,none⟩),.pointer (some ⟨bt,0,none⟩),.int .i64 ad,.string s] w fun e w'=>e=.returned (.int .i64 0)∧∃o' B',ArAt w' o' z a B' (m+8192)∧WrI B T (fun k=>s.data.toList.getD k 0) T.length B'∧Fr (Und z) w o w' o':=by
 have hTl:T.length≤8192:=by have:=hp.pt.len;have:=hp.n8;omega
 have hdb:=dones_bound (T:=T) (fun x hx=>by have:=hp.pt.sp x hx;omega) hp.pt.sum;have hn8:=hp.n8;generalize hW2:(w.alloc (.cells #[.pointer (some ⟨a,0,none⟩)] 80)).alloc (.cells #[.string s] 9)=W2 at *;have fa:Fr (fun _=>False) w o W2 o:=by rw [←hW2];exact(Fr.alloc' _).trans (Fr.alloc' _)
 have hpc:=HD (vwPieces a bt ad s.size W2 (ha.fr fa off_no) (ht.fr fa off_no) hp);have hka:W2.heap[w.heap.size]? = some (.cells #[.pointer (some ⟨a,0,none⟩)] 80 (0,0)):=by
  rw [←hW2,heap_alloc_old _ _ (by simp)];exact heap_alloc_new w _
 have hkb:W2.heap[w.heap.size+1]? = some (.cells #[.string s] 9 (0,0)):=by
  rw [←hW2];have:=heap_alloc_new (w.alloc (.cells #[.pointer (some ⟨a,0,none⟩)] 80)) (.cells #[.string s] 9)
  rwa [World.size_alloc] at this
 have hsz2:W2.heap.size=w.heap.size+2:=by rw [←hW2];simp
 have hbel:Below w.heap.size w W2:=by rw [←hW2];exact((Below.refl _ _).alloc (Nat.le_refl _) _).alloc (by simp) _
 have hk0:W2.cell? ⟨w.heap.size,0,none⟩=some (.pointer (some ⟨a,0,none⟩)):=cell_of_row _ w.heap.size 0 _ _ _ hka;have hk1:W2.cell? ⟨w.heap.size+1,0,none⟩=some (.string s):=cell_of_row _ (w.heap.size+1) 0 _ _ _ hkb;have hea:=HD (show ∀v w0,Spn w0 W2.heap.size v T→Below W2.heap.size W2 w0 →
   Calls Tryz.prog 155 #[v,.func (.func 160) #[] #[.pointer (some ⟨w.heap.size,0,none⟩),.pointer (some ⟨w.heap.size+1,0,none⟩)]] w0 (fun e w'=>e=.returned (.tuple #[])∧∃o' B',ArAt w' o' z a B' (m+8192)∧WrI B T (fun k=>s.data.toList.getD k 0) T.length B'∧Fr (Und z) w o w' o') from fun v w0 hs hb=>by
  obtain⟨p,c,rfl,_⟩:=spn_cell hs;have hbw:Below w.heap.size w w0:=hbel.trans (hb.mono (by omega));have ff:Fr (fun _=>False) w o w0 (newO o w [9]):=Fr.below' hbw [9];obtain⟨g,hg1,hg2⟩:=vw_each (o:=o) (z:=z) h9 hbw hs (by omega);have hkw:∀wx o1,Fr (Und z) w0 (newO o w [9]) wx o1→(wx.cell? ⟨w.heap.size,0,none⟩=some (.pointer (some ⟨a,0,none⟩))∧wx.cell? ⟨w.heap.size+1,0,none⟩=some (.string s))∧¬Und z (o1 w.heap.size)∧¬Und z (o1 (w.heap.size+1)):=fun wx o1 f=>by
   have h1:w0.heap[w.heap.size]? = some (.cells #[.pointer (some ⟨a,0,none⟩)] 80 (0,0)):=(hb.block _ (by omega)).trans hka;have h2:=f.only.block w.heap.size (Array.getElem?_eq_some_iff.1 h1).1 (show ¬Und z (newO o w [9] w.heap.size) by rw [newO_new (Nat.le_refl _)];exact h9);have h3:w0.heap[w.heap.size+1]? = some (.cells #[.string s] 9 (0,0)):=(hb.block _ (by omega)).trans hkb;have h4:=f.only.block (w.heap.size+1) (Array.getElem?_eq_some_iff.1 h3).1 (show ¬Und z (newO o w [9] (w.heap.size+1)) by rw [newO_new (by omega)];exact h9);refine⟨⟨cell_of_row _ w.heap.size 0 _ _ _ (h2.trans h1),cell_of_row _ (w.heap.size+1) 0 _ _ _ (h4.trans h3)⟩,?_,?_⟩
   ·rw [f.ext _ (Array.getElem?_eq_some_iff.1 h1).1,newO_new (Nat.le_refl _)];exact h9
   ·rw [f.ext _ (Array.getElem?_eq_some_iff.1 h3).1,newO_new (by omega)];exact h9
  refine(each_any 160 (enters_of Tryz.func160 (by kernel_rfl) rfl) #[.pointer (some ⟨w.heap.size,0,none⟩),.pointer (some ⟨w.heap.size+1,0,none⟩)] g c p T (fun i wx=>∃o1 B1,ArAt wx o1 z a B1 (m+i)∧WrI B T (fun k=>s.data.toList.getD k 0) i B1∧Fr (Und z) w0 (newO o w [9]) wx o1) w0 hg1 (by omega) (fun i _=>by have:=hdb i;omega) (fun i w1 ⟨o1,B1,_,_,f⟩=>hg2 w1 o1 f) (fun i w1 x hx ⟨o1,B1,q1,q2,f⟩=>?_) ⟨newO o w [9],B,ha.fr ff off_no,WrI.zero _ _ _,Fr.refl _ _ _⟩).mono ?_
  ·have hxs:=hp.pt.sp x (List.mem_of_getElem? hx)
   have hi:=(List.getElem?_eq_some_iff.1 hx).1;have hE:hasE B1.length x.1 x.2=0:=by rw [q2.len];exact if_pos ⟨by omega,by omega,by omega,by omega⟩
   obtain⟨⟨k1,k2⟩,k3,k4⟩:=hkw w1 o1 f;have hds:=dones_succ hx;have hd0:=hdb i;have hd1:=hdb (i+1);have hdl:=dones_len (T:=T) (fun x hx=>by have:=hp.pt.sp x hx;omega) i;refine(vwWrite1 a w.heap.size (w.heap.size+1) x (dones T i) s w1 q1 (by omega) k1 k2 k3 k4 hE (by omega) (by omega) h9).mono ?_;rintro e w2 ⟨rfl,o2,r1,r2⟩;refine⟨rfl,o2,_,r1,q2.step hx ⟨by omega,by omega⟩ hnd (wrB_len _ _ _) (fun p=>?_),f.trans r2⟩;have hsz:(s.extract (dones T i).toNat (dones T i+x.2).toNat).size=x.2.toNat:=by rw [ByteArray.size_extract];omega
   have hE2:hasE B1.length x.1 (s.extract (dones T i).toNat (dones T i+x.2).toNat).size=0:=by rw [hsz,show ((x.2.toNat:Nat):Int)=x.2 by omega];exact hE
   rw [byt_wr hE2,hsz,show ((x.2.toNat:Nat):Int)=x.2 by omega];by_cases cc:x.1≤p∧(p:Int)<x.1+x.2
   ·rw [if_pos cc,if_pos cc]
    have:=toNat_ext s (dones T i).toNat x.2.toNat (p-x.1.toNat) (by omega) (by omega);rw [show (dones T i).toNat+x.2.toNat=(dones T i+x.2).toNat by omega] at this;rw [this]
    congr 1
    omega
   ·rw [if_neg cc,if_neg cc]
  ·rintro e w' ⟨rfl,o1,B1,r1,r2,r3⟩
   exact⟨rfl,o1,B1,r1.mono (by omega),r2,(ff.mono fun y q=>q.elim).trans r3⟩)
 clear ha ht hp hdb hka hkb hsz2 hbel fa;subst hW2;go_enter Tryz.func110,Tryz.ntmps110
 go_wp2_with fail;refine hpc.out.mono ?_;rintro e w0 ⟨v,rfl,hs,hb⟩;have he:=HD (hea.out v w0 hs hb);obtain⟨p,c,rfl,_⟩:=spn_cell hs;clear hs hb hea hpc;go_wp2_with fail;refine he.out.mono ?_;rintro e w' ⟨rfl,r⟩;replace r:=HD r;clear he;go_wp2_with fail;go_ret
 exact⟨rfl,r.out⟩
end
section
open Go.RowKit
def ArG(w:World)(o:Nat→Tag)(t:Tag)(b g:Nat)(B:List UInt8)(m:Nat):Prop:=∃k v xs,k≤m∧ArC w o t b g B k v xs
theorem ArG.at_{w:World}{o:Nat→Tag}{t:Tag}{b g:Nat}{B:List UInt8}{m:Nat}(h:ArG w o t b g B m):ArAt w o t b B m:=by
 obtain⟨k,v,xs,h1,h2⟩:=h;exact⟨g,k,v,xs,h1,h2⟩
theorem ArG.fr{S:Tag→Prop}{w w':World}{o o':Nat→Tag}{t:Tag}{b g:Nat}{B:List UInt8}{m:Nat}(h:ArG w o t b g B m)(f:Fr S w o w' o')(hS:¬S t):ArG w' o' t b g B m:=by
 obtain⟨k,v,xs,h1,h2⟩:=h;exact⟨k,v,xs,h1,h2.fr f hS⟩
theorem arReadG(b g:Nat)(i k:Nat)(w:World){o:Nat→Tag}{t:Tag}{B:List UInt8}{m:Nat}(h:ArG w o t b g B m)(hm:m≤1000000000)(hf:i+k≤B.length) :
  Calls Tryz.prog 68 #[.pointer (some ⟨b,0,none⟩),.int .i64 i,.int .i64 k] w fun e w'=>e=.returned (.tuple #[.string ⟨(sub B i k).toArray⟩,.int .i64 0])∧ArG w' (newO o w t) t b g B (m+1)∧Fr (Und t) w o w' (newO o w t):=by
 have hh:=HD (arHas b i k w h.at_);have e:hasE B.length (i:Int) (k:Int)=0:=if_pos ⟨by omega,by omega,by omega,by omega⟩;rw [e] at hh;obtain⟨k0,v0,xs,hk,hc⟩:=h;have ht:=HD (arTouch b g i k false w hc (by omega) (by omega));clear hc e;obtain⟨l,hl0⟩:∃l,l=sub B i k:=⟨_,rfl⟩
 rw [←hl0];replace hl0:=HD hl0;go_enter Tryz.func68,Tryz.ntmps68
 go_wp2_with fail;refine SM hh.out ?_;go_wp2_with fail;refine ht.out.mono ?_;rintro e w1 ⟨ad,v',xs',k1,rfl,had,hk1,hC,hF⟩;have hl:=sub_len hf;have hconv:=run_convert_bytes_back (P:=Tryz.prog) w1 57 9 5 ad (B.length-i) (sub B i k) Tryz.underlying57 Tryz.underlying5 Tryz.underlying9 (fun j hj=>by
  rw [hl] at hj;rw [had (by omega)];have hcell:=hC.bb.cell (i+j);have hg:=sub_get (B:=B) (i:=i) hj;rw [List.getElem?_eq_getElem (by rw [hl];exact hj)] at hg;have:((arB B).toArray)[i+j]? = some (.int .u8 ((sub B i k)[j].toNat:Int)):=by unfold arB;simp [←hg]
  rw [this] at hcell;rw [add_pl];exact hcell)
 rw [hl,←hl0.out] at hconv;replace hC:=HD hC;replace had:=HD had;replace hF:=HD hF;clear hl;go_wp2_with fail;go_ret2
 exact⟨rfl,⟨k1,v',xs',by omega,hC.out⟩,hF.out⟩
def BdAt(w:World)(o:Nat→Tag)(b0:Nat)(l:List UInt8):Prop :=
 ∃p v,(p=.pointer none∨p=.pointer (some ⟨b0,0,none⟩))∧w.heap[b0]? = some (.cells #[p,v] 221 (0,0))∧w.ownsRowF b0 5 1 v (Lib.byteCells l).length (Lib.byteCells l)∧v.ownBlock≠some b0∧o b0=[8]∧∀g,v.ownBlock=some g→o g=[8]
theorem BdAt.isB{w:World}{o:Nat→Tag}{b0:Nat}{l:List UInt8}(h:BdAt w o b0 l):Lib.IsBuilderF 221 5 b0 b0 (Lib.byteCells l) w:=by
 obtain⟨p,v,h1,h2,h3,h4,_⟩:=h;rcases h1 with rfl|rfl
 ·exact .inl ⟨Nat.le_refl _,v,h2,h3,h4⟩
 ·exact .inr ⟨Nat.le_refl _,v,h2,h3,h4⟩
theorem BdAt.fr{S:Tag→Prop}{w w':World}{o o':Nat→Tag}{b0:Nat}{l:List UInt8}(h:BdAt w o b0 l)(f:Fr S w o w' o')(hS:¬S [8]):BdAt w' o' b0 l:=by
 obtain⟨p,v,h1,h2,h3,h4,h5,h6⟩:=h;have hb:=(Array.getElem?_eq_some_iff.1 h2).1;refine⟨p,v,h1,(f.only.block b0 hb (by rw [h5];exact hS)).trans h2,?_,h4,(f.ext b0 hb).trans h5,fun g hg=>(f.ext g (h3.lt g hg).2).trans (h6 g hg)⟩;refine⟨h3.1,?_⟩;rcases h3.2 with q|⟨g,cap,cur,fz,rfl,hbg,hgg,rest⟩
 ·exact .inl q
 ·exact .inr ⟨g,cap,cur,fz,rfl,hbg,(f.only.block g (Array.getElem?_eq_some_iff.1 hgg).1 (by rw [h6 g rfl];exact hS)).trans hgg,rest⟩
theorem ArG.others{w w':World}{o:Nat→Tag}{t:Tag}{b g b0:Nat}{B:List UInt8}{m:Nat}(h:ArG w o t b g B m)(hb:b<b0)(hg:g<b0)(hbl:Below b0 w w')(hok:Lib.OthersKept 5 (some b0) w w')(h0:∃c,w.heap[b0]? = some (.cells c 221 (0,0))){o':Nat→Tag}
  (ho:∀k,k<w.heap.size→(∀c fz,w'.heap[k]?≠some (.cells c 5 fz))∨k<b0→k≠b0→o' k=o k):ArG w' o' t b g B m:=by
 obtain⟨k,v,xs,hk,hc⟩:=h;have hbs:=hc.sb.lt;have hgs:=hc.bb.lt;have htr:∀q,v.ownBlock=some q→∃cur,w.heap[q]? = some (.cells cur 217 (0,0))∧w'.heap[q]? = some (.cells cur 217 (0,0))∧q≠b0:=fun q hq=>by
  rcases hc.tr.2 with ⟨rfl,_⟩|⟨g',cap,cur,rfl,_,hgg,_⟩
  ·simp [Value.ownBlock] at hq
  ·simp [Value.ownBlock] at hq
   subst hq;have hne:g'≠b0:=by
    rintro rfl;obtain⟨c,hc0⟩:=h0;rw [hgg] at hc0;injection hc0 with hc0
    injection hc0 with _ hc0
    exact absurd hc0 (by decide)
   exact⟨cur,hgg,hok g' _ hgg (by simpa using hne) (fun c fz e=>by injection e with _ e;exact absurd e (by decide)),hne⟩
 refine⟨k,v,xs,hk,⟨hc.sz,⟨?_,(hbl.block b hb).trans hc.sb.2⟩,⟨?_,(hbl.block g hg).trans hc.bb.2⟩,hc.ne,?_,fun q hq=>?_,hc.one⟩⟩
 ·rw [ho b hbs (.inr hb) (by omega)];exact hc.sb.1
 ·rw [ho g hgs (.inr hg) (by omega)];exact hc.bb.1
 ·refine⟨hc.tr.1,?_⟩
  rcases hc.tr.2 with q|⟨g',cap,cur,rfl,hbb,hgg,rest⟩
  ·exact .inl q
  ·obtain⟨cur',e1,e2,_⟩:=htr g' rfl
   rw [hgg] at e1;have hcc:cur=cur':=by injection (Option.some.inj e1)
   subst hcc;exact .inr ⟨g',cap,cur,rfl,hbb,e2,rest⟩
 ·obtain⟨cur',e1,e2,e3⟩:=htr q hq
  have:=hc.tt q hq;refine⟨?_,this.2⟩;rw [ho q (Array.getElem?_eq_some_iff.1 e1).1 (.inl (fun c fz e=>by
   rw [e2] at e;injection e with e
   injection e with _ e
   exact absurd e (by decide))) e3]
  exact this.1
end
section
open Go.RowKit
structure RdI(w:World)(o:Nat→Tag)(z:Tag)(a g:Nat)(B:List UInt8)(m:Nat)(w0:World)(b0:Nat)(l:List UInt8)(wx:World)(o1:Nat→Tag):Prop where
 ar:ArG wx o1 z a g B m
 bd:BdAt wx o1 b0 l
 fr:Fr (Und z) w o wx o1
 mid:∀k,w.heap.size≤k→k<b0→wx.heap[k]? = w0.heap[k]?∧¬Und z (o1 k)
 lt:a<w.heap.size∧g<w.heap.size∧w.heap.size≤b0
theorem bdWrite{w:World}{o:Nat→Tag}{z:Tag}{a g:Nat}{B:List UInt8}{m:Nat}{w0:World}{b0:Nat}{l:List UInt8}{w2:World}{o2:Nat→Tag}(h:RdI w o z a g B m w0 b0 l w2 o2)(p:List UInt8)(hl:l.length+p.length≤1000000) :
  Calls Tryz.prog 158 #[.pointer (some ⟨b0,0,none⟩),.string ⟨p.toArray⟩] w2 fun e w3=>e=.returned (.tuple #[.int .i64 p.length,.nilIface])∧∃o3,RdI w o z a g B m w0 b0 (l++p) w3 o3:=by
 have hsz:(⟨p.toArray⟩:ByteArray).size=p.length:=by show p.toArray.size=_;simp
 have hb0:b0<w2.heap.size:=by
  obtain⟨_,_,_,h2,_⟩:=h.bd;exact(Array.getElem?_eq_some_iff.1 h2).1
 have hc:=Any.Builder_WriteString_k lays166 extra158 b0 b0 (Lib.byteCells l) ⟨p.toArray⟩ w2 h.bd.isB (by rw [Lib.byteCells_length,hsz];omega) (by omega);change Calls Tryz.prog 158 _ w2 _ at hc;refine hc.mono ?_;rintro e w3 ⟨rfl,hB,hbel,hok⟩;rw [hsz];refine⟨rfl,?_⟩;obtain⟨_,v',hb',hown',hne'⟩:=hB;have hcells:Lib.byteCells l++Lib.strCells ⟨p.toArray⟩=Lib.byteCells (l++p):=by
  rw [Lib.strCells_eq];unfold Lib.byteCells;simp
 rw [hcells] at hown';have hrow:∀k,v'.ownBlock=some k→b0≤k∧∃c fz,w3.heap[k]? = some (.cells c 5 fz):=fun k hk=>by
  refine⟨(hown'.lt k hk).1,?_⟩;rcases hown'.2 with ⟨rfl,_⟩|⟨g',cap,cur,fz,rfl,_,hgg,_⟩
  ·simp [Value.ownBlock] at hk
  ·simp [Value.ownBlock] at hk
   subst hk;exact⟨cur,fz,hgg⟩
 have hlt:=h.lt;let o3:Nat→Tag:=fun k=>if k=b0∨v'.ownBlock=some k then [8] else if k<w2.heap.size then o2 k else [8]
 have o3old:∀k,k<b0→o3 k=o2 k:=fun k hk=>by
  show (if _ then _ else _)=_;rw [if_neg,if_pos (by omega)];rintro (q|q)
  ·omega
  ·have:=(hrow k q).1;omega
 refine⟨o3,?_,?_,⟨?_,fun k hk=>?_⟩,fun k k0 k1=>?_,hlt⟩
 ·refine h.ar.others (by omega) (by omega) hbel hok ?_ (fun k hk q hne=>?_)
  ·obtain⟨p',v,_,h2,_⟩:=h.bd
   exact⟨_,h2⟩
  ·show (if _ then _ else _)=_
   rw [if_neg,if_pos hk];rintro (q2|q2)
   ·exact hne q2
   ·obtain⟨r1,c,fz,r2⟩:=hrow k q2
    rcases q with q|q
    ·exact q c fz r2
    ·omega
 ·refine⟨_,v',.inr rfl,hb',?_,hne',?_,fun k hk=>?_⟩
  ·exact hown'
  ·show (if _ then _ else _)=_
   rw [if_pos (.inl rfl)]
  ·show (if _ then _ else _)=_
   rw [if_pos (.inr hk)]
 ·exact⟨hbel.os.trans h.fr.only.os,hbel.tape.trans h.fr.only.tape,hbel.output.trans h.fr.only.output,Nat.le_trans h.fr.only.size hbel.size,fun k hk hn=>(hbel.block k (by omega)).trans (h.fr.only.block k hk hn)⟩
 ·rw [o3old k (by omega)];exact h.fr.ext k hk
 ·obtain⟨r1,r2⟩:=h.mid k k0 k1
  exact⟨(hbel.block k k1).trans r1,by rw [o3old k k1];exact r2⟩
theorem vwRead1(a k0 b0:Nat)(x:Int×Int)(d:Int)(w1:World){w:World}{o:Nat→Tag}{z:Tag}{g:Nat}{B:List UInt8}{m:Nat}{w0:World}{l:List UInt8}{o1:Nat→Tag}(h:RdI w o z a g B m w0 b0 l w1 o1)(hm:m≤1000000)(hk:w1.cell? ⟨k0,0,none⟩=some (.pointer (some ⟨a,0,none⟩)))
  (hx:0≤x.1∧0≤x.2∧x.1+x.2≤B.length∧x.2≤512) (hl:l.length≤100000) (h9:¬z <+: [9]) (h8:¬Und z [8]) :
  Calls Tryz.prog 157 #[spanV x,.int .i64 d,.pointer (some ⟨k0,0,none⟩),.pointer (some ⟨b0,0,none⟩)] w1 fun e w'=>e=.returned (.tuple #[])∧∃o',RdI w o z a g B (m+1) w0 b0 (l++sub B x.1.toNat x.2.toNat) w' o':=by
 obtain⟨x1,x2⟩:=x;simp only at hx;obtain⟨i,rfl⟩:∃i:Nat,x1=i:=⟨x1.toNat,by omega⟩
 obtain⟨n,rfl⟩:∃n:Nat,x2=n:=⟨x2.toNat,by omega⟩
 simp only [Int.toNat_natCast];have fa:Fr (fun _=>False) w1 o1 (w1.alloc (.cells #[.int .i64 i,.int .i64 n,.bool false] 217)) (setO o1 w1.heap.size [9]):=Fr.alloc _ _;have hblk:(w1.alloc (.cells #[.int .i64 i,.int .i64 n,.bool false] 217)).heap[w1.heap.size]? = some (.cells #[.int .i64 i,.int .i64 n,.bool false] 217 (0,0)):=heap_alloc_new w1 _;have hka:=keep_alloc (o:=.cells #[.int .i64 i,.int .i64 n,.bool false] 217) hk;have hb1:b0<w1.heap.size:=by
  obtain⟨_,_,_,h2,_⟩:=h.bd;exact(Array.getElem?_eq_some_iff.1 h2).1
 have hsl:(sub B i n).length=n:=sub_len (by omega);have hrd:=(arReadG a g i n _ (h.ar.fr fa (fun q=>q)) (by omega) (by omega)).mono (R':=fun e w2=>e=.returned (.tuple #[.string ⟨(sub B i n).toArray⟩,.int .i64 0])∧∃o2,RdI w o z a g B (m+1) w0 b0 l w2 o2) (by
  rintro e w2 ⟨rfl,q,f⟩;have f2:Fr (Und z) w1 o1 w2 _:=(fa.mono fun y q=>q.elim).trans f;refine⟨rfl,_,q,h.bd.fr f2 h8,h.fr.trans f2,fun k k0' k1=>?_,h.lt⟩;obtain⟨r1,r2⟩:=h.mid k k0' k1;have hk1:k<w1.heap.size:=by omega
  exact⟨(f2.only.block k hk1 r2).trans r1,by rw [f2.ext k hk1];exact r2⟩)
 have hwr:=HD (fun w2 o2 (q:RdI w o z a g B (m+1) w0 b0 l w2 o2)=>bdWrite q (sub B i n) (by omega));replace hrd:=HD hrd;clear h fa hk hsl hx;unfold spanV;go_enter Tryz.func157,Tryz.ntmps157
 go_wp2_with fail;refine hrd.out.mono ?_;rintro e w2 ⟨rfl,o2,q⟩;have hw2:=HD (hwr.out w2 o2 q);clear hrd hwr q;go_wp2_with fail;refine hw2.out.mono ?_;rintro e w3 ⟨rfl,o3,q⟩;replace q:=HD q;clear hw2;go_wp2_with fail;exact bodyPost_end (results_none (by kernel_rfl) _ _ _) rfl ⟨rfl,o3,q.out⟩
end
section
open Go.RowKit
def rdT(B:List UInt8)(T:List (Int×Int)):List UInt8:=T.flatMap fun x=>sub B x.1.toNat x.2.toNat
theorem rdT_locs{B:List UInt8}{T:List (Int×Int)}(h:∀x∈T,0≤x.1∧0≤x.2∧x.1+x.2≤B.length):rdT B T=(locs T).map (byt B):=by
 induction T with
 |nil=>rfl
 |cons x T ih =>
  have hx:=h x (by simp);have e1:rdT B (x :: T)=sub B x.1.toNat x.2.toNat++rdT B T:=rfl;have e2:locs (x :: T)=(List.range x.2.toNat).map (fun j=>x.1.toNat+j)++locs T:=rfl;rw [e1,e2,List.map_append,ih (fun y hy=>h y (by simp [hy])),sub_map (by omega),List.map_map];rfl
theorem rdT_take{B:List UInt8}{T:List (Int×Int)}{i:Nat}{x:Int×Int}(h:T[i]? = some x):rdT B (T.take (i+1))=rdT B (T.take i)++sub B x.1.toNat x.2.toNat:=by
 obtain⟨hi,e⟩:=List.getElem?_eq_some_iff.1 h;rw [List.take_succ_eq_append_getElem hi,e];unfold rdT;simp
theorem vwRead(a bt:Nat)(ad n:Int)(w:World){o:Nat→Tag}{z tt:Tag}{B:List UInt8}{m:Nat}{tb:TbS}{T:List (Int×Int)}(ha:ArAt w o z a B m)(hm:m≤900000)(ht:TbAt w o tt bt tb)(hp:VwPre tb B ad n T)(h9:¬z <+: [9])(h8:¬z <+: [8]) :
  Calls Tryz.prog 109 #[.pointer (some ⟨a,0,none⟩),.pointer (some ⟨bt,0,none⟩),.int .i64 ad,.int .i64 n] w fun e w'=>e=.returned (.tuple #[.string ⟨(rdT B T).toArray⟩,.int .i64 0])∧∃o',ArAt w' o' z a B (m+8192)∧Fr (Und z) w o w' o':=by
 obtain⟨g,k0',v0',xs0',hk0',hc0'⟩:=ha;have hag:ArG w o z a g B m:=⟨k0',v0',xs0',hk0',hc0'⟩
 have hal:=hc0'.sb.lt;have hgl:=hc0'.bb.lt;have hTl:T.length≤8192:=by have:=hp.pt.len;have:=hp.n8;omega
 have hdb:=dones_bound (T:=T) (fun x hx=>by have:=hp.pt.sp x hx;omega) hp.pt.sum;have hn8:=hp.n8;generalize hW1:w.alloc (.cells #[.pointer (some ⟨a,0,none⟩)] 80)=W1 at *;have fa:Fr (fun _=>False) w o W1 o:=by rw [←hW1];exact Fr.alloc' _
 have hpc:=HD (vwPieces a bt ad n W1 (hag.at_.fr fa off_no) (ht.fr fa off_no) hp);have hka:W1.heap[w.heap.size]? = some (.cells #[.pointer (some ⟨a,0,none⟩)] 80 (0,0)):=by rw [←hW1];exact heap_alloc_new w _
 have hsz1:W1.heap.size=w.heap.size+1:=by rw [←hW1];simp
 have hbel:Below w.heap.size w W1:=by rw [←hW1];exact(Below.refl _ _).alloc (Nat.le_refl _) _
 have hk0:W1.cell? ⟨w.heap.size,0,none⟩=some (.pointer (some ⟨a,0,none⟩)):=cell_of_row _ w.heap.size 0 _ _ _ hka;have hea:=HD (show ∀v w0,Spn w0 W1.heap.size v T→Below W1.heap.size W1 w0 →
   Calls Tryz.prog 155 #[v,.func (.func 157) #[] #[.pointer (some ⟨w.heap.size,0,none⟩),.pointer (some ⟨w0.heap.size,0,none⟩)]] (w0.alloc (.cells #[.pointer none,.slice none 0 0] 221)) (fun e w'=>e=.returned (.tuple #[]) ∧
    Calls Tryz.prog 159 #[.pointer (some ⟨w0.heap.size,0,none⟩)] w' (fun e w2=>e=.returned (.string ⟨(rdT B T).toArray⟩)∧∃o',ArAt w2 o' z a B (m+8192)∧Fr (Und z) w o w2 o')) from fun v w0 hs hb=>by
  obtain⟨p,c,rfl,_⟩:=spn_cell hs;have hbw:Below w.heap.size w w0:=hbel.trans (hb.mono (by omega));have ff:Fr (fun _=>False) w o w0 (newO o w [9]):=Fr.below' hbw [9];have fb:Fr (fun _=>False) w0 (newO o w [9]) (w0.alloc (.cells #[.pointer none,.slice none 0 0] 221)) (setO (newO o w [9]) w0.heap.size [8]):=Fr.alloc _ _;have h0s:w.heap.size<w0.heap.size:=by have:=hb.size;omega
  obtain⟨g1,hg1,hg2⟩:=vw_each (o:=o) (z:=z) h9 hbw hs (by omega);have hstart:RdI w o z a g B m w0 w0.heap.size [] (w0.alloc (.cells #[.pointer none,.slice none 0 0] 221)) (setO (newO o w [9]) w0.heap.size [8]):=by
   refine⟨(hag.fr ff (fun q=>q)).fr fb (fun q=>q),⟨_,_,.inl rfl,heap_alloc_new w0 _,⟨rfl,.inl ⟨rfl,rfl⟩⟩,by simp [Value.ownBlock],setO_same,fun g hg=>by simp [Value.ownBlock] at hg⟩,((ff.trans fb).mono fun y q=>q.elim),fun k k1 k2=>?_,hal,hgl,by omega⟩;refine⟨heap_alloc_old _ _ k2,?_⟩;rw [setO_other (by omega),newO_new k1];exact h9
  have hcellk:∀wx o1 l mm,RdI w o z a g B mm w0 w0.heap.size l wx o1→(wx.cell? ⟨w.heap.size,0,none⟩=some (.pointer (some ⟨a,0,none⟩))):=fun wx o1 l mm q=>by
   have h1:w0.heap[w.heap.size]? = some (.cells #[.pointer (some ⟨a,0,none⟩)] 80 (0,0)):=(hb.block _ (by omega)).trans hka;exact cell_of_row _ w.heap.size 0 _ _ _ ((q.mid _ (Nat.le_refl _) h0s).1.trans h1)
  have hsc:∀(j:Nat) (x:Int×Int),T[j]? = some x→w0.cell? ⟨g1,j*3,none⟩=some (.int .i64 x.1)∧w0.cell? ⟨g1,j*3+1,none⟩=some (.int .i64 x.2)∧w0.cell? ⟨g1,j*3+2,none⟩=some (.bool false):=fun j x hx=>hg2 w0 _ (Fr.refl _ _ _) j x hx
  have hgb:T≠[]→W1.heap.size≤g1∧g1<w0.heap.size:=fun hT=>by
   obtain⟨p',c',e,h⟩:=spn_cell hs;obtain⟨g',hg',q1,q2,_⟩:=h hT;simp only [Value.slice.injEq] at e;have:=hg1 hT;rw [e.1,hg'] at this;injection this with this
   injection this with this
   omega
  refine(each_any 157 (enters_of Tryz.func157 (by kernel_rfl) rfl) #[.pointer (some ⟨w.heap.size,0,none⟩),.pointer (some ⟨w0.heap.size,0,none⟩)] g1 c p T (fun i wx=>∃o1,RdI w o z a g B (m+i) w0 w0.heap.size (rdT B (T.take i)) wx o1) _ hg1 (by omega) (fun i _=>by have:=hdb i;omega) (fun i w1 ⟨o1,q⟩ j x hx=>?_) (fun i w1 x hx ⟨o1,q⟩=>?_) ⟨_,hstart⟩).mono ?_
  ·have hT:T≠[]:=fun e=>by rw [e] at hx;simp at hx
   obtain⟨b1,b2⟩:=hgb hT;obtain⟨s1,s2,s3⟩:=hsc j x hx;have hm1:=(q.mid g1 (by omega) b2).1;exact⟨(World.cell?_of_block (w:=w0) hm1).trans s1,(World.cell?_of_block (w:=w0) hm1).trans s2,(World.cell?_of_block (w:=w0) hm1).trans s3⟩
  ·have hxs:=hp.pt.sp x (List.mem_of_getElem? hx)
   have hi:=(List.getElem?_eq_some_iff.1 hx).1;have hln:(rdT B (T.take i)).length≤100000:=by
    rw [rdT_locs (fun y hy=>by have:=hp.pt.sp y (List.mem_of_mem_take hy);omega),List.length_map];have h1:=dones_len (T:=T) (fun y hy=>by have:=hp.pt.sp y hy;omega) i;have:=hdb i;omega
   refine(vwRead1 a w.heap.size w0.heap.size x (dones T i) w1 q (by omega) (hcellk w1 o1 _ _ q) ⟨by omega,by omega,by omega,by omega⟩ hln h9 (fun e=>h8 e)).mono ?_;rintro e w2 ⟨rfl,o2,r⟩;refine⟨rfl,o2,?_⟩;rw [rdT_take hx];exact r
  ·rintro e w' ⟨rfl,o1,q⟩
   refine⟨rfl,?_⟩;rw [List.take_length] at q;have hb0:w0.heap.size<w'.heap.size:=by
    obtain⟨_,_,_,h2,_⟩:=q.bd;exact(Array.getElem?_eq_some_iff.1 h2).1
   have hst:=Any.Builder_String_any_k lays169 extra159 w0.heap.size w0.heap.size (rdT B T) w' q.bd.isB (by omega);change Calls Tryz.prog 159 _ w' _ at hst;refine hst.mono ?_;rintro e w2 ⟨rfl,hB2,hbel2,hok2⟩;refine⟨rfl,o1,?_,?_⟩
   ·have h0e:∃c,w'.heap[w0.heap.size]? = some (.cells c 221 (0,0)):=by
     obtain⟨_,_,_,h2,_⟩:=q.bd;exact⟨_,h2⟩
    exact(q.ar.others (o':=o1) (by omega) (by omega) hbel2 hok2 h0e (fun _ _ _ _=>rfl)).at_.mono (by omega)
   ·exact⟨⟨hbel2.os.trans q.fr.only.os,hbel2.tape.trans q.fr.only.tape,hbel2.output.trans q.fr.only.output,Nat.le_trans q.fr.only.size hbel2.size,fun k hk hn=>(hbel2.block k (by omega)).trans (q.fr.only.block k hk hn)⟩,fun k hk=>q.fr.ext k hk⟩)
 clear hag hal hgl hdb hka hsz1 hbel fa ht hp hc0';subst hW1;go_enter Tryz.func109,Tryz.ntmps109
 go_wp2_with fail;refine hpc.out.mono ?_;rintro e w0 ⟨v,rfl,hs,hb⟩;have he:=HD (hea.out v w0 hs hb);obtain⟨p,c,rfl,_⟩:=spn_cell hs;clear hs hb hea hpc;go_wp2_with fail;refine he.out.mono ?_;rintro e w1 ⟨rfl,r⟩;replace r:=HD r;clear he;go_wp2_with fail;refine r.out.mono ?_;rintro e w2 ⟨rfl,r2⟩;replace r2:=HD r2;clear r;go_wp2_with fail;go_ret2
 exact⟨rfl,r2.out⟩
end
section
open Go.RowKit
theorem vwCopy(a bt:Nat)(ad fr n:Int)(w:World){o:Nat→Tag}{z tt:Tag}{B:List UInt8}{m:Nat}{tb:TbS}{T T2:List (Int×Int)}(ha:ArAt w o z a B m)(hm:m≤800000)(ht:TbAt w o tt bt tb)(hp:VwPre tb B ad n T)(hp2:VwPre tb B fr n T2)(hnd:(locs T).Nodup)(h9:¬z <+: [9])(h8:¬z <+: [8])(hzt:Off (Und z) tt) :
  Calls Tryz.prog 107 #[.pointer (some ⟨a,0,none⟩),.pointer (some ⟨bt,0,none⟩),.int .i64 ad,.int .i64 fr,.int .i64 n] w fun e w'=>e=.returned (.int .i64 0)∧∃o' B',ArAt w' o' z a B' (m+20000)∧WrI B T (fun k=>(rdT B T2).getD k 0) T.length B'∧Fr (Und z) w o w' o':=by
 have hn0:0≤n:=by have:=dones_bound (T:=T2) (fun x hx=>by have:=hp2.pt.sp x hx;omega) hp2.pt.sum 0;omega
 have hlen:((rdT B T2).length:Int)=n:=by
  rw [rdT_locs (fun x hx=>by have:=hp2.pt.sp x hx;omega),List.length_map,locs_len (fun x hx=>by have:=hp2.pt.sp x hx;omega),hp2.pt.sum]
 have hpc:=HD (vwPieces a bt ad n w ha ht hp);have hall:=HD (show ∀w1,Below w.heap.size w w1→Calls Tryz.prog 109 #[.pointer (some ⟨a,0,none⟩),.pointer (some ⟨bt,0,none⟩),.int .i64 fr,.int .i64 n] w1 (fun e w2=>e=.returned (.tuple #[.string ⟨(rdT B T2).toArray⟩,.int .i64 0]) ∧
   Calls Tryz.prog 110 #[.pointer (some ⟨a,0,none⟩),.pointer (some ⟨bt,0,none⟩),.int .i64 ad,.string ⟨(rdT B T2).toArray⟩] w2 (fun e w3=>e=.returned (.int .i64 0)∧∃o' B',ArAt w3 o' z a B' (m+20000)∧WrI B T (fun k=>(rdT B T2).getD k 0) T.length B'∧Fr (Und z) w o w3 o')) from fun w1 hb=>by
  have ff:Fr (fun _=>False) w o w1 o:=Fr.below hb;refine(vwRead a bt fr n w1 (ha.fr ff off_no) (by omega) (ht.fr ff off_no) hp2 h9 h8).mono ?_;rintro e w2 ⟨rfl,o2,q2,f2⟩;have hsz:((⟨(rdT B T2).toArray⟩:ByteArray).size:Int)=n:=by show (((rdT B T2).toArray.size:Nat):Int)=n;simp [hlen]
  refine⟨rfl,(vwWrite a bt ad ⟨(rdT B T2).toArray⟩ w2 q2 (by omega) ((ht.fr ff off_no).fr f2 hzt) (by rw [hsz];exact hp) hnd h9).mono ?_⟩;rintro e w3 ⟨rfl,o3,B3,q3,g3,f3⟩;exact⟨rfl,o3,B3,q3.mono (by omega),by simpa using g3,((ff.mono fun y q=>q.elim).trans f2).trans f3⟩)
 clear ha ht hp hp2 hlen;go_enter Tryz.func107,Tryz.ntmps107
 go_wp2_with fail;refine hpc.out.mono ?_;rintro e w1 ⟨v,rfl,hs,hb⟩;have hrd:=HD (hall.out w1 hb);obtain⟨p,c,rfl,_⟩:=spn_cell hs;clear hs hb hall hpc;go_wp2_with fail;refine hrd.out.mono ?_;rintro e w2 ⟨rfl,hwr⟩;replace hwr:=HD hwr;clear hrd;go_wp2_with fail;refine hwr.out.mono ?_;rintro e w3 ⟨rfl,r⟩;replace r:=HD r;clear hwr;go_wp2_with fail;go_ret
 exact⟨rfl,r.out⟩
end
section
open Go.RowKit
theorem sum_split8(f:Nat→Nat):((List.range 24).map f).sum=((List.range 8).map f).sum+((List.range 16).map fun i=>f (8+i)).sum:=by
 have e:List.range 24=List.range 8++(List.range 16).map (8 + ·):=by rw [←List.range_add]
 rw [e];simp only [List.map_append,List.sum_append,List.map_map];rfl
theorem sum_one_le{f:Nat→Nat}:∀n i,i<n→f i≤((List.range n).map f).sum
 |0,i,h=>by omega
 |n+1,i,h=>by
  rw [List.range_succ];simp only [List.map_append,List.map_cons,List.map_nil,List.sum_append,List.sum_cons,List.sum_nil];by_cases e:i=n
  ·subst e;omega
  ·have:=sum_one_le (f:=f) n i (by omega);omega
def runpages(sl:Nat→ShS):Nat:=((List.range 16).map fun i=>(sl (8+i)).tkn*(pagesT ((8+i:Nat):Int)).toNat).sum
def smallpages(sl:Nat→ShS):Nat:=((List.range 8).map fun c=>(sl c).tkn).sum
theorem pgsum_parts(sl:Nat→ShS):pgsum sl=smallpages sl+runpages sl:=by
 have e:((List.range 8).map fun c:Nat=>(sl c).tkn*(pagesT (c:Int)).toNat)=(List.range 8).map fun c=>(sl c).tkn:=List.map_congr_left fun c hc=>by
  have hc8:=List.mem_range.1 hc;rw [(pages_lt8 hc8).1];simp
 have h:=sum_split8 fun c:Nat=>(sl c).tkn*(pagesT (c:Int)).toNat
 rw [e] at h;exact h
theorem runsum_pages(sl:Nat→ShS):runsum sl=runpages sl*512:=by
 unfold runsum runpages;have main:∀n,n≤16→((List.range n).map fun i=>(sl (8+i)).tkn*(unitT ((8+i:Nat):Int)).toNat).sum=((List.range n).map fun i=>(sl (8+i)).tkn*(pagesT ((8+i:Nat):Int)).toNat).sum*512:=by
  intro n;induction n with
  |zero=>intro _;simp only [List.range_zero,List.map_nil,List.sum_nil,Nat.zero_mul]
  |succ n ih =>
   intro h;have:=ih (by omega);rw [List.range_succ];simp only [List.map_append,List.map_cons,List.map_nil,List.sum_append,List.sum_cons,List.sum_nil,this];have hu:unitT ((8+n:Nat):Int)=((8+n:Nat)-7)*512:=unit_run (by omega) (by omega);have hp:pagesT ((8+n:Nat):Int)=((8+n:Nat):Int)-7:=pages_run (by omega) (by omega);rw [hu,hp];have e:((((8+n:Nat):Int)-7)*512).toNat=(((8+n:Nat):Int)-7).toNat*512:=by omega
   rw [e,←Nat.mul_assoc];omega
 exact main 16 (Nat.le_refl _)
theorem by_slots{c q:Int}(h0:0≤c)(h1:c≤7)(h:mayB q=true):byT c q≤256:=by
 obtain⟨a,b⟩:=may_iff.1 h;rw [by_in h0 h1 h];rcases per_unit h0 h1 with ⟨e,f⟩|⟨e,f⟩|⟨e,f⟩|⟨e,f⟩|⟨e,f⟩|⟨e,f⟩|⟨e,f⟩|⟨e,f⟩<;>rw [e,f]<;>omega
structure Dem(al:AlS)(pk:Int):Prop where
 may:mayB pk=true
 small:∀c:Nat,c<8→((al.sl c).tkn:Int)≤byT c pk
 cost:(al.cost:Int)≤pk
theorem small_le{al:AlS}{pk:Int}(h:∀c:Nat,c<8→((al.sl c).tkn:Int)≤byT c pk):∀k:Nat,k≤8→((((List.range k).map fun c=>(al.sl c).tkn).sum:Nat):Int)≤sumBy pk k
 |0,_=>by simp [sumBy]
 |k+1,hk=>by
  have:=small_le h k (by omega);have:=h k (by omega);rw [List.range_succ];simp only [List.map_append,List.map_cons,List.map_nil,List.sum_append,List.sum_cons,List.sum_nil];unfold sumBy;omega
theorem Dem.pages{al:AlS}{pk:Int}(h:Dem al pk):(pgsum al.sl:Int)≤demT pk:=by
 have h1:=small_le h.small 8 (Nat.le_refl _);have h2:=runsum_pages al.sl;have h3:=h.cost;have h4:=pgsum_parts al.sl;unfold AlS.cost at h3;unfold demT runsT;rw [if_pos h.may];unfold smallpages at h4;omega
theorem smcost_full{sm:List (Int×PgS)}{c u per:Nat}(h:∀y∈sm,kdV y.1=c→y.2.had.tkn=per∧y.2.unit.toNat=u):sm.countP (fun y=>decide (kdV y.1=c))*(per*u)≤smcost sm:=by
 unfold smcost;induction sm with
 |nil=>simp
 |cons y sm ih =>
  have h1:=ih (fun z hz=>h z (by simp [hz]));rw [List.countP_cons];simp only [List.map_cons,List.sum_cons];by_cases e:kdV y.1=c
  ·obtain⟨e1,e2⟩:=h y (by simp) e
   rw [if_pos (by simpa using e),Nat.add_mul,e1,e2];omega
  ·rw [if_neg (by simpa using e),Nat.add_zero]
   omega
theorem low_ex{s:ShS}(h:s.tkn<s.n):∃k:Nat,s.lowI=k:=by
 rcases low_cases s with ⟨e,_⟩|⟨k,e,_⟩
 ·have:=low_neg e
  unfold ShS.tkn at h;omega
 ·exact⟨k,e⟩
section
variable{B:List UInt8}{cm:CmS}{win:List Int}{tb:TbS}{al:AlS}{pk:Int}
theorem open_small(h:AlOk al)(hd:Dem al pk){c:Nat}(hc:c<8)(hl:al.ln c=[])(hq:(al.cost:Int)+unitT c≤pk):((al.sl c).tkn:Int)+1≤byT c pk:=by
 have hfull:∀y∈al.sm,kdV y.1=c→y.2.had.tkn=(perT c).toNat∧y.2.unit.toNat=(unitT c).toNat:=fun y hy hk=>by
  have hg:=mGet_of h.rise hy;obtain⟨g1,g2,g3,g4,g5⟩:=h.pg y.1 y.2 hg;have hz:y.2.had.cnt=0:=by
   rcases Nat.eq_zero_or_pos y.2.had.cnt with q|q
   ·exact q
   ·have:=((h.ln c hc).2 y.1).2 ⟨y.2,hg,hk,q⟩
    rw [hl] at this;cases this
  have hn:=g4.n;unfold PgS.per at hn;rw [g3,hk] at hn;refine⟨by unfold ShS.tkn;omega,by unfold PgS.unit;rw [g3,hk]⟩
 have h1:=smcost_full hfull;rw [←h.cnt c hc] at h1;have h2:((al.sl c).tkn*((perT c).toNat*(unitT c).toNat):Nat)≤al.cost:=by unfold AlS.cost;omega
 have hpu:=per_unit (c:=(c:Int)) (by omega) (by omega);obtain⟨b0,b1,b2,b3,b4,b5⟩:=by_ceil (c:=(c:Int)) (by omega) (by omega) hd.may;generalize byT c pk=y at *;generalize (al.sl c).tkn=k at *;rcases hpu with ⟨e,f⟩|⟨e,f⟩|⟨e,f⟩|⟨e,f⟩|⟨e,f⟩|⟨e,f⟩|⟨e,f⟩|⟨e,f⟩<;>rw [e,f] at h2<;>rw [f] at hq b2<;>rw [e] at b2<;>simp at h2<;>omega
theorem room_small(h:HpOk B cm win tb al)(hd:Dem al pk)(hr:demT pk≤(win.length*(cm.P/cm.C):Nat)){c:Nat}(hc:c<8)(hl:al.ln c=[])(hq:(al.cost:Int)+unitT c≤pk):∃s:Nat,HoldPre B cm win tb al c s:=by
 have h1:=open_small h.al hd hc hl hq;have h2:=by_slots (c:=(c:Int)) (by omega) (by omega) hd.may;have hn:=h.al.n c (by omega);rw [(pages_lt8 hc).2] at hn;obtain⟨s,hs⟩:=low_ex (s:=al.sl c) (by omega);refine⟨s,h,by omega,hs,?_⟩;rw [(pages_lt8 hc).1];have h3:((((List.range 8).map fun d=>(al.sl d).tkn).sum:Nat):Int)+1≤sumBy pk 8:=by
  have main:∀k:Nat,k≤8→((((List.range k).map fun d=>(al.sl d).tkn).sum:Nat):Int)+(if c<k then 1 else 0)≤sumBy pk k:=by
   intro k;induction k with
   |zero=>intro _;simp [sumBy]
   |succ k ih =>
    intro hk;have:=ih (by omega);have hk2:=hd.small k (by omega);rw [List.range_succ];simp only [List.map_append,List.map_cons,List.map_nil,List.sum_append,List.sum_cons,List.sum_nil];unfold sumBy;by_cases e:c=k
    ·subst e
     rw [if_neg (Nat.lt_irrefl _)] at this;rw [if_pos (Nat.lt_succ_self _)];omega
    ·by_cases e2:c<k
     ·rw [if_pos e2] at this;rw [if_pos (by omega)];omega
     ·rw [if_neg e2] at this;rw [if_neg (by omega)];omega
  have:=main 8 (Nat.le_refl _)
  rwa [if_pos hc] at this
 have h4:=runsum_pages al.sl;have h5:=pgsum_parts al.sl;have h6:=h.cnt;have h7:=hd.cost;unfold AlS.cost at h7;unfold demT runsT at hr;rw [if_pos hd.may] at hr;unfold smallpages at h5;simp
 omega
theorem room_run(h:HpOk B cm win tb al)(hd:Dem al pk)(hr:demT pk≤(win.length*(cm.P/cm.C):Nat)){c:Nat}(h8:8≤c)(hc:c<24)(hq:(al.cost:Int)+unitT c≤pk):∃s:Nat,HoldPre B cm win tb al c s:=by
 have hu:unitT c=(c-7)*512:=unit_run (by omega) (by omega);have hp:pagesT c=c-7:=pages_run (by omega) (by omega);have hmay:=may_iff.1 hd.may;have h1:=small_le hd.small 8 (Nat.le_refl _);have h4:=runsum_pages al.sl;have h5:=pgsum_parts al.sl;have h6:=h.cnt;have hcst:(al.cost:Int)=smcost al.sm+runsum al.sl:=by unfold AlS.cost;omega
 have hn:=h.al.n c hc;rw [slots_in (by omega) (by omega),hp] at hn;have hone:=sum_one_le (f:=fun i=>(al.sl (8+i)).tkn*(pagesT ((8+i:Nat):Int)).toNat) 16 (c-8) (by omega);simp only [show 8+(c-8)=c by omega,hp] at hone;have hone':(al.sl c).tkn*((c:Int)-7).toNat≤runpages al.sl:=hone;have hlt:(al.sl c).tkn<(al.sl c).n:=by
  have hk:((al.sl c).tkn*((c:Int)-7).toNat:Nat)+((c:Int)-7).toNat≤128:=by omega
  rcases(by omega:c=8∨c=9∨c=10∨c=11∨c=12∨c=13∨c=14∨c=15∨c=16∨c=17∨c=18∨c=19∨c=20∨c=21∨c=22∨c=23) with rfl|rfl|rfl|rfl|rfl|rfl|rfl|rfl|rfl|rfl|rfl|rfl|rfl|rfl|rfl|rfl<;>simp at hk hn<;>omega
 obtain⟨s,hs⟩:=low_ex hlt;refine⟨s,h,hc,hs,?_⟩;rw [hp];unfold demT runsT at hr;rw [if_pos hd.may] at hr;unfold smallpages at h5;omega
theorem mal_room(h:HpOk B cm win tb al)(hd:Dem al pk)(hr:demT pk≤(win.length*(cm.P/cm.C):Nat)){c:Nat}(hc:c<24)(hq:(al.cost:Int)+unitT c≤pk):MalPre B cm win tb al c :=
 ⟨h,hc,fun hl=>by
  by_cases h8:c<8
  ·exact room_small h hd hr h8 (hl h8) hq
  ·exact room_run h hd hr (by omega) hc hq⟩
end
end
section
open Go.RowKit Flt
structure Ans where
 err:Int
 h:Nat
 addr:Int
 n:Int
 data:ByteArray
 ch:Int
def ansV(x:Ans):Value:=.agg #[.int .i64 x.err,.int .u64 x.h,.int .i64 x.addr,.int .i64 x.n,.string x.data,.int .i64 x.ch]
structure TnX where
 x:HpX
 bh:Nat
 bc:Nat
 bq:Nat
 go:Nat
def tnL(a c:Nat)(y:TnX)(id pk:Int):List Value:=[eP a,eP c,eP y.bh,eP y.bc,eP y.bq,.int .i64 id,.int .i64 pk,.map (some y.go)]
structure TnR(w:World)(o:Nat→Tag)(t:Tag)(b a c:Nat)(y:TnX)(win:List Int)(tb:TbS)(id pk:Int)(al:AlS)(cp:CpS)(q:QS)(M:List (Int×Int)):Prop where
 blk:Blk w o t b (tnL a c y id pk).toArray 133
 hp:HpG w o (t++[0]) y.bh a c y.x win tb al
 cp:CpAt w o (t++[1]) y.bc cp
 qo:o y.bq=t++[2]
 qa:Qat w y.bq q
 ob:MpAt w o (t++[3]) y.go .i64 eI M
section
variable{S:Tag→Prop}{w w':World}{o o':Nat→Tag}{t u z:Tag}{b a c:Nat}{y:TnX}{win:List Int}{tb:TbS}{id pk:Int}{al:AlS}{cp:CpS}{q:QS}{M:List (Int×Int)}
theorem qat_lt(h:Qat w b q):b<w.heap.size:=lt_of_block h
theorem Qat.fr{tq:Tag}(h:Qat w b q)(hb:o b=tq)(f:Fr S w o w' o')(hS:¬S tq):o' b=tq∧Qat w' b q :=
 ⟨(f.ext b (qat_lt h)).trans hb,(f.only.block b (qat_lt h) (by rw [hb];exact hS)).trans h⟩
theorem TnR.fr(h:TnR w o t b a c y win tb id pk al cp q M)(f:Fr S w o w' o')(hS:Off S t):TnR w' o' t b a c y win tb id pk al cp q M where
 blk:=h.blk.fr f hS.self
 hp:=h.hp.fr f (hS.sub [0])
 cp:=h.cp.fr f (hS.sub [1])
 qo:=(Qat.fr h.qa h.qo f (hS.sub [2]).self).1
 qa:=(Qat.fr h.qa h.qo f (hS.sub [2]).self).2
 ob:=h.ob.fr f (hS.sub [3]).self
theorem TnR.inHp(h:TnR w o t b a c y win tb id pk al cp q M)(h9:¬t <+: [9])(f:Fr S w o w' o')(h0:¬S t)(h1:Off S (t++[1]))(h2:Off S (t++[2]))(h3:Off S (t++[3])){x':HpX}{win':List Int}{tb':TbS}{al':AlS}(g:HpG w' o' (t++[0]) y.bh a c x' win' tb' al'):TnR w' o' t b a c ⟨x',y.bh,y.bc,y.bq,y.go⟩ win' tb' id pk al' cp q M where
 blk:=h.blk.fr f h0
 hp:=g
 cp:=h.cp.fr f h1
 qo:=(Qat.fr h.qa h.qo f h2.self).1
 qa:=(Qat.fr h.qa h.qo f h2.self).2
 ob:=h.ob.fr f h3.self
theorem TnR.inCp(h:TnR w o t b a c y win tb id pk al cp q M)(h9:¬t <+: [9])(f:Fr (Und (t++[1])) w o w' o'){cp':CpS}(g:CpAt w' o' (t++[1]) y.bc cp'):TnR w' o' t b a c y win tb id pk al cp' q M where
 blk:=h.blk.fr f (not_und t 1 [])
 hp:=h.hp.fr f (off_one (by decide) h9)
 cp:=g
 qo:=(Qat.fr h.qa h.qo f (off_one (r':=[]) (by decide) h9).self).1
 qa:=(Qat.fr h.qa h.qo f (off_one (r':=[]) (by decide) h9).self).2
 ob:=h.ob.fr f (off_one (r':=[]) (by decide) h9).self
theorem TnR.frQ(h:TnR w o t b a c y win tb id pk al cp q M)(f:Only (· = y.bq) w w'):Fr (Und (t++[2])) w o w' o:=Fr.of_only (f.mono fun k _ e=>by rw [e,h.qo];exact Und.self _)
theorem TnR.inQ(h:TnR w o t b a c y win tb id pk al cp q M)(h9:¬t <+: [9])(f:Only (· = y.bq) w w'){q':QS}(g:Qat w' y.bq q'):TnR w' o t b a c y win tb id pk al cp q' M where
 blk:=h.blk.fr (h.frQ f) (not_und t 2 [])
 hp:=h.hp.fr (h.frQ f) (off_one (by decide) h9)
 cp:=h.cp.fr (h.frQ f) (off_one (by decide) h9)
 qo:=h.qo
 qa:=g
 ob:=h.ob.fr (h.frQ f) (off_one (r':=[]) (by decide) h9).self
theorem TnR.inOb(h:TnR w o t b a c y win tb id pk al cp q M)(h9:¬t <+: [9]){M':List (Int×Int)}(g:MpPost w w' o (t++[3]) y.go .i64 eI M'):TnR w' o t b a c y win tb id pk al cp q M':=by
 have f:Fr (Und (t++[3])) w o w' o:=g.2.1.mono fun v e=>by rw [e];exact Und.self _
 exact⟨h.blk.fr f (not_und t 3 []),h.hp.fr f (off_one (by decide) h9),h.cp.fr f (off_one (by decide) h9),(Qat.fr h.qa h.qo f (off_one (r':=[]) (by decide) h9).self).1,(Qat.fr h.qa h.qo f (off_one (r':=[]) (by decide) h9).self).2,g.1⟩
theorem TnR.c0(h:TnR w o t b a c y win tb id pk al cp q M):w.cell? ⟨b,0,none⟩=some (eP a):=h.blk.cell' (i:=0) rfl
theorem TnR.c1(h:TnR w o t b a c y win tb id pk al cp q M):w.cell? ⟨b,1,none⟩=some (eP c):=h.blk.cell' (i:=1) rfl
theorem TnR.c2(h:TnR w o t b a c y win tb id pk al cp q M):w.cell? ⟨b,2,none⟩=some (eP y.bh):=h.blk.cell' (i:=2) rfl
theorem TnR.c3(h:TnR w o t b a c y win tb id pk al cp q M):w.cell? ⟨b,3,none⟩=some (eP y.bc):=h.blk.cell' (i:=3) rfl
theorem TnR.c4(h:TnR w o t b a c y win tb id pk al cp q M):w.cell? ⟨b,4,none⟩=some (eP y.bq):=h.blk.cell' (i:=4) rfl
theorem TnR.c5(h:TnR w o t b a c y win tb id pk al cp q M):w.cell? ⟨b,5,none⟩=some (.int .i64 id):=h.blk.cell' (i:=5) rfl
theorem TnR.c6(h:TnR w o t b a c y win tb id pk al cp q M):w.cell? ⟨b,6,none⟩=some (.int .i64 pk):=h.blk.cell' (i:=6) rfl
theorem TnR.c7(h:TnR w o t b a c y win tb id pk al cp q M):w.cell? ⟨b,7,none⟩=some (.map (some y.go)):=h.blk.cell' (i:=7) rfl
end
theorem tnLimit(p n:Int)(w:World):Calls Tryz.prog 89 #[.int .i64 p,.int .i64 n] w fun e w'=>e=.returned (.complex .f64 (F p) (F n))∧w'=w:=by
 go_enter Tryz.func89,Tryz.ntmps89
 go_wp2_with fail;go_ret
 exact⟨rfl,rfl⟩
theorem tnCost(n:Int)(w:World):Calls Tryz.prog 104 #[.int .i64 n] w fun e w'=>e=.returned (.int .i64 (chargeT n))∧w'=w:=by
 rw [show chargeT n=unitT (kindT n) by unfold chargeT;rfl];have h1:=HD (kindOf_any n w);have h2:=HD (unit_any (kindT n) w);go_enter Tryz.func104,Tryz.ntmps104
 go_wp2_with fail;refine h1.out.mono ?_;rintro e w' ⟨rfl,hw⟩;obtain rfl:=hw.symm;clear hw;go_wp2_with fail;refine h2.out.mono ?_;rintro e w' ⟨rfl,hw⟩;obtain rfl:=hw.symm;clear hw;go_wp2_with fail;go_ret
 exact⟨rfl,rfl⟩
section
variable{w:World}{o:Nat→Tag}{t u z:Tag}{b a c:Nat}{y:TnX}{win:List Int}{tb:TbS}{id pk:Int}{al:AlS}{cp:CpS}{q:QS}{M:List (Int×Int)}
theorem tnCharged(h:TnR w o t b a c y win tb id pk al cp q M)(hq:q.wf):Calls Tryz.prog 40 #[eP b] w fun e w'=>e=.returned (.int .i64 q.cB)∧w'=w:=by
 have c4:=h.c4;have h1:=HD (charged_any y.bq q w h.qa);have h2:=HD (bytes_F q.cB q.cP w (QS.ok hq).2.1);clear h hq;go_enter Tryz.func40,Tryz.ntmps40
 go_wp2_with fail;refine h1.out.mono ?_;rintro e w' ⟨rfl,hw⟩;obtain rfl:=hw.symm;clear hw;go_wp2_with fail;refine h2.out.mono ?_;rintro e w' ⟨rfl,hw⟩;obtain rfl:=hw.symm;clear hw;go_wp2_with fail;go_ret
 exact⟨rfl,rfl⟩
theorem tnCharged_nil(w:World):Calls Tryz.prog 40 #[.pointer none] w fun e w'=>e=.returned (.int .i64 0)∧w'=w:=by
 go_enter Tryz.func40,Tryz.ntmps40
 go_wp2_with fail;go_ret
 exact⟨rfl,rfl⟩
theorem tnQuota(h:TnR w o t b a c y win tb id pk al cp q M)(hq:q.wf):Calls Tryz.prog 41 #[eP b] w fun e w'=>e=.returned (.int .i64 q.lB)∧w'=w:=by
 have c4:=h.c4;have h1:=HD (limit_any y.bq q w h.qa);have h2:=HD (bytes_F q.lB q.lP w (QS.ok hq).1);clear h hq;go_enter Tryz.func41,Tryz.ntmps41
 go_wp2_with fail;refine h1.out.mono ?_;rintro e w' ⟨rfl,hw⟩;obtain rfl:=hw.symm;clear hw;go_wp2_with fail;refine h2.out.mono ?_;rintro e w' ⟨rfl,hw⟩;obtain rfl:=hw.symm;clear hw;go_wp2_with fail;go_ret
 exact⟨rfl,rfl⟩
theorem tnQuota_nil(w:World):Calls Tryz.prog 41 #[.pointer none] w fun e w'=>e=.returned (.int .i64 0)∧w'=w:=by
 go_enter Tryz.func41,Tryz.ntmps41
 go_wp2_with fail;go_ret
 exact⟨rfl,rfl⟩
theorem tnSerial(h:TnR w o t b a c y win tb id pk al cp q M):Calls Tryz.prog 57 #[eP b] w fun e w'=>e=.returned (.int .i64 cp.next)∧w'=w:=by
 have c3:=h.c3;have h1:=HD (cpSerial y.bc w h.cp);clear h;go_enter Tryz.func57,Tryz.ntmps57
 go_wp2_with fail;refine h1.out.mono ?_;rintro e w' ⟨rfl,hw⟩;obtain rfl:=hw.symm;clear hw;go_wp2_with fail;go_ret
 exact⟨rfl,rfl⟩
end
end
end Go.Proofs.YtfliaggjkianpaaGreatDoor
