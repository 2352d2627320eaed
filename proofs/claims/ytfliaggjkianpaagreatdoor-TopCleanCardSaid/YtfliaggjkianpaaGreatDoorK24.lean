import Derived.Test.YtfliaggjkianpaaGreatDoorK23
set_option linter.unusedVariables false
set_option linter.unusedSimpArgs false
set_option maxRecDepth 100000
namespace Go.Proofs.YtfliaggjkianpaaGreatDoor
section
open Go.RowKit Flt
attribute [local irreducible] CpS.rv
section
variable{w:World}{o:Nat→Tag}{r:Tag}{b:Nat}{B:List UInt8}{K:Nat}{s:AdS}{x:OpS}
theorem svDo(x:OpS)(h:SvAt w o r b B K s)(hr:Root r)(hK:K≤900000)(hH:x.H<18446744073709551616)(hs:x.s.size≤maxLen) :
  Calls Tryz.prog 18 #[eP b,x.v] w fun e w'=>e=.returned (ansV (s.do_ x).1)∧∃o' B',SvAt w' o' r b B' (K+1) (s.do_ x).2∧Fr (UndS r) w o w' o'∧(rightO x.K x.T x.s=false→B'=B):=by
 obtain⟨ba,dv,n,tv,m,hv,hn,hm,hx⟩:=h;have hok:∃cm p tbs,AdOk B cm p tbs s:=by
  obtain⟨y,cm,p,tbs,g⟩:=hv.ad;exact⟨cm,p,tbs,g.ok⟩
 obtain⟨cm,p,tbs,hok⟩:=hok;have hnx:=nx_do hok hx x;obtain⟨k,T,N,M,H,sd⟩:=x;simp only at hH hs;show Calls _ _ #[eP b,.agg #[.int .i64 k,.int .i64 T,.int .i64 N,.int .i64 M,.int .u64 H,.string sd]] w _;cases hrt:rightO k T sd with
 |false =>
  have e:s.do_ ⟨k,T,N,M,H,sd⟩=(⟨1,0,0,0,ByteArray.empty,0⟩,s):=by
   unfold AdS.do_;rw [if_neg (by simp only;rw [hrt];decide)]
  rw [e];refine(svDo_bad (N:=N) (M:=M) (H:=H) hv hr hs (by rw [hrt];decide)).mono ?_;rintro e w' ⟨rfl,O,h1,f⟩;exact⟨rfl,O,B,⟨ba,dv,n,_,0,h1,by omega,by omega,nx_mono hx⟩,f,fun _=>rfl⟩
 |true =>
  obtain⟨g1,g2,g3,g4,g5,g6⟩:=right_iff.1 hrt;obtain⟨i,rfl⟩:∃i:Nat,T=i:=⟨T.toNat,by omega⟩
  have hi:i<8:=by omega
  have hn2:n≤1000000:=by omega
  have hK2:K≤1000000:=by omega
  by_cases c1:k=1
  ·subst c1
   have e:s.do_ ⟨1,i,N,M,H,sd⟩=(⟨(s.create i M N).1,0,0,0,ByteArray.empty,(s.create i M N).2.chg i⟩,(s.create i M N).2):=by
    unfold AdS.do_;rw [if_pos hrt,if_pos rfl];simp only [Int.toNat_natCast]
   rw [e] at hnx ⊢;refine(svDo_create (M:=M) (N:=N) (H:=H) hi hv hr hs hn2 hrt hx hK2).mono ?_;rintro e w' ⟨rfl,O,B',dv',tv',h1,f⟩;exact⟨rfl,O,B',⟨ba,dv',n+1,tv',30000,h1,by omega,by omega,hnx⟩,f,fun q=>by cases q⟩
  by_cases c2:k=2
  ·subst c2
   have e:s.do_ ⟨2,i,N,M,H,sd⟩=(⟨(s.resize i M N).1,0,0,0,ByteArray.empty,(s.resize i M N).2.chg i⟩,(s.resize i M N).2):=by
    unfold AdS.do_;rw [if_pos hrt,if_neg (show ¬(2:Int)=1 by decide),if_pos rfl];simp only [Int.toNat_natCast]
   rw [e] at hnx ⊢;refine(svDo_resize (M:=M) (N:=N) (H:=H) hi hv hr hs hn2 hrt hx hK2).mono ?_;rintro e w' ⟨rfl,O,B',dv',tv',h1,f⟩;exact⟨rfl,O,B',⟨ba,dv',n+1,tv',30000,h1,by omega,by omega,hnx⟩,f,fun q=>by cases q⟩
  by_cases c3:k=3
  ·subst c3
   have e:s.do_ ⟨3,i,N,M,H,sd⟩=(⟨(s.destroy i).1,0,0,0,ByteArray.empty,(s.destroy i).2.chg i⟩,(s.destroy i).2):=by
    unfold AdS.do_;rw [if_pos hrt,if_neg (show ¬(3:Int)=1 by decide),if_neg (show ¬(3:Int)=2 by decide),if_pos rfl];simp only [Int.toNat_natCast]
   rw [e] at hnx ⊢;refine(svDo_destroy (M:=M) (N:=N) (H:=H) hi hv hr hs hn2 hrt hx hK2).mono ?_;rintro e w' ⟨rfl,O,B',dv',tv',h1,f⟩;exact⟨rfl,O,B',⟨ba,dv',n+1,tv',30000,h1,by omega,by omega,hnx⟩,f,fun q=>by cases q⟩
  cases ht:s.ts i with
  |none =>
   have e:s.do_ ⟨k,i,N,M,H,sd⟩=(⟨6,0,0,0,ByteArray.empty,0⟩,s):=by
    unfold AdS.do_;rw [if_pos hrt,if_neg c1,if_neg c2,if_neg c3];simp only [Int.toNat_natCast];rw [ht]
   rw [e] at hnx ⊢;refine(svDo_none (M:=M) (N:=N) (H:=H) hi hv hr hs hn2 hrt (by omega) ht).mono ?_;rintro e w' ⟨rfl,O,dv',h1,f⟩;exact⟨rfl,O,B,⟨ba,dv',n+1,_,0,h1,by omega,by omega,hnx⟩,f,fun _=>rfl⟩
  |some t =>
   have e:s.do_ ⟨k,i,N,M,H,sd⟩=({(t.ask ⟨k,i,N,M,H,sd⟩).1 with ch:=(t.ask ⟨k,i,N,M,H,sd⟩).2.cb},s.set i (t.ask ⟨k,i,N,M,H,sd⟩).2):=by
    unfold AdS.do_;rw [if_pos hrt,if_neg c1,if_neg c2,if_neg c3];simp only [Int.toNat_natCast];rw [ht]
   rw [e] at hnx ⊢;refine(svDo_ask (M:=M) (N:=N) (H:=H) hi hv hr hs hn2 hrt (by omega) hx hK2 hH ht).mono ?_;rintro e w' ⟨rfl,O,B',dv',tv',h1,f⟩;exact⟨rfl,O,B',⟨ba,dv',n+1,tv',30000,h1,by omega,by omega,hnx⟩,f,fun q=>by cases q⟩
end
end
section
open Go.RowKit Flt
def TpAt(w:World)(g:Nat)(rest:ByteArray)(sh:Bool):Prop:=w.heap[g]? = some (.cells #[.string rest,.bool sh] 93 (0,0))
def TpPost(w:World)(g:Nat)(w':World):Prop:=∃rest sh,TpAt w' g rest sh∧rest.size≤100000∧Only (· = g) w w'
section
variable{w w':World}{g:Nat}{rest:ByteArray}{sh:Bool}
theorem TpAt.blk(h:TpAt w g rest sh):Blk w (fun _=>[]) [] g #[.string rest,.bool sh] 93:=⟨rfl,h⟩
theorem TpAt.lt(h:TpAt w g rest sh):g<w.heap.size:=h.blk.lt
theorem TpPost.refl(h:TpAt w g rest sh)(hr:rest.size≤100000):TpPost w g w:=⟨rest,sh,h,hr,Only.refl _ _⟩
theorem ba_eq(x:ByteArray):baL x.data.toList=x:=by unfold baL;simp
set_option maxHeartbeats 1000000 in
theorem tpBytes(n:Nat)(h:TpAt w g rest sh)(hr:rest.size≤100000)(hn:1≤n∧n≤255) :
  Calls Tryz.prog 115 #[eP g,.int .i64 n] w fun e w'=>∃l:List UInt8,l.length=n∧e=.returned (.string (baL l))∧TpPost w g w':=by
 obtain⟨i0,hi,hz0,hz1,hz2⟩:=info_parts infoU8';have c0:w.cell? ⟨g,0,none⟩=some (.string rest):=h.blk.cell' (i:=0) rfl;have c1:w.cell? ⟨g,1,none⟩=some (.bool sh):=h.blk.cell' (i:=1) rfl;have f0:=h.blk.free 0;have f1:=h.blk.free 1;by_cases hc:rest.size<n
 ·have d0:decide (rest.size<n)=true:=decide_eq_true (by omega)
  have hmx:max (n:Int) 1=n:=by omega
  have hB:TpAt ((w.setCell ⟨g,0,none⟩ (.string ⟨#[]⟩)).setCell ⟨g,1,none⟩ (.bool true)) g ⟨#[]⟩ true:=((h.blk.set 0 (.string ⟨#[]⟩)).set 1 (.bool true)).2;have e1:(w.setCell ⟨g,0,none⟩ (.string ⟨#[]⟩)).cell? ⟨g,1,none⟩=some (.bool sh):=(h.blk.set 0 _).cell' (i:=1) rfl;have e2:(w.setCell ⟨g,0,none⟩ (.string ⟨#[]⟩)).frozen? ⟨g,1,none⟩=false:=(h.blk.set 0 _).free 1;have hO:Only (· = g) w ((w.setCell ⟨g,0,none⟩ (.string ⟨#[]⟩)).setCell ⟨g,1,none⟩ (.bool true)):=((Only.refl (fun k=>k=g) w).setCell (p:=⟨g,0,none⟩) (fun _=>rfl) _).setCell (p:=⟨g,1,none⟩) (fun _=>rfl) _;have hsz:((w.setCell ⟨g,0,none⟩ (.string ⟨#[]⟩)).setCell ⟨g,1,none⟩ (.bool true)).heap.size=w.heap.size:=by simp
  have hconv:=run_convert_bytes_back (P:=Tryz.prog) (((w.setCell ⟨g,0,none⟩ (.string ⟨#[]⟩)).setCell ⟨g,1,none⟩ (.bool true)).alloc (.cells (Array.replicate n (.int .u8 0)) 5)) 57 9 5 ⟨w.heap.size,0,none⟩ n (List.replicate n 0) Tryz.underlying57 Tryz.underlying5 Tryz.underlying9 (fun j hj=>by
   rw [add_pl,Nat.zero_add];have:=heap_alloc_new ((w.setCell ⟨g,0,none⟩ (.string ⟨#[]⟩)).setCell ⟨g,1,none⟩ (.bool true)) (.cells (Array.replicate n (.int .u8 0)) 5);rw [hsz] at this;rw [cell_of_row _ w.heap.size j _ _ _ this];rw [List.length_replicate] at hj;simp [hj])
  rw [List.length_replicate] at hconv;have hfin:Hid (TpPost w g (((w.setCell ⟨g,0,none⟩ (.string ⟨#[]⟩)).setCell ⟨g,1,none⟩ (.bool true)).alloc (.cells (Array.replicate n (.int .u8 0)) 5))):=HD ⟨⟨#[]⟩,true,(hB.blk.alloc _).2,by decide,hO.alloc _⟩;clear h hB hO hc;go_enter Tryz.func115,Tryz.ntmps115
  go_wp2_with (at_make;refine wpList_make_eq _ rfl _ _ 57 rfl 5 i0 (.int .u8 0) Tryz.underlying57 hi hz0 hz1 rfl _ _ _ _ n rfl rfl (by omega) (by omega) (by rw [hz2];omega) (by omega) ?_)
  go_wp2_with fail;go_ret
  exact⟨List.replicate n 0,by simp,rfl,hfin.out⟩
 ·have d0:decide (rest.size<n)=false:=decide_eq_false (by omega)
  have hnn:((n:Int)).toNat=n:=by omega
  have hle:(n:Int)≤rest.size:=by omega
  have hfin:Hid (TpPost w g (w.setCell ⟨g,0,none⟩ (.string (rest.extract n rest.size)))):=HD ⟨rest.extract n rest.size,sh,(h.blk.set 0 _).2,by rw [ByteArray.size_extract];omega,(Only.refl (fun k=>k=g) w).setCell (p:=⟨g,0,none⟩) (fun _=>rfl) _⟩;have hlen:(rest.extract 0 n).data.toList.length=n:=by
   rw [Array.length_toList];show (rest.extract 0 n).size=n;rw [ByteArray.size_extract];omega
  clear h hc;go_enter Tryz.func115,Tryz.ntmps115
  go_wp2_with fail;go_ret
  exact⟨(rest.extract 0 n).data.toList,hlen,by rw [ba_eq];rfl,hfin.out⟩
end
end
section
open Go.RowKit Flt
section
variable{w w' w2:World}{g:Nat}{rest:ByteArray}{sh:Bool}
theorem TpPost.trans(h:TpPost w g w')(k:TpPost w' g w2):TpPost w g w2:=by
 obtain⟨r1,s1,h1,h2,h3⟩:=h;obtain⟨r2,s2,k1,k2,k3⟩:=k;exact⟨r2,s2,k1,k2,h3.trans k3⟩
theorem wrap_i16(n:Int):-32768≤IntKind.i16.wrap n∧IntKind.i16.wrap n≤32767:=by
 have e:IntKind.i16.wrap n=(n+32768)%65536-32768:=by
  simp [IntKind.wrap,IntKind.bits,IntKind.signed]
  split<;>omega
 rw [e];omega
theorem wrap_num(n:Int):-32768≤IntKind.i64.wrap (IntKind.i16.wrap n)∧IntKind.i64.wrap (IntKind.i16.wrap n)≤32767:=by
 have h:=wrap_i16 n;rw [IntWalk.i64_in _ (by omega)];exact h
theorem TpPost.drew(h:TpPost w g w'):TpPost w g w'.drew:=by
 obtain⟨r1,s1,h1,h2,h3⟩:=h;exact⟨r1,s1,h1,h2,h3.drew⟩
theorem tpOne(h:TpAt w g rest sh)(hr:rest.size≤100000) :
  Calls Tryz.prog 72 #[eP g] w fun e w'=>∃v:Int,(0≤v∧v≤255)∧e=.returned (.int .i64 v)∧TpPost w g w':=by
 have hb:=HD (tpBytes 1 h hr (by omega));clear h hr;go_enter Tryz.func72,Tryz.ntmps72
 go_wp2_with fail;refine hb.out.mono ?_;rintro e w1 ⟨l,hl,rfl,p⟩;obtain⟨x,rfl⟩:∃x,l=[x]:=List.length_eq_one_iff.1 hl;have hs:(baL [x]).size=1:=rfl;have g0:∀h,(baL [x])[0]'h=x:=fun _=>rfl
 replace p:=HD p;have hx:x.toNat<256:=x.toNat_lt;have u1:=IntWalk.i64_in (x.toNat:Int) (by omega);clear hb hl;go_wp2_with fail;go_ret
 exact⟨(x.toNat:Int),⟨by omega,by omega⟩,rfl,p.out⟩
theorem tpText(h:TpAt w g rest sh)(hr:rest.size≤100000) :
  Calls Tryz.prog 75 #[eP g] w fun e w'=>∃d:ByteArray,d.size≤255∧e=.returned (.string d)∧TpPost w g w':=by
 have h1:=HD (tpOne h hr);have hb:=HD (fun w1 (p:TpPost w g w1) (n:Nat) (hn:1≤n∧n≤255)=>(show Calls Tryz.prog 115 #[eP g,.int .i64 n] w1 (fun e w'=>∃l:List UInt8,l.length=n∧e=.returned (.string (baL l))∧TpPost w g w') from by
  obtain⟨r1,s1,h1,h2,h3⟩:=p;refine(tpBytes n h1 h2 hn).mono ?_;rintro e w2 ⟨l,hl,rfl,k⟩;exact⟨l,hl,rfl,TpPost.trans ⟨r1,s1,h1,h2,h3⟩ k⟩))
 clear h hr;go_enter Tryz.func75,Tryz.ntmps75
 go_wp2_with fail;refine h1.out.mono ?_;rintro e w1 ⟨v,hv,rfl,p⟩;by_cases c:v=0
 ·subst c
  replace p:=HD p;clear h1 hb;go_wp2_with fail;go_ret
  exact⟨⟨#[]⟩,by decide,rfl,p.out⟩
 ·have d0:(v==0)=false:=by simpa using c
  obtain⟨n,rfl⟩:∃n:Nat,v=n:=⟨v.toNat,by omega⟩
  have hb2:=HD (hb.out w1 p n (by omega));have d0:((n:Int)==0)=false:=by simpa using c
  clear h1 hb p;go_wp2_with fail;refine hb2.out.mono ?_;rintro e w2 ⟨l,hl,rfl,k⟩;replace k:=HD k;have hsz:(baL l).size=n:=by unfold baL;show l.toArray.size=n;simpa using hl
  generalize baL l=d at *;clear hb2;go_wp2_with fail;go_ret
  exact⟨d,by omega,rfl,k.out⟩
theorem tpNum(h:TpAt w g rest sh)(hr:rest.size≤100000) :
  Calls Tryz.prog 74 #[eP g] w fun e w'=>∃v:Int,(-32768≤v∧v≤32767)∧e=.returned (.int .i64 v)∧TpPost w g w':=by
 have hb:=HD (tpBytes 2 h hr (by omega));clear h hr;go_enter Tryz.func74,Tryz.ntmps74
 go_wp2_with fail;refine hb.out.mono ?_;rintro e w1 ⟨l,hl,rfl,p⟩;obtain⟨x,y,rfl⟩:∃x y,l=[x,y]:=(match l,hl with|[x,y],_=>⟨x,y,rfl⟩)
 have hs:(baL [x,y]).size=2:=rfl;have g0:∀h,(baL [x,y])[0]'h=x:=fun _=>rfl
 have g1:∀h,(baL [x,y])[1]'h=y:=fun _=>rfl
 replace p:=HD p;have hx:x.toNat<256:=x.toNat_lt;have hy:y.toNat<256:=y.toNat_lt;have u1:=IntWalk.i64_in (x.toNat:Int) (by omega);clear hb hl;go_wp2_with fail;have ht:=trivial;refine wp_region_noPanic ?_;refine wp_region_held_drew (S:=(fun _=>True)) (by kernel_rfl) ?_ (fun hHeld=>?_)
 ·try exact trivial
 refine tkH 0 (h:=?_);refine tkH 1 (h:=?_);refine tkH 2 (h:=?_);refine tkH 3 (h:=?_);refine tkH 4 (h:=?_);refine tkH 5 (h:=?_);refine tkH 6 (h:=?_);refine tkH 7 (h:=?_);refine tkH 8 (h:=?_);refine tkH 9 (h:=?_);refine tkH 10 (h:=?_);refine wpAnyH_done (by kernel_rfl) ?_ _;refine NoPanic.normal ?_;go_wp2_with fail;go_ret
 exact⟨_,wrap_num _,rfl,p.out.drew⟩
end
end
section
open Go.RowKit Flt
structure StS where
 o:OpS
 bk:Int
abbrev stC(x:StS):Array Value:=#[.int .i64 x.o.K,.int .i64 x.o.T,.int .i64 x.o.N,.int .i64 x.o.M,.int .u64 x.o.H,.string x.o.s,.int .i64 x.bk]
def StAt(w:World)(p:Nat)(x:StS):Prop:=w.heap[p]? = some (.cells (stC x) 34 (0,0))
structure StRC(w:World)(g:Nat)(x:StS):Prop where
 k0:w.cell? ⟨g,0,none⟩=some (.int .i64 x.o.K)
 k1:w.cell? ⟨g,1,none⟩=some (.int .i64 x.o.T)
 k2:w.cell? ⟨g,2,none⟩=some (.int .i64 x.o.N)
 k3:w.cell? ⟨g,3,none⟩=some (.int .i64 x.o.M)
 k4:w.cell? ⟨g,4,none⟩=some (.int .u64 x.o.H)
 k5:w.cell? ⟨g,5,none⟩=some (.string x.o.s)
 k6:w.cell? ⟨g,6,none⟩=some (.int .i64 x.bk)
 f:∀i,w.frozen? ⟨g,i,none⟩=false
section
variable{w w' w2:World}{g p:Nat}{rest:ByteArray}{sh:Bool}{x:StS}
theorem StAt.blk(h:StAt w p x):Blk w (fun _=>[]) [] p (stC x) 34:=⟨rfl,h⟩
theorem StAt.lt(h:StAt w p x):p<w.heap.size:=h.blk.lt
theorem StAt.cells(h:StAt w p x):StRC w p x:=by
 have c:=fun i=>cell_of_row w p i (stC x) 34 (0,0) h
 exact⟨c 0,c 1,c 2,c 3,c 4,c 5,c 6,fun i=>h.blk.free i⟩
theorem StAt.only{bs:Nat→Prop}(h:StAt w p x)(f:Only bs w w')(hn:¬bs p):StAt w' p x:=(f.block p h.lt hn).trans h
theorem StAt.setBk(h:StAt w p x)(v:Int):StAt (w.setCell ⟨p,6,none⟩ (.int .i64 v)) p {x with bk:=v}:=(h.blk.set 6 _).2
theorem StAt.setH(h:StAt w p x)(v:Nat):StAt (w.setCell ⟨p,4,none⟩ (.int .u64 v)) p {x with o:={x.o with H:=v}}:=(h.blk.set 4 _).2
theorem shl8(x j:Nat)(hx:x<2^8)(hj:j<8):Op.shift BinOp.shl IntKind.u64 (IntKind.u64.wrap (x:Int)) IntKind.i64 (IntKind.i64.wrap (8*(j:Int)))=pure (.int .u64 (IntKind.u64.wrap ((x:Int)*2^(8*j)))):=by
 have e1:=IntWalk.u64_in (x:Int) (by omega);have e2:=IntWalk.i64_in (8*(j:Int)) (by omega);rw [e1,e2,shift_shl_any _ _ _ _ (by omega)];have:min (8*(j:Int)).toNat IntKind.u64.bits=8*j:=by
  have:IntKind.u64.bits=64:=rfl;omega
 rw [this]
theorem tpHandle(h:TpAt w g rest sh)(hr:rest.size≤100000)(hp:StAt w p x)(hne:p≠g)(h0:x.o.H=0) :
  Calls Tryz.prog 73 #[eP g,eP p] w fun e w'=>∃H bk,H<18446744073709551616∧(0≤bk∧bk≤254)∧e=.returned (.tuple #[])∧StAt w' p {o:={x.o with H:=H},bk:=bk}∧(∃rest sh,TpAt w' g rest sh∧rest.size≤100000)∧Only (fun k=>k=g∨k=p) w w':=by
 have h1:=HD (tpOne h hr);have hb:=HD (fun w1 rest sh (h1:TpAt w1 g rest sh) (h2:rest.size≤100000)=>tpBytes 8 h1 h2 (by omega));clear h hr;obtain⟨⟨K,T,N,M,H,D⟩,bk0⟩:=x;obtain rfl:H=0:=h0;go_enter Tryz.func73,Tryz.ntmps73
 go_wp2_with fail;refine h1.out.mono ?_;rintro e w1 ⟨v,hv,rfl,⟨r1,s1,a1,a2,a3⟩⟩;have hp1:=hp.only a3 (by omega);have k6:=hp1.cells.k6;have f6:=hp1.cells.f 6;simp only at k6;have q1:=HD (hp1.setBk v);have e6:=(hp1.setBk v).cells.k6;have g6:=(hp1.setBk v).cells.f 6;simp only at e6;have t1:=HD (show TpAt (w1.setCell ⟨p,6,none⟩ (.int .i64 v)) g r1 s1 from(a1.blk.set_ne (fun q=>hne q) _).2);have o1:=HD (show Only (fun k=>k=g∨k=p) w (w1.setCell ⟨p,6,none⟩ (.int .i64 v)) from(a3.mono (fun k _ q=>.inl q)).setCell (p:=⟨p,6,none⟩) (fun _=>.inr rfl) _);clear h1 a1 a3 hp1 hp;by_cases c:v<255
 ·have d:=decide_eq_true c
  go_wp2_with fail;exact bodyPost_ret (results_none (by kernel_rfl) _ _ _) rfl ⟨0,v,by decide,by omega,rfl,q1.out,⟨r1,s1,t1.out,a2⟩,o1.out⟩
 ·have d:=decide_eq_false c
  have q2:=(q1.out.setBk 0)
  have t2:TpAt ((w1.setCell ⟨p,6,none⟩ (.int .i64 v)).setCell ⟨p,6,none⟩ (.int .i64 0)) g r1 s1:=(t1.out.blk.set_ne (fun q=>hne q) _).2;have o2:Only (fun k=>k=g∨k=p) w ((w1.setCell ⟨p,6,none⟩ (.int .i64 v)).setCell ⟨p,6,none⟩ (.int .i64 0)):=o1.out.setCell (p:=⟨p,6,none⟩) (fun _=>.inr rfl) _;generalize hW:(w1.setCell ⟨p,6,none⟩ (.int .i64 v)).setCell ⟨p,6,none⟩ (.int .i64 0)=W at q2 t2 o2;have hb2:=HD (hb.out W r1 s1 t2 a2);have ht2:=t2.lt;replace q2:=HD q2;replace o2:=HD o2;clear q1 t1 o1 t2 hb;go_wp2_with fail;refine hb2.out.mono ?_;rintro e w2 ⟨l,hl,rfl,⟨r2,s2,b1,b2,b3⟩⟩;have q3:=q2.out.only b3 (by omega);have o3:=HD (o2.out.seq b3 (fun i _ q=>.inl q));have hsz:(baL l).size=8:=by unfold baL;show l.toArray.size=8;simpa using hl
  have hconv:=run_bytes_of_string (P:=Tryz.prog) w2 9 57 5 (baL l) Tryz.underlying9 Tryz.underlying57 Tryz.underlying5;have hrow:(w2.drew.alloc (.cells (bytesRow (baL l) (grownCap w2 (baL l).size 0 5)) 5 ((bytesRow (baL l) (grownCap w2 (baL l).size 0 5)).size,(bytesRow (baL l) (grownCap w2 (baL l).size 0 5)).size+1))).heap[w2.heap.size]? = some (.cells (bytesRow (baL l) (grownCap w2 (baL l).size 0 5)) 5 ((bytesRow (baL l) (grownCap w2 (baL l).size 0 5)).size,(bytesRow (baL l) (grownCap w2 (baL l).size 0 5)).size+1)):=heap_alloc_new _ _;have hcell:Hid (∀j,j<8→(w2.drew.alloc (.cells (bytesRow (baL l) (grownCap w2 (baL l).size 0 5)) 5 ((bytesRow (baL l) (grownCap w2 (baL l).size 0 5)).size,(bytesRow (baL l) (grownCap w2 (baL l).size 0 5)).size+1))).cell? ⟨w2.heap.size,j,none⟩=some (.int .u8 ((l.getD j 0).toNat:Int))):=HD (fun j hj=>by
   rw [cell_of_row _ _ j _ _ _ hrow,bytesRow_at _ _ j (by show j<(baL l).size;omega)];have:j<l.length:=by omega
   simp [baL,List.getD_eq_getElem?_getD,this])
  have q4:=HD (show StAt (w2.drew.alloc (.cells (bytesRow (baL l) (grownCap w2 (baL l).size 0 5)) 5 ((bytesRow (baL l) (grownCap w2 (baL l).size 0 5)).size,(bytesRow (baL l) (grownCap w2 (baL l).size 0 5)).size+1))) p ⟨⟨K,T,N,M,0,D⟩,0⟩ from(heap_alloc_old _ _ q3.lt).trans q3);have t4:=HD (show TpAt (w2.drew.alloc (.cells (bytesRow (baL l) (grownCap w2 (baL l).size 0 5)) 5 ((bytesRow (baL l) (grownCap w2 (baL l).size 0 5)).size,(bytesRow (baL l) (grownCap w2 (baL l).size 0 5)).size+1))) g r2 s2 from(heap_alloc_old _ _ b1.lt).trans b1);have o4:=HD (o3.out.drew.alloc (.cells (bytesRow (baL l) (grownCap w2 (baL l).size 0 5)) 5 ((bytesRow (baL l) (grownCap w2 (baL l).size 0 5)).size,(bytesRow (baL l) (grownCap w2 (baL l).size 0 5)).size+1)));have hpn:p≠w2.heap.size:=by have:=q3.lt;omega
  generalize hW4:w2.drew.alloc (.cells (bytesRow (baL l) (grownCap w2 (baL l).size 0 5)) 5 ((bytesRow (baL l) (grownCap w2 (baL l).size 0 5)).size,(bytesRow (baL l) (grownCap w2 (baL l).size 0 5)).size+1))=W4 at *;generalize hcp:grownCap w2 (baL l).size 0 5=cp at *;rw [hsz] at hconv;have hN:g<W4.heap.size∧p<W4.heap.size:=⟨t4.out.lt,q4.out.lt⟩
  generalize hn:w2.heap.size=nb at *;generalize baL l=ll at *;clear hW4 hcp hrow q3 o3 b1 b3 q2 o2 hb2 hW;go_wp2_with fail;go_loopg [23] 8 (fun gh i' wx=>∃j:Nat,j≤8∧gh=8-j∧i'=.int .i64 j∧StAt wx p ⟨⟨K,T,N,M,ldN l j,D⟩,0⟩∧Only (fun k=>k=p) W4 wx)
  case atStart=>exact⟨0,by omega,rfl,rfl,q4.out,Only.refl _ _⟩
  case round =>
   obtain⟨j,hj,rfl,rfl,hq,ho⟩:=hrel;by_cases hj8:j<8
   ·have d8:decide ((j:Int)<8)=true:=decide_eq_true (by omega)
    have hx:=ho.cell (hcell.out j hj8) (fun q=>hpn q.symm);have hlt:=ldN_lt l j;have hsucc:Hid (ldN l (j+1)=ldN l j+(l.getD j 0).toNat*2^(8*j)):=HD rfl;have hb:(l.getD j 0).toNat<2^8:=(l.getD j 0).toNat_lt;have k4:=hq.cells.k4;have f4:=hq.cells.f 4;simp only at k4;have hq2:=HD (hq.setH (ldN l (j+1)));have ho2:=HD (ho.setCell (p:=⟨p,4,none⟩) (fun _=>rfl) (.int .u64 (ldN l (j+1):Nat)));generalize (l.getD j 0).toNat=x at *;have h64:8*j≤56:=by omega
    have hjb:(j:Int)≤8:=by omega
    have hX:=or_word hlt hb hj8;rw [←hsucc.out] at hX;have hsh:=shl8 x j hb hj8;clear q4 t4 o4 hcell hq ho hconv;go_wp2_with fail;refine wp_region_noPanic ?_;refine wp_region_T (S:=(fun W'=>W'.cell? ⟨p,4,none⟩=some (.int .u64 (ldN l j:Nat)))) 14 (by kernel_rfl) ?_ (fun hHeld=>?_)
    ·exact k4
    refine tkY 0 (h:=?_);refine tkY 1 (h:=?_);refine tkY 2 (h:=?_);refine tkY 3 (h:=?_);refine tkT 4 (h:=?_);refine tkY 5 (h:=?_);refine tkY 6 (h:=?_);refine tkY 7 (h:=?_);refine tkY 8 (h:=?_);refine tkY 9 (h:=?_);refine tkY 10 (h:=?_);refine tkY 11 (h:=?_);refine tkY 12 (h:=?_);refine tkY 13 (h:=?_);refine laT (h:=fun K hK=>?_);go_simp;refine hK.out _ _ ?_;clear hK;refine NoPanic.normal ?_;go_wp2_with fail;go_roundg (8-(j+1))
    case measure=>omega
    case rel=>exact⟨j+1,by omega,rfl,by go_num,hq2.out,ho2.out.drew⟩
   ·obtain rfl:j=8:=by omega
    have hlt:=ldN_lt l 8;replace hq:=HD hq;replace ho:=HD ho;clear hconv hcell;go_wp2_with fail;exact bodyPost_end (results_none (by kernel_rfl) _ _ _) rfl ⟨ldN l 8,0,by omega,by omega,rfl,hq.out,⟨r2,s2,(ho.out.block g hN.1 (fun q=>hne q.symm)).trans t4.out,b2⟩,o4.out.seq ho.out (fun i _ q=>.inr q)⟩
end
end
section
open Go.RowKit Flt
def stpV(x:StS):Value:=.agg (stC x)
structure TpS(w0:World)(g p:Nat)(x:StS)(w:World):Prop where
 st:StAt w p x
 tp:∃rest sh,TpAt w g rest sh∧rest.size≤100000
 on:Only (fun k=>k=g) w0 w
structure StOk(x:StS):Prop where
 K:0≤x.o.K∧x.o.K≤15
 T:0≤x.o.T∧x.o.T≤255
 N:-32768≤x.o.N∧x.o.N≤32767
 M:-32768≤x.o.M∧x.o.M≤32767
 H:x.o.H<18446744073709551616
 s:x.o.s.size≤255
 bk:0≤x.bk∧x.bk≤254
section
variable{w0 w w':World}{g p:Nat}{x:StS}
theorem TpS.set(h:TpS w0 g p x w)(hp:w0.heap.size≤p)(hne:p≠g){i:Nat}{v:Value}{y:StS}(hy:(stC x).setIfInBounds i v=stC y):TpS w0 g p y (w.setCell ⟨p,i,none⟩ v):=by
 obtain⟨r,s,t1,t2⟩:=h.tp;refine⟨?_,⟨r,s,(t1.blk.set_ne hne _).2,t2⟩,h.on.setCell (p:=⟨p,i,none⟩) (fun q=>absurd q (by simp;omega)) _⟩;have:=(h.st.blk.set i v).2;rw [hy] at this;exact this
theorem TpS.tail(h:TpS w0 g p x w)(hp:w0.heap.size≤p)(hne:p≠g)(k:TpPost w g w'):TpS w0 g p x w':=by
 obtain⟨r,s,h1,h2,h3⟩:=k;exact⟨h.st.only h3 hne,⟨r,s,h1,h2⟩,h.on.trans h3⟩
theorem TpS.one(h:TpS w0 g p x w)(hp:w0.heap.size≤p)(hne:p≠g):Calls Tryz.prog 72 #[eP g] w fun e w'=>∃v:Int,(0≤v∧v≤255)∧e=.returned (.int .i64 v)∧TpS w0 g p x w':=by
 obtain⟨r,s,t1,t2⟩:=h.tp;refine(tpOne t1 t2).mono ?_;rintro e w1 ⟨v,hv,rfl,k⟩;exact⟨v,hv,rfl,h.tail hp hne k⟩
theorem TpS.num(h:TpS w0 g p x w)(hp:w0.heap.size≤p)(hne:p≠g):Calls Tryz.prog 74 #[eP g] w fun e w'=>∃v:Int,(-32768≤v∧v≤32767)∧e=.returned (.int .i64 v)∧TpS w0 g p x w':=by
 obtain⟨r,s,t1,t2⟩:=h.tp;refine(tpNum t1 t2).mono ?_;rintro e w1 ⟨v,hv,rfl,k⟩;exact⟨v,hv,rfl,h.tail hp hne k⟩
theorem TpS.text(h:TpS w0 g p x w)(hp:w0.heap.size≤p)(hne:p≠g):Calls Tryz.prog 75 #[eP g] w fun e w'=>∃d:ByteArray,d.size≤255∧e=.returned (.string d)∧TpS w0 g p x w':=by
 obtain⟨r,s,t1,t2⟩:=h.tp;refine(tpText t1 t2).mono ?_;rintro e w1 ⟨v,hv,rfl,k⟩;exact⟨v,hv,rfl,h.tail hp hne k⟩
theorem TpS.handle(h:TpS w0 g p x w)(hp:w0.heap.size≤p)(hne:p≠g)(h0:x.o.H=0):Calls Tryz.prog 73 #[eP g,eP p] w fun e w'=>∃H bk,H<18446744073709551616∧(0≤bk∧bk≤254)∧e=.returned (.tuple #[])∧TpS w0 g p {o:={x.o with H:=H},bk:=bk} w':=by
 obtain⟨r,s,t1,t2⟩:=h.tp;refine(tpHandle t1 t2 h.st hne h0).mono ?_;rintro e w1 ⟨H,bk,h1,h2,rfl,h3,h4,h5⟩;refine⟨H,bk,h1,h2,rfl,h3,h4,h.on.seq h5 (fun i hi q=>q.resolve_right (by omega))⟩
abbrev sto7(w:World)(p:Nat)(y:StS):World:=(((((((w.setCell ⟨p,0,none⟩ (.int .i64 y.o.K)).setCell ⟨p,1,none⟩ (.int .i64 y.o.T)).setCell ⟨p,2,none⟩ (.int .i64 y.o.N)).setCell ⟨p,3,none⟩ (.int .i64 y.o.M)).setCell ⟨p,4,none⟩ (.int .u64 y.o.H)).setCell ⟨p,5,none⟩ (.string y.o.s)).setCell ⟨p,6,none⟩ (.int .i64 y.bk))
theorem StAt.set1(h:StAt w p x){i:Nat}{v:Value}{y:StS}(hy:(stC x).setIfInBounds i v=stC y):StAt (w.setCell ⟨p,i,none⟩ v) p y:=by
 have:=(h.blk.set i v).2;rw [hy] at this;exact this
theorem StAt.store(h:StAt w p x)(y:StS):StAt (sto7 w p y) p y :=
 ((((((h.set1 (i:=0) (v:=.int .i64 y.o.K) (y:=⟨⟨y.o.K,x.o.T,x.o.N,x.o.M,x.o.H,x.o.s⟩,x.bk⟩) rfl).set1 (i:=1) (v:=.int .i64 y.o.T) (y:=⟨⟨y.o.K,y.o.T,x.o.N,x.o.M,x.o.H,x.o.s⟩,x.bk⟩) rfl).set1 (i:=2) (v:=.int .i64 y.o.N) (y:=⟨⟨y.o.K,y.o.T,y.o.N,x.o.M,x.o.H,x.o.s⟩,x.bk⟩) rfl).set1 (i:=3) (v:=.int .i64 y.o.M) (y:=⟨⟨y.o.K,y.o.T,y.o.N,y.o.M,x.o.H,x.o.s⟩,x.bk⟩) rfl).set1 (i:=4) (v:=.int .u64 y.o.H) (y:=⟨⟨y.o.K,y.o.T,y.o.N,y.o.M,y.o.H,x.o.s⟩,x.bk⟩) rfl).set1 (i:=5) (v:=.string y.o.s) (y:=⟨⟨y.o.K,y.o.T,y.o.N,y.o.M,y.o.H,y.o.s⟩,x.bk⟩) rfl).set1 (i:=6) (v:=.int .i64 y.bk) (y:=y) rfl
theorem TpS.store(h:TpS w0 g p x w)(hp:w0.heap.size≤p)(hne:p≠g)(y:StS):TpS w0 g p y (sto7 w p y) :=
 ((((((h.set hp hne (i:=0) (v:=.int .i64 y.o.K) (y:=⟨⟨y.o.K,x.o.T,x.o.N,x.o.M,x.o.H,x.o.s⟩,x.bk⟩) rfl).set hp hne (i:=1) (v:=.int .i64 y.o.T) (y:=⟨⟨y.o.K,y.o.T,x.o.N,x.o.M,x.o.H,x.o.s⟩,x.bk⟩) rfl).set hp hne (i:=2) (v:=.int .i64 y.o.N) (y:=⟨⟨y.o.K,y.o.T,y.o.N,x.o.M,x.o.H,x.o.s⟩,x.bk⟩) rfl).set hp hne (i:=3) (v:=.int .i64 y.o.M) (y:=⟨⟨y.o.K,y.o.T,y.o.N,y.o.M,x.o.H,x.o.s⟩,x.bk⟩) rfl).set hp hne (i:=4) (v:=.int .u64 y.o.H) (y:=⟨⟨y.o.K,y.o.T,y.o.N,y.o.M,y.o.H,x.o.s⟩,x.bk⟩) rfl).set hp hne (i:=5) (v:=.string y.o.s) (y:=⟨⟨y.o.K,y.o.T,y.o.N,y.o.M,y.o.H,y.o.s⟩,x.bk⟩) rfl).set hp hne (i:=6) (v:=.int .i64 y.bk) (y:=y) rfl
theorem TpS.post(h:TpS w0 g p x w):TpPost w0 g w:=by
 obtain⟨r,s,t1,t2⟩:=h.tp;exact⟨r,s,t1,t2,h.on⟩
structure StK(w:World)(g:Nat)(K T N M:Int)(H:Nat)(s:ByteArray)(bk:Int):Prop where
 k0:w.cell? ⟨g,0,none⟩=some (.int .i64 K)
 k1:w.cell? ⟨g,1,none⟩=some (.int .i64 T)
 k2:w.cell? ⟨g,2,none⟩=some (.int .i64 N)
 k3:w.cell? ⟨g,3,none⟩=some (.int .i64 M)
 k4:w.cell? ⟨g,4,none⟩=some (.int .u64 H)
 k5:w.cell? ⟨g,5,none⟩=some (.string s)
 k6:w.cell? ⟨g,6,none⟩=some (.int .i64 bk)
 f0:w.frozen? ⟨g,0,none⟩=false
 f1:w.frozen? ⟨g,1,none⟩=false
 f2:w.frozen? ⟨g,2,none⟩=false
 f3:w.frozen? ⟨g,3,none⟩=false
 f4:w.frozen? ⟨g,4,none⟩=false
 f5:w.frozen? ⟨g,5,none⟩=false
 f6:w.frozen? ⟨g,6,none⟩=false
theorem StAt.k{K T N M:Int}{H:Nat}{s:ByteArray}{bk:Int}(h:StAt w p ⟨⟨K,T,N,M,H,s⟩,bk⟩):StK w p K T N M H s bk:=by
 obtain⟨k0,k1,k2,k3,k4,k5,k6,ff⟩:=h.cells;exact⟨k0,k1,k2,k3,k4,k5,k6,ff 0,ff 1,ff 2,ff 3,ff 4,ff 5,ff 6⟩
end
section
variable{w:World}{g:Nat}{rest:ByteArray}{sh:Bool}
def st0:StS:=⟨⟨0,0,0,0,0,⟨#[]⟩⟩,0⟩
theorem step_results{fn:Func}(h:fn.results=#[.cell 2 34,.tmp 3])(tmps:Array Value)(w:World){p:Nat}{x:StS}{v:Value}(ht:tmps.getD 2 undef=eP p)(hv:tmps.getD 3 undef=v)(hb:StAt w p x):(results fn tmps).run Tryz.prog w=.ok (.tuple #[stpV x,v]) w:=by
 obtain⟨k0,k1,k2,k3,k4,k5,k6,ff⟩:=hb.cells;rw [results_cell_tmp h,ht,hv];unfold stpV stC;go_simp
def StPost(w:World)(g:Nat)(e:Ending)(w':World):Prop:=∃x ok,StOk x∧e=.returned (.tuple #[stpV x,.bool ok])∧TpPost w g w'
theorem tpStep_none(h:TpAt w g ⟨#[]⟩ sh) :
  Calls Tryz.prog 43 #[eP g] w fun e w'=>e=.returned (.tuple #[stpV st0,.bool false])∧TpPost w g w':=by
 have hlt:=h.lt;have c0:(w.alloc (.cells #[.int .i64 0,.int .i64 0,.int .i64 0,.int .i64 0,.int .u64 0,.string ⟨#[]⟩,.int .i64 0] 34)).cell? ⟨g,0,none⟩=some (.string ⟨#[]⟩):=(h.blk.alloc _).cell' (i:=0) rfl;have hS:StAt (w.alloc (.cells #[.int .i64 0,.int .i64 0,.int .i64 0,.int .i64 0,.int .u64 0,.string ⟨#[]⟩,.int .i64 0] 34)) w.heap.size st0:=heap_alloc_new w _;have hT:TpS w g w.heap.size st0 (w.alloc (.cells #[.int .i64 0,.int .i64 0,.int .i64 0,.int .i64 0,.int .u64 0,.string ⟨#[]⟩,.int .i64 0] 34)):=⟨hS,⟨_,_,(h.blk.alloc _).2,by decide⟩,(Only.refl _ _).alloc _⟩
 replace hT:=HD (hT.store (Nat.le_refl _) (by omega) st0);have hS2:=HD (hS.store st0);obtain⟨k0,k1,k2,k3,k4,k5,k6,f0,f1,f2,f3,f4,f5,f6⟩:=hS.k;clear h hS;go_enter Tryz.func43,Tryz.ntmps43
 go_wp2_with fail;generalize w.alloc (.cells #[.int .i64 0,.int .i64 0,.int .i64 0,.int .i64 0,.int .u64 0,.string ⟨#[]⟩,.int .i64 0] 34)=W at *;generalize w.heap.size=n at *;refine wp_scope_jumps 0 (fun a' w'=>w'=W∧∃fv:Nat→Value,a'={tmps:=#[eP g,fv 1,eP n,.bool false,fv 4,fv 5,fv 6,fv 7,fv 8,fv 9,fv 10,fv 11,fv 12,fv 13,fv 14,fv 15,fv 16,fv 17,fv 18,fv 19,fv 20,fv 21,fv 22,fv 23,fv 24,fv 25,fv 26,fv 27,fv 28,fv 29,fv 30,fv 31,fv 32,fv 33,fv 34,fv 35,fv 36,fv 37,fv 38,fv 39,fv 40,fv 41,fv 42,fv 43,fv 44,fv 45,fv 46,fv 47,fv 48,fv 49,fv 50,fv 51,fv 52,fv 53,fv 54,fv 55,fv 56,fv 57,fv 58,fv 59,fv 60,fv 61,fv 62,fv 63,fv 64,fv 65,fv 66,fv 67,fv 68,fv 69,fv 70],defers:=[]}) (fun _ _=>0) rfl ?_ ?_
 ·go_wp2_with fail
  go_step3
  exact⟨rfl,rfl,fun k=>List.getD [undef,_,undef,undef,_,_,_,_,_,_,_,_,_,_,_,_,_,_,_,_,_,_,_,_,_,_,_,_,_,_,_,_,_,_,_,_,_,_,_,_,_,_,_,_,_,_,_,_,_,_,_,_,_,_,_,_,_,_,_,_,_,_,_,_,_,_,_,_,_,_,_] k undef,rfl⟩
 ·rintro a' w' ⟨rfl,fv,rfl⟩
  go_wp2_with fail;simp only [Exit.jump];refine bodyPost_ret (v:=.tuple #[stpV st0,.bool false]) ?_ rfl ⟨rfl,hT.out.post⟩;exact step_results (by kernel_rfl) _ _ rfl rfl hS2.out
end
end
section
open Go.RowKit Flt
section
variable{w:World}{g:Nat}{rest:ByteArray}{sh:Bool}
set_option maxHeartbeats 4000000 in
theorem tpStep_some(h:TpAt w g rest sh)(hr:rest.size≤100000)(h0:rest≠⟨#[]⟩) :
  Calls Tryz.prog 43 #[eP g] w (StPost w g):=by
 have hlt:=h.lt;have d0:rest.toList.isEmpty=false:=by
  rw [←decide_eq_emptyBytes];exact decide_eq_false h0
 have c0:(w.alloc (.cells #[.int .i64 0,.int .i64 0,.int .i64 0,.int .i64 0,.int .u64 0,.string ⟨#[]⟩,.int .i64 0] 34)).cell? ⟨g,0,none⟩=some (.string rest):=(h.blk.alloc _).cell' (i:=0) rfl;have hS:StAt (w.alloc (.cells #[.int .i64 0,.int .i64 0,.int .i64 0,.int .i64 0,.int .u64 0,.string ⟨#[]⟩,.int .i64 0] 34)) w.heap.size st0:=heap_alloc_new w _;have hT:TpS w g w.heap.size st0 (w.alloc (.cells #[.int .i64 0,.int .i64 0,.int .i64 0,.int .i64 0,.int .u64 0,.string ⟨#[]⟩,.int .i64 0] 34)):=⟨hS,⟨_,_,(h.blk.alloc _).2,hr⟩,(Only.refl _ _).alloc _⟩
 have hn:w.heap.size≤w.heap.size:=Nat.le_refl _;have hne:w.heap.size≠g:=by omega
 have h1:=HD (hT.one hn hne);clear h hS hT hr h0;go_enter Tryz.func43,Tryz.ntmps43
 go_wp2_with fail;generalize w.alloc (.cells #[.int .i64 0,.int .i64 0,.int .i64 0,.int .i64 0,.int .u64 0,.string ⟨#[]⟩,.int .i64 0] 34)=W at *;generalize hnn:w.heap.size=n at hne hlt c0 h1 ⊢;replace hn:w.heap.size≤n:=by omega
 clear hnn;go_step3
 go_wp2_with fail;refine h1.out.mono ?_;rintro e w1 ⟨v,hv,rfl,t1⟩;obtain⟨K,hK,hKr⟩:∃K,v.tmod 16=K∧0≤K∧K≤15:=⟨v.tmod 16,rfl,by rw [Int.tmod_eq_emod_of_nonneg hv.1];omega,by rw [Int.tmod_eq_emod_of_nonneg hv.1];omega⟩
 have t2:=t1.set hn hne (i:=0) (v:=.int .i64 K) (y:=⟨⟨K,0,0,0,0,⟨#[]⟩⟩,0⟩) rfl;obtain⟨k0,k1,k2,k3,k4,k5,k6,f0,f1,f2,f3,f4,f5,f6⟩:=t1.st.k;have h2:=HD (t2.one hn hne);clear h1 t1 t2 c0 d0;go_wp2_with fail;refine h2.out.mono ?_;rintro e w2 ⟨T,hT,rfl,t3⟩;clear k0 k1 k2 k3 k4 k5 k6 f0 f1 f2 f3 f4 f5 f6 h2 hv hK;have s3:=t3.set hn hne (i:=1) (v:=.int .i64 T) (y:=⟨⟨K,T,0,0,0,⟨#[]⟩⟩,0⟩) rfl;obtain⟨k0,k1,k2,k3,k4,k5,k6,f0,f1,f2,f3,f4,f5,f6⟩:=t3.st.k;clear t3;rcases(by omega:K=0∨K=1∨K=2∨K=3∨K=4∨K=5∨K=6∨K=7∨K=8∨K=9∨K=10∨K=11∨K=12∨K=13∨K=14∨K=15) with rfl|rfl|rfl|rfl|rfl|rfl|rfl|rfl|rfl|rfl|rfl|rfl|rfl|rfl|rfl|rfl
 ·have hdone:=trivial
  obtain⟨r,sh,t1,t2⟩:=s3.tp;have c1:=t1.blk.cell' (i:=1) (v:=.bool sh) rfl;clear t1 t2;cases sh
  ·have z:=HD (s3.store hn hne ⟨⟨0,T,0,0,0,⟨#[]⟩⟩,0⟩)
   clear s3;go_wp2_with fail;refine bodyPost_ret (v:=.tuple #[stpV ⟨⟨0,T,0,0,0,⟨#[]⟩⟩,0⟩,.bool true]) ?_ rfl ⟨⟨⟨0,T,0,0,0,⟨#[]⟩⟩,0⟩,true,⟨(by show (0:Int)≤0∧(0:Int)≤15;decide),hT,(by show (-32768:Int)≤0∧(0:Int)≤32767;decide),(by show (-32768:Int)≤0∧(0:Int)≤32767;decide),(by show (0:Nat)<18446744073709551616;decide),Nat.zero_le _,(by show (0:Int)≤0∧(0:Int)≤254;decide)⟩,rfl,z.out.post⟩;exact step_results (by kernel_rfl) _ _ rfl rfl z.out.st
  ·have z:=HD (s3.store hn hne ⟨⟨0,0,0,0,0,⟨#[]⟩⟩,0⟩)
   clear s3;go_wp2_with fail;go_step3
   go_wp2_with fail;rw [Exit.noGoto_ret];refine bodyPost_ret (v:=.tuple #[stpV ⟨⟨0,0,0,0,0,⟨#[]⟩⟩,0⟩,.bool false]) ?_ rfl ⟨⟨⟨0,0,0,0,0,⟨#[]⟩⟩,0⟩,false,⟨(by show (0:Int)≤0∧(0:Int)≤15;decide),(by show (0:Int)≤0∧(0:Int)≤255;decide),(by show (-32768:Int)≤0∧(0:Int)≤32767;decide),(by show (-32768:Int)≤0∧(0:Int)≤32767;decide),(by show (0:Nat)<18446744073709551616;decide),Nat.zero_le _,(by show (0:Int)≤0∧(0:Int)≤254;decide)⟩,rfl,z.out.post⟩;exact step_results (by kernel_rfl) _ _ rfl rfl z.out.st
 ·have hdone:=trivial
  have hh:=HD (s3.num hn hne);clear s3;go_wp2_with fail;refine hh.out.mono ?_;rintro e w3 ⟨N,hN,rfl,s5⟩;clear k0 k1 k2 k3 k4 k5 k6 f0 f1 f2 f3 f4 f5 f6 hh;obtain⟨k0,k1,k2,k3,k4,k5,k6,f0,f1,f2,f3,f4,f5,f6⟩:=s5.st.k;have hh:=HD (s5.num hn hne);clear s5;go_wp2_with fail;refine hh.out.mono ?_;rintro e w3 ⟨M,hM,rfl,s6⟩;clear k0 k1 k2 k3 k4 k5 k6 f0 f1 f2 f3 f4 f5 f6 hh;obtain⟨k0,k1,k2,k3,k4,k5,k6,f0,f1,f2,f3,f4,f5,f6⟩:=s6.st.k;have s7:=s6.set hn hne (i:=2) (v:=.int .i64 N) (y:=⟨⟨1,T,N,0,0,⟨#[]⟩⟩,0⟩) rfl;replace s7:=s7.set hn hne (i:=3) (v:=.int .i64 M) (y:=⟨⟨1,T,N,M,0,⟨#[]⟩⟩,0⟩) rfl;clear s6;obtain⟨r,sh,t1,t2⟩:=s7.tp;have c1:=t1.blk.cell' (i:=1) (v:=.bool sh) rfl;clear t1 t2;cases sh
  ·have z:=HD (s7.store hn hne ⟨⟨1,T,N,M,0,⟨#[]⟩⟩,0⟩)
   clear s7;go_wp2_with fail;refine bodyPost_ret (v:=.tuple #[stpV ⟨⟨1,T,N,M,0,⟨#[]⟩⟩,0⟩,.bool true]) ?_ rfl ⟨⟨⟨1,T,N,M,0,⟨#[]⟩⟩,0⟩,true,⟨(by show (0:Int)≤1∧(1:Int)≤15;decide),hT,hN,hM,(by show (0:Nat)<18446744073709551616;decide),Nat.zero_le _,(by show (0:Int)≤0∧(0:Int)≤254;decide)⟩,rfl,z.out.post⟩;exact step_results (by kernel_rfl) _ _ rfl rfl z.out.st
  ·have z:=HD (s7.store hn hne ⟨⟨0,0,0,0,0,⟨#[]⟩⟩,0⟩)
   clear s7;go_wp2_with fail;go_step3
   go_wp2_with fail;rw [Exit.noGoto_ret];refine bodyPost_ret (v:=.tuple #[stpV ⟨⟨0,0,0,0,0,⟨#[]⟩⟩,0⟩,.bool false]) ?_ rfl ⟨⟨⟨0,0,0,0,0,⟨#[]⟩⟩,0⟩,false,⟨(by show (0:Int)≤0∧(0:Int)≤15;decide),(by show (0:Int)≤0∧(0:Int)≤255;decide),(by show (-32768:Int)≤0∧(0:Int)≤32767;decide),(by show (-32768:Int)≤0∧(0:Int)≤32767;decide),(by show (0:Nat)<18446744073709551616;decide),Nat.zero_le _,(by show (0:Int)≤0∧(0:Int)≤254;decide)⟩,rfl,z.out.post⟩;exact step_results (by kernel_rfl) _ _ rfl rfl z.out.st
 ·have hdone:=trivial
  have hh:=HD (s3.num hn hne);clear s3;go_wp2_with fail;refine hh.out.mono ?_;rintro e w3 ⟨N,hN,rfl,s5⟩;clear k0 k1 k2 k3 k4 k5 k6 f0 f1 f2 f3 f4 f5 f6 hh;obtain⟨k0,k1,k2,k3,k4,k5,k6,f0,f1,f2,f3,f4,f5,f6⟩:=s5.st.k;have hh:=HD (s5.num hn hne);clear s5;go_wp2_with fail;refine hh.out.mono ?_;rintro e w3 ⟨M,hM,rfl,s6⟩;clear k0 k1 k2 k3 k4 k5 k6 f0 f1 f2 f3 f4 f5 f6 hh;obtain⟨k0,k1,k2,k3,k4,k5,k6,f0,f1,f2,f3,f4,f5,f6⟩:=s6.st.k;have s7:=s6.set hn hne (i:=2) (v:=.int .i64 N) (y:=⟨⟨2,T,N,0,0,⟨#[]⟩⟩,0⟩) rfl;replace s7:=s7.set hn hne (i:=3) (v:=.int .i64 M) (y:=⟨⟨2,T,N,M,0,⟨#[]⟩⟩,0⟩) rfl;clear s6;obtain⟨r,sh,t1,t2⟩:=s7.tp;have c1:=t1.blk.cell' (i:=1) (v:=.bool sh) rfl;clear t1 t2;cases sh
  ·have z:=HD (s7.store hn hne ⟨⟨2,T,N,M,0,⟨#[]⟩⟩,0⟩)
   clear s7;go_wp2_with fail;refine bodyPost_ret (v:=.tuple #[stpV ⟨⟨2,T,N,M,0,⟨#[]⟩⟩,0⟩,.bool true]) ?_ rfl ⟨⟨⟨2,T,N,M,0,⟨#[]⟩⟩,0⟩,true,⟨(by show (0:Int)≤2∧(2:Int)≤15;decide),hT,hN,hM,(by show (0:Nat)<18446744073709551616;decide),Nat.zero_le _,(by show (0:Int)≤0∧(0:Int)≤254;decide)⟩,rfl,z.out.post⟩;exact step_results (by kernel_rfl) _ _ rfl rfl z.out.st
  ·have z:=HD (s7.store hn hne ⟨⟨0,0,0,0,0,⟨#[]⟩⟩,0⟩)
   clear s7;go_wp2_with fail;go_step3
   go_wp2_with fail;rw [Exit.noGoto_ret];refine bodyPost_ret (v:=.tuple #[stpV ⟨⟨0,0,0,0,0,⟨#[]⟩⟩,0⟩,.bool false]) ?_ rfl ⟨⟨⟨0,0,0,0,0,⟨#[]⟩⟩,0⟩,false,⟨(by show (0:Int)≤0∧(0:Int)≤15;decide),(by show (0:Int)≤0∧(0:Int)≤255;decide),(by show (-32768:Int)≤0∧(0:Int)≤32767;decide),(by show (-32768:Int)≤0∧(0:Int)≤32767;decide),(by show (0:Nat)<18446744073709551616;decide),Nat.zero_le _,(by show (0:Int)≤0∧(0:Int)≤254;decide)⟩,rfl,z.out.post⟩;exact step_results (by kernel_rfl) _ _ rfl rfl z.out.st
 ·have hdone:=trivial
  obtain⟨r,sh,t1,t2⟩:=s3.tp;have c1:=t1.blk.cell' (i:=1) (v:=.bool sh) rfl;clear t1 t2;cases sh
  ·have z:=HD (s3.store hn hne ⟨⟨3,T,0,0,0,⟨#[]⟩⟩,0⟩)
   clear s3;go_wp2_with fail;refine bodyPost_ret (v:=.tuple #[stpV ⟨⟨3,T,0,0,0,⟨#[]⟩⟩,0⟩,.bool true]) ?_ rfl ⟨⟨⟨3,T,0,0,0,⟨#[]⟩⟩,0⟩,true,⟨(by show (0:Int)≤3∧(3:Int)≤15;decide),hT,(by show (-32768:Int)≤0∧(0:Int)≤32767;decide),(by show (-32768:Int)≤0∧(0:Int)≤32767;decide),(by show (0:Nat)<18446744073709551616;decide),Nat.zero_le _,(by show (0:Int)≤0∧(0:Int)≤254;decide)⟩,rfl,z.out.post⟩;exact step_results (by kernel_rfl) _ _ rfl rfl z.out.st
  ·have z:=HD (s3.store hn hne ⟨⟨0,0,0,0,0,⟨#[]⟩⟩,0⟩)
   clear s3;go_wp2_with fail;go_step3
   go_wp2_with fail;rw [Exit.noGoto_ret];refine bodyPost_ret (v:=.tuple #[stpV ⟨⟨0,0,0,0,0,⟨#[]⟩⟩,0⟩,.bool false]) ?_ rfl ⟨⟨⟨0,0,0,0,0,⟨#[]⟩⟩,0⟩,false,⟨(by show (0:Int)≤0∧(0:Int)≤15;decide),(by show (0:Int)≤0∧(0:Int)≤255;decide),(by show (-32768:Int)≤0∧(0:Int)≤32767;decide),(by show (-32768:Int)≤0∧(0:Int)≤32767;decide),(by show (0:Nat)<18446744073709551616;decide),Nat.zero_le _,(by show (0:Int)≤0∧(0:Int)≤254;decide)⟩,rfl,z.out.post⟩;exact step_results (by kernel_rfl) _ _ rfl rfl z.out.st
 ·have hdone:=trivial
  have hh:=HD (s3.num hn hne);clear s3;go_wp2_with fail;refine hh.out.mono ?_;rintro e w3 ⟨N,hN,rfl,s5⟩;clear k0 k1 k2 k3 k4 k5 k6 f0 f1 f2 f3 f4 f5 f6 hh;obtain⟨k0,k1,k2,k3,k4,k5,k6,f0,f1,f2,f3,f4,f5,f6⟩:=s5.st.k;have s7:=s5.set hn hne (i:=2) (v:=.int .i64 N) (y:=⟨⟨4,T,N,0,0,⟨#[]⟩⟩,0⟩) rfl;clear s5;obtain⟨r,sh,t1,t2⟩:=s7.tp;have c1:=t1.blk.cell' (i:=1) (v:=.bool sh) rfl;clear t1 t2;cases sh
  ·have z:=HD (s7.store hn hne ⟨⟨4,T,N,0,0,⟨#[]⟩⟩,0⟩)
   clear s7;go_wp2_with fail;refine bodyPost_ret (v:=.tuple #[stpV ⟨⟨4,T,N,0,0,⟨#[]⟩⟩,0⟩,.bool true]) ?_ rfl ⟨⟨⟨4,T,N,0,0,⟨#[]⟩⟩,0⟩,true,⟨(by show (0:Int)≤4∧(4:Int)≤15;decide),hT,hN,(by show (-32768:Int)≤0∧(0:Int)≤32767;decide),(by show (0:Nat)<18446744073709551616;decide),Nat.zero_le _,(by show (0:Int)≤0∧(0:Int)≤254;decide)⟩,rfl,z.out.post⟩;exact step_results (by kernel_rfl) _ _ rfl rfl z.out.st
  ·have z:=HD (s7.store hn hne ⟨⟨0,0,0,0,0,⟨#[]⟩⟩,0⟩)
   clear s7;go_wp2_with fail;go_step3
   go_wp2_with fail;rw [Exit.noGoto_ret];refine bodyPost_ret (v:=.tuple #[stpV ⟨⟨0,0,0,0,0,⟨#[]⟩⟩,0⟩,.bool false]) ?_ rfl ⟨⟨⟨0,0,0,0,0,⟨#[]⟩⟩,0⟩,false,⟨(by show (0:Int)≤0∧(0:Int)≤15;decide),(by show (0:Int)≤0∧(0:Int)≤255;decide),(by show (-32768:Int)≤0∧(0:Int)≤32767;decide),(by show (-32768:Int)≤0∧(0:Int)≤32767;decide),(by show (0:Nat)<18446744073709551616;decide),Nat.zero_le _,(by show (0:Int)≤0∧(0:Int)≤254;decide)⟩,rfl,z.out.post⟩;exact step_results (by kernel_rfl) _ _ rfl rfl z.out.st
 ·have hdone:=trivial
  have hh:=HD (s3.num hn hne);clear s3;go_wp2_with fail;refine hh.out.mono ?_;rintro e w3 ⟨N,hN,rfl,s5⟩;clear k0 k1 k2 k3 k4 k5 k6 f0 f1 f2 f3 f4 f5 f6 hh;obtain⟨k0,k1,k2,k3,k4,k5,k6,f0,f1,f2,f3,f4,f5,f6⟩:=s5.st.k;have hh:=HD (s5.num hn hne);clear s5;go_wp2_with fail;refine hh.out.mono ?_;rintro e w3 ⟨M,hM,rfl,s6⟩;clear k0 k1 k2 k3 k4 k5 k6 f0 f1 f2 f3 f4 f5 f6 hh;obtain⟨k0,k1,k2,k3,k4,k5,k6,f0,f1,f2,f3,f4,f5,f6⟩:=s6.st.k;have s7:=s6.set hn hne (i:=2) (v:=.int .i64 N) (y:=⟨⟨5,T,N,0,0,⟨#[]⟩⟩,0⟩) rfl;replace s7:=s7.set hn hne (i:=3) (v:=.int .i64 M) (y:=⟨⟨5,T,N,M,0,⟨#[]⟩⟩,0⟩) rfl;clear s6;obtain⟨r,sh,t1,t2⟩:=s7.tp;have c1:=t1.blk.cell' (i:=1) (v:=.bool sh) rfl;clear t1 t2;cases sh
  ·have z:=HD (s7.store hn hne ⟨⟨5,T,N,M,0,⟨#[]⟩⟩,0⟩)
   clear s7;go_wp2_with fail;refine bodyPost_ret (v:=.tuple #[stpV ⟨⟨5,T,N,M,0,⟨#[]⟩⟩,0⟩,.bool true]) ?_ rfl ⟨⟨⟨5,T,N,M,0,⟨#[]⟩⟩,0⟩,true,⟨(by show (0:Int)≤5∧(5:Int)≤15;decide),hT,hN,hM,(by show (0:Nat)<18446744073709551616;decide),Nat.zero_le _,(by show (0:Int)≤0∧(0:Int)≤254;decide)⟩,rfl,z.out.post⟩;exact step_results (by kernel_rfl) _ _ rfl rfl z.out.st
  ·have z:=HD (s7.store hn hne ⟨⟨0,0,0,0,0,⟨#[]⟩⟩,0⟩)
   clear s7;go_wp2_with fail;go_step3
   go_wp2_with fail;rw [Exit.noGoto_ret];refine bodyPost_ret (v:=.tuple #[stpV ⟨⟨0,0,0,0,0,⟨#[]⟩⟩,0⟩,.bool false]) ?_ rfl ⟨⟨⟨0,0,0,0,0,⟨#[]⟩⟩,0⟩,false,⟨(by show (0:Int)≤0∧(0:Int)≤15;decide),(by show (0:Int)≤0∧(0:Int)≤255;decide),(by show (-32768:Int)≤0∧(0:Int)≤32767;decide),(by show (-32768:Int)≤0∧(0:Int)≤32767;decide),(by show (0:Nat)<18446744073709551616;decide),Nat.zero_le _,(by show (0:Int)≤0∧(0:Int)≤254;decide)⟩,rfl,z.out.post⟩;exact step_results (by kernel_rfl) _ _ rfl rfl z.out.st
 ·have hdone:=trivial
  have hh:=HD (s3.handle hn hne rfl);clear s3;go_wp2_with fail;refine hh.out.mono ?_;rintro e w3 ⟨H,bk,hH,hbk,rfl,s4⟩;clear k0 k1 k2 k3 k4 k5 k6 f0 f1 f2 f3 f4 f5 f6 hh;replace s4:TpS w g n ⟨⟨6,T,0,0,H,⟨#[]⟩⟩,bk⟩ w3:=s4;obtain⟨k0,k1,k2,k3,k4,k5,k6,f0,f1,f2,f3,f4,f5,f6⟩:=s4.st.k;obtain⟨r,sh,t1,t2⟩:=s4.tp;have c1:=t1.blk.cell' (i:=1) (v:=.bool sh) rfl;clear t1 t2;cases sh
  ·have z:=HD (s4.store hn hne ⟨⟨6,T,0,0,H,⟨#[]⟩⟩,bk⟩)
   clear s4;go_wp2_with fail;refine bodyPost_ret (v:=.tuple #[stpV ⟨⟨6,T,0,0,H,⟨#[]⟩⟩,bk⟩,.bool true]) ?_ rfl ⟨⟨⟨6,T,0,0,H,⟨#[]⟩⟩,bk⟩,true,⟨(by show (0:Int)≤6∧(6:Int)≤15;decide),hT,(by show (-32768:Int)≤0∧(0:Int)≤32767;decide),(by show (-32768:Int)≤0∧(0:Int)≤32767;decide),hH,Nat.zero_le _,hbk⟩,rfl,z.out.post⟩;exact step_results (by kernel_rfl) _ _ rfl rfl z.out.st
  ·have z:=HD (s4.store hn hne ⟨⟨0,0,0,0,0,⟨#[]⟩⟩,0⟩)
   clear s4;go_wp2_with fail;go_step3
   go_wp2_with fail;rw [Exit.noGoto_ret];refine bodyPost_ret (v:=.tuple #[stpV ⟨⟨0,0,0,0,0,⟨#[]⟩⟩,0⟩,.bool false]) ?_ rfl ⟨⟨⟨0,0,0,0,0,⟨#[]⟩⟩,0⟩,false,⟨(by show (0:Int)≤0∧(0:Int)≤15;decide),(by show (0:Int)≤0∧(0:Int)≤255;decide),(by show (-32768:Int)≤0∧(0:Int)≤32767;decide),(by show (-32768:Int)≤0∧(0:Int)≤32767;decide),(by show (0:Nat)<18446744073709551616;decide),Nat.zero_le _,(by show (0:Int)≤0∧(0:Int)≤254;decide)⟩,rfl,z.out.post⟩;exact step_results (by kernel_rfl) _ _ rfl rfl z.out.st
 ·have hdone:=trivial
  have hh:=HD (s3.handle hn hne rfl);clear s3;go_wp2_with fail;refine hh.out.mono ?_;rintro e w3 ⟨H,bk,hH,hbk,rfl,s4⟩;clear k0 k1 k2 k3 k4 k5 k6 f0 f1 f2 f3 f4 f5 f6 hh;replace s4:TpS w g n ⟨⟨7,T,0,0,H,⟨#[]⟩⟩,bk⟩ w3:=s4;obtain⟨k0,k1,k2,k3,k4,k5,k6,f0,f1,f2,f3,f4,f5,f6⟩:=s4.st.k;have hh:=HD (s4.num hn hne);clear s4;go_wp2_with fail;refine hh.out.mono ?_;rintro e w3 ⟨N,hN,rfl,s5⟩;clear k0 k1 k2 k3 k4 k5 k6 f0 f1 f2 f3 f4 f5 f6 hh;obtain⟨k0,k1,k2,k3,k4,k5,k6,f0,f1,f2,f3,f4,f5,f6⟩:=s5.st.k;have s7:=s5.set hn hne (i:=2) (v:=.int .i64 N) (y:=⟨⟨7,T,N,0,H,⟨#[]⟩⟩,bk⟩) rfl;clear s5;obtain⟨r,sh,t1,t2⟩:=s7.tp;have c1:=t1.blk.cell' (i:=1) (v:=.bool sh) rfl;clear t1 t2;cases sh
  ·have z:=HD (s7.store hn hne ⟨⟨7,T,N,0,H,⟨#[]⟩⟩,bk⟩)
   clear s7;go_wp2_with fail;refine bodyPost_ret (v:=.tuple #[stpV ⟨⟨7,T,N,0,H,⟨#[]⟩⟩,bk⟩,.bool true]) ?_ rfl ⟨⟨⟨7,T,N,0,H,⟨#[]⟩⟩,bk⟩,true,⟨(by show (0:Int)≤7∧(7:Int)≤15;decide),hT,hN,(by show (-32768:Int)≤0∧(0:Int)≤32767;decide),hH,Nat.zero_le _,hbk⟩,rfl,z.out.post⟩;exact step_results (by kernel_rfl) _ _ rfl rfl z.out.st
  ·have z:=HD (s7.store hn hne ⟨⟨0,0,0,0,0,⟨#[]⟩⟩,0⟩)
   clear s7;go_wp2_with fail;go_step3
   go_wp2_with fail;rw [Exit.noGoto_ret];refine bodyPost_ret (v:=.tuple #[stpV ⟨⟨0,0,0,0,0,⟨#[]⟩⟩,0⟩,.bool false]) ?_ rfl ⟨⟨⟨0,0,0,0,0,⟨#[]⟩⟩,0⟩,false,⟨(by show (0:Int)≤0∧(0:Int)≤15;decide),(by show (0:Int)≤0∧(0:Int)≤255;decide),(by show (-32768:Int)≤0∧(0:Int)≤32767;decide),(by show (-32768:Int)≤0∧(0:Int)≤32767;decide),(by show (0:Nat)<18446744073709551616;decide),Nat.zero_le _,(by show (0:Int)≤0∧(0:Int)≤254;decide)⟩,rfl,z.out.post⟩;exact step_results (by kernel_rfl) _ _ rfl rfl z.out.st
 ·have hdone:=trivial
  have hh:=HD (s3.handle hn hne rfl);clear s3;go_wp2_with fail;refine hh.out.mono ?_;rintro e w3 ⟨H,bk,hH,hbk,rfl,s4⟩;clear k0 k1 k2 k3 k4 k5 k6 f0 f1 f2 f3 f4 f5 f6 hh;replace s4:TpS w g n ⟨⟨8,T,0,0,H,⟨#[]⟩⟩,bk⟩ w3:=s4;obtain⟨k0,k1,k2,k3,k4,k5,k6,f0,f1,f2,f3,f4,f5,f6⟩:=s4.st.k;obtain⟨r,sh,t1,t2⟩:=s4.tp;have c1:=t1.blk.cell' (i:=1) (v:=.bool sh) rfl;clear t1 t2;cases sh
  ·have z:=HD (s4.store hn hne ⟨⟨8,T,0,0,H,⟨#[]⟩⟩,bk⟩)
   clear s4;go_wp2_with fail;refine bodyPost_ret (v:=.tuple #[stpV ⟨⟨8,T,0,0,H,⟨#[]⟩⟩,bk⟩,.bool true]) ?_ rfl ⟨⟨⟨8,T,0,0,H,⟨#[]⟩⟩,bk⟩,true,⟨(by show (0:Int)≤8∧(8:Int)≤15;decide),hT,(by show (-32768:Int)≤0∧(0:Int)≤32767;decide),(by show (-32768:Int)≤0∧(0:Int)≤32767;decide),hH,Nat.zero_le _,hbk⟩,rfl,z.out.post⟩;exact step_results (by kernel_rfl) _ _ rfl rfl z.out.st
  ·have z:=HD (s4.store hn hne ⟨⟨0,0,0,0,0,⟨#[]⟩⟩,0⟩)
   clear s4;go_wp2_with fail;go_step3
   go_wp2_with fail;rw [Exit.noGoto_ret];refine bodyPost_ret (v:=.tuple #[stpV ⟨⟨0,0,0,0,0,⟨#[]⟩⟩,0⟩,.bool false]) ?_ rfl ⟨⟨⟨0,0,0,0,0,⟨#[]⟩⟩,0⟩,false,⟨(by show (0:Int)≤0∧(0:Int)≤15;decide),(by show (0:Int)≤0∧(0:Int)≤255;decide),(by show (-32768:Int)≤0∧(0:Int)≤32767;decide),(by show (-32768:Int)≤0∧(0:Int)≤32767;decide),(by show (0:Nat)<18446744073709551616;decide),Nat.zero_le _,(by show (0:Int)≤0∧(0:Int)≤254;decide)⟩,rfl,z.out.post⟩;exact step_results (by kernel_rfl) _ _ rfl rfl z.out.st
 ·have hdone:=trivial
  have hh:=HD (s3.handle hn hne rfl);clear s3;go_wp2_with fail;refine hh.out.mono ?_;rintro e w3 ⟨H,bk,hH,hbk,rfl,s4⟩;clear k0 k1 k2 k3 k4 k5 k6 f0 f1 f2 f3 f4 f5 f6 hh;replace s4:TpS w g n ⟨⟨9,T,0,0,H,⟨#[]⟩⟩,bk⟩ w3:=s4;obtain⟨k0,k1,k2,k3,k4,k5,k6,f0,f1,f2,f3,f4,f5,f6⟩:=s4.st.k;have hh:=HD (s4.num hn hne);clear s4;go_wp2_with fail;refine hh.out.mono ?_;rintro e w3 ⟨N,hN,rfl,s5⟩;clear k0 k1 k2 k3 k4 k5 k6 f0 f1 f2 f3 f4 f5 f6 hh;obtain⟨k0,k1,k2,k3,k4,k5,k6,f0,f1,f2,f3,f4,f5,f6⟩:=s5.st.k;have hh:=HD (s5.num hn hne);clear s5;go_wp2_with fail;refine hh.out.mono ?_;rintro e w3 ⟨M,hM,rfl,s6⟩;clear k0 k1 k2 k3 k4 k5 k6 f0 f1 f2 f3 f4 f5 f6 hh;obtain⟨k0,k1,k2,k3,k4,k5,k6,f0,f1,f2,f3,f4,f5,f6⟩:=s6.st.k;have s7:=s6.set hn hne (i:=2) (v:=.int .i64 N) (y:=⟨⟨9,T,N,0,H,⟨#[]⟩⟩,bk⟩) rfl;replace s7:=s7.set hn hne (i:=3) (v:=.int .i64 M) (y:=⟨⟨9,T,N,M,H,⟨#[]⟩⟩,bk⟩) rfl;clear s6;obtain⟨r,sh,t1,t2⟩:=s7.tp;have c1:=t1.blk.cell' (i:=1) (v:=.bool sh) rfl;clear t1 t2;cases sh
  ·have z:=HD (s7.store hn hne ⟨⟨9,T,N,M,H,⟨#[]⟩⟩,bk⟩)
   clear s7;go_wp2_with fail;refine bodyPost_ret (v:=.tuple #[stpV ⟨⟨9,T,N,M,H,⟨#[]⟩⟩,bk⟩,.bool true]) ?_ rfl ⟨⟨⟨9,T,N,M,H,⟨#[]⟩⟩,bk⟩,true,⟨(by show (0:Int)≤9∧(9:Int)≤15;decide),hT,hN,hM,hH,Nat.zero_le _,hbk⟩,rfl,z.out.post⟩;exact step_results (by kernel_rfl) _ _ rfl rfl z.out.st
  ·have z:=HD (s7.store hn hne ⟨⟨0,0,0,0,0,⟨#[]⟩⟩,0⟩)
   clear s7;go_wp2_with fail;go_step3
   go_wp2_with fail;rw [Exit.noGoto_ret];refine bodyPost_ret (v:=.tuple #[stpV ⟨⟨0,0,0,0,0,⟨#[]⟩⟩,0⟩,.bool false]) ?_ rfl ⟨⟨⟨0,0,0,0,0,⟨#[]⟩⟩,0⟩,false,⟨(by show (0:Int)≤0∧(0:Int)≤15;decide),(by show (0:Int)≤0∧(0:Int)≤255;decide),(by show (-32768:Int)≤0∧(0:Int)≤32767;decide),(by show (-32768:Int)≤0∧(0:Int)≤32767;decide),(by show (0:Nat)<18446744073709551616;decide),Nat.zero_le _,(by show (0:Int)≤0∧(0:Int)≤254;decide)⟩,rfl,z.out.post⟩;exact step_results (by kernel_rfl) _ _ rfl rfl z.out.st
 ·have hdone:=trivial
  have hh:=HD (s3.handle hn hne rfl);clear s3;go_wp2_with fail;refine hh.out.mono ?_;rintro e w3 ⟨H,bk,hH,hbk,rfl,s4⟩;clear k0 k1 k2 k3 k4 k5 k6 f0 f1 f2 f3 f4 f5 f6 hh;replace s4:TpS w g n ⟨⟨10,T,0,0,H,⟨#[]⟩⟩,bk⟩ w3:=s4;obtain⟨k0,k1,k2,k3,k4,k5,k6,f0,f1,f2,f3,f4,f5,f6⟩:=s4.st.k;have hh:=HD (s4.num hn hne);clear s4;go_wp2_with fail;refine hh.out.mono ?_;rintro e w3 ⟨N,hN,rfl,s5⟩;clear k0 k1 k2 k3 k4 k5 k6 f0 f1 f2 f3 f4 f5 f6 hh;obtain⟨k0,k1,k2,k3,k4,k5,k6,f0,f1,f2,f3,f4,f5,f6⟩:=s5.st.k;have s7:=s5.set hn hne (i:=2) (v:=.int .i64 N) (y:=⟨⟨10,T,N,0,H,⟨#[]⟩⟩,bk⟩) rfl;clear s5;have hh:=HD (s7.text hn hne);clear s7;go_wp2_with fail;refine hh.out.mono ?_;rintro e w3 ⟨D,hD,rfl,s8⟩;clear k0 k1 k2 k3 k4 k5 k6 f0 f1 f2 f3 f4 f5 f6 hh;obtain⟨k0,k1,k2,k3,k4,k5,k6,f0,f1,f2,f3,f4,f5,f6⟩:=s8.st.k;have s9:=s8.set hn hne (i:=5) (v:=.string D) (y:=⟨⟨10,T,N,0,H,D⟩,bk⟩) rfl;clear s8;obtain⟨r,sh,t1,t2⟩:=s9.tp;have c1:=t1.blk.cell' (i:=1) (v:=.bool sh) rfl;clear t1 t2;cases sh
  ·have z:=HD (s9.store hn hne ⟨⟨10,T,N,0,H,D⟩,bk⟩)
   clear s9;go_wp2_with fail;refine bodyPost_ret (v:=.tuple #[stpV ⟨⟨10,T,N,0,H,D⟩,bk⟩,.bool true]) ?_ rfl ⟨⟨⟨10,T,N,0,H,D⟩,bk⟩,true,⟨(by show (0:Int)≤10∧(10:Int)≤15;decide),hT,hN,(by show (-32768:Int)≤0∧(0:Int)≤32767;decide),hH,hD,hbk⟩,rfl,z.out.post⟩;exact step_results (by kernel_rfl) _ _ rfl rfl z.out.st
  ·have z:=HD (s9.store hn hne ⟨⟨0,0,0,0,0,⟨#[]⟩⟩,0⟩)
   clear s9;go_wp2_with fail;go_step3
   go_wp2_with fail;rw [Exit.noGoto_ret];refine bodyPost_ret (v:=.tuple #[stpV ⟨⟨0,0,0,0,0,⟨#[]⟩⟩,0⟩,.bool false]) ?_ rfl ⟨⟨⟨0,0,0,0,0,⟨#[]⟩⟩,0⟩,false,⟨(by show (0:Int)≤0∧(0:Int)≤15;decide),(by show (0:Int)≤0∧(0:Int)≤255;decide),(by show (-32768:Int)≤0∧(0:Int)≤32767;decide),(by show (-32768:Int)≤0∧(0:Int)≤32767;decide),(by show (0:Nat)<18446744073709551616;decide),Nat.zero_le _,(by show (0:Int)≤0∧(0:Int)≤254;decide)⟩,rfl,z.out.post⟩;exact step_results (by kernel_rfl) _ _ rfl rfl z.out.st
 ·have hdone:=trivial
  have hh:=HD (s3.handle hn hne rfl);clear s3;go_wp2_with fail;refine hh.out.mono ?_;rintro e w3 ⟨H,bk,hH,hbk,rfl,s4⟩;clear k0 k1 k2 k3 k4 k5 k6 f0 f1 f2 f3 f4 f5 f6 hh;replace s4:TpS w g n ⟨⟨11,T,0,0,H,⟨#[]⟩⟩,bk⟩ w3:=s4;obtain⟨k0,k1,k2,k3,k4,k5,k6,f0,f1,f2,f3,f4,f5,f6⟩:=s4.st.k;have hh:=HD (s4.num hn hne);clear s4;go_wp2_with fail;refine hh.out.mono ?_;rintro e w3 ⟨N,hN,rfl,s5⟩;clear k0 k1 k2 k3 k4 k5 k6 f0 f1 f2 f3 f4 f5 f6 hh;obtain⟨k0,k1,k2,k3,k4,k5,k6,f0,f1,f2,f3,f4,f5,f6⟩:=s5.st.k;have s7:=s5.set hn hne (i:=2) (v:=.int .i64 N) (y:=⟨⟨11,T,N,0,H,⟨#[]⟩⟩,bk⟩) rfl;clear s5;obtain⟨r,sh,t1,t2⟩:=s7.tp;have c1:=t1.blk.cell' (i:=1) (v:=.bool sh) rfl;clear t1 t2;cases sh
  ·have z:=HD (s7.store hn hne ⟨⟨11,T,N,0,H,⟨#[]⟩⟩,bk⟩)
   clear s7;go_wp2_with fail;refine bodyPost_ret (v:=.tuple #[stpV ⟨⟨11,T,N,0,H,⟨#[]⟩⟩,bk⟩,.bool true]) ?_ rfl ⟨⟨⟨11,T,N,0,H,⟨#[]⟩⟩,bk⟩,true,⟨(by show (0:Int)≤11∧(11:Int)≤15;decide),hT,hN,(by show (-32768:Int)≤0∧(0:Int)≤32767;decide),hH,Nat.zero_le _,hbk⟩,rfl,z.out.post⟩;exact step_results (by kernel_rfl) _ _ rfl rfl z.out.st
  ·have z:=HD (s7.store hn hne ⟨⟨0,0,0,0,0,⟨#[]⟩⟩,0⟩)
   clear s7;go_wp2_with fail;go_step3
   go_wp2_with fail;rw [Exit.noGoto_ret];refine bodyPost_ret (v:=.tuple #[stpV ⟨⟨0,0,0,0,0,⟨#[]⟩⟩,0⟩,.bool false]) ?_ rfl ⟨⟨⟨0,0,0,0,0,⟨#[]⟩⟩,0⟩,false,⟨(by show (0:Int)≤0∧(0:Int)≤15;decide),(by show (0:Int)≤0∧(0:Int)≤255;decide),(by show (-32768:Int)≤0∧(0:Int)≤32767;decide),(by show (-32768:Int)≤0∧(0:Int)≤32767;decide),(by show (0:Nat)<18446744073709551616;decide),Nat.zero_le _,(by show (0:Int)≤0∧(0:Int)≤254;decide)⟩,rfl,z.out.post⟩;exact step_results (by kernel_rfl) _ _ rfl rfl z.out.st
 ·have hdone:=trivial
  obtain⟨r,sh,t1,t2⟩:=s3.tp;have c1:=t1.blk.cell' (i:=1) (v:=.bool sh) rfl;clear t1 t2;cases sh
  ·have z:=HD (s3.store hn hne ⟨⟨12,T,0,0,0,⟨#[]⟩⟩,0⟩)
   clear s3;go_wp2_with fail;refine bodyPost_ret (v:=.tuple #[stpV ⟨⟨12,T,0,0,0,⟨#[]⟩⟩,0⟩,.bool true]) ?_ rfl ⟨⟨⟨12,T,0,0,0,⟨#[]⟩⟩,0⟩,true,⟨(by show (0:Int)≤12∧(12:Int)≤15;decide),hT,(by show (-32768:Int)≤0∧(0:Int)≤32767;decide),(by show (-32768:Int)≤0∧(0:Int)≤32767;decide),(by show (0:Nat)<18446744073709551616;decide),Nat.zero_le _,(by show (0:Int)≤0∧(0:Int)≤254;decide)⟩,rfl,z.out.post⟩;exact step_results (by kernel_rfl) _ _ rfl rfl z.out.st
  ·have z:=HD (s3.store hn hne ⟨⟨0,0,0,0,0,⟨#[]⟩⟩,0⟩)
   clear s3;go_wp2_with fail;go_step3
   go_wp2_with fail;rw [Exit.noGoto_ret];refine bodyPost_ret (v:=.tuple #[stpV ⟨⟨0,0,0,0,0,⟨#[]⟩⟩,0⟩,.bool false]) ?_ rfl ⟨⟨⟨0,0,0,0,0,⟨#[]⟩⟩,0⟩,false,⟨(by show (0:Int)≤0∧(0:Int)≤15;decide),(by show (0:Int)≤0∧(0:Int)≤255;decide),(by show (-32768:Int)≤0∧(0:Int)≤32767;decide),(by show (-32768:Int)≤0∧(0:Int)≤32767;decide),(by show (0:Nat)<18446744073709551616;decide),Nat.zero_le _,(by show (0:Int)≤0∧(0:Int)≤254;decide)⟩,rfl,z.out.post⟩;exact step_results (by kernel_rfl) _ _ rfl rfl z.out.st
 ·have hdone:=trivial
  obtain⟨r,sh,t1,t2⟩:=s3.tp;have c1:=t1.blk.cell' (i:=1) (v:=.bool sh) rfl;clear t1 t2;cases sh
  ·have z:=HD (s3.store hn hne ⟨⟨13,T,0,0,0,⟨#[]⟩⟩,0⟩)
   clear s3;go_wp2_with fail;refine bodyPost_ret (v:=.tuple #[stpV ⟨⟨13,T,0,0,0,⟨#[]⟩⟩,0⟩,.bool true]) ?_ rfl ⟨⟨⟨13,T,0,0,0,⟨#[]⟩⟩,0⟩,true,⟨(by show (0:Int)≤13∧(13:Int)≤15;decide),hT,(by show (-32768:Int)≤0∧(0:Int)≤32767;decide),(by show (-32768:Int)≤0∧(0:Int)≤32767;decide),(by show (0:Nat)<18446744073709551616;decide),Nat.zero_le _,(by show (0:Int)≤0∧(0:Int)≤254;decide)⟩,rfl,z.out.post⟩;exact step_results (by kernel_rfl) _ _ rfl rfl z.out.st
  ·have z:=HD (s3.store hn hne ⟨⟨0,0,0,0,0,⟨#[]⟩⟩,0⟩)
   clear s3;go_wp2_with fail;go_step3
   go_wp2_with fail;rw [Exit.noGoto_ret];refine bodyPost_ret (v:=.tuple #[stpV ⟨⟨0,0,0,0,0,⟨#[]⟩⟩,0⟩,.bool false]) ?_ rfl ⟨⟨⟨0,0,0,0,0,⟨#[]⟩⟩,0⟩,false,⟨(by show (0:Int)≤0∧(0:Int)≤15;decide),(by show (0:Int)≤0∧(0:Int)≤255;decide),(by show (-32768:Int)≤0∧(0:Int)≤32767;decide),(by show (-32768:Int)≤0∧(0:Int)≤32767;decide),(by show (0:Nat)<18446744073709551616;decide),Nat.zero_le _,(by show (0:Int)≤0∧(0:Int)≤254;decide)⟩,rfl,z.out.post⟩;exact step_results (by kernel_rfl) _ _ rfl rfl z.out.st
 ·have hdone:=trivial
  obtain⟨r,sh,t1,t2⟩:=s3.tp;have c1:=t1.blk.cell' (i:=1) (v:=.bool sh) rfl;clear t1 t2;cases sh
  ·have z:=HD (s3.store hn hne ⟨⟨14,T,0,0,0,⟨#[]⟩⟩,0⟩)
   clear s3;go_wp2_with fail;refine bodyPost_ret (v:=.tuple #[stpV ⟨⟨14,T,0,0,0,⟨#[]⟩⟩,0⟩,.bool true]) ?_ rfl ⟨⟨⟨14,T,0,0,0,⟨#[]⟩⟩,0⟩,true,⟨(by show (0:Int)≤14∧(14:Int)≤15;decide),hT,(by show (-32768:Int)≤0∧(0:Int)≤32767;decide),(by show (-32768:Int)≤0∧(0:Int)≤32767;decide),(by show (0:Nat)<18446744073709551616;decide),Nat.zero_le _,(by show (0:Int)≤0∧(0:Int)≤254;decide)⟩,rfl,z.out.post⟩;exact step_results (by kernel_rfl) _ _ rfl rfl z.out.st
  ·have z:=HD (s3.store hn hne ⟨⟨0,0,0,0,0,⟨#[]⟩⟩,0⟩)
   clear s3;go_wp2_with fail;go_step3
   go_wp2_with fail;rw [Exit.noGoto_ret];refine bodyPost_ret (v:=.tuple #[stpV ⟨⟨0,0,0,0,0,⟨#[]⟩⟩,0⟩,.bool false]) ?_ rfl ⟨⟨⟨0,0,0,0,0,⟨#[]⟩⟩,0⟩,false,⟨(by show (0:Int)≤0∧(0:Int)≤15;decide),(by show (0:Int)≤0∧(0:Int)≤255;decide),(by show (-32768:Int)≤0∧(0:Int)≤32767;decide),(by show (-32768:Int)≤0∧(0:Int)≤32767;decide),(by show (0:Nat)<18446744073709551616;decide),Nat.zero_le _,(by show (0:Int)≤0∧(0:Int)≤254;decide)⟩,rfl,z.out.post⟩;exact step_results (by kernel_rfl) _ _ rfl rfl z.out.st
 ·have hdone:=trivial
  obtain⟨r,sh,t1,t2⟩:=s3.tp;have c1:=t1.blk.cell' (i:=1) (v:=.bool sh) rfl;clear t1 t2;cases sh
  ·have z:=HD (s3.store hn hne ⟨⟨15,T,0,0,0,⟨#[]⟩⟩,0⟩)
   clear s3;go_wp2_with fail;refine bodyPost_ret (v:=.tuple #[stpV ⟨⟨15,T,0,0,0,⟨#[]⟩⟩,0⟩,.bool true]) ?_ rfl ⟨⟨⟨15,T,0,0,0,⟨#[]⟩⟩,0⟩,true,⟨(by show (0:Int)≤15∧(15:Int)≤15;decide),hT,(by show (-32768:Int)≤0∧(0:Int)≤32767;decide),(by show (-32768:Int)≤0∧(0:Int)≤32767;decide),(by show (0:Nat)<18446744073709551616;decide),Nat.zero_le _,(by show (0:Int)≤0∧(0:Int)≤254;decide)⟩,rfl,z.out.post⟩;exact step_results (by kernel_rfl) _ _ rfl rfl z.out.st
  ·have z:=HD (s3.store hn hne ⟨⟨0,0,0,0,0,⟨#[]⟩⟩,0⟩)
   clear s3;go_wp2_with fail;go_step3
   go_wp2_with fail;rw [Exit.noGoto_ret];refine bodyPost_ret (v:=.tuple #[stpV ⟨⟨0,0,0,0,0,⟨#[]⟩⟩,0⟩,.bool false]) ?_ rfl ⟨⟨⟨0,0,0,0,0,⟨#[]⟩⟩,0⟩,false,⟨(by show (0:Int)≤0∧(0:Int)≤15;decide),(by show (0:Int)≤0∧(0:Int)≤255;decide),(by show (-32768:Int)≤0∧(0:Int)≤32767;decide),(by show (-32768:Int)≤0∧(0:Int)≤32767;decide),(by show (0:Nat)<18446744073709551616;decide),Nat.zero_le _,(by show (0:Int)≤0∧(0:Int)≤254;decide)⟩,rfl,z.out.post⟩;exact step_results (by kernel_rfl) _ _ rfl rfl z.out.st
end
end
end Go.Proofs.YtfliaggjkianpaaGreatDoor
