import Derived.Test.YtfliaggjkianpaaGreatDoorK25
import Derived.Deep.Onto
set_option linter.unusedVariables false
set_option linter.unusedSimpArgs false
set_option maxRecDepth 100000
namespace Go.Proofs.YtfliaggjkianpaaGreatDoor
section
open Go.RowKit Flt
attribute [local irreducible] CpS.rv
abbrev o9:Nat→Tag:=fun _=>[9]
def N9(t:Tag):Prop:=t≠[9]
def TabW(w:World):Prop:=Tab w o9
section
variable{S:Tag→Prop}{w w0 w' W W':World}{o o':Nat→Tag}{r:Tag}{b K:Nat}{B:List UInt8}{s:AdS}
theorem Tab.to(h:Tab w o):TabW w:=⟨rfl,h.2.1,h.2.2⟩
theorem TabW.below(h:TabW w)(hb:Below w.heap.size w w'):TabW w':=(h.fr (S:=fun _=>False) (Fr.below hb) (fun e=>e)).to
theorem TabW.alloc(h:TabW w)(x:Obj):TabW (w.alloc x):=h.below ((Below.refl _ _).alloc (Nat.le_refl _) x)
theorem root_one{n:Nat}(h7:n≠7)(h8:n≠8)(h9:n≠9)(h50:n≠50):Root [n]:=by
 have f:∀{k:Nat},n≠k→¬[n] <+: [k]:=fun h q=>h (List.cons_prefix_cons.1 q).1
 refine⟨f h7,f h8,f h9,fun v a b=>?_⟩;cases v with
 |nil=>exact absurd (List.IsPrefix.length_le a) (by simp)
 |cons x v=>exact h50 ((List.cons_prefix_cons.1 a).1.trans (List.cons_prefix_cons.1 b).1.symm)
theorem rt1:Root [1]:=root_one (by decide) (by decide) (by decide) (by decide)
theorem rt2:Root [2]:=root_one (by decide) (by decide) (by decide) (by decide)
theorem own1:Own [1] 11:=⟨rt1,by decide,by decide,fun u q=>absurd (List.cons_prefix_cons.1 q).1 (by decide)⟩
theorem unds9(hr:Root r):¬UndS r [9]:=fun q=>q.elim (fun q=>hr.r9 q) (fun q=>absurd (List.cons_prefix_cons.1 q).1 (by decide))
theorem unds_n9(hr:Root r)(v:Tag)(q:UndS r v):N9 v:=fun e=>unds9 hr (e▸q)
theorem SvAt.tabw(h:SvAt w o r b B K s):TabW w:=by
 obtain⟨ba,dv,n,tv,m,h1,_⟩:=h;obtain⟨x,cm,p,tbs,g⟩:=h1.ad;exact g.tab.to
theorem SvAt.adok(h:SvAt w o r b B K s):∃cm p tbs,AdOk B cm p tbs s:=by
 obtain⟨ba,dv,n,tv,m,h1,_⟩:=h;obtain⟨x,cm,p,tbs,g⟩:=h1.ad;exact⟨cm,p,tbs,g.ok⟩
theorem SvAt.nx(h:SvAt w o r b B K s):s.nx K:=by
 obtain⟨ba,dv,n,tv,m,h1,_,_,h2⟩:=h;exact h2
theorem SvAt.still(h:SvAt w o r b B K s)(hb:Below w.heap.size w w'):SvAt w' o r b B K s:=h.fr (S:=fun _=>False) (Fr.below hb) off_no off_no
structure SyT(w0 W:World)(o:Nat→Tag)(r:Tag)(b:Nat)(B:List UInt8)(K:Nat)(s:AdS):Prop where
 fr:Fr N9 w0 o9 W o
 sv:SvAt W o r b B K s
def Own7(W:World)(o:Nat→Tag)(W':World)(o':Nat→Tag):Prop:=∀p C T,Blk W o [7] p C T→Blk W' o' [7] p C T
theorem own7_of{S:Tag→Prop}(f:Fr S W o W' o')(hS:¬S [7]):Own7 W o W' o':=fun p C T h=>h.fr f hS
theorem unds7(hr:Root r):¬UndS r [7]:=fun q=>q.elim (fun q=>hr.r7 q) sg7
theorem SyT.do_(x:OpS)(h:SyT w0 W o r b B K s)(hr:Root r)(hK:K≤900000)(hH:x.H<18446744073709551616)(hs:x.s.size≤maxLen) :
  Calls Tryz.prog 18 #[eP b,x.v] W fun e W'=>e=.returned (ansV (s.do_ x).1)∧∃o' B',SyT w0 W' o' r b B' (K+1) (s.do_ x).2∧Own7 W o W' o'∧(rightO x.K x.T x.s=false→B'=B):=by
 refine(svDo x h.sv hr hK hH hs).mono ?_;rintro e W' ⟨rfl,o',B',h1,f1,h2⟩;exact⟨rfl,o',B',⟨h.fr.trans (f1.mono (unds_n9 hr)),h1⟩,own7_of f1 (unds7 hr),h2⟩
theorem SyT.still(h:SyT w0 W o r b B K s)(hb:Below W.heap.size W W'):SyT w0 W' o r b B K s:=⟨h.fr.trans (Fr.below hb),h.sv.still hb⟩
theorem own7_below(hb:Below W.heap.size W W'):Own7 W o W' o:=own7_of (S:=fun _=>False) (Fr.below hb) (fun q=>q)
theorem SyT.drew(h:SyT w0 W o r b B K s):SyT w0 W.drew o r b B K s:=h.still (Below.refl _ _).drew
theorem SyT.alloc(h:SyT w0 W o r b B K s)(x:Obj):SyT w0 (W.alloc x) (setO o W.heap.size [7]) r b B K s :=
 ⟨h.fr.trans (Fr.alloc x [7]),h.sv.fr (S:=fun _=>False) (Fr.alloc x [7]) off_no off_no⟩
theorem own7_alloc(x:Obj):Own7 W o (W.alloc x) (setO o W.heap.size [7]):=own7_of (S:=fun _=>False) (Fr.alloc x [7]) (fun q=>q)
theorem SyT.below(h:SyT w0 W o r b B K s):Below w0.heap.size w0 W:=h.fr.to_below (Nat.le_refl _) fun k _ q=>q rfl
theorem SyT.tabw(h:SyT w0 W o r b B K s):TabW W:=h.sv.tabw
theorem SyT.adok(h:SyT w0 W o r b B K s):∃cm p tbs,AdOk B cm p tbs s:=h.sv.adok
theorem SyT.nx(h:SyT w0 W o r b B K s):s.nx K:=h.sv.nx
theorem SyT.new(P C:Nat)(w:World)(hT:TabW w)(hr:Root r)(h:cfgB P C=true) :
  Calls Tryz.prog 16 #[.agg #[.int .i64 P,.int .i64 C]] w fun e w'=>∃b,e=.returned (.tuple #[eP b,.int .i64 0])∧∃o,SyT w w' o r b (List.replicate (P*512) 0) 0 (AdS.new P C):=by
 refine(svNew P C w o9 r hr hT h).mono ?_;rintro e w' ⟨b,o',rfl,h1,f⟩;exact⟨b,rfl,o',f.mono fun _ q=>q.elim,h1⟩
theorem SyT.live(i:Nat)(hi:i<8)(h:SyT w0 W o r b B K s):Calls Tryz.prog 22 #[eP b,.int .i64 i] W fun e w'=>e=.returned (.bool (s.ts i).isSome)∧w'=W:=by
 obtain⟨f,ba,dv,n,tv,m,h1,_⟩:=h;exact svLive i hi h1
theorem SyT.charged(i:Nat)(hi:i<8)(h:SyT w0 W o r b B K s):Calls Tryz.prog 23 #[eP b,.int .i64 i] W fun e w'=>e=.returned (.int .i64 (s.chg i))∧w'=W:=by
 obtain⟨f,ba,dv,n,tv,m,h1,_⟩:=h;exact svCharged i hi h1
theorem SyT.quota(i:Nat)(hi:i<8)(h:SyT w0 W o r b B K s):Calls Tryz.prog 24 #[eP b,.int .i64 i] W fun e w'=>e=.returned (.int .i64 (s.quo i))∧w'=W:=by
 obtain⟨f,ba,dv,n,tv,m,h1,_⟩:=h;exact svQuota i hi h1
def bytesV(B:List UInt8):ByteArray:=⟨B.toArray⟩
theorem sub_all(B:List UInt8)(n:Nat)(h:n=B.length):sub B 0 n=B:=by
 unfold sub;subst h;simp
theorem SyT.all(h:SyT w0 W o r b B K s)(hr:Root r)(hK:K≤900000):Calls Tryz.prog 21 #[.agg #[.int .i64 s.P,.int .i64 s.C],eP b] W fun e W'=>e=.returned (.string (bytesV B))∧∃o',SyT w0 W' o' r b B (K+1) s∧Own7 W o W' o':=by
 have h1:=HD (h.alloc (.cells #[.int .i64 s.P,.int .i64 s.C] 23));have hl:=h.sv.len;have hb:=HD (show Calls Tryz.prog 38 #[eP b,.int .i64 0,.int .i64 ((s.P:Int)*512)] (W.alloc (.cells #[.int .i64 s.P,.int .i64 s.C] 23)) (fun e W'=>e=.returned (.tuple #[.string (bytesV B),.int .i64 0])∧∃o',SyT w0 W' o' r b B (K+1) s∧Own7 W o W' o') from by
  obtain⟨f,ba,dv,n,tv,m,g1,g2,g3,g4⟩:=h1.out;refine(svBytes 0 ((s.P:Int)*512) hr g1 (by omega)).mono ?_;rintro e W' ⟨rfl,o',g5,f2⟩;have hh:hasE B.length 0 ((s.P:Int)*512)=0:=has_iff.2 ⟨by omega,by omega,by omega,by omega⟩;have hv:rdV B 0 ((s.P:Int)*512)=.string (bytesV B):=by
   unfold rdV bytesV;rw [if_pos hh,show (0:Int).toNat=0 from rfl,sub_all _ _ (by omega)]
  rw [hh,hv];exact⟨rfl,o',⟨f.trans (f2.mono fun v q=>unds_n9 hr v (.inl q.up)),ba,dv,n,tv,m+1,g5,by omega,by omega,fun i hi=>⟨⟨(g4 i hi).1.1,by have:=(g4 i hi).1.2;omega⟩,fun t ht=>by have:=(g4 i hi).2 t ht;omega⟩⟩,fun p C T q=>(own7_alloc _ p C T q).fr f2 (fun q=>hr.r7 q.up)⟩)
 clear h h1;have hP:0≤(s.P:Int)∧(s.P:Int)≤4096:=by omega
 clear hl;generalize (s.P:Int)=P at *;generalize (s.C:Int)=C at *;go_enter Tryz.func21,Tryz.ntmps21
 go_wp2_with fail;refine hb.out.mono ?_;rintro e W' ⟨rfl,g⟩;replace g:=HD g;clear hb;go_wp2_with fail;go_ret
 exact⟨rfl,g.out⟩
end
structure OpC(w:World)(g k:Nat)(x:OpS):Prop where
 k0:w.cell? ⟨g,k,none⟩=some (.int .i64 x.K)
 k1:w.cell? ⟨g,k+1,none⟩=some (.int .i64 x.T)
 k2:w.cell? ⟨g,k+2,none⟩=some (.int .i64 x.N)
 k3:w.cell? ⟨g,k+3,none⟩=some (.int .i64 x.M)
 k4:w.cell? ⟨g,k+4,none⟩=some (.int .u64 x.H)
 k5:w.cell? ⟨g,k+5,none⟩=some (.string x.s)
structure AnC(w:World)(g k:Nat)(x:Ans):Prop where
 k0:w.cell? ⟨g,k,none⟩=some (.int .i64 x.err)
 k1:w.cell? ⟨g,k+1,none⟩=some (.int .u64 x.h)
 k2:w.cell? ⟨g,k+2,none⟩=some (.int .i64 x.addr)
 k3:w.cell? ⟨g,k+3,none⟩=some (.int .i64 x.n)
 k4:w.cell? ⟨g,k+4,none⟩=some (.string x.data)
 k5:w.cell? ⟨g,k+5,none⟩=some (.int .i64 x.ch)
def OpsAt(w:World)(A:Option Addr)(xs:List OpS):Prop:=0<xs.length→∃g off,A=some ⟨g,off,none⟩∧∀j (h:j<xs.length),OpC w g (off+j*6) xs[j]
def AnsAt(w:World)(A:Option Addr)(xs:List Ans):Prop:=0<xs.length→∃g off,A=some ⟨g,off,none⟩∧∀j (h:j<xs.length),AnC w g (off+j*6) xs[j]
theorem OpC.fr{w w':World}{g k:Nat}{x:OpS}(h:OpC w g k x)(f:∀i v,w.cell? ⟨g,i,none⟩=some v→w'.cell? ⟨g,i,none⟩=some v):OpC w' g k x:=⟨f _ _ h.k0,f _ _ h.k1,f _ _ h.k2,f _ _ h.k3,f _ _ h.k4,f _ _ h.k5⟩
theorem AnC.fr{w w':World}{g k:Nat}{x:Ans}(h:AnC w g k x)(f:∀i v,w.cell? ⟨g,i,none⟩=some v→w'.cell? ⟨g,i,none⟩=some v):AnC w' g k x:=⟨f _ _ h.k0,f _ _ h.k1,f _ _ h.k2,f _ _ h.k3,f _ _ h.k4,f _ _ h.k5⟩
theorem below_cell{w w':World}(hb:Below w.heap.size w w'){p:Addr}{v:Value}(hc:w.cell? p=some v):w'.cell? p=some v:=(Only.of_below hb).cell hc (fun q=>by have:=block_lt hc;omega)
theorem OpsAt.fr{w w':World}{A:Option Addr}{xs:List OpS}(h:OpsAt w A xs)(hb:Below w.heap.size w w'):OpsAt w' A xs:=fun h0=>by
 obtain⟨g,off,e,h1⟩:=h h0;exact⟨g,off,e,fun j hj=>(h1 j hj).fr fun _ _ hc=>below_cell hb hc⟩
theorem AnsAt.fr{w w':World}{A:Option Addr}{xs:List Ans}(h:AnsAt w A xs)(hb:Below w.heap.size w w'):AnsAt w' A xs:=fun h0=>by
 obtain⟨g,off,e,h1⟩:=h h0;exact⟨g,off,e,fun j hj=>(h1 j hj).fr fun _ _ hc=>below_cell hb hc⟩
end
section
open Go.RowKit Flt
def ansB(x y:Ans):Bool:=decide (x.err=y.err∧x.h=y.h∧x.addr=y.addr∧x.n=y.n∧x.data=y.data∧x.ch=y.ch)
theorem ansB_iff{x y:Ans}:ansB x y=true↔x=y:=by
 unfold ansB;rw [decide_eq_true_eq];constructor
 ·intro h
  obtain⟨a,b,c,d,e,f⟩:=x;obtain⟨a',b',c',d',e',f'⟩:=y;simp only at h;obtain⟨rfl,rfl,rfl,rfl,rfl,rfl⟩:=h;rfl
 ·rintro rfl;exact⟨rfl,rfl,rfl,rfl,rfl,rfl⟩
theorem str_iff{a b:ByteArray}:a.toList=b.toList↔a=b:=by
 rw [ByteArray.toList_eq,ByteArray.toList_eq];constructor
 ·intro h;exact Go.WideShapes.bytes_inj h
 ·rintro rfl;rfl
theorem eq_ans(x y:Ans)(w:World):(Op.equalIn 10000 47 (ansV x) (ansV y)).run Tryz.prog w=.ok (ansB x y) w:=by
 have u3:=Tryz.underlying3;have a3:=Tryz.isAgg3;have z3:=Tryz.sizeOf3;have u4:=Tryz.underlying30;have a4:=Tryz.isAgg30;have z4:=Tryz.sizeOf30;have u5:=Tryz.underlying9;have a5:=Tryz.isAgg9;have z5:=Tryz.sizeOf9;have u6:=Tryz.underlying38;have a6:=Tryz.isAgg38;have z6:=Tryz.sizeOf38;have hS:Tryz.prog.underlying 47=some (.struct (Tryz.prog.fieldsOf 47)):=by kernel_rfl
 have hp:Tryz.prog.stoodInHeld 47=false:=by kernel_rfl
 obtain⟨a,b,c,d,e,f⟩:=x;obtain⟨a',b',c',d',e',f'⟩:=y;unfold ansV ansB;rw [show (10000:Nat)=9999+1 from rfl,run_equalIn_agg w 9999 47 _ _ hS hp];simp only [Program.fieldsOf,Tryz.underlying47];go_simp;by_cases h1:a=a'<;>by_cases h2:b=b'<;>by_cases h3:c=c'<;>by_cases h4:d=d'<;>by_cases h5:e=e'<;>by_cases h6:f=f'<;>simp [h1,h2,h3,h4,h5,h6,str_iff,Int.natCast_inj]
abbrev bae:ByteArray:=⟨#[]⟩
def aw1:OpS:=⟨1,0,100,1,0,bae⟩
def aw2:OpS:=⟨4,0,40,0,0,bae⟩
def aw3:OpS:=⟨4,1,40,0,0,bae⟩
def aw4:OpS:=⟨12,0,0,0,0,bae⟩
def aw5:OpS:=⟨10,0,38,0,1048688,⟨#[120,121]⟩⟩
def aw6:OpS:=⟨9,0,37,3,1048688,bae⟩
def aw7:OpS:=⟨6,0,0,0,1048688,bae⟩
def as0:AdS:=AdS.new 64 4
def as1:AdS:=(as0.do_ aw1).2
def as2:AdS:=(as1.do_ aw2).2
def as3:AdS:=(as2.do_ aw3).2
def as4:AdS:=(as3.do_ aw4).2
def as5:AdS:=(as4.do_ aw5).2
def as6:AdS:=(as5.do_ aw6).2
theorem ay1:(as0.do_ aw1).1=⟨0,0,0,0,bae,0⟩:=by kernel_rfl
theorem ay2:(as1.do_ aw2).1=⟨0,1048688,393216,0,bae,48⟩:=by kernel_rfl
theorem ay3:(as2.do_ aw3).1=⟨6,0,0,0,bae,0⟩:=by kernel_rfl
theorem ay4:(as3.do_ aw4).1=⟨1,0,0,0,bae,0⟩:=by kernel_rfl
theorem ay5:(as4.do_ aw5).1=⟨0,0,0,0,bae,48⟩:=by kernel_rfl
theorem ay6:(as5.do_ aw6).1=⟨0,0,0,0,⟨#[0,120,121]⟩,48⟩:=by kernel_rfl
theorem ay7:(as6.do_ aw7).1=⟨0,0,0,0,bae,0⟩:=by kernel_rfl
end
section
open Go.RowKit Flt
theorem nil_ops(w:World):OpsAt w none []:=fun h=>absurd h (by simp)
def LongPost(w:World)(P:Int)(e:Ending)(w':World):Prop:=∃bb,e=.returned (.bool bb)∧(bb=false→P≤512)∧Below w.heap.size w w'
set_option maxHeartbeats 1000000 in
theorem toLong(P C:Int)(A:Option Addr)(c:Nat)(xs:List OpS)(most:Int)(w:World)(hm:1≤most∧most≤1000)(hx:OpsAt w A xs)(hl:xs.length≤maxLen)(hs:∀x∈xs,x.s.size≤maxLen) :
  Calls Tryz.prog 20 #[.agg #[.int .i64 P,.int .i64 C],.slice A xs.length c,.int .i64 most] w (LongPost w P):=by
 unfold maxLen at hl hs;have hx0:=HD hx;clear hx;go_enter Tryz.func20,Tryz.ntmps20
 go_wp2_with fail;have hB0:Hid (Below w.heap.size w (w.alloc (.cells #[.int .i64 P,.int .i64 C] 23))):=HD (below_alloc (Nat.le_refl _) (Below.refl _ _));go_loopg [7,12] xs.length (fun gh n i wx=>∃(j:Nat) (nn:Int),j≤xs.length∧gh=xs.length-j∧i=.int .i64 j∧n=.int .i64 nn∧(0≤nn∧nn≤8*most)∧Hid (Below w.heap.size w wx∧wx.cell? ⟨w.heap.size,0,none⟩=some (.int .i64 P)))
 case atStart=>exact⟨0,0,Nat.zero_le _,rfl,rfl,rfl,by omega,HD ⟨hB0.out,new_cell rfl⟩⟩
 case round =>
  obtain⟨j,nn,hj,rfl,rfl,rfl,hnn,hR⟩:=hrel;obtain⟨hB,hP⟩:=hR.out;by_cases hlt:j<xs.length
  ·have d0:decide ((j:Int)<(xs.length:Int))=true:=decide_eq_true (by omega)
   obtain⟨g,off,rfl,hx1⟩:=hx0.out (by omega);have hx2:=(hx1 j hlt).fr (fun i v hc=>below_cell hB hc);have hsz:=hs _ (List.getElem_mem hlt);generalize xs[j]=x at *;obtain⟨sK,sT,sN,sM,sH,sD⟩:=x;obtain⟨k0,k1,k2,k3,k4,k5⟩:=hx2;simp only at k0 k1 k2 k3 k4 k5 hsz;have hmn:∃q:Int,0≤q∧q≤1048576∧min ((sD.size:Int).tdiv 16) 1048576=q:=⟨_,by have:=Int.tdiv_nonneg (show (0:Int)≤sD.size by omega) (show (0:Int)≤16 by decide);omega,by omega,rfl⟩
   obtain⟨q,q0,q1,hq⟩:=hmn;have hR2:Hid (Below w.heap.size w (wr.alloc (.cells #[.int .i64 sK,.int .i64 sT,.int .i64 sN,.int .i64 sM,.int .u64 sH,.string sD] 32))∧(wr.alloc (.cells #[.int .i64 sK,.int .i64 sT,.int .i64 sN,.int .i64 sM,.int .u64 sH,.string sD] 32)).cell? ⟨w.heap.size,0,none⟩=some (.int .i64 P)):=HD ⟨hB.alloc hB.size _,keep_alloc hP⟩;clear hx1 hs hR hx0;go_wp2_with fail
   ·go_ret
    exact⟨true,rfl,fun q=>absurd q (by decide),hR2.out.1⟩
   ·go_roundg (xs.length-(j+1))
    case measure=>omega
    case rel =>
     rename_i hbig;exact⟨j+1,_,by omega,rfl,by go_num,rfl,by omega,hR2⟩
  ·have d0:decide ((j:Int)<(xs.length:Int))=false:=decide_eq_false (by omega)
   have hfin:=HD hB;clear hx0 hs hB0;by_cases h1:most<(xs.length:Int)
   ·have d1:decide (most<(xs.length:Int))=true:=decide_eq_true h1
    go_wp2_with fail;go_ret
    exact⟨true,rfl,fun q=>absurd q (by decide),hfin.out⟩
   ·have d1:decide (most<(xs.length:Int))=false:=decide_eq_false h1
    by_cases h2:512<P
    ·have d2:decide (512<P)=true:=decide_eq_true h2
     go_wp2_with fail;go_ret
     exact⟨true,rfl,fun q=>absurd q (by decide),hfin.out⟩
    ·have d2:decide (512<P)=false:=decide_eq_false h2
     go_wp2_with fail;go_ret
     exact⟨false,rfl,fun _=>by omega,hfin.out⟩
end
section
open Go.RowKit Flt
structure StpsR(w:World)(P:Int)(most:Int)(A:Option Addr)(n c:Nat)(l:List StS)(w':World):Prop where
 nl:n=l.length
 P:P≤512
 le:(l.length:Int)≤most
 le2:l.length≤4000
 ok:∀x∈l,StOk x
 row:World.ownsRow w' (w.heap.size+1) 34 7 (.slice A n c) n (l.flatMap stL)
def StpsPost(w:World)(P most:Int)(e:Ending)(w':World):Prop:=∃A n c ok,e=.returned (.tuple #[.slice A n c,.bool ok])∧Below w.heap.size w w'∧(ok=true→∃l,StpsR w P most A n c l w')
set_option maxHeartbeats 1000000 in
theorem toSteps(P C:Int)(s:ByteArray)(most:Int)(w:World)(hs:s.size≤maxLen) :
  Calls Tryz.prog 8 #[.agg #[.int .i64 P,.int .i64 C],.string s,.int .i64 most] w (StpsPost w P most):=by
 unfold maxLen at hs;have hB0:Hid (Below w.heap.size w (w.alloc (.cells #[.int .i64 P,.int .i64 C] 23))):=HD (below_alloc (Nat.le_refl _) (Below.refl _ _));have hno:=HD (show ∀A n c w',Below w.heap.size w w'→StpsPost w P most (.returned (.tuple #[.slice A n c,.bool false])) w' from fun A n c w' hb=>⟨A,n,c,false,rfl,hb,fun q=>by cases q⟩);by_cases hlen:(8192:Int)<s.size
 ·have d1:decide ((8192:Int)<s.size)=true:=decide_eq_true hlen
  clear hlen;go_enter Tryz.func8,Tryz.ntmps8
  go_wp2_with fail;go_ret2
  exact hno.out _ _ _ _ hB0.out
 ·have d1:decide ((8192:Int)<s.size)=false:=decide_eq_false hlen
  have hl:=HD (fun w=>toLong P C none 0 [] 1 w (by decide) (nil_ops w) (by decide) (fun x hx=>by cases hx));have hrd:=HD (fun w=>scRead s w (by omega));clear hlen;go_enter Tryz.func8,Tryz.ntmps8
  go_wp2_with fail;refine(hl.out _).mono ?_;rintro e w1 ⟨bb,rfl,hP,hb1⟩;have hB1:=HD (hB0.out.trans (hb1.mono (by simp)));clear hb1;cases bb with
  |true =>
   go_wp2_with fail;go_ret2
   exact hno.out _ _ _ _ hB1.out
  |false =>
   replace hP:=HD (hP rfl);go_wp2_with fail;refine(hrd.out _).mono ?_;rintro e w2 ⟨v,l,hl1,hl2,rfl,hrow,hb2⟩;obtain⟨A,c,rfl⟩:=own_slice hrow;have hB2:=HD (hB1.out.trans (hb2.mono hB1.out.size));have hfin:=HD (show (l.length:Int)≤most→StpsPost w P most (.returned (.tuple #[.slice A l.length c,.bool true])) w2 from fun hle=>⟨_,_,_,true,rfl,hB2.out,fun _=>⟨l,rfl,hP.out,hle,hl1,hl2,World.ownsRow.mono hrow (by have:=hB1.out.size;omega)⟩⟩);clear hrow hb2;by_cases hm:(l.length:Int)≤most
   ·have d2:decide ((l.length:Int)≤most)=true:=decide_eq_true hm
    have hf:=HD (hfin.out hm);clear hfin hm;go_wp2_with fail;go_ret2
    exact hf.out
   ·have d2:decide ((l.length:Int)≤most)=false:=decide_eq_false hm
    clear hfin hm;go_wp2_with fail;go_ret2
    exact hno.out _ _ _ _ hB2.out
end
section
open Go.RowKit Flt
theorem opsAt_of{w:World}{base:Nat}{A:Option Addr}{n c:Nat}{xs:List OpS}(h:World.ownsRow w base 32 6 (.slice A n c) xs.length (xs.flatMap opL)):OpsAt w A xs:=fun h0=>by
 rcases h.2 with ⟨h1,h2⟩|⟨g,cap,cur,e,_⟩
 ·omega
 ·injection e with e1 e2 e3
  subst e1;subst e2;refine⟨g,0,rfl,fun j hj=>?_⟩;have hc:∀i,i<6→w.cell? ⟨g,0+j*6+i,none⟩=(opL xs[j])[i]?:=fun i hi=>by
   have:=h.cellAt (6*j+i) (by omega);rw [Nat.zero_add,Nat.mul_comm j 6,this];exact flat_get (f:=opL) (m:=6) (fun _=>rfl) xs j i hj hi
  exact⟨hc 0 (by decide),hc 1 (by decide),hc 2 (by decide),hc 3 (by decide),hc 4 (by decide),hc 5 (by decide)⟩
theorem ansAt_of{w:World}{base:Nat}{A:Option Addr}{n c:Nat}{xs:List Ans}(h:World.ownsRow w base 47 6 (.slice A n c) xs.length (xs.flatMap ansL)):AnsAt w A xs:=fun h0=>by
 rcases h.2 with ⟨h1,h2⟩|⟨g,cap,cur,e,_⟩
 ·omega
 ·injection e with e1 e2 e3
  subst e1;subst e2;refine⟨g,0,rfl,fun j hj=>?_⟩;have hc:∀i,i<6→w.cell? ⟨g,0+j*6+i,none⟩=(ansL xs[j])[i]?:=fun i hi=>by
   have:=h.cellAt (6*j+i) (by omega);rw [Nat.zero_add,Nat.mul_comm j 6,this];exact flat_get (f:=ansL) (m:=6) (fun _=>rfl) xs j i hj hi
  exact⟨hc 0 (by decide),hc 1 (by decide),hc 2 (by decide),hc 3 (by decide),hc 4 (by decide),hc 5 (by decide)⟩
theorem scRun_no(P C:Int)(A:Option Addr)(n c:Nat)(w:World)(h:cfgB P C=false) :
  Calls Tryz.prog 10 #[.agg #[.int .i64 P,.int .i64 C],.slice A n c] w fun e w'=>e=.returned (.tuple #[.pointer none,.slice none 0 0,.slice none 0 0,.int .i64 12])∧Below w.heap.size w w':=by
 have hn:=HD (fun w=>svNew_no P C w h);have hB0:Hid (Below w.heap.size w (w.alloc (.cells #[.int .i64 P,.int .i64 C] 23))):=HD (below_alloc (Nat.le_refl _) (Below.refl _ _));clear h;go_enter Tryz.func10,Tryz.ntmps10
 go_wp2_with fail;refine(hn.out _).mono ?_;rintro e w1 ⟨rfl,hb⟩;have hB1:=HD (hB0.out.trans (hb.mono (by simp)));clear hb;go_wp2_with fail;refine bodyPost_ret (results_tmp4 (t:=4) (u:=5) (v:=6) (z:=7) (by kernel_rfl) _ _ _) rfl ⟨rfl,hB1.out⟩
structure PldR(w:World)(P C most:Int)(ops:List OpS)(said:List Ans)(AO AA:Option Addr)(w':World):Prop where
 below:Below w.heap.size w w'
 ro:OpsAt w' AO ops
 ra:AnsAt w' AA said
 says:(AdS.new P.toNat C.toNat).says ops=said
 len:ops.length≤most.toNat
 ok:∀x∈ops,x.H<18446744073709551616∧x.s.size≤255
def PldPost(w:World)(P C most:Int)(e:Ending)(w':World):Prop:=∃xv AO cO AA cA ops said,e=.returned (.tuple #[.pointer xv,.slice AO ops.length cO,.slice AA said.length cA])∧PldR w P C most ops said AO AA w' ∧
 (xv=none∨cfgB P C=true∧∃b o B,xv=some ⟨b,0,none⟩∧SvAt w' o [1] b B ops.length ((AdS.new P.toNat C.toNat).aft ops)∧Fr (fun _=>False) w o9 w' o)
theorem pld_nil{w w':World}{P C most:Int}(hb:Below w.heap.size w w'):PldPost w P C most (.returned (.tuple #[.pointer none,.slice none 0 0,.slice none 0 0])) w' :=
 ⟨none,none,0,none,0,[],[],rfl,⟨hb,nil_ops _,fun h=>absurd h (by simp),rfl,Nat.zero_le _,fun x hx=>by cases hx⟩,.inl rfl⟩
theorem pld_run{w w':World}{P C:Nat}{most:Int}{o':Nat→Tag}{b mb:Nat}{vO vA:Value}{B:List UInt8}{M:List (Int×(Value×List Nat))}{l:List StS}(hm:(l.length:Int)≤most)(hl:∀x∈l,StOk x)(hc:cfgB P C=true)(h:RnG w o9 w' o' [1] 11 b mb vO vA B l.length M (runAll P C l)) :
  ∃AO cO AA cA,vO=.slice AO (runAll P C l).ops.length cO∧vA=.slice AA (runAll P C l).said.length cA∧PldPost w P C most (.returned (.tuple #[eP b,vO,vA])) w':=by
 obtain⟨AO,cO,rfl⟩:=h.ro.slice;obtain⟨AA,cA,rfl⟩:=h.ra.slice;obtain⟨s1,s2⟩:=run_says P C l;have hlen:=run_len P C l;obtain⟨k1,k2⟩:=run_ok P C hl;refine⟨AO,cO,AA,cA,rfl,rfl,some ⟨b,0,none⟩,AO,cO,AA,cA,(runAll P C l).ops,(runAll P C l).said,rfl,⟨h.fr.to_below (Nat.le_refl _) (fun k _ q=>q),opsAt_of h.ro.own,ansAt_of h.ra.own,?_,?_,fun x hx=>?_⟩,.inr ⟨hc,b,o',B,rfl,?_,h.fr⟩⟩
 ·rw [Int.toNat_natCast,Int.toNat_natCast];exact s1.symm
 ·omega
 ·obtain⟨q1,q2⟩:=k2 x hx
  refine⟨?_,q1⟩;rcases q2 with q2|⟨k,hk⟩
  ·exact q2
  ·obtain⟨gv,g1,g2,g3,g4⟩:=h.given k
   exact g3 _ hk
 ·rw [Int.toNat_natCast,Int.toNat_natCast,←s2,hlen];exact h.sv
set_option maxHeartbeats 1000000 in
theorem toPlayed(P C:Int)(s:ByteArray)(most:Int)(w:World)(hs:s.size≤maxLen)(hT:TabW w) :
  Calls Tryz.prog 15 #[.agg #[.int .i64 P,.int .i64 C],.string s,.int .i64 most] w (PldPost w P C most):=by
 have hB0:Hid (Below w.heap.size w (w.alloc (.cells #[.int .i64 P,.int .i64 C] 23))):=HD (below_alloc (Nat.le_refl _) (Below.refl _ _));have hst:=HD (fun w=>toSteps P C s most w hs);have hT1:=HD hT;clear hs hT;go_enter Tryz.func15,Tryz.ntmps15
 go_wp2_with fail;have c0:(w.alloc (.cells #[.int .i64 P,.int .i64 C] 23)).cell? ⟨w.heap.size,0,none⟩=some (.int .i64 P):=new_cell rfl;have c1:(w.alloc (.cells #[.int .i64 P,.int .i64 C] 23)).cell? ⟨w.heap.size,1,none⟩=some (.int .i64 C):=new_cell rfl;refine(hst.out _).mono ?_;rintro e w1 ⟨A,n,c,ok,rfl,hb1,hl⟩;have k0:=below_cell hb1 c0;have k1:=below_cell hb1 c1;have hB1:=HD (hB0.out.trans (hb1.mono hB0.out.size));clear c0 c1 hst hB0;cases ok with
 |false =>
  clear hl hb1;go_wp2_with fail;refine bodyPost_ret (results_tmp3 (t:=6) (u:=7) (v:=8) (by kernel_rfl) _ _ _) rfl (pld_nil hB1.out)
 |true =>
  obtain⟨l,rfl,h1,h2,h3,h4,h5⟩:=hl rfl;have hT2:=(hT1.out.alloc (.cells #[.int .i64 P,.int .i64 C] 23)).below hb1;clear hb1 hl hT1;cases hc:cfgB P C with
  |false =>
   have hr:=HD (scRun_no P C A l.length c w1 hc);clear hT2 h1 h2 h3 h4 h5 hc;go_wp2_with fail;refine hr.out.mono ?_;rintro e w2 ⟨rfl,hb2⟩;have hB2:=HD (hB1.out.trans (hb2.mono hB1.out.size));clear hb2 hr;go_wp2_with fail;refine bodyPost_ret (results_tmp3 (t:=6) (u:=7) (v:=8) (by kernel_rfl) _ _ _) rfl (pld_nil hB2.out)
  |true =>
   have hcc:=cfg_iff.1 hc;obtain⟨P',rfl⟩:∃P':Nat,P=P':=⟨P.toNat,by omega⟩
   obtain⟨C',rfl⟩:∃C':Nat,C=C':=⟨C.toNat,by omega⟩
   have hr:=HD (show Calls Tryz.prog 10 #[.agg #[.int .i64 P',.int .i64 C'],.slice A l.length c] w1 (fun e w2=>∃b AO nO cO AA nA cA,e=.returned (.tuple #[eP b,.slice AO nO cO,.slice AA nA cA,.int .i64 0])∧PldPost w P' C' most (.returned (.tuple #[eP b,.slice AO nO cO,.slice AA nA cA])) w2) from by
    have hrow:RowT w1 o9 [9] 0 34 7 (.slice A l.length c) l.length (l.flatMap stL):=⟨World.ownsRow.mono h5 (Nat.zero_le _),fun q hq=>rfl⟩
    refine(scRun P' C' (.slice A l.length c) l w1 o9 [1] [9] 11 own1 hT2 hc h3 h4 hrow ⟨unds9 rt1,fun u q=>(by simp at q)⟩ (fun k hk=>⟨unds9 rt1,fun u q=>(by simp at q)⟩)).mono ?_;rintro e w2 ⟨b,vO,vA,rfl,o',B,mb,M,g⟩;obtain⟨AO,cO,AA,cA,rfl,rfl,xv,AO',cO',AA',cA',ops,said,e1,⟨g1,g2,g3,g4,g5,g6⟩,g7⟩:=pld_run h2 h4 hc g;refine⟨b,AO,_,cO,AA,_,cA,rfl,xv,AO',cO',AA',cA',ops,said,e1,⟨hB1.out.trans (g1.mono hB1.out.size),g2,g3,g4,g5,g6⟩,g7.imp id fun q=>?_⟩;obtain⟨q0,b2,o2,B2,q1,q2,q3⟩:=q;exact⟨q0,b2,o2,B2,q1,q2,(Fr.below hB1.out).trans q3⟩)
   clear hT2 h1 h2 h3 h4 h5 hc hcc;go_wp2_with fail;refine hr.out.mono ?_;rintro e w2 ⟨b,AO,nO,cO,AA,nA,cA,rfl,hp⟩;replace hp:=HD hp;clear hr;go_wp2_with fail;refine bodyPost_ret (results_tmp3 (t:=6) (u:=7) (v:=8) (by kernel_rfl) _ _ _) rfl hp.out
end
section
open Go.RowKit Flt
section
variable{w W:World}{o:Nat→Tag}{b K:Nat}{B:List UInt8}{s:AdS}
theorem awStep(x:OpS)(y:Ans)(s':AdS)(h:SyT w W o [1] b B K s)(hy:(s.do_ x).1=y)(hs':(s.do_ x).2=s')(hK:K≤100)(hH:x.H<18446744073709551616)(hs:x.s.size≤100) :
  Calls Tryz.prog 18 #[eP b,x.v] W fun e W'=>e=.returned (ansV y)∧∃o' B',SyT w (W'.alloc (.cells (ansC y) 47)) o' [1] b B' (K+1) s'∧Blk (W'.alloc (.cells (ansC y) 47)) o' [7] W'.heap.size (ansC y) 47∧Own7 W o (W'.alloc (.cells (ansC y) 47)) o':=by
 refine(h.do_ x rt1 (by omega) hH (by unfold maxLen;omega)).mono ?_;rintro e W' ⟨rfl,o',B',g1,g2,_⟩;subst hy;subst hs';exact⟨rfl,_,B',g1.alloc _,Blk.made W' o' [7] _ _,fun p C T q=>own7_alloc _ p C T (g2 p C T q)⟩
theorem ans_blk{p:Nat}{y:Ans}(h:Blk W o [7] p (ansC y) 47):W.cell? ⟨p,0,none⟩=some (.int .i64 y.err)∧W.cell? ⟨p,1,none⟩=some (.int .u64 y.h)∧W.cell? ⟨p,2,none⟩=some (.int .i64 y.addr)∧W.cell? ⟨p,3,none⟩=some (.int .i64 y.n)∧W.cell? ⟨p,4,none⟩=some (.string y.data)∧W.cell? ⟨p,5,none⟩=some (.int .i64 y.ch) :=
 ⟨h.cell' (i:=0) rfl,h.cell' (i:=1) rfl,h.cell' (i:=2) rfl,h.cell' (i:=3) rfl,h.cell' (i:=4) rfl,h.cell' (i:=5) rfl⟩
end
set_option maxHeartbeats 4000000 in
theorem toAwake(w:World)(hT:TabW w):Calls Tryz.prog 9 #[] w fun e w'=>e=.returned (.bool true)∧Below w.heap.size w w':=by
 have hnew:=HD (SyT.new 64 4 w hT rt1 rfl);have q0:∀w,(Op.equalIn 10000 47 (.agg #[.int .i64 0,.int .u64 0,.int .i64 0,.int .i64 0,.string ⟨#[]⟩,.int .i64 0]) (.agg #[.int .i64 0,.int .u64 0,.int .i64 0,.int .i64 0,.string ⟨#[]⟩,.int .i64 0])).run Tryz.prog w=.ok true w:=fun w=>eq_ans ⟨0,0,0,0,bae,0⟩ ⟨0,0,0,0,bae,0⟩ w
 have q1:∀w,(Op.equalIn 10000 47 (.agg #[.int .i64 0,.int .u64 1048688,.int .i64 393216,.int .i64 0,.string ⟨#[]⟩,.int .i64 48]) (.agg #[.int .i64 0,.int .u64 1048688,.int .i64 393216,.int .i64 0,.string ⟨#[]⟩,.int .i64 48])).run Tryz.prog w=.ok true w:=fun w=>eq_ans ⟨0,1048688,393216,0,bae,48⟩ ⟨0,1048688,393216,0,bae,48⟩ w
 have q2:∀w,(Op.equalIn 10000 47 (.agg #[.int .i64 6,.int .u64 0,.int .i64 0,.int .i64 0,.string ⟨#[]⟩,.int .i64 0]) (.agg #[.int .i64 6,.int .u64 0,.int .i64 0,.int .i64 0,.string ⟨#[]⟩,.int .i64 0])).run Tryz.prog w=.ok true w:=fun w=>eq_ans ⟨6,0,0,0,bae,0⟩ ⟨6,0,0,0,bae,0⟩ w
 have q3:∀w,(Op.equalIn 10000 47 (.agg #[.int .i64 1,.int .u64 0,.int .i64 0,.int .i64 0,.string ⟨#[]⟩,.int .i64 0]) (.agg #[.int .i64 1,.int .u64 0,.int .i64 0,.int .i64 0,.string ⟨#[]⟩,.int .i64 0])).run Tryz.prog w=.ok true w:=fun w=>eq_ans ⟨1,0,0,0,bae,0⟩ ⟨1,0,0,0,bae,0⟩ w
 have q4:∀w,(Op.equalIn 10000 47 (.agg #[.int .i64 0,.int .u64 0,.int .i64 0,.int .i64 0,.string ⟨#[0,120,121]⟩,.int .i64 48]) (.agg #[.int .i64 0,.int .u64 0,.int .i64 0,.int .i64 0,.string ⟨#[0,120,121]⟩,.int .i64 48])).run Tryz.prog w=.ok true w:=fun w=>eq_ans ⟨0,0,0,0,⟨#[0,120,121]⟩,48⟩ ⟨0,0,0,0,⟨#[0,120,121]⟩,48⟩ w
 clear hT;go_enter Tryz.func9,Tryz.ntmps9
 go_wp2_with fail;refine hnew.out.mono ?_;rintro e V0 ⟨b,rfl,o0,g0⟩;have s1:=HD (awStep aw1 ⟨0,0,0,0,bae,0⟩ as1 g0 ay1 rfl (by decide) (by decide) (by decide));clear hnew g0;go_wp2_with fail;refine s1.out.mono ?_;rintro e W1 ⟨rfl,o1,B1,g1,k1,n1⟩;clear s1;replace k1:=HD k1;have s2:=HD (awStep aw2 ⟨0,1048688,393216,0,bae,48⟩ as2 g1 ay2 rfl (by decide) (by decide) (by decide));clear n1 g1;simp only [ansV];go_wp2_with fail;refine s2.out.mono ?_;rintro e W2 ⟨rfl,o2,B2,g2,k2,n2⟩;clear s2;replace k1:=HD (n2 _ _ _ k1.out);replace k2:=HD k2;have s3:=HD (awStep aw3 ⟨6,0,0,0,bae,0⟩ as3 g2 ay3 rfl (by decide) (by decide) (by decide));clear n2 g2;simp only [ansV];go_wp2_with fail;refine s3.out.mono ?_;rintro e W3 ⟨rfl,o3,B3,g3,k3,n3⟩;clear s3;replace k1:=HD (n3 _ _ _ k1.out);replace k2:=HD (n3 _ _ _ k2.out);replace k3:=HD k3;have s4:=HD (awStep aw4 ⟨1,0,0,0,bae,0⟩ as4 g3 ay4 rfl (by decide) (by decide) (by decide));clear n3 g3;simp only [ansV];go_wp2_with fail;refine s4.out.mono ?_;rintro e W4 ⟨rfl,o4,B4,g4,k4,n4⟩;clear s4;replace k1:=HD (n4 _ _ _ k1.out);replace k2:=HD (n4 _ _ _ k2.out);replace k3:=HD (n4 _ _ _ k3.out);replace k4:=HD k4;have s5:=HD (awStep aw5 ⟨0,0,0,0,bae,48⟩ as5 g4 ay5 rfl (by decide) (by decide) (by decide));have hh4:(W4.alloc (.cells #[.int .i64 1,.int .u64 0,.int .i64 0,.int .i64 0,.string ⟨#[]⟩,.int .i64 0] 47)).cell? ⟨W2.heap.size,1,none⟩=some (.int .u64 1048688):=(ans_blk k2.out).2.1;clear n4 g4;simp only [ansV];go_wp2_with fail;refine s5.out.mono ?_;rintro e W5 ⟨rfl,o5,B5,g5,k5,n5⟩;clear s5;replace k1:=HD (n5 _ _ _ k1.out);replace k2:=HD (n5 _ _ _ k2.out);replace k3:=HD (n5 _ _ _ k3.out);replace k4:=HD (n5 _ _ _ k4.out);replace k5:=HD k5;have s6:=HD (awStep aw6 ⟨0,0,0,0,⟨#[0,120,121]⟩,48⟩ as6 g5 ay6 rfl (by decide) (by decide) (by decide));clear hh4;have hh5:(W5.alloc (.cells #[.int .i64 0,.int .u64 0,.int .i64 0,.int .i64 0,.string ⟨#[]⟩,.int .i64 48] 47)).cell? ⟨W2.heap.size,1,none⟩=some (.int .u64 1048688):=(ans_blk k2.out).2.1;clear n5 g5;simp only [ansV];go_wp2_with fail;refine s6.out.mono ?_;rintro e W6 ⟨rfl,o6,B6,g6,k6,n6⟩;clear s6;replace k1:=HD (n6 _ _ _ k1.out);replace k2:=HD (n6 _ _ _ k2.out);replace k3:=HD (n6 _ _ _ k3.out);replace k4:=HD (n6 _ _ _ k4.out);replace k5:=HD (n6 _ _ _ k5.out);replace k6:=HD k6;have s7:=HD (awStep aw7 ⟨0,0,0,0,bae,0⟩ _ g6 ay7 rfl (by decide) (by decide) (by decide));clear hh5;have hh6:(W6.alloc (.cells #[.int .i64 0,.int .u64 0,.int .i64 0,.int .i64 0,.string ⟨#[0,120,121]⟩,.int .i64 48] 47)).cell? ⟨W2.heap.size,1,none⟩=some (.int .u64 1048688):=(ans_blk k2.out).2.1;clear n6 g6;simp only [ansV];go_wp2_with fail;refine s7.out.mono ?_;rintro e W7 ⟨rfl,o7,B7,g7,k7,n7⟩;clear s7;replace k1:=HD (n7 _ _ _ k1.out);replace k2:=HD (n7 _ _ _ k2.out);replace k3:=HD (n7 _ _ _ k3.out);replace k4:=HD (n7 _ _ _ k4.out);replace k5:=HD (n7 _ _ _ k5.out);replace k6:=HD (n7 _ _ _ k6.out);replace k7:=HD k7;clear hh6;have hB:=HD g7.below;obtain⟨c10,c11,c12,c13,c14,c15⟩:(W7.alloc (.cells #[.int .i64 0,.int .u64 0,.int .i64 0,.int .i64 0,.string ⟨#[]⟩,.int .i64 0] 47)).cell? ⟨W1.heap.size,0,none⟩=some (.int .i64 0)∧(W7.alloc (.cells #[.int .i64 0,.int .u64 0,.int .i64 0,.int .i64 0,.string ⟨#[]⟩,.int .i64 0] 47)).cell? ⟨W1.heap.size,1,none⟩=some (.int .u64 0)∧(W7.alloc (.cells #[.int .i64 0,.int .u64 0,.int .i64 0,.int .i64 0,.string ⟨#[]⟩,.int .i64 0] 47)).cell? ⟨W1.heap.size,2,none⟩=some (.int .i64 0)∧(W7.alloc (.cells #[.int .i64 0,.int .u64 0,.int .i64 0,.int .i64 0,.string ⟨#[]⟩,.int .i64 0] 47)).cell? ⟨W1.heap.size,3,none⟩=some (.int .i64 0)∧(W7.alloc (.cells #[.int .i64 0,.int .u64 0,.int .i64 0,.int .i64 0,.string ⟨#[]⟩,.int .i64 0] 47)).cell? ⟨W1.heap.size,4,none⟩=some (.string ⟨#[]⟩)∧(W7.alloc (.cells #[.int .i64 0,.int .u64 0,.int .i64 0,.int .i64 0,.string ⟨#[]⟩,.int .i64 0] 47)).cell? ⟨W1.heap.size,5,none⟩=some (.int .i64 0):=ans_blk k1.out;obtain⟨c20,c21,c22,c23,c24,c25⟩:(W7.alloc (.cells #[.int .i64 0,.int .u64 0,.int .i64 0,.int .i64 0,.string ⟨#[]⟩,.int .i64 0] 47)).cell? ⟨W2.heap.size,0,none⟩=some (.int .i64 0)∧(W7.alloc (.cells #[.int .i64 0,.int .u64 0,.int .i64 0,.int .i64 0,.string ⟨#[]⟩,.int .i64 0] 47)).cell? ⟨W2.heap.size,1,none⟩=some (.int .u64 1048688)∧(W7.alloc (.cells #[.int .i64 0,.int .u64 0,.int .i64 0,.int .i64 0,.string ⟨#[]⟩,.int .i64 0] 47)).cell? ⟨W2.heap.size,2,none⟩=some (.int .i64 393216)∧(W7.alloc (.cells #[.int .i64 0,.int .u64 0,.int .i64 0,.int .i64 0,.string ⟨#[]⟩,.int .i64 0] 47)).cell? ⟨W2.heap.size,3,none⟩=some (.int .i64 0)∧(W7.alloc (.cells #[.int .i64 0,.int .u64 0,.int .i64 0,.int .i64 0,.string ⟨#[]⟩,.int .i64 0] 47)).cell? ⟨W2.heap.size,4,none⟩=some (.string ⟨#[]⟩)∧(W7.alloc (.cells #[.int .i64 0,.int .u64 0,.int .i64 0,.int .i64 0,.string ⟨#[]⟩,.int .i64 0] 47)).cell? ⟨W2.heap.size,5,none⟩=some (.int .i64 48):=ans_blk k2.out;obtain⟨c30,c31,c32,c33,c34,c35⟩:(W7.alloc (.cells #[.int .i64 0,.int .u64 0,.int .i64 0,.int .i64 0,.string ⟨#[]⟩,.int .i64 0] 47)).cell? ⟨W3.heap.size,0,none⟩=some (.int .i64 6)∧(W7.alloc (.cells #[.int .i64 0,.int .u64 0,.int .i64 0,.int .i64 0,.string ⟨#[]⟩,.int .i64 0] 47)).cell? ⟨W3.heap.size,1,none⟩=some (.int .u64 0)∧(W7.alloc (.cells #[.int .i64 0,.int .u64 0,.int .i64 0,.int .i64 0,.string ⟨#[]⟩,.int .i64 0] 47)).cell? ⟨W3.heap.size,2,none⟩=some (.int .i64 0)∧(W7.alloc (.cells #[.int .i64 0,.int .u64 0,.int .i64 0,.int .i64 0,.string ⟨#[]⟩,.int .i64 0] 47)).cell? ⟨W3.heap.size,3,none⟩=some (.int .i64 0)∧(W7.alloc (.cells #[.int .i64 0,.int .u64 0,.int .i64 0,.int .i64 0,.string ⟨#[]⟩,.int .i64 0] 47)).cell? ⟨W3.heap.size,4,none⟩=some (.string ⟨#[]⟩)∧(W7.alloc (.cells #[.int .i64 0,.int .u64 0,.int .i64 0,.int .i64 0,.string ⟨#[]⟩,.int .i64 0] 47)).cell? ⟨W3.heap.size,5,none⟩=some (.int .i64 0):=ans_blk k3.out;obtain⟨c40,c41,c42,c43,c44,c45⟩:(W7.alloc (.cells #[.int .i64 0,.int .u64 0,.int .i64 0,.int .i64 0,.string ⟨#[]⟩,.int .i64 0] 47)).cell? ⟨W4.heap.size,0,none⟩=some (.int .i64 1)∧(W7.alloc (.cells #[.int .i64 0,.int .u64 0,.int .i64 0,.int .i64 0,.string ⟨#[]⟩,.int .i64 0] 47)).cell? ⟨W4.heap.size,1,none⟩=some (.int .u64 0)∧(W7.alloc (.cells #[.int .i64 0,.int .u64 0,.int .i64 0,.int .i64 0,.string ⟨#[]⟩,.int .i64 0] 47)).cell? ⟨W4.heap.size,2,none⟩=some (.int .i64 0)∧(W7.alloc (.cells #[.int .i64 0,.int .u64 0,.int .i64 0,.int .i64 0,.string ⟨#[]⟩,.int .i64 0] 47)).cell? ⟨W4.heap.size,3,none⟩=some (.int .i64 0)∧(W7.alloc (.cells #[.int .i64 0,.int .u64 0,.int .i64 0,.int .i64 0,.string ⟨#[]⟩,.int .i64 0] 47)).cell? ⟨W4.heap.size,4,none⟩=some (.string ⟨#[]⟩)∧(W7.alloc (.cells #[.int .i64 0,.int .u64 0,.int .i64 0,.int .i64 0,.string ⟨#[]⟩,.int .i64 0] 47)).cell? ⟨W4.heap.size,5,none⟩=some (.int .i64 0):=ans_blk k4.out;obtain⟨c50,c51,c52,c53,c54,c55⟩:(W7.alloc (.cells #[.int .i64 0,.int .u64 0,.int .i64 0,.int .i64 0,.string ⟨#[]⟩,.int .i64 0] 47)).cell? ⟨W5.heap.size,0,none⟩=some (.int .i64 0)∧(W7.alloc (.cells #[.int .i64 0,.int .u64 0,.int .i64 0,.int .i64 0,.string ⟨#[]⟩,.int .i64 0] 47)).cell? ⟨W5.heap.size,1,none⟩=some (.int .u64 0)∧(W7.alloc (.cells #[.int .i64 0,.int .u64 0,.int .i64 0,.int .i64 0,.string ⟨#[]⟩,.int .i64 0] 47)).cell? ⟨W5.heap.size,2,none⟩=some (.int .i64 0)∧(W7.alloc (.cells #[.int .i64 0,.int .u64 0,.int .i64 0,.int .i64 0,.string ⟨#[]⟩,.int .i64 0] 47)).cell? ⟨W5.heap.size,3,none⟩=some (.int .i64 0)∧(W7.alloc (.cells #[.int .i64 0,.int .u64 0,.int .i64 0,.int .i64 0,.string ⟨#[]⟩,.int .i64 0] 47)).cell? ⟨W5.heap.size,4,none⟩=some (.string ⟨#[]⟩)∧(W7.alloc (.cells #[.int .i64 0,.int .u64 0,.int .i64 0,.int .i64 0,.string ⟨#[]⟩,.int .i64 0] 47)).cell? ⟨W5.heap.size,5,none⟩=some (.int .i64 48):=ans_blk k5.out;obtain⟨c60,c61,c62,c63,c64,c65⟩:(W7.alloc (.cells #[.int .i64 0,.int .u64 0,.int .i64 0,.int .i64 0,.string ⟨#[]⟩,.int .i64 0] 47)).cell? ⟨W6.heap.size,0,none⟩=some (.int .i64 0)∧(W7.alloc (.cells #[.int .i64 0,.int .u64 0,.int .i64 0,.int .i64 0,.string ⟨#[]⟩,.int .i64 0] 47)).cell? ⟨W6.heap.size,1,none⟩=some (.int .u64 0)∧(W7.alloc (.cells #[.int .i64 0,.int .u64 0,.int .i64 0,.int .i64 0,.string ⟨#[]⟩,.int .i64 0] 47)).cell? ⟨W6.heap.size,2,none⟩=some (.int .i64 0)∧(W7.alloc (.cells #[.int .i64 0,.int .u64 0,.int .i64 0,.int .i64 0,.string ⟨#[]⟩,.int .i64 0] 47)).cell? ⟨W6.heap.size,3,none⟩=some (.int .i64 0)∧(W7.alloc (.cells #[.int .i64 0,.int .u64 0,.int .i64 0,.int .i64 0,.string ⟨#[]⟩,.int .i64 0] 47)).cell? ⟨W6.heap.size,4,none⟩=some (.string ⟨#[0,120,121]⟩)∧(W7.alloc (.cells #[.int .i64 0,.int .u64 0,.int .i64 0,.int .i64 0,.string ⟨#[]⟩,.int .i64 0] 47)).cell? ⟨W6.heap.size,5,none⟩=some (.int .i64 48):=ans_blk k6.out;obtain⟨c70,c71,c72,c73,c74,c75⟩:(W7.alloc (.cells #[.int .i64 0,.int .u64 0,.int .i64 0,.int .i64 0,.string ⟨#[]⟩,.int .i64 0] 47)).cell? ⟨W7.heap.size,0,none⟩=some (.int .i64 0)∧(W7.alloc (.cells #[.int .i64 0,.int .u64 0,.int .i64 0,.int .i64 0,.string ⟨#[]⟩,.int .i64 0] 47)).cell? ⟨W7.heap.size,1,none⟩=some (.int .u64 0)∧(W7.alloc (.cells #[.int .i64 0,.int .u64 0,.int .i64 0,.int .i64 0,.string ⟨#[]⟩,.int .i64 0] 47)).cell? ⟨W7.heap.size,2,none⟩=some (.int .i64 0)∧(W7.alloc (.cells #[.int .i64 0,.int .u64 0,.int .i64 0,.int .i64 0,.string ⟨#[]⟩,.int .i64 0] 47)).cell? ⟨W7.heap.size,3,none⟩=some (.int .i64 0)∧(W7.alloc (.cells #[.int .i64 0,.int .u64 0,.int .i64 0,.int .i64 0,.string ⟨#[]⟩,.int .i64 0] 47)).cell? ⟨W7.heap.size,4,none⟩=some (.string ⟨#[]⟩)∧(W7.alloc (.cells #[.int .i64 0,.int .u64 0,.int .i64 0,.int .i64 0,.string ⟨#[]⟩,.int .i64 0] 47)).cell? ⟨W7.heap.size,5,none⟩=some (.int .i64 0):=ans_blk k7.out;clear n7 g7;simp only [ansV];go_wp2_with fail;go_ret
 exact⟨rfl,hB.out⟩
end
end Go.Proofs.YtfliaggjkianpaaGreatDoor
