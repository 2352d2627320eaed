import Derived.Test.YtfliaggjkianpaaGreatDoorK00
import Derived.Test.YtfliaggjkianpaaGreatDoorK23
import Derived.Laws.Rows
import Derived.Test.YtfliaggjkianpaaGreatDoorK03
set_option linter.unusedVariables false
set_option linter.unusedSimpArgs false
set_option maxRecDepth 100000
namespace Go.Proofs.YtfliaggjkianpaaGreatDoor
section
open Go.RowKit Flt
theorem infoAns:(Tryz.prog.info? 47).map (·.size)=some 6:=by kernel_rfl
abbrev ansC(x:Ans):Array Value:=#[.int .i64 x.err,.int .u64 x.h,.int .i64 x.addr,.int .i64 x.n,.string x.data,.int .i64 x.ch]
theorem ans_results{fn:Func}(h:fn.results=#[.cell 4 47])(tmps:Array Value)(w:World){g:Nat}(x:Ans)(ht:tmps.getD 4 undef=eP g)(hb:w.heap[g]? = some (.cells (ansC x) 47 (0,0))):(results fn tmps).run Tryz.prog w=.ok (ansV x) w :=
 results_cell_row h tmps w g _ _ _ _ ht hb Tryz.underlying47 rfl infoAns
def Row(w:World)(g:Nat)(x:Ans):Prop:=w.heap[g]? = some (.cells (ansC x) 47 (0,0))
structure RowC(w:World)(g:Nat)(x:Ans):Prop where
 k0:w.cell? ⟨g,0,none⟩=some (.int .i64 x.err)
 k1:w.cell? ⟨g,1,none⟩=some (.int .u64 x.h)
 k2:w.cell? ⟨g,2,none⟩=some (.int .i64 x.addr)
 k3:w.cell? ⟨g,3,none⟩=some (.int .i64 x.n)
 k4:w.cell? ⟨g,4,none⟩=some (.string x.data)
 k5:w.cell? ⟨g,5,none⟩=some (.int .i64 x.ch)
 f0:w.frozen? ⟨g,0,none⟩=false
 f1:w.frozen? ⟨g,1,none⟩=false
 f2:w.frozen? ⟨g,2,none⟩=false
 f3:w.frozen? ⟨g,3,none⟩=false
 f4:w.frozen? ⟨g,4,none⟩=false
 f5:w.frozen? ⟨g,5,none⟩=false
theorem Row.cells{w:World}{g:Nat}{x:Ans}(h:Row w g x):RowC w g x:=by
 have c:=fun i=>cell_of_row w g i (ansC x) 47 (0,0) h
 have f:=fun i=>frozen_of_row w g i (ansC x) 47 h
 exact⟨c 0,c 1,c 2,c 3,c 4,c 5,f 0,f 1,f 2,f 3,f 4,f 5⟩
theorem Row.blk{w:World}{g:Nat}{x:Ans}(h:Row w g x):Blk w (fun _=>[]) [] g (ansC x) 47:=⟨rfl,h⟩
theorem Row.fr{w w':World}{g:Nat}{x:Ans}(h:Row w g x){B:Nat}(hb:Below B w w')(hg:g<B):Row w' g x:=(hb.block g hg).trans h
theorem Row.made(w:World)(x:Ans):Row (w.alloc (.cells (ansC x) 47)) w.heap.size x:=heap_alloc_new w _
theorem Row.alloc{w:World}{g:Nat}{x:Ans}(h:Row w g x)(y:Obj):Row (w.alloc y) g x:=(h.blk.alloc y).2
theorem Row.store{w:World}{g:Nat}{x:Ans}(h:Row w g x)(y:Ans):Row ((((((w.setCell ⟨g,0,none⟩ (.int .i64 y.err)).setCell ⟨g,1,none⟩ (.int .u64 y.h)).setCell ⟨g,2,none⟩ (.int .i64 y.addr)).setCell ⟨g,3,none⟩ (.int .i64 y.n)).setCell ⟨g,4,none⟩ (.string y.data)).setCell ⟨g,5,none⟩ (.int .i64 y.ch)) g y :=
 (((((((h.blk.set 0 (.int .i64 y.err)).set 1 (.int .u64 y.h)).set 2 (.int .i64 y.addr)).set 3 (.int .i64 y.n)).set 4 (.string y.data)).set 5 (.int .i64 y.ch))).2
theorem Row.set_ne{w:World}{g:Nat}{x:Ans}(h:Row w g x){p:Addr}(hp:p.block≠g)(u:Value):Row (w.setCell p u) g x:=(h.blk.set_ne hp u).2
theorem Row.set5{w:World}{g:Nat}{x:Ans}(h:Row w g x)(c:Int):Row (w.setCell ⟨g,5,none⟩ (.int .i64 c)) g {x with ch:=c}:=(h.blk.set 5 (.int .i64 c)).2
theorem below_store{w0 w:World}{B g:Nat}(h:Below B w0 w)(hg:B≤g)(y:Ans):Below B w0 ((((((w.setCell ⟨g,0,none⟩ (.int .i64 y.err)).setCell ⟨g,1,none⟩ (.int .u64 y.h)).setCell ⟨g,2,none⟩ (.int .i64 y.addr)).setCell ⟨g,3,none⟩ (.int .i64 y.n)).setCell ⟨g,4,none⟩ (.string y.data)).setCell ⟨g,5,none⟩ (.int .i64 y.ch)) :=
 (((((h.setCell hg _).setCell hg _).setCell hg _).setCell hg _).setCell hg _).setCell hg _
def ans0:Ans:=⟨0,0,0,0,ByteArray.empty,0⟩
section
variable{w:World}{o:Nat→Tag}{t u z:Tag}{b a c:Nat}{y:TnX}{win:List Int}{tb:TbS}{id pk:Int}{al:AlS}{cp:CpS}{q:QS}{M:List (Int×Int)}
theorem tnSay(x:Ans)(h:TnR w o t b a c y win tb id pk al cp q M)(hq:q.wf):Calls Tryz.prog 99 #[eP b,ansV x] w fun e w'=>e=.returned (ansV {x with ch:=q.cB})∧Below w.heap.size w w':=by
 obtain⟨e,h1,ad,n,d,ch⟩:=x;have hc:=HD (show ∀w',Below w.heap.size w w'→Calls Tryz.prog 40 #[eP b] w' (fun e w1=>e=.returned (.int .i64 q.cB)∧w1=w') from fun w' hb=>tnCharged (h.fr (S:=fun _=>False) (Fr.below hb) off_no) hq);clear h hq;unfold ansV;simp only;go_enter Tryz.func99,Tryz.ntmps99
 go_wp2_with fail;have qA:=(Row.made w ⟨e,h1,ad,n,d,ch⟩).alloc (.cells (ansC ans0) 47);have qB:=Row.made (w.alloc (.cells (ansC ⟨e,h1,ad,n,d,ch⟩) 47)) ans0;rw [World.size_alloc] at qB;have hb:=((Below.refl w.heap.size w).alloc (Nat.le_refl _) (.cells (ansC ⟨e,h1,ad,n,d,ch⟩) 47)).alloc (by simp) (.cells (ansC ans0) 47);have hsz:((w.alloc (.cells (ansC ⟨e,h1,ad,n,d,ch⟩) 47)).alloc (.cells (ansC ans0) 47)).heap.size=w.heap.size+2:=by simp
 change Calls _ _ _ ((w.alloc (.cells (ansC ⟨e,h1,ad,n,d,ch⟩) 47)).alloc (.cells (ansC ans0) 47)) _;generalize ((w.alloc (.cells (ansC ⟨e,h1,ad,n,d,ch⟩) 47)).alloc (.cells (ansC ans0) 47))=W at *;refine(hc.out W hb).mono ?_;rintro e w' ⟨rfl,hw⟩;obtain rfl:=hw.symm;clear hw hc;obtain⟨k0,k1,k2,k3,k4,k5,f0,f1,f2,f3,f4,f5⟩:=qA.cells;obtain⟨l0,l1,l2,l3,l4,l5,g0,g1,g2,g3,g4,g5⟩:=qB.cells;simp only at k0 k1 k2 k3 k4 k5;replace qA:=HD qA;replace qB:=HD qB;replace hb:=HD hb;go_wp2_with fail;refine bodyPost_ret (v:=ansV ⟨_,h1,ad,n,d,q.cB⟩) (ans_results (by kernel_rfl) _ _ _ rfl ((qB.out.set_ne (by simp) _).store ⟨_,h1,ad,n,d,q.cB⟩)) rfl ⟨rfl,?_⟩;exact below_store (hb.out.setCell (Nat.le_refl _) _) (by omega) ⟨_,h1,ad,n,d,q.cB⟩
end
end
section
open Go.RowKit Flt
section
variable{w:World}{o:Nat→Tag}{t u z:Tag}{b a c:Nat}{y:TnX}{win:List Int}{tb:TbS}{id pk:Int}{al:AlS}{cp:CpS}{q:QS}{M:List (Int×Int)}
theorem tnFail(k:Int)(h:TnR w o t b a c y win tb id pk al cp q M)(hq:q.wf):Calls Tryz.prog 97 #[eP b,.int .i64 k] w fun e w'=>e=.returned (ansV ⟨k,0,0,0,ByteArray.empty,q.cB⟩)∧Below w.heap.size w w':=by
 have hc:=HD (show ∀w',Below w.heap.size w w'→Calls Tryz.prog 99 #[eP b,ansV ⟨k,0,0,0,ByteArray.empty,0⟩] w' (fun e w1=>e=.returned (ansV ⟨k,0,0,0,ByteArray.empty,q.cB⟩)∧Below w'.heap.size w' w1) from fun w' hb=>tnSay _ (h.fr (S:=fun _=>False) (Fr.below hb) off_no) hq);clear h hq;go_enter Tryz.func97,Tryz.ntmps97
 go_wp2_with fail;have qB:=Row.made w ans0;have hb:=(Below.refl w.heap.size w).alloc (Nat.le_refl _) (.cells (ansC ans0) 47);have hsz:(w.alloc (.cells (ansC ans0) 47)).heap.size=w.heap.size+1:=by simp
 change Calls _ _ _ (w.alloc (.cells (ansC ans0) 47)) _;generalize (w.alloc (.cells (ansC ans0) 47))=W at *;refine(hc.out W hb).mono ?_;rintro e w1 ⟨rfl,hb1⟩;clear hc;replace qB:=qB.fr hb1 (by omega);replace hb:=hb.trans (hb1.mono (by omega));obtain⟨l0,l1,l2,l3,l4,l5,g0,g1,g2,g3,g4,g5⟩:=qB.cells;replace qB:=HD qB;replace hb:=HD hb;clear hb1;simp only [ansV];go_wp2_with fail;refine bodyPost_ret (v:=ansV ⟨k,0,0,0,ByteArray.empty,q.cB⟩) ?_ rfl ⟨rfl,?_⟩
 ·exact ans_results (by kernel_rfl) _ _ _ rfl (qB.out.store ⟨k,0,0,0,ByteArray.empty,q.cB⟩)
 ·exact below_store hb.out (Nat.le_refl _) ⟨k,0,0,0,ByteArray.empty,q.cB⟩
theorem tnFind(hn:Nat)(r:Int)(hh:hn<18446744073709551616)(h:TnR w o t b a c y win tb id pk al cp q M):Calls Tryz.prog 100 #[eP b,.int .u64 hn,.int .i64 r] w fun e w'=>e=.returned (.tuple #[.int .i64 (cp.findF hn r).1,.int .i64 (cp.findF hn r).2])∧Below w.heap.size w w':=by
 have c3:=h.c3;have hf:=HD (cpFind y.bc hn r hh w h.cp);generalize cp.findF hn r=p at *;obtain⟨p1,p2⟩:=p;clear h;go_enter Tryz.func100,Tryz.ntmps100
 go_wp2_with fail;refine hf.out.mono ?_;rintro e w1 ⟨rfl,hb1⟩;replace hb1:=HD hb1;go_wp2_with fail;go_ret2
 exact⟨rfl,hb1.out⟩
end
end
section
open Go.RowKit Flt
section
variable{B:List UInt8}{cm:CmS}{win:List Int}{tb:TbS}{al:AlS}{pk:Int}
theorem mal_sl{c:Nat}(h:MalPre B cm win tb al c):((al.mal c).2.sl=al.sl∧c<8∧al.ln c≠[])∨(∃s,s<(al.sl c).n∧(al.sl c).f s=true∧(al.mal c).2.sl=up1 al.sl c ((al.sl c).flip s)∧(c<8→al.ln c=[])):=by
 unfold AlS.mal;by_cases h8:c<8
 ·rw [if_pos h8]
  cases hl:al.ln c with
  |cons v l=>exact .inl ⟨rfl,h8,by simp⟩
  |nil =>
   obtain⟨s,hs⟩:=h.room (fun _=>hl);refine .inr ⟨s,hs.slot.1,hs.slot.2.1,?_,fun _=>rfl⟩;have:=hs.low;rw [show (al.sl c).lowI.toNat=s by omega];rfl
 ·rw [if_neg h8]
  obtain⟨s,hs⟩:=h.room (fun q=>absurd q h8);refine .inr ⟨s,hs.slot.1,hs.slot.2.1,?_,fun q=>absurd q h8⟩;have:=hs.low;rw [show (al.sl c).lowI.toNat=s by omega]
theorem mal_pg{c:Nat}(h:MalPre B cm win tb al c):pgsum al.sl≤pgsum (al.mal c).2.sl:=by
 rcases mal_sl h with ⟨e,_⟩|⟨s,h1,h2,e,_⟩
 ·rw [e];exact Nat.le_refl _
 ·rw [e,pgsum_take h.k24 h1 h2];exact Nat.le_add_right _ _
theorem mal_pg2{c:Nat}(h:MalPre B cm win tb al c):pgsum (al.mal c).2.sl≤pgsum al.sl+16:=by
 rcases mal_sl h with ⟨e,_⟩|⟨s,h1,h2,e,_⟩
 ·rw [e];omega
 ·rw [e,pgsum_take h.k24 h1 h2]
  have:=kind_facts (c:=(c:Int)) (by omega) (by have:=h.k24;omega);omega
theorem dem_mal{c:Nat}(h:MalPre B cm win tb al c)(hd:Dem al pk)(hq:(al.cost:Int)+unitT c≤pk)(hcost:(al.mal c).2.cost=al.cost+(unitT c).toNat):Dem (al.mal c).2 pk:=by
 have hu:0≤unitT c:=by have:=(kind_facts (c:=(c:Int)) (by omega) (by have:=h.k24;omega)).1;omega
 refine⟨hd.may,fun d hd8=>?_,by omega⟩;have hs:=hd.small d hd8;rcases mal_sl h with ⟨e,_⟩|⟨s,h1,h2,e,h3⟩
 ·rw [e];exact hs
 ·rw [e]
  by_cases hdc:d=c
  ·subst hdc
   rw [up1_same,tkn_take h1 h2];have:=open_small h.hp.al hd hd8 (h3 hd8) hq;omega
  ·rw [up1_other hdc];exact hs
theorem fre_sl{c s k:Nat}(h:AlOk al)(hh:Had al c s k):(al.fre c s k).sl=al.sl∨(al.fre c s k).sl=up1 al.sl c ((al.sl c).flip s):=by
 unfold AlS.fre;by_cases h8:c<8
 ·rw [if_pos h8]
  unfold AlS.giveP
  split
  ·right
   have:=hh.there.2.1;rw [show (vOf c s%256).toNat=s by unfold vOf;rw [(pages_lt8 h8).2] at this;rw [(pages_lt8 h8).1];omega]
  ·left;rfl
 ·rw [if_neg h8];right;rfl
theorem fre_pg{c s k:Nat}(h:AlOk al)(hh:Had al c s k):pgsum (al.fre c s k).sl≤pgsum al.sl:=by
 rcases fre_sl h hh with e|e
 ·rw [e];exact Nat.le_refl _
 ·have:=pgsum_give hh.there.1 (had_n h hh) hh.2.1
  rw [e];omega
theorem dem_fre{c s k:Nat}(h:AlOk al)(hh:Had al c s k)(hd:Dem al pk)(hcost:(al.fre c s k).cost+(unitT c).toNat=al.cost):Dem (al.fre c s k) pk:=by
 have:=hd.cost;refine⟨hd.may,fun d hd8=>?_,by omega⟩;have hs:=hd.small d hd8;rcases fre_sl h hh with e|e
 ·rw [e];exact hs
 ·rw [e]
  by_cases hdc:d=c
  ·subst hdc
   rw [up1_same];have:=tkn_give (had_n h hh) hh.2.1;omega
  ·rw [up1_other hdc];exact hs
end
section
variable{o:Nat→Tag}{t u z:Tag}{x:HpX}{B:List UInt8}{m:Nat}{cm:CmS}{win:List Int}{tb:TbS}{al:AlS}
theorem hpMalloc(b a c k:Nat)(n:Int)(w:World)(h:HpW w o t u z b a c x B m cm win tb al)(hx:x.is tb al)(ap:Ap3 t u z)(hm:m≤900000)(hpre:MalPre B cm win tb al k)(hn:kindT n=k) :
  Calls Tryz.prog 145 #[.pointer (some ⟨b,0,none⟩),.int .i64 n] w (MalEnd w o t u z b a c B (m+2) cm win tb al k):=by
 by_cases h8:k<8
 ·cases hl:al.ln k with
  |cons v l=>exact hpMalloc_small b a c k n w h hx ap hm hpre hn h8 hl
  |nil=>exact hpMalloc_open b a c k n w h hx ap hm hpre hn h8 hl
 ·exact hpMalloc_run b a c k n w h hx ap hm hpre hn (by omega)
theorem hpFree(b a c k s j:Nat)(w:World)(h:HpW w o t u z b a c x B m cm win tb al)(hp:HpOk B cm win tb al)(hx:x.is tb al)(ap:Ap3 t u z)(hm:m≤800000)(hh:Had al k s j) :
  Calls Tryz.prog 148 #[.pointer (some ⟨b,0,none⟩),.int .i64 (posT k s j)] w fun e w'=>e=.returned (.int .i64 0)∧FrePost w o t u z b a c x B (m+20) cm win tb al k s j w':=by
 by_cases h8:k<8
 ·exact hpFree_small b a c k s j w h hp hx ap hm h8 hh
 ·exact hpFree_run b a c k s j w h hp hx ap hm (by omega) hh
end
end
section
open Go.RowKit Flt
structure TnW(w:World)(o:Nat→Tag)(t u z:Tag)(b a c:Nat)(y:TnX)(B:List UInt8)(m:Nat)(cm:CmS)(win:List Int)(tb:TbS)(id pk:Int)(al:AlS)(cp:CpS)(q:QS)(M:List (Int×Int)):Prop where
 tn:TnR w o t b a c y win tb id pk al cp q M
 is_:y.x.is tb al
 cma:CmAt w o u c cm
 ar:ArAt w o z a B m
theorem s3_sub{t u z:Tag}{r:Tag}{v:Tag}(h:S3 (t++r) u z v):S3 t u z v:=h.elim (fun q=>.inl q.up) .inr
theorem Ap3.sub{t u z:Tag}(h:Ap3 t u z)(r:Tag):Ap3 (t++r) u z:=⟨h.tu.sub r,h.tz.sub r,h.uz⟩
theorem off_s3{t u z v:Tag}(h1:Off (Und t) v)(h2:Off (Und u) v)(h3:Off (Und z) v):Off (S3 t u z) v :=
 ⟨fun x hx q=>q.elim (h1.1 x hx) (fun q=>q.elim (h2.1 x hx) (h3.1 x hx)),fun q=>q.elim h1.2 (fun q=>q.elim h2.2 h3.2)⟩
theorem off_s3_one{t u z:Tag}(ap:Ap3 t u z){i j:Nat}(h:i≠j):Off (S3 (t++[i]) u z) (t++[j]) :=
 off_s3 (off_one (r:=[]) (r':=[]) h ap.tu.t9) (ap.tu.sub [j]).swap.off (ap.tz.sub [j]).swap.off
theorem s3_self{t u z:Tag}(ap:Ap3 t u z)(i:Nat):¬S3 (t++[i]) u z t:=fun q=>q.elim (not_und t i []) (fun q=>q.elim ap.tu.swap.off.self ap.tz.swap.off.self)
section
variable{S:Tag→Prop}{w w':World}{o o':Nat→Tag}{t u z:Tag}{b a c:Nat}{y:TnX}{B:List UInt8}{m:Nat}{cm:CmS}{win:List Int}{tb:TbS}{id pk:Int}{al:AlS}{cp:CpS}{q:QS}{M:List (Int×Int)}
theorem TnW.hw(h:TnW w o t u z b a c y B m cm win tb id pk al cp q M):HpW w o (t++[0]) u z y.bh a c y.x B m cm win tb al:=⟨h.tn.hp,h.cma,h.ar⟩
theorem TnW.still(h:TnW w o t u z b a c y B m cm win tb id pk al cp q M)(f:Fr (fun _=>False) w o w' o'):TnW w' o' t u z b a c y B m cm win tb id pk al cp q M:=⟨h.tn.fr f off_no,h.is_,h.cma.fr f off_no,h.ar.fr f off_no⟩
theorem TnW.inHp(h:TnW w o t u z b a c y B m cm win tb id pk al cp q M)(ap:Ap3 t u z)(f:Fr (S3 (t++[0]) u z) w o w' o'){x':HpX}{B':List UInt8}{m':Nat}{cm':CmS}{win':List Int}{tb':TbS}{al':AlS}(g:HpW w' o' (t++[0]) u z y.bh a c x' B' m' cm' win' tb' al')(gi:x'.is tb' al') :
  TnW w' o' t u z b a c ⟨x',y.bh,y.bc,y.bq,y.go⟩ B' m' cm' win' tb' id pk al' cp q M :=
 ⟨h.tn.inHp ap.tu.t9 f (s3_self ap 0) (off_s3_one ap (by decide)) (off_s3_one ap (by decide)) (off_s3_one ap (by decide)) g.hp,gi,g.cma,g.ar⟩
theorem TnW.inCp(h:TnW w o t u z b a c y B m cm win tb id pk al cp q M)(ap:Ap3 t u z)(f:Fr (Und (t++[1])) w o w' o'){cp':CpS}(g:CpAt w' o' (t++[1]) y.bc cp'):TnW w' o' t u z b a c y B m cm win tb id pk al cp' q M :=
 ⟨h.tn.inCp ap.tu.t9 f g,h.is_,h.cma.fr f (ap.tu.sub [1]).off,h.ar.fr f (ap.tz.sub [1]).off⟩
theorem TnW.inQ(h:TnW w o t u z b a c y B m cm win tb id pk al cp q M)(ap:Ap3 t u z)(f:Only (· = y.bq) w w'){q':QS}(g:Qat w' y.bq q'):TnW w' o t u z b a c y B m cm win tb id pk al cp q' M∧Fr (S3 t u z) w o w' o :=
 ⟨⟨h.tn.inQ ap.tu.t9 f g,h.is_,h.cma.fr (h.tn.frQ f) (ap.tu.sub [2]).off,h.ar.fr (h.tn.frQ f) (ap.tz.sub [2]).off⟩,(h.tn.frQ f).mono fun v q=>.inl q.up⟩
theorem TnW.inOb(h:TnW w o t u z b a c y B m cm win tb id pk al cp q M)(ap:Ap3 t u z){M':List (Int×Int)}(g:MpPost w w' o (t++[3]) y.go .i64 eI M'):TnW w' o t u z b a c y B m cm win tb id pk al cp q M'∧Fr (S3 t u z) w o w' o:=by
 have f:Fr (Und (t++[3])) w o w' o:=g.2.1.mono fun v e=>by rw [e];exact Und.self _
 exact⟨⟨h.tn.inOb ap.tu.t9 g,h.is_,h.cma.fr f (ap.tu.sub [3]).off,h.ar.fr f (ap.tz.sub [3]).off⟩,f.mono fun v q=>.inl q.up⟩
theorem TnW.mono(h:TnW w o t u z b a c y B m cm win tb id pk al cp q M){m':Nat}(hm:m≤m'):TnW w o t u z b a c y B m' cm win tb id pk al cp q M:=⟨h.tn,h.is_,h.cma,h.ar.mono hm⟩
theorem fr_cp(f:Fr (Und (t++[1])) w o w' o'):Fr (S3 t u z) w o w' o':=f.mono fun v q=>.inl q.up
theorem fr_hp(f:Fr (S3 (t++[0]) u z) w o w' o'):Fr (S3 t u z) w o w' o':=f.mono fun v q=>s3_sub q
end
structure GetPre(B:List UInt8)(cm:CmS)(win:List Int)(tb:TbS)(al:AlS)(cp cp':CpS)(q:QS)(k:Nat)(hn:Nat):Prop where
 mal:MalPre B cm win tb al k
 wf:q.wf
 r0:q.rB=0∧q.rP=0
 pages:q.cP=tb.pg.length
 fit:q.cB+unitT k≤q.lB
 room:(∃B' cm' tb',MalRes B cm win tb al k B' cm' tb' (al.mal k).2 (al.mal k).1)→(pgsum (al.mal k).2.sl:Int)≤q.lP
 next:cp.next<17592186044416
 cpo:CpOk cp
 grant:(∃B' cm' tb',MalRes B cm win tb al k B' cm' tb' (al.mal k).2 (al.mal k).1)→cp.grantF (al.mal k).1=(.tuple #[.int .u64 hn,.int .i64 0],cp')
def GetPost(w:World)(o:Nat→Tag)(t u z:Tag)(b a c:Nat)(B:List UInt8)(m:Nat)(cm:CmS)(win:List Int)(tb:TbS)(id pk:Int)(al:AlS)(cp':CpS)(q:QS)(M:List (Int×Int))(k:Nat)(n:Int)(w':World):Prop :=
 ∃y' o' B' cm' tb',TnW w' o' t u z b a c y' B' m cm' win tb' id pk (al.mal k).2 cp' {q with cB:=q.cB+unitT k,cP:=tb'.pg.length} (mIns (al.mal k).1 n M)∧MalRes B cm win tb al k B' cm' tb' (al.mal k).2 (al.mal k).1∧Fr (S3 t u z) w o w' o'
end
section
open Go.RowKit Flt
theorem qs_res{lB lP cB cP rB rP b p:Int}(h1:cB+rB+b≤lB)(h2:cP+rP+p≤lP):QS.resE ⟨lB,lP,cB,cP,rB,rP⟩ b p=0∧QS.res ⟨lB,lP,cB,cP,rB,rP⟩ b p=⟨lB,lP,cB,cP,rB+b,rP+p⟩:=by
 unfold QS.resE QS.res;rw [if_pos ⟨h1,h2⟩,if_pos ⟨h1,h2⟩];exact⟨rfl,rfl⟩
theorem qs_com{lB lP cB cP b p:Int}:QS.canE ⟨lB,lP,cB,cP,b,p⟩ b p=0∧QS.com ⟨lB,lP,cB,cP,b,p⟩ b p=⟨lB,lP,cB+b,cP+p,0,0⟩:=by
 unfold QS.canE QS.com;rw [if_pos ⟨Int.le_refl _,Int.le_refl _⟩,if_pos ⟨Int.le_refl _,Int.le_refl _⟩];simp
section
variable{w:World}{o:Nat→Tag}{t u z:Tag}{b a c:Nat}{y:TnX}{B:List UInt8}{m:Nat}{cm:CmS}{win:List Int}{tb:TbS}{id pk:Int}{al:AlS}{cp cp':CpS}{q:QS}{M:List (Int×Int)}
set_option maxHeartbeats 1000000 in
theorem tnGet(k:Nat)(n:Int)(hn:Nat)(h:TnW w o t u z b a c y B m cm win tb id pk al cp q M)(ap:Ap3 t u z)(hm:m≤900000)(hk:kindT n=k)(hM:M.length<100000)(hp:GetPre B cm win tb al cp cp' q k hn) :
  Calls Tryz.prog 98 #[eP b,.int .i64 n] w fun e w'=>e=.returned (.tuple #[.int .u64 hn,.int .i64 (al.mal k).1,.int .i64 0])∧GetPost w o t u z b a c B (m+2) cm win tb id pk al cp' q M k n w':=by
 obtain⟨hmal,hwf,⟨hr0,hr1⟩,hpg,hfit,hroom,hnext,hcpo,hgr⟩:=hp;obtain⟨lB,lP,cB,cP,rB,rP⟩:=q;simp only at hr0 hr1 hpg hfit hroom;subst hr0;subst hr1;have hb:=hwf;unfold QS.wf at hb;simp only at hb;have hu:=kind_facts (c:=(k:Int)) (by omega) (by have:=hmal.k24;omega);have hch:chargeT n=unitT k:=by unfold chargeT;rw [hk]
 have hpgm:=mal_pg hmal;have hpgm2:=mal_pg2 hmal;have hcnt:=hmal.hp.cnt;have hu1:16≤unitT (k:Int)∧unitT (k:Int)≤8192:=by omega
 obtain⟨ad,al',hmp⟩:∃ad al',al.mal k=(ad,al'):=⟨_,_,rfl⟩
 rw [hmp] at hpgm hpgm2 hroom hgr;simp only at hpgm hpgm2 hroom hgr;have hall:=HD (show Calls Tryz.prog 104 #[.int .i64 n] w (fun e w'=>e=.returned (.int .i64 (unitT k))∧w'=w)∧w.cell? ⟨b,2,none⟩=some (eP y.bh) ∧
   Calls Tryz.prog 142 #[eP y.bh] w (fun e w'=>e=.returned (.int .i64 tb.pg.length)∧w'=w)∧w.cell? ⟨b,4,none⟩=some (eP y.bq) ∧
   Calls Tryz.prog 143 #[eP y.bq,.complex .f64 (F (unitT k)) (F 0)] w (fun e w1=>e=.returned (.int .i64 0)∧w1.cell? ⟨b,3,none⟩=some (eP y.bc)∧w1.cell? ⟨b,2,none⟩=some (eP y.bh) ∧
    Calls Tryz.prog 94 #[eP y.bc] w1 (fun e w'=>e=.returned (.int .i64 cp.next)∧w'=w1) ∧
    Calls Tryz.prog 145 #[eP y.bh,.int .i64 n] w1 (fun e w2=>e=.returned (.tuple #[.int .i64 ad,.int .i64 0])∧w2.cell? ⟨b,2,none⟩=some (eP y.bh)∧w2.cell? ⟨b,3,none⟩=some (eP y.bc) ∧
     Calls Tryz.prog 142 #[eP y.bh] w2 (fun e w'=>e=.returned (.int .i64 (pgsum al'.sl))∧w'=w2) ∧
     Calls Tryz.prog 146 #[eP y.bc,.int .i64 ad] w2 (fun e w3=>e=.returned (.tuple #[.int .u64 hn,.int .i64 0])∧w3.cell? ⟨b,4,none⟩=some (eP y.bq) ∧
      Calls Tryz.prog 143 #[eP y.bq,.complex .f64 (F 0) (F (pgsum al'.sl-tb.pg.length))] w3 (fun e w4=>e=.returned (.int .i64 0)∧w4.cell? ⟨b,4,none⟩=some (eP y.bq) ∧
       Calls Tryz.prog 149 #[eP y.bq,.complex .f64 (F (unitT k+0)) (F (0+(pgsum al'.sl-tb.pg.length)))] w4 (fun e w5=>e=.returned (.int .i64 0)∧w5.cell? ⟨b,7,none⟩=some (.map (some y.go)) ∧
        ∃w6,(Instr.mapUpdate 131 (.map (some y.go)) (.int .i64 ad) (.int .i64 n)).run Tryz.prog w5=.ok () w6∧GetPost w o t u z b a c B (m+2) cm win tb id pk al cp' ⟨lB,lP,cB,cP,0,0⟩ M k n w6))))) from by
  refine⟨by have:=tnCost n w;rwa [hch] at this,h.tn.c2,hpPages y.bh a c w h.tn.hp,h.tn.c4,?_⟩;have s1:=reserve_yes y.bq _ (unitT k) 0 w hwf (okS_iff.2 (by omega)) h.tn.qa;rw [(qs_res (by omega) (by omega)).1,(qs_res (by omega) (by omega)).2,Int.zero_add,Int.add_zero] at s1;refine s1.mono ?_;rintro e w1 ⟨rfl,q1,f1⟩;obtain⟨h1,fr1⟩:=h.inQ ap f1 q1;refine⟨rfl,h1.tn.c3,h1.tn.c2,cpSerial y.bc w1 h1.tn.cp,?_⟩;refine(hpMalloc y.bh a c k n w1 h1.hw h1.is_ (ap.sub [0]) hm hmal hk).mono ?_;rintro e w2 ⟨ad2,rfl,x2,o2,B2,cm2,tb2,al2,g2,gi2,R2,e2,fr2⟩;rw [hmp] at e2;obtain⟨e3,e4⟩:=Prod.mk.inj e2;subst e3;subst e4;have h2:=h1.inHp ap fr2 g2 gi2;have hn2:=R2.hp.cnt;replace hgr:=hgr ⟨B2,cm2,tb2,R2⟩;replace hroom:=hroom ⟨B2,cm2,tb2,R2⟩;refine⟨rfl,h2.tn.c2,h2.tn.c3,by have:=hpPages y.bh a c w2 h2.tn.hp;rwa [hn2] at this,?_⟩;have s3:=cpGrant y.bc ad w2 h2.tn.cp hcpo (ap.tu.sub [1]).t9;rw [hgr] at s3;refine s3.mono ?_;rintro e w3 ⟨rfl,o3,g3,fr3⟩;have h3:=h2.inCp ap fr3 g3;refine⟨rfl,h3.tn.c4,?_⟩;have hwf3:QS.wf ⟨lB,lP,cB,cP,unitT k,0⟩:=by unfold QS.wf;simp only;omega
  have s4:=reserve_yes y.bq _ 0 (pgsum al'.sl-tb.pg.length) w3 hwf3 (okS_iff.2 (by omega)) h3.tn.qa;rw [(qs_res (by omega) (by omega)).1,(qs_res (by omega) (by omega)).2] at s4;refine s4.mono ?_;rintro e w4 ⟨rfl,q4,f4⟩;obtain⟨h4,fr4⟩:=h3.inQ ap f4 q4;refine⟨rfl,h4.tn.c4,?_⟩;have hwf4:QS.wf ⟨lB,lP,cB,cP,unitT k+0,0+(pgsum al'.sl-tb.pg.length)⟩:=by unfold QS.wf;simp only;omega
  have s5:=commit_yes y.bq _ (unitT k+0) (0+(pgsum al'.sl-tb.pg.length)) w4 hwf4 (okS_iff.2 (by omega)) h4.tn.qa;rw [qs_com.1,qs_com.2] at s5;refine s5.mono ?_;rintro e w5 ⟨rfl,q5,f5⟩;obtain⟨h5,fr5⟩:=h4.inQ ap f5 q5;obtain⟨w6,g6,p6⟩:=mp_store h5.tn.ob (P:=Tryz.prog) Tryz.underlying131 Tryz.underlying3 ad n (by omega);obtain⟨h6,fr6⟩:=h5.inOb ap p6;refine⟨rfl,h5.tn.c7,w6,g6,⟨x2,y.bh,y.bc,y.bq,y.go⟩,o3,B2,cm2,tb2,?_,?_,?_⟩
  ·rw [hmp]
   have e:(⟨lB,lP,cB+(unitT k+0),cP+(0+(pgsum al'.sl-tb.pg.length)),0,0⟩:QS)=⟨lB,lP,cB+unitT k,tb2.pg.length,0,0⟩:=by
    rw [hn2,hpg,Int.add_zero,Int.zero_add]
    congr 1
    omega
   rw [e] at h6;exact h6
  ·rw [hmp];exact R2
  ·exact((fr1.trans (fr_hp fr2)).trans (fr_cp fr3)).trans ((fr4.trans fr5).trans fr6))
 have hl1:=HD (fun w=>tnLimit (unitT k) 0 w);have hl2:=HD (fun w=>tnLimit 0 ((pgsum al'.sl:Int)-tb.pg.length) w);have hadd:=fun w t=>complex_add (a:=unitT k) (b:=0) (c:=0) (d:=pgsum al'.sl-tb.pg.length) (by omega) (by omega) (by omega) (by omega) (by omega) (by omega) w t
 have hs1:((unitT (k:Int))==0)=false:=by simp;omega
 have hs2:decide (17592186044416≤cp.next)=false:=decide_eq_false (by omega);have hs3:=IntWalk.i64_in ((pgsum al'.sl:Int)-tb.pg.length) (by omega);rw [hmp];simp only;obtain⟨e1,hall⟩:=hall.out;replace e1:=HD e1;obtain⟨c2,hpa,c4,hre⟩:=hall;replace hpa:=HD hpa;replace hre:=HD hre;clear h hmp hmal hgr hcnt hu hch hb hwf hk;generalize pgsum al'.sl=np at *;generalize unitT (k:Int)=cost at *;generalize F (cost+0)=fd at *;generalize F (0+((np:Int)-tb.pg.length))=fe at *;generalize F ((np:Int)-tb.pg.length)=fc at *;generalize F cost=fa at *;generalize F 0=fb at *;go_enter Tryz.func98,Tryz.ntmps98
 go_wp2_with fail;refine SM e1.out ?_;go_wp2_with fail;refine SM hpa.out ?_;go_wp2_with fail;refine SM (hl1.out _) ?_;go_wp2_with fail;refine hre.out.mono ?_;rintro e w1 ⟨rfl,c3,c2,hse,hall⟩;replace hse:=HD hse;replace hall:=HD hall;clear hre hpa e1 c4;go_wp2_with fail;refine SM hse.out ?_;go_wp2_with fail;refine hall.out.mono ?_;rintro e w2 ⟨rfl,c2,c3,hpa,hall⟩;replace hpa:=HD hpa;replace hall:=HD hall;clear hse;go_wp2_with fail;refine SM hpa.out ?_;go_wp2_with fail;refine SM (hl2.out _) ?_;go_wp2_with fail;refine hall.out.mono ?_;rintro e w3 ⟨rfl,c4,hall⟩;replace hall:=HD hall;clear hpa c2 c3;go_wp2_with fail;refine hall.out.mono ?_;rintro e w4 ⟨rfl,c4,hall⟩;replace hall:=HD hall;go_wp2_with fail;refine hall.out.mono ?_;rintro e w5 ⟨rfl,c7,w6,hmu,hall⟩;replace hall:=HD hall;clear c4;go_wp2_with fail;go_ret3
 exact⟨rfl,hall.out⟩
end
end
section
open Go.RowKit Flt
section
variable{w:World}{o:Nat→Tag}{t u z:Tag}{b a c:Nat}{y:TnX}{B:List UInt8}{m:Nat}{cm:CmS}{win:List Int}{tb:TbS}{id pk:Int}{al:AlS}{cp cp':CpS}{q:QS}{M:List (Int×Int)}
theorem tnGet_size(n:Int)(h:TnW w o t u z b a c y B m cm win tb id pk al cp q M)(hk:chargeT n=0) :
  Calls Tryz.prog 98 #[eP b,.int .i64 n] w fun e w'=>e=.returned (.tuple #[.int .u64 0,.int .i64 0,.int .i64 2])∧w'=w:=by
 have e1:=HD (tnCost n w);rw [hk] at e1;have c2:=h.tn.c2;have hpa:=HD (hpPages y.bh a c w h.tn.hp);have hl1:=HD (fun w=>tnLimit 0 0 w);generalize F 0=fb at *;clear h hk;go_enter Tryz.func98,Tryz.ntmps98
 go_wp2_with fail;refine SM e1.out ?_;go_wp2_with fail;refine SM hpa.out ?_;go_wp2_with fail;refine SM (hl1.out _) ?_;go_wp2_with fail;go_ret3
 exact⟨rfl,rfl⟩
theorem tnGet_quota(k:Nat)(n:Int)(h:TnW w o t u z b a c y B m cm win tb id pk al cp q M)(ap:Ap3 t u z)(hwf:q.wf)(hr:q.rB=0∧q.rP=0)(hk:kindT n=k)(hk2:k<24)(hq:q.lB<q.cB+unitT k) :
  Calls Tryz.prog 98 #[eP b,.int .i64 n] w fun e w'=>e=.returned (.tuple #[.int .u64 0,.int .i64 0,.int .i64 3])∧TnW w' o t u z b a c y B m cm win tb id pk al cp q M∧Fr (S3 t u z) w o w' o:=by
 have hu:=kind_facts (c:=(k:Int)) (by omega) (by omega);have hch:chargeT n=unitT k:=by unfold chargeT;rw [hk]
 have e1:=HD (tnCost n w);rw [hch] at e1;have c2:=h.tn.c2;have c4:=h.tn.c4;have hpa:=HD (hpPages y.bh a c w h.tn.hp);have hl1:=HD (fun w=>tnLimit (unitT k) 0 w);have hre:=HD (show Calls Tryz.prog 143 #[eP y.bq,.complex .f64 (F (unitT k)) (F 0)] w (fun e w1=>e=.returned (.int .i64 3)∧TnW w1 o t u z b a c y B m cm win tb id pk al cp q M∧Fr (S3 t u z) w o w1 o) from by
  have s1:=reserve_yes y.bq q (unitT k) 0 w hwf (okS_iff.2 (by omega)) h.tn.qa;rw [show q.resE (unitT k) 0=3 from if_neg (by omega),show q.res (unitT k) 0=q from if_neg (by omega)] at s1;refine s1.mono ?_;rintro e w1 ⟨rfl,q1,f1⟩;exact⟨rfl,h.inQ ap f1 q1⟩)
 have hs1:((unitT (k:Int))==0)=false:=by simp;omega
 generalize F 0=fb at *;generalize F (unitT (k:Int))=fa at *;generalize unitT (k:Int)=cost at *;clear h hk hu hch hwf hr hq;go_enter Tryz.func98,Tryz.ntmps98
 go_wp2_with fail;refine SM e1.out ?_;go_wp2_with fail;refine SM hpa.out ?_;go_wp2_with fail;refine SM (hl1.out _) ?_;go_wp2_with fail;refine hre.out.mono ?_;rintro e w1 ⟨rfl,hall⟩;replace hall:=HD hall;clear hre hpa e1 c4 c2;go_wp2_with fail;go_ret3
 exact⟨rfl,hall.out⟩
def PutPost(w:World)(o:Nat→Tag)(t u z:Tag)(b a c:Nat)(B:List UInt8)(m:Nat)(cm:CmS)(win:List Int)(tb:TbS)(id pk:Int)(al:AlS)(cp:CpS)(q:QS)(M:List (Int×Int))(k s j:Nat)(w':World):Prop :=
 ∃y' o' B' cm' tb',TnW w' o' t u z b a c y' B' m cm' win tb' id pk (al.fre k s j) (cp.rv (posT k s j) 4160).1 {q with cB:=q.cB-unitT k,cP:=tb'.pg.length} (mDel (posT k s j) M)∧FreRes B cm win tb al k s j B' cm' tb' (al.fre k s j)∧Fr (S3 t u z) w o w' o'
set_option maxHeartbeats 1000000 in
theorem tnPut(k s j:Nat)(h:TnW w o t u z b a c y B m cm win tb id pk al cp q M)(ap:Ap3 t u z)(hm:m≤800000)(hp:HpOk B cm win tb al)(hh:Had al k s j)(hwf:q.wf)(hr:q.rB=0∧q.rP=0)(hpg:q.cP=tb.pg.length)(hq:unitT k≤q.cB) :
  Calls Tryz.prog 101 #[eP b,.int .i64 (posT k s j)] w fun e w'=>e=.returned (.tuple #[])∧PutPost w o t u z b a c B (m+20) cm win tb id pk al cp q M k s j w':=by
 have hu:=kind_facts (c:=(k:Int)) (by omega) (by have:=hh.there.1;omega);have hpgm:=fre_pg hp.al hh;have hcnt:=hp.cnt;have hb:=hwf;unfold QS.wf at hb;obtain⟨lB,lP,cB,cP,rB,rP⟩:=q;simp only at hb hr hpg hq;obtain⟨hr0,hr1⟩:=hr;subst hr0;subst hr1;have hall:=HD (show w.cell? ⟨b,2,none⟩=some (eP y.bh)∧Calls Tryz.prog 103 #[eP y.bh,.int .i64 (posT k s j)] w (fun e w1=>e=.returned (.tuple #[.int .i64 (unitT k),.int .i64 0])∧w1.cell? ⟨b,2,none⟩=some (eP y.bh) ∧
   Calls Tryz.prog 142 #[eP y.bh] w1 (fun e w'=>e=.returned (.int .i64 tb.pg.length)∧w'=w1) ∧
   Calls Tryz.prog 148 #[eP y.bh,.int .i64 (posT k s j)] w1 (fun e w2=>e=.returned (.int .i64 0)∧w2.cell? ⟨b,3,none⟩=some (eP y.bc) ∧
    ∃r:Int,Calls Tryz.prog 147 #[eP y.bc,.int .i64 (posT k s j)] w2 (fun e w3=>e=.returned (.int .i64 r)∧w3.cell? ⟨b,7,none⟩=some (.map (some y.go)) ∧
     ∃w4,(Builtin.delete_ #[131,3] 0 #[.map (some y.go),.int .i64 (posT k s j)]).run Tryz.prog w3=.ok (.tuple #[]) w4∧(w4.drew.cell? ⟨b,4,none⟩=some (eP y.bq)∧w4.drew.cell? ⟨b,2,none⟩=some (eP y.bh)) ∧
      Calls Tryz.prog 142 #[eP y.bh] w4.drew (fun e w'=>e=.returned (.int .i64 (pgsum (al.fre k s j).sl))∧w'=w4.drew) ∧
      Calls Tryz.prog 96 #[eP y.bq,.complex .f64 (F (unitT k)) (F (tb.pg.length-pgsum (al.fre k s j).sl))] w4.drew (fun e w5=>e=.returned (.int .i64 0)∧(w5.cell? ⟨b,4,none⟩=some (eP y.bq)∧w5.cell? ⟨b,2,none⟩=some (eP y.bh))∧PutPost w o t u z b a c B (m+20) cm win tb id pk al cp ⟨lB,lP,cB,cP,0,0⟩ M k s j w5)))) from by
  refine⟨h.tn.c2,(hpUsable y.bh a c k s j w h.tn.hp hh (hp.al.n k hh.there.1)).mono ?_⟩;rintro e w1 ⟨rfl,nn,rfl⟩;have f1:Fr (fun _=>False) w o (w.drewN nn) o:=fr_drewN nn;have h1:=h.still f1;refine⟨rfl,h1.tn.c2,hpPages y.bh a c _ h1.tn.hp,(hpFree y.bh a c k s j _ h1.hw hp h1.is_ (ap.sub [0]) hm hh).mono ?_⟩;rintro e w2 ⟨rfl,o2,B2,cm2,tb2,g2,gi2,R2,fr2⟩;have h2:=h1.inHp ap fr2 g2 gi2;have hn2:=R2.hp.cnt;refine⟨rfl,h2.tn.c3,((cp.rv (posT k s j) 4160).2:Nat),(cpRevoke y.bc (posT k s j) w2 h2.tn.cp (ap.tu.sub [1]).t9).mono ?_⟩;rintro e w3 ⟨rfl,o3,g3,fr3⟩;have h3:=h2.inCp ap fr3 g3;obtain⟨w4,g4,p4⟩:=mp_delete h3.tn.ob (P:=Tryz.prog) (ty:=0) Tryz.underlying131 Tryz.underlying3 (posT k s j);obtain⟨h4,fr4⟩:=h3.inOb ap p4;replace h4:=h4.still (w':=w4.drew) (o':=o3) Fr.drew;have fd:Fr (S3 t u z) w4 o3 w4.drew o3:=Fr.drew;refine⟨rfl,h3.tn.c7,w4,g4,⟨h4.tn.c4,h4.tn.c2⟩,by have:=hpPages y.bh a c w4.drew h4.tn.hp;rwa [hn2] at this,?_⟩;have s5:=refund_yes y.bq _ (unitT k) (tb.pg.length-pgsum (al.fre k s j).sl) w4.drew hwf (okS_iff.2 (by omega)) h4.tn.qa;rw [show QS.refE ⟨lB,lP,cB,cP,0,0⟩ (unitT k) (tb.pg.length-pgsum (al.fre k s j).sl)=0 from if_pos ⟨hq,by simp only;omega⟩,show QS.ref ⟨lB,lP,cB,cP,0,0⟩ (unitT k) (tb.pg.length-pgsum (al.fre k s j).sl)=⟨lB,lP,cB-unitT k,cP-(tb.pg.length-pgsum (al.fre k s j).sl),0,0⟩ from if_pos ⟨hq,by simp only;omega⟩] at s5;refine s5.mono ?_;rintro e w5 ⟨rfl,q5,f5⟩;obtain⟨h5,fr5⟩:=h4.inQ ap f5 q5;refine⟨rfl,⟨h5.tn.c4,h5.tn.c2⟩,⟨y.x,y.bh,y.bc,y.bq,y.go⟩,o3,B2,cm2,tb2,?_,R2,?_⟩
  ·have e:cP-((tb.pg.length:Int)-(pgsum (al.fre k s j).sl:Int))=(tb2.pg.length:Int):=by omega
   rw [e] at h5;exact h5
  ·exact(((f1.mono fun v q=>q.elim).trans (fr_hp fr2)).trans (fr_cp fr3)).trans ((fr4.trans fd).trans fr5))
 have hl2:=HD (fun w=>tnLimit (unitT k) ((tb.pg.length:Int)-pgsum (al.fre k s j).sl) w);have hs3:=IntWalk.i64_in ((tb.pg.length:Int)-pgsum (al.fre k s j).sl) (by omega);generalize pgsum (al.fre k s j).sl=np at *;generalize posT k s j=ad at *;generalize unitT (k:Int)=cost at *;generalize F ((tb.pg.length:Int)-np)=fc at *;generalize F cost=fa at *;obtain⟨c2,hall⟩:=hall.out;replace hall:=HD hall;clear h hp hh hu hpgm hcnt hb hwf;go_enter Tryz.func101,Tryz.ntmps101
 go_wp2_with fail;refine hall.out.mono ?_;rintro e w1 ⟨rfl,c2,hpa,hall⟩;replace hpa:=HD hpa;replace hall:=HD hall;go_wp2_with fail;refine SM hpa.out ?_;go_wp2_with fail;refine hall.out.mono ?_;rintro e w2 ⟨rfl,c3,r,hall⟩;replace hall:=HD hall;clear hpa c2;go_wp2_with fail;refine hall.out.mono ?_;rintro e w3 ⟨rfl,c7,w4,hdl,hcc,hpa,hall⟩;replace hpa:=HD hpa;replace hall:=HD hall;clear c3;go_wp2_with fail;refine wp_region_noPanic ?_;refine wp_region_held_drew (S:=(fun W'=>W'.cell? ⟨b,4,none⟩=some (eP y.bq)∧W'.cell? ⟨b,2,none⟩=some (eP y.bh))) (by kernel_rfl) ?_ (fun hHeld=>?_)
 ·(try dsimp only)
  (first|exact hcc|exact hcs)
 refine tkH 0 (h:=?_);refine tkH 1 (h:=?_);refine tkH 2 (h:=?_);refine tkH 3 (h:=?_);refine tkH 4 (h:=?_);refine tkH 5 (h:=?_);refine tkH 6 (h:=?_);refine tkH 7 (h:=?_);refine tkH 8 (h:=?_);refine tkH 9 (h:=?_);refine onH 10 (h:=fun K hK=>?_);go_simp;refine SM hpa.out ?_;go_wp2_with fail;refine hK.out _ _ ?_ (fun hHeld=>?_)
 ·(try dsimp only)
  (first|exact hcc|exact hcs)
 clear hK;refine nmH (h:=?_);refine tkH 11 (h:=?_);refine onH 12 (h:=fun K hK=>?_);go_simp;refine SM (hl2.out _) ?_;go_wp2_with fail;refine hK.out _ _ ?_ (fun hHeld=>?_)
 ·(try dsimp only)
  (first|exact hcc|exact hcs)
 clear hK;refine nmH (h:=?_);refine onH 13 (h:=fun K hK=>?_);go_simp;refine hall.out.mono ?_;rintro e w5 ⟨rfl,hcs,hall⟩;replace hall:=HD hall;go_wp2_with fail;refine hK.out _ _ ?_ (fun hHeld=>?_)
 ·(try dsimp only)
  (first|exact hcc|exact hcs)
 clear hK;refine nmH (h:=?_);refine wpAnyH_done (by kernel_rfl) ?_ _;refine NoPanic.normal ?_;go_wp2_with fail;exact bodyPost_end (results_none (by kernel_rfl) _ _ _) rfl ⟨rfl,hall.out⟩
end
end
section
open Go.RowKit Flt
theorem nodup_sub{α:Type}[DecidableEq α]:∀(l K:List α),l.Nodup→(∀x∈l,x∈K)→l.length≤K.length
 |[],K,_,_=>Nat.zero_le _
 |x :: l,K,hn,h=>by
  obtain⟨h1,h2⟩:=List.nodup_cons.1 hn;have hx:x∈K:=h x (by simp);have:=nodup_sub l (K.erase x) h2 (fun y hy=>by
   have hne:y≠x:=fun e=>h1 (e▸hy)
   exact(List.mem_erase_of_ne hne).2 (h y (by simp [hy])))
  have hl:=List.length_erase_of_mem hx;have hpos:0<K.length:=List.length_pos_of_mem hx;simp only [List.length_cons];omega
structure CpR(cp:CpS)(K:List Int):Prop where
 ok:CpOk cp
 rise:Rise cp.slots
 tak:∀k:Nat,k<4096→cp.obj.f k=false→∃x,mGet cp.slots (k:Int)=some x
 adr:∀k x,mGet cp.slots k=some x→x.2∈K
 one:∀(k1 k2:Nat) (x1 x2:Slot),k1<4096→k2<4096→mGet cp.slots (k1:Int)=some x1→mGet cp.slots (k2:Int)=some x2→x1.2=x2.2→k1=k2
theorem CpR.cong{cp:CpS}{K K':List Int}(h:CpR cp K)(hk:∀x∈K,x∈K'):CpR cp K':=⟨h.ok,h.rise,h.tak,fun k x q=>hk _ (h.adr k x q),h.one⟩
theorem CpR.new{tenant serial:Int}(ht:0≤tenant∧tenant≤7)(hs:1≤serial∧serial≤17592186044416):CpR (CpS.new tenant serial) [] where
 ok:=CpOk.new ht hs
 rise:=List.Pairwise.nil
 tak k hk hf:=by
  exfalso
  have:(ShS.new 4096).f k=true:=by unfold ShS.new;simp;omega
  rw [show (CpS.new tenant serial).obj=ShS.new 4096 from rfl,this] at hf;cases hf
 adr k x q:=by cases q
 one k1 k2 x1 x2 _ _ q:=by cases q
theorem CpR.tkn{cp:CpS}{K:List Int}(h:CpR cp K):cp.obj.tkn≤K.length:=by
 have e:cp.obj.tkn=((List.range 4096).filter fun k=>!cp.obj.f k).length:=by
  unfold ShS.tkn ShS.cnt;rw [h.ok.obj,←List.countP_eq_length_filter];have:=List.length_eq_countP_add_countP (p:=cp.obj.f) (l:=List.range 4096);rw [List.length_range] at this;have e2:List.countP (fun a=>decide ¬cp.obj.f a=true) (List.range 4096)=List.countP (fun k=>!cp.obj.f k) (List.range 4096):=by
   congr 1
   funext a
   cases cp.obj.f a<;>rfl
  rw [e2] at this;omega
 rw [e];have hn:(((List.range 4096).filter fun k=>!cp.obj.f k).map fun k=>((mGet cp.slots ((k:Nat):Int)).getD ((0,0),0)).2).Nodup:=by
  refine List.pairwise_map.2 (List.Pairwise.imp_of_mem (R:=fun a b=>a≠b) (fun {a b} ha hb hne=>?_) (List.Pairwise.filter _ List.nodup_range));obtain⟨a1,a2⟩:=List.mem_filter.1 ha;obtain⟨b1,b2⟩:=List.mem_filter.1 hb;have a3:=List.mem_range.1 a1;have b3:=List.mem_range.1 b1;obtain⟨x,hx⟩:=h.tak a a3 (by simpa using a2);obtain⟨y,hy⟩:=h.tak b b3 (by simpa using b2);intro q;rw [hx,hy] at q;exact hne (h.one a b x y a3 b3 hx hy q)
 have:=nodup_sub _ K hn (fun x hx=>by
  obtain⟨k,hk,rfl⟩:=List.mem_map.1 hx;obtain⟨k1,k2⟩:=List.mem_filter.1 hk;obtain⟨x,hx⟩:=h.tak k (List.mem_range.1 k1) (by simpa using k2);rw [hx];exact h.adr _ _ hx)
 rwa [List.length_map] at this
theorem CpR.fill{cp:CpS}{K:List Int}(h:CpR cp K){ob:Bool}{a r:Int}{k:Nat}(hk:k<(if ob then 4096 else 64))(hf:(cp.sh ob).f k=true)(hok:CpOk (cp.fill ob a r k))(ha:ob=true→a∉K):CpR (cp.fill ob a r k) (a :: K) where
 ok:=hok
 rise:=mIns_rise h.rise _ _
 tak j hj hfj:=by
  by_cases e:((j:Nat):Int)=CpS.base ob+k
  ·exact⟨_,by rw [e];exact mGet_ins_same h.rise _ _⟩
  ·have hfo:cp.obj.f j=false:=by
    cases ob with
    |true =>
     have e2:j≠k:=by unfold CpS.base at e;simp at e;omega
     have q:(cp.obj.flip k).f j=false:=hfj;unfold ShS.flip at q;simpa [e2] using q
    |false=>exact hfj
   obtain⟨x,hx⟩:=h.tak j hj hfo;exact⟨x,(mGet_ins_other e _).trans hx⟩
 adr j x q:=by
  by_cases e:j=CpS.base ob+k
  ·subst e
   rw [show (cp.fill ob a r k).slots=mIns (CpS.base ob+k) ((r,cp.next),a) cp.slots from rfl,mGet_ins_same h.rise] at q;obtain rfl:=Option.some.inj q;exact List.mem_cons_self
  ·rw [show (cp.fill ob a r k).slots=mIns (CpS.base ob+k) ((r,cp.next),a) cp.slots from rfl,mGet_ins_other e] at q
   exact List.mem_cons_of_mem _ (h.adr j x q)
 one k1 k2 x1 x2 h1 h2 q1 q2 hx:=by
  rw [show (cp.fill ob a r k).slots=mIns (CpS.base ob+k) ((r,cp.next),a) cp.slots from rfl] at q1 q2;by_cases e1:((k1:Nat):Int)=CpS.base ob+k
  ·by_cases e2:((k2:Nat):Int)=CpS.base ob+k
   ·omega
   ·rw [e1,mGet_ins_same h.rise] at q1
    rw [mGet_ins_other e2] at q2;obtain rfl:=Option.some.inj q1;cases ob with
    |true=>exact absurd (by have:=h.adr _ _ q2;rw [←hx] at this;exact this) (ha rfl)
    |false=>unfold CpS.base at e1;simp at e1;omega
  ·by_cases e2:((k2:Nat):Int)=CpS.base ob+k
   ·rw [e2,mGet_ins_same h.rise] at q2
    rw [mGet_ins_other e1] at q1;obtain rfl:=Option.some.inj q2;cases ob with
    |true=>exact absurd (by have:=h.adr _ _ q1;rw [hx] at this;exact this) (ha rfl)
    |false=>unfold CpS.base at e2;simp at e2;omega
   ·rw [mGet_ins_other e1] at q1
    rw [mGet_ins_other e2] at q2;exact h.one k1 k2 x1 x2 h1 h2 q1 q2 hx
theorem rv_look{cp:CpS}(hr:Rise cp.slots)(hn:cp.obj.n=4096)(a:Int)(k:Nat):Rise (cp.rv a k).1.slots∧(cp.rv a k).1.obj.n=4096∧(∀j:Int,mGet (cp.rv a k).1.slots j=if (0≤j∧j<k)∧cp.hit a j.toNat=true then none else mGet cp.slots j)∧(∀j:Nat,(cp.rv a k).1.obj.f j=false→cp.obj.f j=false∧¬(j<k∧j<4096∧cp.hit a j=true)):=by
 induction k with
 |zero=>exact⟨hr,hn,fun j=>by rw [if_neg (by omega)];rfl,fun j q=>⟨q,by omega⟩⟩
 |succ k ih =>
  obtain⟨h1,h2,h3,h4⟩:=ih;have hk:mGet (cp.rv a k).1.slots (k:Int)=mGet cp.slots (k:Int):=by rw [h3,if_neg (by omega)]
  have hh:(cp.rv a k).1.hit a k=cp.hit a k:=by unfold CpS.hit;rw [hk]
  unfold CpS.rv;rw [hh];by_cases c:cp.hit a k=true
  ·rw [if_pos c]
   refine⟨mDel_rise h1 _,?_,fun j=>?_,fun j q=>?_⟩
   ·show (if k<4096 then (cp.rv a k).1.obj.give k else (cp.rv a k).1.obj).n=4096
    split
    ·rw [give_n',h2]
    ·exact h2
   ·show mGet (mDel (k:Int) (cp.rv a k).1.slots) j=_
    by_cases e:j=k
    ·subst e
     rw [mGet_del_same h1,if_pos ⟨by omega,by rw [Int.toNat_natCast];exact c⟩]
    ·rw [mGet_del_other e,h3]
     by_cases q:(0≤j∧j<k)∧cp.hit a j.toNat=true
     ·rw [if_pos q,if_pos ⟨by omega,q.2⟩]
     ·rw [if_neg q,if_neg (fun q2=>q ⟨by omega,q2.2⟩)]
   ·replace q:(if k<4096 then (cp.rv a k).1.obj.give k else (cp.rv a k).1.obj).f j=false:=q
    by_cases hk4:k<4096
    ·rw [if_pos hk4] at q
     unfold ShS.give at q;by_cases g:(0≤(k:Int)∧(k:Int)<(cp.rv a k).1.obj.n)∧(cp.rv a k).1.obj.f (k:Int).toNat=false
     ·rw [if_pos g,Int.toNat_natCast] at q
      rw [Int.toNat_natCast] at g;by_cases e:j=k
      ·subst e
       exfalso
       unfold ShS.flip at q;simp [g.2] at q
      ·have q':(cp.rv a k).1.obj.f j=false:=by
        unfold ShS.flip at q;simpa [e] using q
       have:=h4 j q';exact⟨this.1,fun w=>this.2 ⟨by omega,w.2⟩⟩
     ·rw [if_neg g] at q
      have:=h4 j q;refine⟨this.1,fun w=>?_⟩;by_cases e:j=k
      ·subst e
       exact g ⟨by omega,by rw [Int.toNat_natCast];exact q⟩
      ·exact this.2 ⟨by omega,w.2⟩
    ·rw [if_neg hk4] at q
     have:=h4 j q;exact⟨this.1,fun w=>this.2 ⟨by omega,w.2⟩⟩
  ·rw [if_neg c]
   refine⟨h1,h2,fun j=>?_,fun j q=>?_⟩
   ·rw [h3]
    by_cases e:j=k
    ·subst e
     rw [if_neg (by omega),if_neg (fun q=>c (by have:=q.2;rwa [Int.toNat_natCast] at this))]
    ·by_cases q:(0≤j∧j<k)∧cp.hit a j.toNat=true
     ·rw [if_pos q,if_pos ⟨by omega,q.2⟩]
     ·rw [if_neg q,if_neg (fun q2=>q ⟨by omega,q2.2⟩)]
   ·have:=h4 j q
    refine⟨this.1,fun w=>?_⟩;by_cases e:j=k
    ·subst e;exact c w.2.2
    ·exact this.2 ⟨by omega,w.2⟩
theorem hit_iff{cp:CpS}{a:Int}{k:Nat}:cp.hit a k=true↔∃x,mGet cp.slots (k:Int)=some x∧x.2=a:=by
 unfold CpS.hit;cases e:mGet cp.slots (k:Int) with
 |none=>simp
 |some x=>simp
theorem CpR.rv{cp:CpS}{K:List Int}(h:CpR cp K)(a:Int):CpR (cp.rv a 4160).1 (K.filter (·≠a)):=by
 obtain⟨h1,h2,h3,h4⟩:=rv_look h.rise h.ok.obj a 4160;have hsome:∀j x,mGet (cp.rv a 4160).1.slots j=some x→mGet cp.slots j=some x∧x.2≠a:=fun j x q=>by
  rw [h3] at q;by_cases c:(0≤j∧j<(4160:Nat))∧cp.hit a j.toNat=true
  ·rw [if_pos c] at q;cases q
  ·rw [if_neg c] at q
   refine⟨q,fun e=>c ?_⟩;have hk:=h.ok.keys _ (mGet_mem q);simp only at hk;exact⟨by omega,hit_iff.2 ⟨x,by rw [Int.toNat_of_nonneg hk.1];exact q,e⟩⟩
 refine⟨h.ok.rv a 4160,h1,fun k hk hf=>?_,fun j x q=>?_,fun k1 k2 x1 x2 a1 a2 q1 q2 e=>h.one k1 k2 x1 x2 a1 a2 (hsome _ _ q1).1 (hsome _ _ q2).1 e⟩
 ·obtain⟨g1,g2⟩:=h4 k hf
  obtain⟨x,hx⟩:=h.tak k hk g1;refine⟨x,?_⟩;rw [h3,if_neg (fun c=>g2 ⟨by omega,hk,by have:=c.2;rwa [Int.toNat_natCast] at this⟩)];exact hx
 ·obtain⟨g1,g2⟩:=hsome j x q
  exact List.mem_filter.2 ⟨h.adr j x g1,by simpa using g2⟩
end
end Go.Proofs.YtfliaggjkianpaaGreatDoor
