import Derived.Test.YtfliaggjkianpaaGreatDoorK10
import Derived.Test.YtfliaggjkianpaaGreatDoorK11
import Derived.Shelf.Abstract
set_option linter.unusedVariables false
set_option linter.unusedSimpArgs false
set_option maxRecDepth 100000
namespace Go.Proofs.YtfliaggjkianpaaGreatDoor
section
open Go.RowKit
def opV(K T N M H:Int)(s:ByteArray):Value:=.agg #[.int .i64 K,.int .i64 T,.int .i64 N,.int .i64 M,.int .u64 H,.string s]
def rightO(K T:Int)(s:ByteArray):Bool:=decide (1≤K)&&decide (K≤11)&&decide (0≤T)&&decide (T≤7)&&decide (s.size≤8192)&&(decide (K=10)||decide (s.size=0))
theorem right_iff{K T:Int}{s:ByteArray}:rightO K T s=true↔1≤K∧K≤11∧0≤T∧T≤7∧s.size≤8192∧(K=10∨s.size=0):=by
 unfold rightO;simp only [Bool.and_eq_true,Bool.or_eq_true,decide_eq_true_eq,and_assoc]
theorem right_not{K T:Int}{s:ByteArray}(h:rightO K T s=false):K<1∨(1≤K∧11<K)∨((1≤K∧K≤11)∧T<0)∨((1≤K∧K≤11)∧0≤T∧7<T)∨((1≤K∧K≤11∧0≤T∧T≤7)∧8192<s.size)∨((1≤K∧K≤11∧0≤T∧T≤7)∧s.size≤8192∧0<s.size∧K≠10):=by
 have:¬(1≤K∧K≤11∧0≤T∧T≤7∧s.size≤8192∧(K=10∨s.size=0)):=fun q=>by rw [right_iff.2 q] at h;cases h
 omega
theorem empty_of{s:ByteArray}(h:s.size=0):s.toList.isEmpty=true∧s.toList=[]:=by
 have:s.toList=[]:=by
  rw [ByteArray.toList_eq];apply List.eq_nil_of_length_eq_zero
  rw [Array.length_toList];exact h
 exact⟨by rw [this];rfl,this⟩
theorem full_of{s:ByteArray}(h:0<s.size):s.toList.isEmpty=false∧s.toList≠[]:=by
 have:s.toList≠[]:=by
  rw [ByteArray.toList_eq];intro e;have:=congrArg List.length e;rw [Array.length_toList] at this;exact absurd this (by show s.size≠0;omega)
 exact⟨by simpa using this,this⟩
theorem opCheck_yes(K T N M H:Int)(s:ByteArray)(w:World)(hs:s.size≤maxLen)(h:rightO K T s=true) :
  Calls Tryz.prog 30 #[.agg #[.int .i64 K,.int .i64 T,.int .i64 N,.int .i64 M,.int .u64 H,.string s]] w fun e w'=>e=.returned (.int .i64 0)∧Below w.heap.size w w':=by
 unfold maxLen at hs;obtain⟨k0,k1,t0,t1,s1,g⟩:=right_iff.1 h;clear h;by_cases hz:s.size=0
 ·have z1:¬0<s.size:=by omega
  clear g hz;go_enter Tryz.func30,Tryz.ntmps30
  go_wp2
  go_ret
  exact⟨rfl,below_alloc (Nat.le_refl _) (Below.refl _ _)⟩
 ·have z1:0<s.size:=by omega
  have z2:(K != 10)=false:=by rw [bne_eq_false_iff_eq];omega
  clear g hz;go_enter Tryz.func30,Tryz.ntmps30
  go_wp2
  go_ret
  exact⟨rfl,below_alloc (Nat.le_refl _) (Below.refl _ _)⟩
theorem opCheck_no(K T N M H:Int)(s:ByteArray)(w:World)(hs:s.size≤maxLen)(h:rightO K T s=false) :
  Calls Tryz.prog 30 #[.agg #[.int .i64 K,.int .i64 T,.int .i64 N,.int .i64 M,.int .u64 H,.string s]] w fun e w'=>e=.returned (.int .i64 1)∧Below w.heap.size w w':=by
 unfold maxLen at hs;rcases right_not h with h|h|h|h|h|⟨h,g⟩
 ·go_enter Tryz.func30,Tryz.ntmps30
  go_wp2
  go_ret
  exact⟨rfl,below_alloc (Nat.le_refl _) (Below.refl _ _)⟩
 ·obtain⟨a,b⟩:=h
  go_enter Tryz.func30,Tryz.ntmps30
  go_wp2
  go_ret
  exact⟨rfl,below_alloc (Nat.le_refl _) (Below.refl _ _)⟩
 ·obtain⟨⟨a,b⟩,c⟩:=h
  go_enter Tryz.func30,Tryz.ntmps30
  go_wp2
  go_ret
  exact⟨rfl,below_alloc (Nat.le_refl _) (Below.refl _ _)⟩
 ·obtain⟨⟨a,b⟩,c,d⟩:=h
  have d':8≤T:=by omega
  go_enter Tryz.func30,Tryz.ntmps30
  go_wp2
  go_ret
  exact⟨rfl,below_alloc (Nat.le_refl _) (Below.refl _ _)⟩
 ·obtain⟨⟨a,b,c,d⟩,e⟩:=h
  go_enter Tryz.func30,Tryz.ntmps30
  go_wp2
  go_ret
  exact⟨rfl,below_alloc (Nat.le_refl _) (Below.refl _ _)⟩
 ·obtain⟨a,b,c,d⟩:=h
  obtain⟨e,f,g⟩:=g;have g':(K != 10)=true:=by rw [bne_iff_ne];exact g
  clear g;go_enter Tryz.func30,Tryz.ntmps30
  go_wp2
  go_ret
  exact⟨rfl,below_alloc (Nat.le_refl _) (Below.refl _ _)⟩
end
section
open Go.RowKit
def dones(T:List (Int×Int))(i:Nat):Int:=((T.take i).map (·.2)).sum
theorem dones_succ{T:List (Int×Int)}{i:Nat}{x:Int×Int}(h:T[i]? = some x):dones T (i+1)=dones T i+x.2:=by
 unfold dones;obtain⟨hi,e⟩:=List.getElem?_eq_some_iff.1 h;rw [List.take_succ_eq_append_getElem hi,e];simp
def spanV(x:Int×Int):Value:=.agg #[.int .i64 x.1,.int .i64 x.2,.bool false]
theorem each_any(F:Nat)(hF:Enters Tryz.prog F)(caps:Array Value)(g c:Nat)(p:Option Addr)(T:List (Int×Int))(Inv:Nat→World→Prop)(w:World)
  (hp:T≠[]→p=some ⟨g,0,none⟩) (hT:T.length≤100000) (hd:∀i,i≤T.length→0≤dones T i∧dones T i≤1000000000)
  (hcell:∀i w1,Inv i w1→∀j x,T[j]? = some x→w1.cell? ⟨g,j*3,none⟩=some (.int .i64 x.1)∧w1.cell? ⟨g,j*3+1,none⟩=some (.int .i64 x.2)∧w1.cell? ⟨g,j*3+2,none⟩=some (.bool false))
  (hstep:∀i w1 x,T[i]? = some x→Inv i w1→Calls Tryz.prog F (#[spanV x,.int .i64 (dones T i)]++caps) w1 fun e w2=>e=.returned (.tuple #[])∧Inv (i+1) w2) (h0:Inv 0 w) :
  Calls Tryz.prog 155 #[.slice p T.length c,.func (.func F) #[] caps] w fun e w'=>e=.returned (.tuple #[])∧Inv T.length w':=by
 replace hF:=hF;unfold Enters at hF;replace hcell:=HD hcell;replace hstep:=HD hstep;replace hd:=HD hd;replace hp:=HD hp;go_enter Tryz.func155,Tryz.ntmps155
 go_wp2_with fail;refine wp_scope_round 0 (fun a' w'=>∃(k:Nat) (u2 u3 u6 u7 u8 u9 u10 u11 u12 u13 u14 u15 u16 u17 u18 u19 u20 u21 u22 u23 u24 u25:Value),a'={tmps:=#[.slice p T.length c,.func (.func F) #[] caps,u2,u3,.int .i64 k,.int .i64 (dones T k),u6,u7,u8,u9,u10,u11,u12,u13,u14,u15,u16,u17,u18,u19,u20,u21,u22,u23,u24,u25],defers:=[]}∧k≤T.length∧Hid (Inv k w')) (fun a' _=>T.length-(intOf (a'.tmps.getD 4 undef)).toNat) rfl ?_ ?_
 ·rintro a' w1 ⟨k,u2,u3,u6,u7,u8,u9,u10,u11,u12,u13,u14,u15,u16,u17,u18,u19,u20,u21,u22,u23,u24,u25,rfl,hk,hg⟩
  by_cases hlt:k<T.length
  ·have hdec:decide ((k:Int)<(T.length:Int))=true:=decide_eq_true (by omega)
   have hx:T[k]? = some T[k]:=List.getElem?_eq_getElem hlt;obtain⟨a1,a2,a3⟩:=hcell.out k w1 hg.out k _ hx;have hcall:=HD (hstep.out k w1 _ hx hg.out);obtain rfl:=hp.out (fun e=>by rw [e] at hlt;simp at hlt);have hds:=dones_succ hx;have hd1:=hd.out k hk;have hd2:=hd.out (k+1) (by omega);unfold spanV at hcall;generalize T[k]=x at *;have u1:IntKind.i64.wrap (dones T k+x.2)=dones T (k+1):=by rw [hds];exact IntWalk.i64_in _ (by omega)
   have u2':=IntWalk.i64_in ((k:Int)+1) (by omega);have hcell2:=HD (fun w2 (q:Inv (k+1) w2)=>(hcell.out (k+1) w2 q k x hx).2.1);clear hp hcell hstep hd hds hd1 hd2 hx;go_wp2_with fail;refine hcall.out.mono ?_;rintro e w2 ⟨rfl,hI⟩;have b2:=hcell2.out w2 hI;replace hI:=HD hI;go_wp2_with fail;go_step3
   rw [show ((k:Int)+1)=((k+1:Nat):Int) from rfl];refine⟨rfl,⟨k+1,_,_,_,_,_,_,_,_,_,_,_,_,_,_,_,_,_,_,_,_,_,_,rfl,by omega,hI⟩,?_⟩;simp [intOf]
   omega
  ·obtain rfl:k=T.length:=by omega
   have hdec:decide ((T.length:Int)<(T.length:Int))=false:=decide_eq_false (by omega);go_wp2_with fail;simp only [Exit.jump];exact bodyPost_end (results_none (by kernel_rfl) _ _ _) rfl ⟨rfl,hg.out⟩
 ·intro H
  go_wp2_with fail;go_step3
  rename_i K hK;exact hK _ _ <| H _ _ ⟨0,_,_,_,_,_,_,_,_,_,_,_,_,_,_,_,_,_,_,_,_,_,_,rfl,Nat.zero_le _,HD h0⟩
end
section

end
section
open Go.RowKit
abbrev eP:Nat→Value:=fun b=>.pointer (some ⟨b,0,none⟩)
def hpL(a c:Nat)(wv:Value)(bt:Nat)(sv lv:Nat→Value)(mv:Value):List Value :=
 [eP a,eP c,wv,eP bt]++((List.range 24).map sv++((List.range 8).map lv++[mv]))
theorem hp_slot{a c:Nat}{wv:Value}{bt:Nat}{sv lv:Nat→Value}{mv:Value}{k:Nat}(h:k<24):(hpL a c wv bt sv lv mv).toArray[4+k]? = some (sv k):=by
 unfold hpL;rw [List.getElem?_toArray,List.getElem?_append_right (by simp),List.getElem?_append_left (by simp;omega)];simp [h]
theorem hp_line{a c:Nat}{wv:Value}{bt:Nat}{sv lv:Nat→Value}{mv:Value}{k:Nat}(h:k<8):(hpL a c wv bt sv lv mv).toArray[28+k]? = some (lv k):=by
 unfold hpL;rw [List.getElem?_toArray,List.getElem?_append_right (by simp;omega),List.getElem?_append_right (by simp;omega),List.getElem?_append_left (by simp;omega)];simp [h,show 28+k-4-24=k by omega]
structure HpX where
 bt:Nat
 gm:Nat
 wv:Value
 bs:Nat→Nat
 bl:Nat→Nat
 gl:Nat→Nat
 bp:Int→Nat
 pf:Int→Nat
structure HpG(w:World)(o:Nat→Tag)(t:Tag)(b a c:Nat)(x:HpX)(win:List Int)(tb:TbS)(al:AlS):Prop where
 blk:Blk w o t b (hpL a c x.wv x.bt (fun k=>eP (x.bs k)) (fun k=>eP (x.bl k)) (.map (some x.gm))).toArray 201
 win:IRow w o (t++[0]) x.wv win
 ta:TbAt w o (t++[1]) x.bt tb
 sl:∀k,k<24→ShAt w o (t++[2,k]) (x.bs k) (al.sl k)
 ln:∀k,k<8→∃s,LnG w o (t++[3,k]) (x.bl k) (x.gl k) s∧LnIs s (al.ln k)
 mp:MpAt w o (t++[4]) x.gm .i64 eP (al.sm.map fun y=>(y.1,x.bp y.1))
 pg:∀v p,mGet al.sm v=some p→PgAt w o (t++[5,v.toNat]) (x.bp v) a (p.on (x.pf v*512:Nat))
def HpX.is(x:HpX)(tb:TbS)(al:AlS):Prop:=∀v p,mGet al.sm v=some p→x.pf v=pgOf tb v
def HpAt(w:World)(o:Nat→Tag)(t:Tag)(b a c:Nat)(win:List Int)(tb:TbS)(al:AlS):Prop:=∃x,HpG w o t b a c x win tb al∧x.is tb al
section
variable{S:Tag→Prop}{w w':World}{o o':Nat→Tag}{t:Tag}{b a c:Nat}{x:HpX}{win:List Int}{tb:TbS}{al:AlS}
theorem HpG.fr(h:HpG w o t b a c x win tb al)(f:Fr S w o w' o')(hS:Off S t):HpG w' o' t b a c x win tb al where
 blk:=h.blk.fr f hS.self
 win:=h.win.fr f (hS.sub [0]).self
 ta:=h.ta.fr f (hS.sub [1])
 sl k hk:=(h.sl k hk).fr f (hS.sub [2,k])
 ln k hk:=by
  obtain⟨s,h1,h2⟩:=h.ln k hk;exact⟨s,h1.fr f (hS.sub [3,k]).self,h2⟩
 mp:=h.mp.fr f (hS.sub [4]).self
 pg v p hp:=(h.pg v p hp).fr f (hS.sub [5,v.toNat])
theorem HpG.drew(h:HpG w o t b a c x win tb al):HpG w.drew o t b a c x win tb al:=h.fr (S:=fun _=>False) Fr.drew ⟨fun _ _ q=>q,fun q=>q⟩
theorem HpAt.fr(h:HpAt w o t b a c win tb al)(f:Fr S w o w' o')(hS:Off S t):HpAt w' o' t b a c win tb al:=by
 obtain⟨x,h,hx⟩:=h;exact⟨x,h.fr f hS,hx⟩
theorem HpG.c0(h:HpG w o t b a c x win tb al):w.cell? ⟨b,0,none⟩=some (eP a):=h.blk.cell' (i:=0) rfl
theorem HpG.c1(h:HpG w o t b a c x win tb al):w.cell? ⟨b,1,none⟩=some (eP c):=h.blk.cell' (i:=1) rfl
theorem HpG.c2(h:HpG w o t b a c x win tb al):w.cell? ⟨b,2,none⟩=some x.wv:=h.blk.cell' (i:=2) rfl
theorem HpG.c3(h:HpG w o t b a c x win tb al):w.cell? ⟨b,3,none⟩=some (eP x.bt):=h.blk.cell' (i:=3) rfl
theorem HpG.cs(h:HpG w o t b a c x win tb al){k:Nat}(hk:k<24):w.cell? ⟨b,4+k,none⟩=some (eP (x.bs k)):=h.blk.cell' (hp_slot hk)
theorem HpG.cl(h:HpG w o t b a c x win tb al){k:Nat}(hk:k<8):w.cell? ⟨b,28+k,none⟩=some (eP (x.bl k)):=h.blk.cell' (hp_line hk)
theorem HpG.cm(h:HpG w o t b a c x win tb al):w.cell? ⟨b,36,none⟩=some (.map (some x.gm)):=h.blk.cell' (i:=36) rfl
end
theorem hpTable(b a c:Nat)(w:World){o:Nat→Tag}{t:Tag}{x:HpX}{win:List Int}{tb:TbS}{al:AlS}(h:HpG w o t b a c x win tb al) :
  Calls Tryz.prog 106 #[.pointer (some ⟨b,0,none⟩)] w fun e w'=>e=.returned (.pointer (some ⟨x.bt,0,none⟩))∧w'=w:=by
 have c3:=h.c3;clear h;go_enter Tryz.func106,Tryz.ntmps106
 go_wp2_with fail;go_ret
 exact⟨rfl,rfl⟩
theorem hpPages(b a c:Nat)(w:World){o:Nat→Tag}{t:Tag}{x:HpX}{win:List Int}{tb:TbS}{al:AlS}(h:HpG w o t b a c x win tb al) :
  Calls Tryz.prog 142 #[.pointer (some ⟨b,0,none⟩)] w fun e w'=>e=.returned (.int .i64 tb.pg.length)∧w'=w:=by
 have c3:=h.c3;have hl:=HD (tbLen x.bt w h.ta);clear h;go_enter Tryz.func142,Tryz.ntmps142
 go_wp2_with fail;refine SM hl.out ?_;go_wp2_with fail;go_ret
 exact⟨rfl,rfl⟩
theorem pos_local{c s:Nat}(hc:c<24)(hs:(s:Int)<slotsT c):thereT c s 0=true∧(posT c s 0).tdiv 512=vOf c s∧(256≤vOf c s∧vOf c s+pagesT c≤6400):=by
 obtain⟨h1,h2,h3⟩:=slot_in hc hs;have h4:=kind_facts (c:=(c:Int)) (by omega) (by omega);have e:posT c s 0=vOf c s*512:=by
  unfold posT vOf;have:(s:Int)*(pagesT c*512)=s*pagesT c*512:=by rw [Int.mul_assoc]
  omega
 refine⟨there_iff.2 ⟨by omega,hs,by omega,by omega⟩,?_,?_⟩
 ·rw [e];exact Int.mul_tdiv_cancel _ (by omega)
 ·unfold vOf;omega
theorem hpLocal(c s:Nat)(w:World)(hc:c<24)(hs:(s:Int)<slotsT c) :
  Calls Tryz.prog 201 #[.int .i64 c,.int .i64 s] w fun e w'=>e=.returned (.int .i64 (vOf c s))∧w'=w:=by
 obtain⟨h1,h2,h3⟩:=pos_local hc hs;have hp:=HD (placeOf_yes c s 0 w h1);have hv:=slot_in hc hs;have u:=IntWalk.i64_in (vOf c s) (by omega);clear hs h1 h3;generalize vOf c s=v at *;generalize posT c s 0=p at *;go_enter Tryz.func201,Tryz.ntmps201
 go_wp2_with fail;refine SM hp.out ?_;go_wp2_with fail;go_ret
 exact⟨rfl,rfl⟩
end
section
open Go.RowKit
section
variable{w w':World}{o o':Nat→Tag}{t:Tag}{b a c:Nat}{x:HpX}{win:List Int}{tb:TbS}{al:AlS}
theorem not_und(t:Tag)(k:Nat)(r:Tag):¬Und (t++k :: r) t:=not_child t r k
theorem HpG.upTb(h:HpG w o t b a c x win tb al)(h9:¬t <+: [9]){tb':TbS}(f:Fr (Und (t++[1])) w o w' o)(q:TbAt w' o (t++[1]) x.bt tb'):HpG w' o t b a c x win tb' al where
 blk:=h.blk.fr f (not_und t 1 [])
 win:=h.win.fr f (off_one (show (1:Nat)≠0 by decide) h9).self
 ta:=q
 sl k hk:=(h.sl k hk).fr f (off_one (show (1:Nat)≠2 by decide) h9)
 ln k hk:=by
  obtain⟨s,h1,h2⟩:=h.ln k hk;exact⟨s,h1.fr f (off_one (show (1:Nat)≠3 by decide) h9).self,h2⟩
 mp:=h.mp.fr f (off_one (show (1:Nat)≠4 by decide) h9).self
 pg v p hp:=(h.pg v p hp).fr f (off_one (show (1:Nat)≠5 by decide) h9)
theorem off_two{p:Tag}{n a b:Nat}(h:a≠b)(h9:¬p <+: [9]):Off (Und (p++[n,a])) (p++[n,b]) :=
 off_sib (fun q=>h (List.cons_prefix_cons.1 (List.cons_prefix_cons.1 q).2).1) (fun q=>h (List.cons_prefix_cons.1 (List.cons_prefix_cons.1 q).2).1.symm) h9
theorem HpG.upSl(h:HpG w o t b a c x win tb al)(h9:¬t <+: [9]){k:Nat}(hk:k<24){s:ShS}(f:Fr (Und (t++[2,k])) w o w' o)(q:ShAt w' o (t++[2,k]) (x.bs k) s):HpG w' o t b a c x win tb ⟨up1 al.sl k s,al.ln,al.sm⟩ where
 blk:=h.blk.fr f (not_und t 2 [k])
 win:=h.win.fr f (off_one (show (2:Nat)≠0 by decide) h9).self
 ta:=h.ta.fr f (off_one (show (2:Nat)≠1 by decide) h9)
 sl j hj:=by
  show ShAt w' o _ _ (up1 al.sl k s j);by_cases e:j=k
  ·subst e;rw [up1_same];exact q
  ·rw [up1_other e];exact(h.sl j hj).fr f (off_two (Ne.symm e) h9)
 ln j hj:=by
  obtain⟨s,h1,h2⟩:=h.ln j hj;exact⟨s,h1.fr f (off_one (show (2:Nat)≠3 by decide) h9).self,h2⟩
 mp:=h.mp.fr f (off_one (show (2:Nat)≠4 by decide) h9).self
 pg v p hp:=(h.pg v p hp).fr f (off_one (show (2:Nat)≠5 by decide) h9)
theorem off_eq{s t:Tag}(h:¬t <+: s)(h9:s≠[9]):Off (fun u=>u=s) t:=⟨fun u hu e=>h (by rw [←e];exact hu),fun e=>h9 e.symm⟩
theorem pre_one{p:Tag}{a b:Nat}{r r':Tag}(h:a≠b):¬(p++a :: r) <+: (p++b :: r'):=fun q=>h (List.cons_prefix_cons.1 ((List.prefix_append_right_inj p).1 q)).1
theorem HpG.upLn(h:HpG w o t b a c x win tb al)(h9:¬t <+: [9]){k:Nat}(hk:k<8){s:LnS}{l:List Int}(f:Fr (fun u=>u=t++[3,k]) w o w' o')(q:LnG w' o' (t++[3,k]) (x.bl k) (x.gl k) s)(hs:LnIs s l):HpG w' o' t b a c x win tb ⟨al.sl,up1 al.ln k l,al.sm⟩ where
 blk:=h.blk.fr f (fun e=>not_und t 3 [k] (by rw [←e];exact Und.self _))
 win:=h.win.fr f (fun e=>by simp at e)
 ta:=h.ta.fr f (off_eq (pre_one (by decide)) (ne_nine h9 _))
 sl j hj:=(h.sl j hj).fr f (off_eq (pre_one (by decide)) (ne_nine h9 _))
 ln j hj:=by
  show ∃s',LnG w' o' _ _ _ s'∧LnIs s' (up1 al.ln k l j);by_cases e:j=k
  ·subst e;rw [up1_same];exact⟨s,q,hs⟩
  ·rw [up1_other e]
   obtain⟨s',h1,h2⟩:=h.ln j hj;exact⟨s',h1.fr f (fun q=>e (by simpa using q)),h2⟩
 mp:=h.mp.fr f (fun e=>by simp at e)
 pg v p hp:=(h.pg v p hp).fr f (off_eq (pre_one (by decide)) (ne_nine h9 _))
end
theorem IRow.w'{w:World}{o:Nat→Tag}{t:Tag}{v:Value}{xs:List Int}(h:IRow w o t v xs):IntsW w v xs:=h.ints.w
theorem nodup_len:∀(C:Nat) (l:List Int),l.Nodup→(∀x∈l,0≤x∧x<C)→l.length≤C
 |0,l,_,h=>by
  cases l with
  |nil=>exact Nat.le_refl _
  |cons a l=>have:=h a (by simp);omega
 |C+1,l,hn,h=>by
  by_cases hc:(C:Int)∈l
  ·have:=nodup_len C (l.erase (C:Int)) (hn.erase _) (fun x hx=>by
    rw [hn.mem_erase_iff] at hx;have:=h x hx.2;omega)
   rw [List.length_erase_of_mem hc] at this;omega
  ·have:=nodup_len C l hn (fun x hx=>by
    have:=h x hx;have:x≠C:=fun e=>hc (by rw [←e];exact hx)
    omega)
   omega
theorem win_len{cm:CmS}{win:List Int}{tb:TbS}(h:TbOk cm win tb)(hok:cm.ok):win.length≤32:=by
 have:=nodup_len cm.C win h.wok.1 h.wok.2;have:=hok.2.1;omega
end
section
open Go.RowKit
def rng(b0:Int)(j:Nat)(v:Int):Prop:=b0≤v∧v<b0+j
theorem Hld.cong{cm:CmS}{win:List Int}{tb:TbS}{cm':CmS}{tb':TbS}{D E:Int→Prop}{n:Nat}(h:Hld cm win tb cm' tb' D n)(e:∀v,D v↔E v):Hld cm win tb cm' tb' E n:=by
 obtain rfl:D=E:=funext fun v=>propext (e v)
 exact h
theorem Rel.cong{B:List UInt8}{cm:CmS}{win:List Int}{tb:TbS}{B':List UInt8}{cm':CmS}{tb':TbS}{D E:Int→Prop}{n:Nat}(h:Rel B cm win tb B' cm' tb' D n)(e:∀v,D v↔E v):Rel B cm win tb B' cm' tb' E n:=by
 obtain rfl:D=E:=funext fun v=>propext (e v)
 exact h
structure HoldPre(B:List UInt8)(cm:CmS)(win:List Int)(tb:TbS)(al:AlS)(k s:Nat):Prop where
 hp:HpOk B cm win tb al
 k24:k<24
 low:(al.sl k).lowI=s
 room:tb.pg.length+(pagesT k).toNat≤win.length*(cm.P/cm.C)
theorem HoldPre.slot{B:List UInt8}{cm:CmS}{win:List Int}{tb:TbS}{al:AlS}{k s:Nat}(h:HoldPre B cm win tb al k s):s<(al.sl k).n∧(al.sl k).f s=true∧(s:Int)<slotsT k:=by
 have h1:=h.hp.al.n k h.k24;rcases low_cases (al.sl k) with ⟨e,_⟩|⟨j,e,_,h2,h3⟩
 ·have:=h.low;omega
 ·have:=h.low
  have:j=s:=by omega
  subst this;exact⟨h2,h3,by omega⟩
theorem HoldPre.fresh{B:List UInt8}{cm:CmS}{win:List Int}{tb:TbS}{al:AlS}{k s:Nat}(h:HoldPre B cm win tb al k s){v:Int}(hv:rng (vOf k s) (pagesT k).toNat v):mGet tb.pg v=none:=by
 obtain⟨h1,h2,h3⟩:=h.slot;have hp:=slot_in h.k24 h3;cases e:mGet tb.pg v with
 |none=>rfl
 |some p =>
  have hm:=(h.hp.dom v).1 (by rw [e];rfl);unfold rng at hv;have q:=(in_slot h.k24 h3 v).1 ⟨hv.1,by omega⟩;unfold Mapped at hm;rw [q.2.1,q.2.2,Int.toNat_natCast,Int.toNat_natCast,h2] at hm;cases hm.2.2
structure HoldRel(w:World)(o:Nat→Tag)(t u:Tag)(b a c:Nat)(x:HpX)(cm:CmS)(win:List Int)(tb:TbS)(al:AlS)(k s:Nat)(w':World)(j:Nat)(cm':CmS)(tb':TbS):Prop where
 hp:HpG w' o t b a c x win tb' ⟨up1 al.sl k ((al.sl k).flip s),al.ln,al.sm⟩
 cma:CmAt w' o u c cm'
 hld:Hld cm win tb cm' tb' (rng (vOf k s) j) j
 fr:Fr (fun v=>Und t v∨Und u v) w o w' o
def HoldPost(w:World)(o:Nat→Tag)(t u:Tag)(b a c:Nat)(x:HpX)(cm:CmS)(win:List Int)(tb:TbS)(al:AlS)(k s:Nat)(e:Ending)(w':World):Prop :=
 e=.returned (.tuple #[.int .i64 s,.bool true])∧∃cm' tb',HoldRel w o t u b a c x cm win tb al k s w' (pagesT k).toNat cm' tb'
theorem HoldRel.step{w:World}{o:Nat→Tag}{t u:Tag}{b a c:Nat}{x:HpX}{B:List UInt8}{cm:CmS}{win:List Int}{tb:TbS}{al:AlS}{k s:Nat}(h:HoldPre B cm win tb al k s)(htu:Apart t u){w1:World}{j:Nat}{cm':CmS}{tb':TbS}(r:HoldRel w o t u b a c x cm win tb al k s w1 j cm' tb')(hj:j<(pagesT k).toNat) :
  ∃p:Nat,p<4096∧cm'.tkV win=p∧cm'.tkE win=0∧tb'.mapE (vOf k s+j) p=0 ∧
   ∀w2 w3:World,CmAt w2 o u c (cm'.tk win)→Fr (Und u) w1.drew o w2 o→∀n,TbAt w3 o (t++[1]) x.bt (tb'.map (vOf k s+j) p)→Fr (Und (t++[1])) (w2.drewN n) o w3 o→HoldRel w o t u b a c x cm win tb al k s w3 (j+1) (cm'.tk win) (tb'.map (vOf k s+j) p):=by
 obtain⟨h1,h2,h3⟩:=h.slot;have hp:=slot_in h.k24 h3;have hv:=(pos_local h.k24 h3).2.2;have hroom:=h.room;obtain⟨p,p1,p2,p3,p4,p5⟩:=r.hld.step (v:=vOf k s+j) (by omega) (by omega) (h.fresh ⟨by omega,by omega⟩) (by unfold rng;omega);refine⟨p,by have:=h.hp.cmo.2.2.2.1;omega,p2,p3,p4,fun w2 w3 q1 f1 n q2 f2=>?_⟩;have g1:HpG w2 o t b a c x win tb' ⟨up1 al.sl k ((al.sl k).flip s),al.ln,al.sm⟩:=r.hp.drew.fr f1 htu.swap.off;have fn:∀n,Fr (fun _=>False) w2 o (w2.drewN n) o:=fun n=>by
  induction n with
  |zero=>exact Fr.refl _ _ _
  |succ n ih=>exact ih.drew'
 have g2:=g1.fr (fn n) off_no;have hc2:=(q1.fr (fn n) off_no).fr f2 (htu.sub [1]).off;refine⟨g2.upTb htu.t9 f2 q2,hc2,p5.cong (fun v=>by unfold rng;omega),((r.fr.trans (Fr.drew.trans (f1.mono fun v q=>.inr q))).trans ((fn n).mono fun v q=>q.elim)).trans (f2.mono fun v q=>.inl q.up)⟩
theorem cm_drew{w:World}{o:Nat→Tag}{t:Tag}{b:Nat}{s:CmS}(h:CmAt w o t b s):CmAt w.drew o t b s:=h.fr (S:=fun _=>False) Fr.drew off_no
theorem hpHold(b a c k s:Nat)(w:World){o:Nat→Tag}{t u:Tag}{x:HpX}{B:List UInt8}{cm:CmS}{win:List Int}{tb:TbS}{al:AlS}(h:HpG w o t b a c x win tb al)(hcm:CmAt w o u c cm)(hpre:HoldPre B cm win tb al k s)(htu:Apart t u) :
  Calls Tryz.prog 195 #[.pointer (some ⟨b,0,none⟩),.int .i64 k] w (HoldPost w o t u b a c x cm win tb al k s):=by
 obtain⟨s1,s2,s3⟩:=hpre.slot;have hk:=hpre.k24;have hkf:=kind_facts (c:=(k:Int)) (by omega) (by omega);have hfre:=hpre.hp.ton.fre;have hroom:=hpre.room;have hwl:=win_len hpre.hp.ton hpre.hp.cmo;obtain⟨n,hn⟩:∃n:Nat,pagesT k=n:=⟨(pagesT k).toNat,by omega⟩
 have hcs0:w.cell? ⟨b,4+k,none⟩=some (.pointer (some ⟨x.bs k,0,none⟩)):=h.cs hk;have hlo:=HD (shLowest (x.bs k) w (h.sl k hk));rw [hpre.low] at hlo;have hpa:=HD (fun w=>pages_any k w);rw [hn] at hpa;have c1:w.drew.cell? ⟨b,1,none⟩=some (.pointer (some ⟨c,0,none⟩)):=h.c1;have c2:w.drew.cell? ⟨b,2,none⟩=some x.wv:=h.c2;have hfree:=HD (cmFree c x.wv win w.drew (cm_drew hcm) h.win.w' (by omega));have hfd:decide (cm.fre win<n)=false:=decide_eq_false (by rw [hn] at hroom;omega);have hsd:decide ((s:Int)<0)=false:=decide_eq_false (by omega);have hkeep:=HD (show ∀w2,Below w.drew.heap.size w.drew w2→w2.cell? ⟨b,1,none⟩=some (.pointer (some ⟨c,0,none⟩))∧w2.cell? ⟨b,2,none⟩=some x.wv from fun w2 hb=>⟨(h.drew.fr (Fr.below (S:=fun _=>False) hb) off_no).c1,(h.drew.fr (Fr.below (S:=fun _=>False) hb) off_no).c2⟩);have hloc:=HD (fun w=>hpLocal k s w hk s3);have hidx:0≤(k:Int)∧(k:Int)<24:=by omega
 have hpre':=HD hpre;have hta:=HD (show ∀w2,Below w.drew.heap.size w.drew w2→w2.cell? ⟨b,4+k,none⟩=some (.pointer (some ⟨x.bs k,0,none⟩)) ∧
   Calls Tryz.prog 185 #[.pointer (some ⟨x.bs k,0,none⟩),.int .i64 s] w2 fun e w3=>e=.returned (.int .i64 0)∧HoldRel w o t u b a c x cm win tb al k s w3 0 cm tb from fun w2 hb=>by
  have h2:=h.drew.fr (Fr.below (S:=fun _=>False) hb) off_no;refine⟨h2.cs hk,(shTakeAt (x.bs k) s w2 (h2.sl k hk) (not_nine htu.t9 _)).mono ?_⟩;rintro e w3 ⟨rfl,r1,r2⟩;have e0:(al.sl k).takeE s=0:=by unfold ShS.takeE;rw [if_pos ⟨by omega,by omega⟩,Int.toNat_natCast,s2];rfl
  have e1:(al.sl k).take s=(al.sl k).flip s:=by unfold ShS.take;rw [Int.toNat_natCast,if_pos ⟨⟨by omega,by omega⟩,s2⟩]
  rw [e1] at r1;refine⟨by rw [e0],h2.upSl htu.t9 hk r2 r1,((cm_drew hcm).fr (Fr.below (S:=fun _=>False) hb) off_no).fr r2 (htu.sub [2,k]).off,(Hld.zero hpre.hp.ton hpre.hp.cmo).cong (fun v=>⟨fun q=>q.elim,fun q=>by unfold rng at q;omega⟩),((Fr.drew.trans (Fr.below hb)).trans (r2.mono fun v q=>.inl q.up))⟩)
 clear h hcm hpre hfre hroom hkf s1 s2 s3;go_enter Tryz.func195,Tryz.ntmps195
 go_wp2_with fail;refine SM hlo.out ?_;go_wp2_with fail;refine SM (hpa.out _) ?_;go_wp2_with fail;refine wp_region_noPanic ?_;refine wp_region_held_drew (S:=(fun W=>W.cell? ⟨b,1,none⟩=some (.pointer (some ⟨c,0,none⟩))∧W.cell? ⟨b,2,none⟩=some x.wv)) (by kernel_rfl) ?_ (fun hHeld=>?_)
 ·(first|exact⟨c1,c2⟩|exact hcs)
 refine tkH 0 (h:=?_);refine tkH 1 (h:=?_);refine tkH 2 (h:=?_);refine tkH 3 (h:=?_);refine tkH 4 (h:=?_);refine tkH 5 (h:=?_);refine tkH 6 (h:=?_);refine tkH 7 (h:=?_);refine tkH 8 (h:=?_);refine tkH 9 (h:=?_);refine tkH 10 (h:=?_);refine tkH 12 (h:=?_);refine onH 11 (h:=fun K hK=>?_);go_simp;refine hfree.out.mono ?_;rintro e w2 ⟨rfl,hb2⟩;have hcs:=hkeep.out w2 hb2;go_wp2_with fail;refine hK.out _ _ ?_ (fun hHeld=>?_)
 ·(first|exact⟨c1,c2⟩|exact hcs)
 clear hK;refine nmH (h:=?_);refine tkH 13 (h:=?_);refine tkH 14 (h:=?_);refine wpAnyH_done (by kernel_rfl) ?_ _;refine NoPanic.normal ?_;obtain⟨g1,g2⟩:=hta.out w2 hb2;replace g2:=HD g2;go_wp2_with fail;refine g2.out.mono ?_;rintro e w3 ⟨rfl,r⟩;have hR0:=HD r;clear r g2 g1 hta hkeep hfree c1 c2 hcs0 hcs hlo hpa hb2;go_wp2_with fail;go_loopg [44] n (fun gh i wx=>∃(j:Nat) (cm':CmS) (tb':TbS),j≤n∧gh=n-j∧i=.int .i64 j∧Hid (HoldRel w o t u b a c x cm win tb al k s wx j cm' tb'))
 case atStart=>exact⟨0,_,_,Nat.zero_le _,rfl,rfl,hR0⟩
 case round =>
  clear hR0;obtain⟨j,cm',tb',hj,rfl,rfl,hR⟩:=hrel;by_cases hlt:j<n
  ·have d0:decide ((j:Int)<(n:Int))=true:=decide_eq_true (by omega)
   obtain⟨p,p1,p2,p3,p4,p5⟩:=hR.out.step hpre'.out htu (by rw [hn];exact hlt);have c1:wr.drew.cell? ⟨b,1,none⟩=some (.pointer (some ⟨c,0,none⟩)):=hR.out.hp.c1;have c2:wr.drew.cell? ⟨b,2,none⟩=some x.wv:=hR.out.hp.c2;have htk:=HD (cmTake c x.wv win wr.drew (cm_drew hR.out.cma) htu.u9 hR.out.hp.win.w' (by omega));rw [p2,p3] at htk;have hmid:=HD (show ∀w2,CmAt w2 o u c (cm'.tk win)→Fr (Und u) wr.drew o w2 o→(w2.cell? ⟨b,1,none⟩=some (.pointer (some ⟨c,0,none⟩))∧w2.cell? ⟨b,2,none⟩=some x.wv) ∧
     w2.drew.cell? ⟨b,3,none⟩=some (.pointer (some ⟨x.bt,0,none⟩))∧Calls Tryz.prog 228 #[.pointer (some ⟨x.bt,0,none⟩),.int .i64 (vOf k s+j),.int .i64 p] w2.drew fun e w3=>e=.returned (.int .i64 0)∧w3.cell? ⟨b,3,none⟩=some (.pointer (some ⟨x.bt,0,none⟩)) ∧
      HoldRel w o t u b a c x cm win tb al k s w3 (j+1) (cm'.tk win) (tb'.map (vOf k s+j) p) from fun w2 q1 f1=>by
    have g1:=hR.out.hp.drew.fr f1 htu.swap.off;refine⟨⟨g1.c1,g1.c2⟩,g1.c3,(tbMap x.bt (vOf k s+j) p w2.drew (g1.drew.ta)).mono ?_⟩;rintro e w3 ⟨rfl,r1,r2⟩;have hs:=p5 w2 w3 q1 f1 1 r1 r2;exact⟨by rw [p4],hs.hp.c3,hs⟩)
   have hvb:=(pos_local hk (hpre'.out.slot.2.2)).2.2;have u1:=IntWalk.i64_in (vOf k s+j) (by omega);clear hR p5 p4 p3 p2;go_wp2_with fail;refine wp_region_noPanic ?_;refine wp_region_held_drew (S:=(fun W=>W.cell? ⟨b,1,none⟩=some (.pointer (some ⟨c,0,none⟩))∧W.cell? ⟨b,2,none⟩=some x.wv)) (by kernel_rfl) ?_ (fun hHeld=>?_)
   ·(first|exact⟨c1,c2⟩|exact hcs)
   refine tkH 0 (h:=?_);refine tkH 1 (h:=?_);refine tkH 2 (h:=?_);refine tkH 3 (h:=?_);refine tkH 4 (h:=?_);refine tkH 5 (h:=?_);refine tkH 6 (h:=?_);refine tkH 7 (h:=?_);refine onH 8 (h:=fun K hK=>?_);go_simp;refine htk.out.mono ?_;rintro e w2 ⟨rfl,r1,r2⟩;have hnx:=HD (hmid.out w2 r1 r2);have hcs:=hnx.out.1;clear r1 r2;go_wp2_with fail;refine hK.out _ _ ?_ (fun hHeld=>?_)
   ·(first|exact⟨c1,c2⟩|exact hcs)
   clear hK;refine nmH (h:=?_);refine tkH 9 (h:=?_);refine tkH 10 (h:=?_);refine tkH 11 (h:=?_);refine tkH 12 (h:=?_);refine tkH 13 (h:=?_);refine wpAnyH_done (by kernel_rfl) ?_ _;refine NoPanic.normal ?_;obtain⟨c3,hmp⟩:=hnx.out.2;replace hmp:=HD hmp;clear hnx hcs c1 c2 htk hmid;go_wp2_with fail;refine wp_region_noPanic ?_;refine wp_region_held_drew (S:=(fun W=>W.cell? ⟨b,3,none⟩=some (.pointer (some ⟨x.bt,0,none⟩)))) (by kernel_rfl) ?_ (fun hHeld=>?_)
   ·(first|exact c3|exact hcs)
   refine tkH 0 (h:=?_);refine tkH 1 (h:=?_);refine tkH 2 (h:=?_);refine tkH 3 (h:=?_);refine tkH 4 (h:=?_);refine tkH 5 (h:=?_);refine tkH 7 (h:=?_);refine tkH 9 (h:=?_);refine onH 6 (h:=fun K hK=>?_);go_simp;refine(hloc.out _).mono ?_;rintro e w4 ⟨rfl,rfl⟩;go_wp2_with fail;refine hK.out _ _ ?_ (fun hHeld=>?_)
   ·(first|exact c3|exact hcs)
   clear hK;refine nmH (h:=?_);refine tkH 8 (h:=?_);refine onH 10 (h:=fun K hK=>?_);go_simp;refine hmp.out.mono ?_;rintro e w5 ⟨rfl,r1,r2⟩;have hcs:=r1;have hRn:=HD r2;clear r1 r2;go_wp2_with fail;refine hK.out _ _ ?_ (fun hHeld=>?_)
   ·(first|exact c3|exact hcs)
   clear hK;refine nmH (h:=?_);refine wpAnyH_done (by kernel_rfl) ?_ _;refine NoPanic.normal ?_;go_wp2_with fail;go_roundg (n-(j+1))
   case measure=>omega
   case rel=>exact⟨j+1,_,_,by omega,rfl,by go_num,hRn⟩
  ·have d0:decide ((j:Int)<(n:Int))=false:=decide_eq_false (by omega)
   obtain rfl:j=n:=by omega
   clear hpre';go_wp2_with fail;go_ret2
   refine⟨rfl,cm',tb',?_⟩;rw [hn];exact hR.out
end
section
open Go.RowKit
def S3(t u z:Tag)(v:Tag):Prop:=Und t v∨Und u v∨Und z v
structure Ap3(t u z:Tag):Prop where
 tu:Apart t u
 tz:Apart t z
 uz:Apart u z
structure HpW(w:World)(o:Nat→Tag)(t u z:Tag)(b a c:Nat)(x:HpX)(B:List UInt8)(m:Nat)(cm:CmS)(win:List Int)(tb:TbS)(al:AlS):Prop where
 hp:HpG w o t b a c x win tb al
 cma:CmAt w o u c cm
 ar:ArAt w o z a B m
section
variable{w w':World}{o o':Nat→Tag}{t u z:Tag}{b a c:Nat}{x:HpX}{B:List UInt8}{m:Nat}{cm:CmS}{win:List Int}{tb:TbS}{al:AlS}
theorem HpW.still(h:HpW w o t u z b a c x B m cm win tb al)(f:Fr (fun _=>False) w o w' o'):HpW w' o' t u z b a c x B m cm win tb al:=⟨h.hp.fr f off_no,h.cma.fr f off_no,h.ar.fr f off_no⟩
theorem HpW.drew(h:HpW w o t u z b a c x B m cm win tb al):HpW w.drew o t u z b a c x B m cm win tb al:=h.still Fr.drew
theorem HpW.inAr(h:HpW w o t u z b a c x B m cm win tb al)(ap:Ap3 t u z)(f:Fr (Und z) w o w' o'){B':List UInt8}{m':Nat}(q:ArAt w' o' z a B' m'):HpW w' o' t u z b a c x B' m' cm win tb al:=⟨h.hp.fr f ap.tz.swap.off,h.cma.fr f ap.uz.swap.off,q⟩
theorem HpW.inCm(h:HpW w o t u z b a c x B m cm win tb al)(ap:Ap3 t u z)(f:Fr (Und u) w o w' o'){cm':CmS}(q:CmAt w' o' u c cm'):HpW w' o' t u z b a c x B m cm' win tb al:=⟨h.hp.fr f ap.tu.swap.off,q,h.ar.fr f ap.uz.off⟩
theorem HpW.inTb(h:HpW w o t u z b a c x B m cm win tb al)(ap:Ap3 t u z)(f:Fr (Und (t++[1])) w o w' o){tb':TbS}(q:TbAt w' o (t++[1]) x.bt tb'):HpW w' o t u z b a c x B m cm win tb' al:=⟨h.hp.upTb ap.tu.t9 f q,h.cma.fr f (ap.tu.sub [1]).off,h.ar.fr f (ap.tz.sub [1]).off⟩
theorem HpW.inSl(h:HpW w o t u z b a c x B m cm win tb al)(ap:Ap3 t u z){k:Nat}(hk:k<24){s:ShS}(f:Fr (Und (t++[2,k])) w o w' o)(q:ShAt w' o (t++[2,k]) (x.bs k) s):HpW w' o t u z b a c x B m cm win tb ⟨up1 al.sl k s,al.ln,al.sm⟩:=⟨h.hp.upSl ap.tu.t9 hk f q,h.cma.fr f (ap.tu.sub [2,k]).off,h.ar.fr f (ap.tz.sub [2,k]).off⟩
theorem HpW.mono(h:HpW w o t u z b a c x B m cm win tb al){m':Nat}(hm:m≤m'):HpW w o t u z b a c x B m' cm win tb al:=⟨h.hp,h.cma,h.ar.mono hm⟩
end
def LetPost(w:World)(o:Nat→Tag)(t u z:Tag)(b a c:Nat)(x:HpX)(B:List UInt8)(m:Nat)(cm:CmS)(win:List Int)(tb:TbS)(al:AlS)(v:Value)(e:Ending)(w':World):Prop :=
 e=.returned v∧∃o',HpW w' o' t u z b a c x B m cm win tb al∧Fr (S3 t u z) w o w' o'
theorem hpLet(b a c:Nat)(v p:Int)(w:World){o:Nat→Tag}{t u z:Tag}{x:HpX}{B:List UInt8}{m:Nat}{cm:CmS}{win:List Int}{tb:TbS}{al:AlS}(h:HpW w o t u z b a c x B m cm win tb al)(ap:Ap3 t u z)(hm:m≤1000000)
  (h1:tb.unE v=0) (h2:tb.unV v=p) (h3:0≤p∧p<4096) (h4:cm.giveE p=0) (h5:hasE B.length (p*512) 512=0) :
  Calls Tryz.prog 140 #[.pointer (some ⟨b,0,none⟩),.int .i64 v] w (LetPost w o t u z b a c x (zrB B (p*512) 512) (m+1) (cm.give p) win (tb.un v) al (.tuple #[])):=by
 have c3:w.cell? ⟨b,3,none⟩=some (.pointer (some ⟨x.bt,0,none⟩)):=h.hp.c3;have hu:=HD (tbUnmap x.bt v w h.hp.ta);rw [h1,h2] at hu;have hall:=HD (show ∀w1,TbAt w1 o (t++[1]) x.bt (tb.un v)→Fr (Und (t++[1])) w o w1 o→w1.cell? ⟨b,0,none⟩=some (.pointer (some ⟨a,0,none⟩)) ∧
   Calls Tryz.prog 132 #[.pointer (some ⟨a,0,none⟩),.int .i64 (p*512),.int .i64 512] w1 (fun e w2=>e=.returned (.int .i64 0)∧w2.cell? ⟨b,1,none⟩=some (.pointer (some ⟨c,0,none⟩)) ∧
    Calls Tryz.prog 133 #[.pointer (some ⟨c,0,none⟩),.int .i64 p] w2 (fun e w3=>e=.returned (.int .i64 0)∧LetPost w o t u z b a c x (zrB B (p*512) 512) (m+1) (cm.give p) win (tb.un v) al (.tuple #[]) (.returned (.tuple #[])) w3)) from fun w1 q1 f1=>by
  have g1:=h.inTb ap f1 q1;refine⟨g1.hp.c0,?_⟩;have hz:=arZero a (p*512) 512 w1 g1.ar (by omega);rw [h5] at hz;refine hz.mono ?_;rintro e w2 ⟨rfl,q2,f2⟩;have g2:=g1.inAr ap f2 q2;refine⟨rfl,g2.hp.c1,?_⟩;have hg:=cmGive c p w2 g2.cma ap.tu.u9;rw [h4] at hg;refine hg.mono ?_;rintro e w3 ⟨rfl,q3,f3⟩;exact⟨rfl,rfl,_,g2.inCm ap f3 q3,((f1.mono fun v q=>Or.inl q.up).trans (f2.mono fun v q=>Or.inr (Or.inr q))).trans (f3.mono fun v q=>Or.inr (Or.inl q))⟩)
 have u1:=IntWalk.i64_in (p*512) (by omega);clear h h1 h2 h4 h5;go_enter Tryz.func140,Tryz.ntmps140
 go_wp2_with fail;refine hu.out.mono ?_;rintro e w1 ⟨rfl,q1,f1⟩;obtain⟨d0,hz⟩:=hall.out w1 q1 f1;replace hz:=HD hz;clear q1 f1 hall hu;go_wp2_with fail;refine hz.out.mono ?_;rintro e w2 ⟨rfl,d1,hg⟩;replace hg:=HD hg;clear hz;go_wp2_with fail;refine hg.out.mono ?_;rintro e w3 ⟨rfl,r⟩;replace r:=HD r;clear hg;go_wp2_with fail;exact bodyPost_end (results_none (by kernel_rfl) _ _ _) rfl r.out
structure RelPre(B:List UInt8)(cm:CmS)(win:List Int)(tb:TbS)(al:AlS)(k s:Nat):Prop where
 ton:TbOk cm win tb
 cmo:cm.ok
 z:FreeZ B cm
 len:B.length=cm.P*512
 k24:k<24
 n:((al.sl k).n:Int)=slotsT k
 sn:s<(al.sl k).n
 had:(al.sl k).f s=false
 all:∀v,rng (vOf k s) (pagesT k).toNat v→(mGet tb.pg v).isSome=true
structure RelRel(w:World)(o:Nat→Tag)(t u z:Tag)(b a c:Nat)(x:HpX)(B:List UInt8)(m:Nat)(cm:CmS)(win:List Int)(tb:TbS)(al:AlS)(k s:Nat)(w':World)(o':Nat→Tag)(j:Nat)(B':List UInt8)(cm':CmS)(tb':TbS):Prop where
 hp:HpW w' o' t u z b a c x B' (m+j) cm' win tb' al
 rel:Rel B cm win tb B' cm' tb' (rng (vOf k s) j) j
 fr:Fr (S3 t u z) w o w' o'
def RelPost(w:World)(o:Nat→Tag)(t u z:Tag)(b a c:Nat)(x:HpX)(B:List UInt8)(m:Nat)(cm:CmS)(win:List Int)(tb:TbS)(al:AlS)(k s:Nat)(e:Ending)(w':World):Prop :=
 e=.returned (.tuple #[])∧∃o' B' cm' tb',HpW w' o' t u z b a c x B' (m+16) cm' win tb' ⟨up1 al.sl k ((al.sl k).flip s),al.ln,al.sm⟩∧Rel B cm win tb B' cm' tb' (fun v=>vOf k s≤v∧v<vOf k s+pagesT k) (pagesT k).toNat∧Fr (S3 t u z) w o w' o'
theorem hpRelease(b a c k s:Nat)(w:World){o:Nat→Tag}{t u z:Tag}{x:HpX}{B:List UInt8}{m:Nat}{cm:CmS}{win:List Int}{tb:TbS}{al:AlS}(h:HpW w o t u z b a c x B m cm win tb al)(ap:Ap3 t u z)(hm:m≤900000)(hpre:RelPre B cm win tb al k s) :
  Calls Tryz.prog 204 #[.pointer (some ⟨b,0,none⟩),.int .i64 k,.int .i64 s] w (RelPost w o t u z b a c x B m cm win tb al k s):=by
 have hk:=hpre.k24;have hkf:=kind_facts (c:=(k:Int)) (by omega) (by omega);have s3:(s:Int)<slotsT k:=by rw [←hpre.n];have:=hpre.sn;omega
 have hsi:=slot_in hk s3;have hvb:=(pos_local hk s3).2.2;obtain⟨n,hn⟩:∃n:Nat,pagesT k=n:=⟨(pagesT k).toNat,by omega⟩
 have hn16:n≤16:=by omega
 have hpa:=HD (fun w=>pages_any k w);rw [hn] at hpa;have hloc:=HD (fun w=>hpLocal k s w hk s3);have hR0:Hid (RelRel w o t u z b a c x B m cm win tb al k s w o 0 B cm tb):=HD ⟨h,(Rel.zero hpre.ton hpre.cmo hpre.z).cong (fun v=>⟨fun q=>q.elim,fun q=>by unfold rng at q;omega⟩),Fr.refl _ _ _⟩;have hpre':=HD hpre;have hidx:0≤(k:Int)∧(k:Int)<24:=by omega
 have hkk:((k:Int)).toNat=k:=by omega
 clear h hpre hkf;go_enter Tryz.func204,Tryz.ntmps204
 go_wp2_with fail;refine(hpa.out _).mono ?_;rintro e w' ⟨rfl,hw⟩;obtain rfl:=hw.symm;clear hw hpa;go_wp2_with fail;go_loopg [9] n (fun gh i wx=>∃(j:Nat) (o':Nat→Tag) (B':List UInt8) (cm':CmS) (tb':TbS),j≤n∧gh=n-j∧i=.int .i64 j∧Hid (RelRel w o t u z b a c x B m cm win tb al k s wx o' j B' cm' tb'))
 case atStart=>exact⟨0,_,_,_,_,Nat.zero_le _,rfl,rfl,hR0⟩
 case round =>
  clear hR0;obtain⟨j,o',B',cm',tb',hj,rfl,rfl,hR⟩:=hrel;by_cases hlt:j<n
  ·have d0:decide ((j:Int)<(n:Int))=true:=decide_eq_true (by omega)
   have hv:rng (vOf k s) (pagesT k).toNat (vOf k s+j):=⟨by omega,by omega⟩
   obtain⟨p,hp⟩:=Option.isSome_iff_exists.1 (hpre'.out.all _ hv);obtain⟨e1,e2,e3,e4,e5,e6⟩:=hR.out.rel.step hpre'.out.len hp (by unfold rng;omega);have hP:=hpre'.out.cmo.2.2.2.1;have hlet:=HD ((hpLet b a c (vOf k s+j) p wr hR.out.hp ap (by omega) e1 e2 (by omega) e4 e5).mono (R':=fun e w2=>e=.returned (.tuple #[])∧∃o2,RelRel w o t u z b a c x B m cm win tb al k s w2 o2 (j+1) (zrB B' (p*512) 512) (cm'.give p) (tb'.un (vOf k s+j))) (by
    rintro e w2 ⟨rfl,o2,q1,f1⟩;exact⟨rfl,o2,q1,e6.cong (E:=rng (vOf k s) (j+1)) (fun v=>by unfold rng;omega),hR.out.fr.trans f1⟩))
   have u1:=IntWalk.i64_in (vOf k s+j) (by omega);clear hR e1 e2 e3 e4 e5 e6 hp hv;go_wp2_with fail;refine SM (hloc.out _) ?_;go_wp2_with fail;refine hlet.out.mono ?_;rintro e w2 ⟨rfl,o2,r⟩;have hRn:=HD r;clear r hlet;go_wp2_with fail;go_roundg (n-(j+1))
   case measure=>omega
   case rel=>exact⟨j+1,_,_,_,_,by omega,rfl,by go_num,hRn⟩
  ·have d0:decide ((j:Int)<(n:Int))=false:=decide_eq_false (by omega)
   obtain rfl:j=n:=by omega
   have cs:wr.cell? ⟨b,4+k,none⟩=some (.pointer (some ⟨x.bs k,0,none⟩)):=hR.out.hp.hp.cs hk;have hgv:=HD ((shGive (x.bs k) s wr (hR.out.hp.hp.sl k hk) (not_nine ap.tu.t9 _)).mono (R':=fun e w2=>e=.returned (.int .i64 0)∧RelPost w o t u z b a c x B m cm win tb al k s (.returned (.tuple #[])) w2) (by
    rintro e w2 ⟨rfl,r1,r2⟩;have g:=give_taken hpre'.out.sn hpre'.out.had;rw [g.2] at r1;refine⟨by rw [g.1],rfl,o',B',cm',tb',(hR.out.hp.inSl ap hk r2 r1).mono (by omega),?_,hR.out.fr.trans (r2.mono fun v q=>.inl q.up)⟩;rw [show (pagesT k).toNat=j by omega,hn];exact hR.out.rel))
   clear hR hpre' hn;go_wp2_with fail;refine hgv.out.mono ?_;rintro e w2 ⟨rfl,r⟩;replace r:=HD r;clear hgv;go_wp2_with fail;exact bodyPost_end (results_none (by kernel_rfl) _ _ _) rfl r.out
end
section
open Go.RowKit
def Had(al:AlS)(c s k:Nat):Prop:=thereT c s k=true∧(al.sl c).f s=false∧(c<8→∃p,mGet al.sm (vOf c s)=some p∧p.had.f k=false∧k<p.had.n)
theorem Had.there{al:AlS}{c s k:Nat}(h:Had al c s k):c<24∧(s:Int)<slotsT c∧(k:Int)<roomT c:=by
 have h1:=there_kind h.1;have h2:=there_iff.1 h.1;exact⟨by omega,h2.2.1,h2.2.2.2⟩
section
variable{w w':World}{o o':Nat→Tag}{t u z:Tag}{b a c:Nat}{x:HpX}{B:List UInt8}{m:Nat}{cm:CmS}{win:List Int}{tb:TbS}{al:AlS}
theorem fr_drewN(n:Nat):Fr (fun _=>False) w o (w.drewN n) o:=by
 induction n with
 |zero=>exact Fr.refl _ _ _
 |succ n ih=>exact ih.drew'
theorem HpG.drewN(h:HpG w o t b a c x win tb al)(n:Nat):HpG (w.drewN n) o t b a c x win tb al:=h.fr (fr_drewN n) off_no
theorem mGet_map{α β:Type}(f:Int→α→β):∀(M:List (Int×α)) (k:Int),mGet (M.map fun y=>(y.1,f y.1 y.2)) k=(mGet M k).map (f k)
 |[],_=>rfl
 |(a,v) :: M,k=>by
  show (if a=k then some (f a v) else mGet (M.map _) k)=_;rw [mGet];by_cases e:a=k
  ·rw [if_pos e,if_pos e,e];rfl
  ·rw [if_neg e,if_neg e];exact mGet_map f M k
theorem zeroPg(w:World):(zeroValue 205).run Tryz.prog w=.ok (.pointer none) w:=by kernel_rfl
theorem HpG.look(h:HpG w o t b a c x win tb al){v:Int}{p:PgS}(hp:mGet al.sm v=some p):(Instr.lookup 199 (.map (some x.gm)) (.int .i64 v) false).run Tryz.prog w=.ok (.pointer (some ⟨x.bp v,0,none⟩)) w:=by
 have:=mp_lookup h.mp (P:=Tryz.prog) Tryz.underlying199 Tryz.underlying3 zeroPg v false;rw [this,mGet_map (fun v _=>x.bp v),hp];rfl
end
theorem hpBlock(b a c k s j:Nat)(w:World){o:Nat→Tag}{t:Tag}{x:HpX}{win:List Int}{tb:TbS}{al:AlS}(h:HpG w o t b a c x win tb al)(hh:Had al k s j)(hn:((al.sl k).n:Int)=slotsT k) :
  Calls Tryz.prog 152 #[.pointer (some ⟨b,0,none⟩),.int .i64 (posT k s j)] w fun e w'=>e=.returned (.tuple #[.int .i64 k,.int .i64 s,.int .i64 j,.int .i64 0])∧∃n,w'=w.drewN n:=by
 obtain⟨h1,h2,h3⟩:=hh.there;have hf:=find_pos hh.1;have hfd:=find_yes (posT k s j) w (found_pos hh.1);rw [hf.2.2.1,hf.2.2.2.1,hf.2.2.2.2] at hfd;replace hfd:=HD hfd;have htak:=HD (show ∀n,Calls Tryz.prog 138 #[.pointer (some ⟨x.bs k,0,none⟩),.int .i64 s] (w.drewN n) (fun e w'=>e=.returned (.bool true)∧w'=w.drewN n) from fun n=>by
  have:=shTaken (x.bs k) s (w.drewN n) ((h.drewN n).sl k h1)
  rwa [Int.toNat_natCast,hh.2.1,decide_eq_true (show 0≤(s:Int)∧(s:Int)<((al.sl k).n:Nat) by omega)] at this)
 have hidx:0≤(k:Int)∧(k:Int)<24:=by omega
 have hkk:((k:Int)).toNat=k:=by omega
 generalize posT k s j=ad at *;by_cases h8:k<8
 ·obtain⟨p,p1,p2,p3⟩:=hh.2.2 h8
  have d8:decide ((k:Int)<8)=true:=decide_eq_true (by omega);have hloc:=HD (fun n=>hpLocal k s (w.drewN n) h1 h2);have hhas:=HD (show ∀n,Calls Tryz.prog 208 #[.pointer (some ⟨x.bp (vOf k s),0,none⟩),.int .i64 j] (w.drewN n) (fun e w'=>e=.returned (.bool true)∧w'=w.drewN n) from fun n=>by
   have:=pgHas (x.bp (vOf k s)) a j (w.drewN n) ((h.drewN n).pg _ p p1);have e:(p.on (x.pf (vOf k s)*512:Nat)).has j=true:=by
    show (decide (0≤(j:Int)∧(j:Int)<(p.had.n:Nat))&&!p.had.f (j:Int).toNat)=true;rw [Int.toNat_natCast,p2,decide_eq_true (by omega)];rfl
   rwa [e] at this)
  have hstep:=HD (show ∀n,(w.drewN n).cell? ⟨b,4+k,none⟩=some (.pointer (some ⟨x.bs k,0,none⟩))∧(w.drewN n).cell? ⟨b,36,none⟩=some (.map (some x.gm))∧(Instr.lookup 199 (.map (some x.gm)) (.int .i64 (vOf k s)) false).run Tryz.prog (w.drewN n)=.ok (.pointer (some ⟨x.bp (vOf k s),0,none⟩)) (w.drewN n) from fun n=>⟨(h.drewN n).cs h1,(h.drewN n).cm,(h.drewN n).look p1⟩);clear h hh hf h2 h3 p1 p2 p3;go_enter Tryz.func152,Tryz.ntmps152
  go_wp2_with fail;refine hfd.out.mono ?_;rintro e w1 ⟨rfl,n,rfl⟩;go_wp2_with fail;refine wp_region_noPanic ?_;refine wp_region_held_drew (S:=(fun W=>W.cell? ⟨b,4+k,none⟩=some (.pointer (some ⟨x.bs k,0,none⟩))∧W.cell? ⟨b,36,none⟩=some (.map (some x.gm))∧(Instr.lookup 199 (.map (some x.gm)) (.int .i64 (vOf k s)) false).run Tryz.prog W=.ok (.pointer (some ⟨x.bp (vOf k s),0,none⟩)) W)) (by kernel_rfl) ?_ (fun hHeld=>?_)
  ·(first|exact hstep.out (n+1)|exact hcs (n+1)|exact hcs _)
  refine tkH 0 (h:=?_);refine tkH 1 (h:=?_);refine tkH 2 (h:=?_);refine tkH 3 (h:=?_);refine tkH 4 (h:=?_);refine tkH 5 (h:=?_);refine tkH 6 (h:=?_);refine tkH 7 (h:=?_);refine tkH 8 (h:=?_);refine tkH 9 (h:=?_);refine onH 10 (h:=fun K hK=>?_);go_simp;refine(htak.out _).mono ?_;rintro e w2 ⟨rfl,rfl⟩;have hcs:=hstep.out;go_wp2_with fail;refine hK.out _ _ ?_ (fun hHeld=>?_)
  ·(first|exact hstep.out (n+1)|exact hcs (n+1)|exact hcs _)
  clear hK;refine nmH (h:=?_);refine tkH 11 (h:=?_);refine tkH 12 (h:=?_);refine tkH 13 (h:=?_);refine tkH 14 (h:=?_);refine tkH 15 (h:=?_);refine tkH 16 (h:=?_);refine tkH 17 (h:=?_);refine tkH 18 (h:=?_);refine tkH 19 (h:=?_);refine tkH 20 (h:=?_);refine tkH 21 (h:=?_);refine tkH 22 (h:=?_);refine tkH 25 (h:=?_);refine onH 23 (h:=fun K hK=>?_);go_simp;refine(hloc.out _).mono ?_;rintro e w2 ⟨rfl,rfl⟩;go_wp2_with fail;refine hK.out _ _ ?_ (fun hHeld=>?_)
  ·(first|exact hstep.out (n+1)|exact hcs (n+1)|exact hcs _)
  clear hK;refine nmH (h:=?_);refine tkH 24 (h:=?_);refine onH 26 (h:=fun K hK=>?_);go_simp;refine(hhas.out _).mono ?_;rintro e w2 ⟨rfl,rfl⟩;go_wp2_with fail;refine hK.out _ _ ?_ (fun hHeld=>?_)
  ·(first|exact hstep.out (n+1)|exact hcs (n+1)|exact hcs _)
  clear hK;refine nmH (h:=?_);refine tkH 27 (h:=?_);refine tkH 28 (h:=?_);refine tkH 29 (h:=?_);refine wpAnyH_done (by kernel_rfl) ?_ _;refine NoPanic.normal ?_;go_wp2_with fail;exact bodyPost_ret (v:=.tuple #[.int .i64 k,.int .i64 s,.int .i64 j,.int .i64 0]) (by simp [results,Tryz.results152,go_sem]) rfl ⟨rfl,_,rfl⟩
 ·have d8:decide ((k:Int)<8)=false:=decide_eq_false (by omega)
  have hstep:=HD (show ∀n,(w.drewN n).cell? ⟨b,4+k,none⟩=some (.pointer (some ⟨x.bs k,0,none⟩)) from fun n=>(h.drewN n).cs h1);clear h hh hf h2 h3;go_enter Tryz.func152,Tryz.ntmps152
  go_wp2_with fail;refine hfd.out.mono ?_;rintro e w1 ⟨rfl,n,rfl⟩;go_wp2_with fail;refine wp_region_noPanic ?_;refine wp_region_held_drew (S:=(fun W=>W.cell? ⟨b,4+k,none⟩=some (.pointer (some ⟨x.bs k,0,none⟩)))) (by kernel_rfl) ?_ (fun hHeld=>?_)
  ·(first|exact hstep.out (n+1)|exact hcs (n+1)|exact hcs _)
  refine tkH 0 (h:=?_);refine tkH 1 (h:=?_);refine tkH 2 (h:=?_);refine tkH 3 (h:=?_);refine tkH 4 (h:=?_);refine tkH 5 (h:=?_);refine tkH 6 (h:=?_);refine tkH 7 (h:=?_);refine tkH 8 (h:=?_);refine tkH 9 (h:=?_);refine onH 10 (h:=fun K hK=>?_);go_simp;refine(htak.out _).mono ?_;rintro e w2 ⟨rfl,rfl⟩;have hcs:=hstep.out;go_wp2_with fail;refine hK.out _ _ ?_ (fun hHeld=>?_)
  ·(first|exact hstep.out (n+1)|exact hcs (n+1)|exact hcs _)
  clear hK;refine nmH (h:=?_);refine tkH 11 (h:=?_);refine tkH 12 (h:=?_);refine tkH 13 (h:=?_);refine tkH 14 (h:=?_);refine tkH 15 (h:=?_);refine tkH 16 (h:=?_);refine tkHs 17 (h:=?_);refine tkHs 18 (h:=?_);refine tkHs 19 (h:=?_);refine tkHs 20 (h:=?_);refine tkHs 21 (h:=?_);refine tkHs 22 (h:=?_);refine tkHs 23 (h:=?_);refine tkHs 24 (h:=?_);refine tkHs 25 (h:=?_);refine tkHs 26 (h:=?_);refine tkHs 27 (h:=?_);refine tkH 28 (h:=?_);refine tkH 29 (h:=?_);refine wpAnyH_done (by kernel_rfl) ?_ _;refine NoPanic.normal ?_;go_wp2_with fail;exact bodyPost_ret (v:=.tuple #[.int .i64 k,.int .i64 s,.int .i64 j,.int .i64 0]) (by simp [results,Tryz.results152,go_sem]) rfl ⟨rfl,_,rfl⟩
theorem hpUsable(b a c k s j:Nat)(w:World){o:Nat→Tag}{t:Tag}{x:HpX}{win:List Int}{tb:TbS}{al:AlS}(h:HpG w o t b a c x win tb al)(hh:Had al k s j)(hn:((al.sl k).n:Int)=slotsT k) :
  Calls Tryz.prog 103 #[.pointer (some ⟨b,0,none⟩),.int .i64 (posT k s j)] w fun e w'=>e=.returned (.tuple #[.int .i64 (unitT k),.int .i64 0])∧∃n,w'=w.drewN n:=by
 have hb:=HD (hpBlock b a c k s j w h hh hn);have hu:=HD (fun w=>unit_any k w);clear h hh hn;generalize posT k s j=ad at *;generalize unitT k=y at *;go_enter Tryz.func103,Tryz.ntmps103
 go_wp2_with fail;refine hb.out.mono ?_;rintro e w1 ⟨rfl,n,rfl⟩;go_wp2_with fail;refine(hu.out _).mono ?_;rintro e w1 ⟨rfl,rfl⟩;go_wp2_with fail;go_ret2
 exact⟨rfl,n,rfl⟩
end
section
open Go.RowKit
theorem blk_small{c s k:Nat}(hc:c<8)(h:thereT c s k=true){i:Int}(h0:0≤i)(h1:i<unitT c):(posT c s k+i)/512=vOf c s∧((posT c s k+i)%512).toNat=k*(unitT c).toNat+i.toNat∧k*(unitT c).toNat+(unitT c).toNat≤512:=by
 have hb:=pos_bounds h;have hp:=pages_lt8 hc;have e:posT c s k=vOf c s*512+k*unitT c:=by unfold posT vOf;rw [hp.1];omega
 rw [hp.1] at hb;have hu:(k:Int)*unitT c=(k*(unitT c).toNat:Nat):=by rw [Int.natCast_mul];congr 1;omega
 rw [e];omega
theorem blk_run{c s k:Nat}(hc:8≤c)(h:thereT c s k=true){i:Int}(h0:0≤i)(h1:i<unitT c):k=0∧(posT c s k+i)/512=vOf c s+i/512∧(posT c s k+i)%512=i%512∧i/512<pagesT c:=by
 have hk:=there_kind h;have ht:=there_iff.1 h;have hr:roomT c=1:=room_one (by rw [per_out (by omega)];omega);have hu:unitT c=(c-7)*512:=unit_run (by omega) (by omega);have hp:pagesT c=c-7:=pages_run (by omega) (by omega);obtain rfl:k=0:=by omega
 have e:posT c s (0:Nat)=vOf c s*512:=by
  unfold posT vOf;have:(s:Int)*(pagesT c*512)=s*pagesT c*512:=by rw [Int.mul_assoc]
  omega
 rw [e];omega
theorem had_mapped{B:List UInt8}{cm:CmS}{win:List Int}{tb:TbS}{al:AlS}(h:HpOk B cm win tb al){c s k:Nat}(hh:Had al c s k){v:Int}(hv:vOf c s≤v∧v<vOf c s+pagesT c):∃q,mGet tb.pg v=some q:=by
 obtain⟨h1,h2,h3⟩:=hh.there;have hi:=(in_slot h1 h2 v).1 hv;have hp:=(pos_local h1 h2).2.2;refine Option.isSome_iff_exists.1 ((h.dom v).2 ⟨⟨hi.1,by omega⟩,?_,?_⟩)
 ·rw [hi.2.1,hi.2.2];exact h2
 ·rw [hi.2.1,hi.2.2,Int.toNat_natCast,Int.toNat_natCast];exact hh.2.1
theorem blk_page{c s k:Nat}(h:thereT c s k=true){i:Int}(h0:0≤i)(h1:i<unitT c):vOf c s≤(posT c s k+i)/512∧(posT c s k+i)/512<vOf c s+pagesT c:=by
 by_cases hc:c<8
 ·have:=blk_small hc h h0 h1
  have:=pages_lt8 hc;omega
 ·have:=blk_run (by omega) h h0 h1
  omega
structure MalRes(B:List UInt8)(cm:CmS)(win:List Int)(tb:TbS)(al:AlS)(c:Nat)(B':List UInt8)(cm':CmS)(tb':TbS)(al':AlS)(addr:Int):Prop where
 hp:HpOk B' cm' win tb' al'
 keep:Keep win B cm B' cm'
 had:∃s k:Nat,addr=posT c s k∧Had al' c s k∧¬Had al c s k
 old:∀c1 s1 k1,Had al c1 s1 k1→Had al' c1 s1 k1∧∀i,0≤i→i<unitT c1→lb tb' B' (posT c1 s1 k1+i)=lb tb B (posT c1 s1 k1+i)
 new:∀i,0≤i→i<unitT c→lb tb' B' (addr+i)=0
 cost:al'.cost=al.cost+(unitT c).toNat
 used:al.Used→al'.Used
section
variable{B:List UInt8}{cm:CmS}{win:List Int}{tb:TbS}{al:AlS}
theorem mal_run(h:HpOk B cm win tb al){c s:Nat}(h8:8≤c)(hc:c<24)(hs:s<(al.sl c).n)(hf:(al.sl c).f s=true){cm':CmS}{tb':TbS}(H:Hld cm win tb cm' tb' (fun v=>vOf c s≤v∧v<vOf c s+pagesT c) (pagesT c).toNat) :
  MalRes B cm win tb al c B cm' tb' ⟨up1 al.sl c ((al.sl c).flip s),al.ln,al.sm⟩ (posT c s 0):=by
 have hsT:(s:Int)<slotsT c:=by rw [←h.al.n c hc];omega
 obtain⟨r1,r2,r3,r4⟩:=h.held hc hs hf H (a':=⟨up1 al.sl c ((al.sl c).flip s),al.ln,al.sm⟩) rfl (h.al.run h8 hc s) (fun v p hp=>.inl hp);have ht:=(pos_local hc hsT).1;have hnew:Had ⟨up1 al.sl c ((al.sl c).flip s),al.ln,al.sm⟩ c s 0:=⟨ht,by show (up1 al.sl c _ c).f s=false;rw [up1_same,flip_f,if_pos rfl,hf];rfl,fun q=>by omega⟩
 refine⟨r1,r2,⟨s,0,rfl,hnew,fun q=>by have:=q.2.1;rw [hf] at this;cases this⟩,fun c1 s1 k1 hh=>⟨⟨hh.1,?_,hh.2.2⟩,fun i i0 i1=>?_⟩,fun i i0 i1=>?_,?_,fun hu=>hu⟩
 ·show (up1 al.sl c _ c1).f s1=false
  by_cases e:c1=c
  ·subst e
   rw [up1_same,flip_f,if_neg]
   ·exact hh.2.1
   ·rintro rfl;have:=hh.2.1;rw [hf] at this;cases this
  ·rw [up1_other e];exact hh.2.1
 ·obtain⟨q,hq⟩:=had_mapped h hh (blk_page hh.1 i0 i1)
  unfold lb;rw [pgOf_some hq,pgOf_some (r3 _ _ hq)]
 ·have hb:=blk_page ht i0 i1
  obtain⟨q,hq⟩:=had_mapped r1 hnew hb;unfold lb;rw [show posT (c:Int) (s:Int) 0=posT c s (0:Nat) from rfl,pgOf_some hq];exact r4 _ q hb.1 hb.2 hq _ (by omega)
 ·show smcost al.sm+runsum (up1 al.sl c _)=smcost al.sm+runsum al.sl+_
  rw [runsum_take h8 hc hs hf];omega
theorem vOf_small{c s:Nat}(hc:c<8):vOf c s=((256*(c+1)+s:Nat):Int):=by unfold vOf;rw [(pages_lt8 hc).1];omega
theorem mal_small(h:HpOk B cm win tb al){al1:AlS}{cm1:CmS}{tb1:TbS}(h1:HpOk B cm1 win tb1 al1)(hkeep:Keep win B cm B cm1)(hext:∀v q,mGet tb.pg v=some q→mGet tb1.pg v=some q)
  (hhad:∀c1 s1 k1,Had al c1 s1 k1↔Had al1 c1 s1 k1) (hcost:al1.cost=al.cost) {c:Nat} (hc:c<8) {v q:Int} {p:PgS} (hg:mGet al1.sm v=some p) (hk:kdV v=c) (hcnt:0<p.had.cnt) (hq:mGet tb1.pg v=some q)
  (hused:al.Used→∀u p',u≠v→mGet al1.sm u=some p'→p'.had.cnt<p'.had.n) :
  MalRes B cm win tb al c (p.alB (q.toNat*512) B) cm1 tb1 (al1.takeP c v) (posT c (v%256) p.alK):=by
 obtain⟨t1,t2,t3,t4,t5⟩:=h1.takeP hc hg hk hcnt hq;obtain⟨g1,g2,g3,g4,g5⟩:=h1.al.pg v p hg;obtain⟨a1,a2⟩:=alK_free g4 hcnt;have hu:p.unit=unitT c:=by unfold PgS.unit;rw [g3,hk]
 have hv:v=vOf c (v%256).toNat:=by rw [vOf_small hc];have:=v_of g1.1;rw [hk,Int.toNat_natCast] at this;omega
 have hm:v%256=((v%256).toNat:Nat):=by omega
 have hs256:(v%256).toNat<256:=by omega
 have hroom:roomT c=(p.had.n:Nat):=by
  rw [g4.n];unfold PgS.per;rw [g3,hk];exact room_per (by have:=per_cases (c:=(c:Int)) (by omega) (by omega);omega)
 have hth:thereT c (v%256).toNat p.alK=true:=there_iff.2 ⟨by omega,by rw [(pages_lt8 hc).2];omega,by omega,by rw [hroom];omega⟩;have hg':mGet (al1.takeP c v).sm v=some p.alP:=(h1.al.takeP hc hg hk hcnt).2.1;rw [hk,Int.toNat_natCast] at g5;generalize hsv:(v%256).toNat=s at *;rw [hm];have hb:=al_had (p:=p);have hnew:Had (al1.takeP c v) c s p.alK:=⟨hth,g5,fun _=>⟨p.alP,by rw [←hv];exact hg',by rw [hb.1,flip_f,if_pos rfl,a2];rfl,by rw [hb.1];exact a1⟩⟩
 have hnot:¬Had al c s p.alK:=fun q=>by
  obtain⟨p',e1,e2,_⟩:=((hhad _ _ _).1 q).2.2 hc;rw [←hv,hg] at e1;obtain rfl:=Option.some.inj e1;rw [a2] at e2;cases e2
 refine⟨t1,hkeep.trans t2,⟨s,p.alK,rfl,hnew,hnot⟩,fun c1 s1 k1 hh=>?_,fun i i0 i1=>?_,by rw [t5,hcost,hu],fun hus u p' hp'=>?_⟩
 ·have hh1:=(hhad _ _ _).1 hh
  constructor
  ·refine⟨hh1.1,hh1.2.1,fun h8=>?_⟩
   obtain⟨p1,e1,e2,e3⟩:=hh1.2.2 h8;by_cases e:vOf c1 s1=v
   ·rw [e,hg] at e1
    injection e1 with e1
    subst e1;refine⟨p.alP,by rw [e];exact hg',?_,by rw [hb.1];exact e3⟩;rw [hb.1,flip_f,if_neg]
    ·exact e2
    ·rintro rfl;rw [a2] at e2;cases e2
   ·exact⟨p1,by show mGet (mIns v _ al1.sm) _=_;rw [mGet_ins_other e];exact e1,e2,e3⟩
  ·intro i i0 i1
   have hbp:=blk_page hh.1 i0 i1;obtain⟨r,hr⟩:=had_mapped h hh hbp;have hr1:=hext _ _ hr;have hbs:=fun h8=>blk_small (c:=c1) h8 hh.1 i0 i1
   unfold lb;rw [pgOf_some hr,pgOf_some hr1];generalize (posT c1 s1 k1+i)/512=vx at *;have hoff:0≤(posT c1 s1 k1+i)%512∧(posT c1 s1 k1+i)%512<512:=by omega
   generalize (posT c1 s1 k1+i)%512=off at *;by_cases e:vx=v
   ·subst e
    have hrq:r=q:=by rw [hr1] at hq;injection hq
    subst hrq;obtain⟨x1,x2,x3⟩:=hh.there;have hi:=(in_slot x1 x2 vx).1 hbp;have hc1:c1=c:=by omega
    subst hc1;obtain⟨y1,y2,y3⟩:=hbs hc;have hs1:s1=s:=by
     have z1:=vOf_small (c:=c1) (s:=s1) hc;have z2:=vOf_small (c:=c1) (s:=s) hc;omega
    subst hs1;obtain⟨p1,e1,e2,_⟩:=hh1.2.2 hc;rw [←hv,hg] at e1;obtain rfl:=Option.some.inj e1;have hne:k1≠p.alK:=by rintro rfl;rw [a2] at e2;cases e2
    rw [y2];refine t3.same _ (fun w=>?_);rw [hu] at w;have:=mul_sep (u:=(unitT c1).toNat) (i:=i.toNat) (j:=k1*(unitT c1).toNat+i.toNat-p.alK*(unitT c1).toNat) hne (by omega) (by omega);omega
   ·have hs:=pg_sep h1 hr1 hq e
    exact t3.page hs (by omega)
 ·have hbs:=blk_small hc hth i0 i1
  unfold lb;rw [hbs.1,←hv,pgOf_some hq,hbs.2.1];have:=t4 i.toNat (by omega);rw [hu] at this;rw [←this,Nat.add_assoc]
 ·replace hp':mGet (mIns v _ al1.sm) u=some p':=hp'
  by_cases e:u=v
  ·subst e
   rw [mGet_ins_same h1.al.rise,pgAt_some hg] at hp';obtain rfl:=Option.some.inj hp';have:=cnt_flip p.had a1;rw [a2] at this;rw [hb.1];have:=cnt_le p.had;rw [flip_n];simp at *
   omega
  ·rw [mGet_ins_other e] at hp'
   exact hused hus u p' e hp'
theorem had_open(h:AlOk al){c s:Nat}(hc:c<8)(hs:s<256)(hf:(al.sl c).f s=true)(c1 s1 k1:Nat):Had al c1 s1 k1↔Had (al.openP c s) c1 s1 k1:=by
 obtain⟨o1,o2,_⟩:=h.openP hc hs hf;have hvo:=vOf_small (c:=c) (s:=s) hc;constructor
 ·intro hh
  refine⟨hh.1,?_,fun h8=>?_⟩
  ·show (up1 al.sl c _ c1).f s1=false
   by_cases e:c1=c
   ·subst e
    rw [up1_same,flip_f,if_neg]
    ·exact hh.2.1
    ·rintro rfl;have:=hh.2.1;rw [hf] at this;cases this
   ·rw [up1_other e];exact hh.2.1
  ·obtain⟨p,e1,e2⟩:=hh.2.2 h8
   refine⟨p,?_,e2⟩;show mGet (mIns _ _ al.sm) _=_;rw [mGet_ins_other]
   ·exact e1
   ·intro e;rw [e,o2] at e1;cases e1
 ·intro hh
  have hne:c1<8→vOf c1 s1≠((256*(c+1)+s:Nat):Int):=fun h8 e=>by
   obtain⟨p,e1,e2,e3⟩:=hh.2.2 h8;replace e1:mGet (mIns _ (PgS.new 0 c) al.sm) _=some p:=e1;rw [e,mGet_ins_same h.rise] at e1;obtain rfl:=Option.some.inj e1;replace e2:decide (k1<(perT c).toNat)=false:=e2;replace e3:k1<(perT c).toNat:=e3;rw [decide_eq_true e3] at e2;cases e2
  have hx:¬(c1=c∧s1=s):=by
   rintro ⟨rfl,rfl⟩;exact hne hc hvo
  refine⟨hh.1,?_,fun h8=>?_⟩
  ·have:=hh.2.1
   replace this:(up1 al.sl c _ c1).f s1=false:=this;by_cases e:c1=c
   ·subst e
    rw [up1_same,flip_f,if_neg (fun q=>hx ⟨rfl,q⟩)] at this;exact this
   ·rwa [up1_other e] at this
  ·obtain⟨p,e1,e2⟩:=hh.2.2 h8
   refine⟨p,?_,e2⟩;replace e1:mGet (mIns _ (PgS.new 0 c) al.sm) _=some p:=e1
   rwa [mGet_ins_other (hne h8)] at e1
end
end
end Go.Proofs.YtfliaggjkianpaaGreatDoor
