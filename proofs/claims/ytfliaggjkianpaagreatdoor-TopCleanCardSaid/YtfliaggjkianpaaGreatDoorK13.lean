import Derived.Test.YtfliaggjkianpaaGreatDoorK12
set_option linter.unusedVariables false
set_option linter.unusedSimpArgs false
set_option maxRecDepth 100000
namespace Go.Proofs.YtfliaggjkianpaaGreatDoor
section
open Go.RowKit
attribute [local irreducible] smallT unitT kindT perT pagesT alignT chargeT
theorem kindOf_out(n:Int)(w:World)(h:n<1∨8192<n) :
  Calls Tryz.prog 102 #[.int .i64 n] w fun e w'=>e=.returned (.int .i64 (-1))∧w'=w:=by
 rcases h with h|h
 ·go_enter Tryz.func102,Tryz.ntmps102
  go_wp2
  go_step3
  go_wp2
  rw [Exit.noGoto_ret];go_ret
  exact⟨rfl,rfl⟩
 ·have h0:1≤n:=by omega
  go_enter Tryz.func102,Tryz.ntmps102
  go_wp2
  go_step3
  go_wp2
  rw [Exit.noGoto_ret];go_ret
  exact⟨rfl,rfl⟩
theorem kindOf_run(n:Int)(w:World)(h:256<n)(h':n≤8192) :
  Calls Tryz.prog 102 #[.int .i64 n] w fun e w'=>e=.returned (.int .i64 (8+(n-1)/512))∧w'=w:=by
 have h0:1≤n:=by omega
 have d1:decide (n<1)=false:=decide_eq_false (by omega);have d2:decide (8192<n)=false:=decide_eq_false (by omega);go_enter Tryz.func102,Tryz.ntmps102
 go_wp2
 refine wp_scope_jumps 0 (fun a' w'=>w'=w∧a'={tmps:=#[.int .i64 n,undef,.int .i64 0,.int .i64 0,.int .i64 n,.bool false,.bool false,.int .i64 n,.bool false,.bool false,.int .i64 n,.bool true,undef,undef,undef,undef,undef,undef,undef,undef,undef,undef,undef],defers:=[]}) (fun _ _=>0) rfl ?_ ?_
 ·go_wp2
  go_step3
  exact⟨rfl,rfl,rfl⟩
 ·rintro a' w' ⟨rfl,rfl⟩
  go_wp2
  simp only [Exit.jump];go_ret
  exact⟨rfl,rfl⟩
theorem kindOf_small(n:Int)(w:World)(h:1≤n)(h':n≤256) :
  Calls Tryz.prog 102 #[.int .i64 n] w fun e w'=>e=.returned (.int .i64 (kindT n))∧w'=w:=by
 have ha:n≤8192:=by omega
 have d3:decide (256<n)=false:=decide_eq_false (by omega);have hk:=HD (kind_small h h');go_enter Tryz.func102,Tryz.ntmps102
 go_wp2
 refine wp_scope_jumps 1 (fun a' w'=>w'=w∧∃(c:Int) (u2 u4 u5 u6 u7 u8 u9 u10 u11 u12 u13 u14 u15 u16 u17 u18 u19 u20 u21 u22:Value),a'={tmps:=#[.int .i64 n,undef,u2,.int .i64 c,u4,u5,u6,u7,u8,u9,u10,u11,u12,u13,u14,u15,u16,u17,u18,u19,u20,u21,u22],defers:=[]}∧0≤c∧c≤kindT n) (fun a' _=>(7-intOf (a'.tmps.getD 3 undef)).toNat) rfl ?_ ?_
 ·by_cases hn:smallT 0<n
  ·have hc:Hid (1≤kindT n):=HD (by
    have:=hk.out;have e:¬kindT n=0:=fun e=>by rw [e] at this;omega
    omega)
   go_wp2
   go_step3
   go_wp2_with (go_at_call 151;refine(small_any 0 _ (by omega) (by omega)).mono ?_;rintro e w' ⟨rfl,hw⟩;obtain rfl:=hw.symm)
   go_step3
   exact⟨rfl,rfl,1,_,_,_,_,_,_,_,_,_,_,_,_,_,_,_,_,_,_,_,_,rfl,by omega,hc.out⟩
  ·have hc:Hid (kindT n=0):=HD (kind_eq h h' (by omega) (by omega) (by omega) (fun q=>by omega))
   go_wp2
   go_step3
   go_wp2_with (go_at_call 151;refine(small_any 0 _ (by omega) (by omega)).mono ?_;rintro e w' ⟨rfl,hw⟩;obtain rfl:=hw.symm)
   simp only [Exit.jump];go_ret
   rw [hc.out];exact⟨rfl,rfl⟩
 ·rintro a' w' ⟨rfl,c,u2,u4,u5,u6,u7,u8,u9,u10,u11,u12,u13,u14,u15,u16,u17,u18,u19,u20,u21,u22,rfl,h0,hck⟩
  have h7:c≤7:=by have:=hk.out;omega
  by_cases hn:smallT c<n
  ·have hc:Hid (c+1≤kindT n):=HD (by
    have:=hk.out;have e:¬kindT n=c:=fun e=>by rw [e] at this;omega
    omega)
   replace hck:=HD hck;go_wp2_with (go_at_call 151;refine(small_any c _ h0 h7).mono ?_;rintro e w' ⟨rfl,hw⟩;obtain rfl:=hw.symm)
   go_step3
   refine⟨rfl,⟨rfl,c+1,_,_,_,_,_,_,_,_,_,_,_,_,_,_,_,_,_,_,_,_,rfl,by omega,hc.out⟩,?_⟩;have:=hk.out;have:=hc.out;simp [intOf]
   omega
  ·have hc:Hid (kindT n=c):=HD (kind_eq h h' h0 h7 (by omega) (fun q=>hk.out.2.2.2 (c-1) (by omega) (by omega)))
   replace hck:=HD hck;go_wp2_with (go_at_call 151;refine(small_any c _ h0 h7).mono ?_;rintro e w' ⟨rfl,hw⟩;obtain rfl:=hw.symm)
   simp only [Exit.jump];go_ret
   rw [hc.out];exact⟨rfl,rfl⟩
theorem kindOf_any(n:Int)(w:World) :
  Calls Tryz.prog 102 #[.int .i64 n] w fun e w'=>e=.returned (.int .i64 (kindT n))∧w'=w:=by
 by_cases h:n<1∨8192<n
 ·rw [kind_out h];exact kindOf_out n w h
 ·by_cases h':n≤256
  ·exact kindOf_small n w (by omega) h'
  ·rw [kind_run (by omega) (by omega)];exact kindOf_run n w (by omega) (by omega)
end
section
open Go.RowKit
theorem Off.or{S S':Tag→Prop}{t:Tag}(h:Off S t)(k:Off S' t):Off (fun y=>S y∨S' y) t:=⟨fun u hu q=>q.elim (h.1 u hu) (k.1 u hu),fun q=>q.elim h.2 k.2⟩
def updI{α:Type}(f:Int→α)(v:Int)(y:α):Int→α:=fun u=>if u=v then y else f u
theorem updI_same{α:Type}{f:Int→α}{v:Int}{y:α}:updI f v y v=y:=if_pos rfl
theorem updI_other{α:Type}{f:Int→α}{v u:Int}{y:α}(h:u≠v):updI f v y u=f u:=if_neg h
theorem map_ins{α β:Type}(g:Int→β)(k:Int)(p:α):∀(M:List (Int×α)),(mIns k p M).map (fun y=>(y.1,g y.1))=mIns k (g k) (M.map fun y=>(y.1,g y.1))
 |[]=>rfl
 |(a,u) :: M=>by
  show (if k<a then (k,p) :: (a,u) :: M else if a=k then (k,p) :: M else (a,u) :: mIns k p M).map _=(if k<a then (k,g k) :: (a,g a) :: _ else if a=k then (k,g k) :: _ else (a,g a) :: mIns k (g k) _)
  by_cases h1:k<a
  ·rw [if_pos h1,if_pos h1];rfl
  ·rw [if_neg h1,if_neg h1]
   by_cases h2:a=k
   ·rw [if_pos h2,if_pos h2];rfl
   ·rw [if_neg h2,if_neg h2]
    show (a,g a) :: (mIns k p M).map _=_;rw [map_ins g k p M]
theorem mIns_self{β:Type}:∀{M:List (Int×β)} {k:Int} {y:β},Rise M→mGet M k=some y→mIns k y M=M
 |[],_,_,_,h=>by cases h
 |(a,u) :: M,k,y,hr,h=>by
  have hr':=List.pairwise_cons.1 hr;rw [mGet] at h;by_cases e:a=k
  ·rw [if_pos e] at h
   obtain rfl:=Option.some.inj h;subst e;rw [mIns,if_neg (by omega),if_pos rfl]
  ·rw [if_neg e] at h
   have:=hr'.1 _ (mGet_mem h);simp only at this;rw [mIns,if_neg (by omega),if_neg e,mIns_self hr'.2 h]
theorem mDel_map{α β:Type}(g:Int→β)(k:Int):∀(M:List (Int×α)),(mDel k M).map (fun y=>(y.1,g y.1))=mDel k (M.map fun y=>(y.1,g y.1))
 |[]=>rfl
 |(a,u) :: M=>by
  show (if a=k then M else (a,u) :: mDel k M).map _=(if a=k then _ else (a,g a) :: mDel k _)
  by_cases h2:a=k
  ·rw [if_pos h2,if_pos h2]
  ·rw [if_neg h2,if_neg h2]
   show (a,g a) :: (mDel k M).map _=_;rw [mDel_map g k M]
section
variable{w w':World}{o o':Nat→Tag}{t u z:Tag}{b a c:Nat}{x:HpX}{B:List UInt8}{m:Nat}{cm:CmS}{win:List Int}{tb:TbS}{al:AlS}
theorem rise_map{α β:Type}{M:List (Int×α)}(g:Int→β)(h:Rise M):Rise (M.map fun y=>(y.1,g y.1)):=List.pairwise_map.2 h
theorem HpW.upPg(h:HpW w o t u z b a c x B m cm win tb al)(ap:Ap3 t u z)(hok:AlOk al){v:Int}{p0 p':PgS}(hv:mGet al.sm v=some p0){B':List UInt8}{m':Nat}
  (f:Fr (fun y=>Und (t++[5,v.toNat]) y∨Und z y) w o w' o') (q:PgAt w' o' (t++[5,v.toNat]) (x.bp v) a (p'.on (x.pf v*512:Nat))) (qa:ArAt w' o' z a B' m') :
  HpW w' o' t u z b a c x B' m' cm win tb ⟨al.sl,al.ln,mIns v p' al.sm⟩:=by
 have h9:=ap.tu.t9;have of:∀{n:Nat} {r:Tag},n≠5→Off (fun y=>Und (t++[5,v.toNat]) y∨Und z y) (t++n :: r):=fun hn=>(off_one (Ne.symm hn) h9).or (ap.tz.off_sub _)
 have hvk:=(hok.pg v p0 hv).1;refine⟨⟨h.hp.blk.fr f (fun e=>e.elim (not_und t 5 [v.toNat]) (ap.tz.ne t (Und.self t))),h.hp.win.fr f (of (by decide)).self,h.hp.ta.fr f (of (by decide)),fun k hk=>(h.hp.sl k hk).fr f (of (by decide)),fun k hk=>?_,?_,fun y p hp=>?_⟩,h.cma.fr f (((ap.tu.sub _).off).or ap.uz.swap.off),qa⟩
 ·obtain⟨s,h1,h2⟩:=h.hp.ln k hk
  exact⟨s,h1.fr f (of (by decide)).self,h2⟩
 ·have e:(mIns v p' al.sm).map (fun y=>(y.1,x.bp y.1))=al.sm.map (fun y=>(y.1,x.bp y.1)):=by
   rw [map_ins x.bp,mIns_self (rise_map _ hok.rise)];rw [mGet_map (fun v _=>x.bp v),hv];rfl
  show MpAt w' o' _ _ _ _ ((mIns v p' al.sm).map _);rw [e];exact h.hp.mp.fr f (of (by decide)).self
 ·replace hp:mGet (mIns v p' al.sm) y=some p:=hp
  by_cases e:y=v
  ·subst e
   rw [mGet_ins_same hok.rise] at hp;obtain rfl:=Option.some.inj hp;exact q
  ·rw [mGet_ins_other e] at hp
   have hyk:=(hok.pg y p hp).1;exact(h.hp.pg y p hp).fr f ((off_two (by omega) h9).or (ap.tz.off_sub _))
theorem HpW.addPg(h:HpW w o t u z b a c x B m cm win tb al)(ap:Ap3 t u z)(hok:Rise al.sm){v:Int}(hv0:0≤v)(hv:mGet al.sm v=none){bn pn kind:Nat}(q:PgAt w o (t++[5,v.toNat]) bn a (PgS.new (pn*512:Nat) kind))
  (f:Fr (fun y=>y=t++[4]) w o w' o) (qm:MpAt w' o (t++[4]) x.gm .i64 eP (mIns v bn (al.sm.map fun y=>(y.1,x.bp y.1)))) :
  HpW w' o t u z b a c {x with bp:=updI x.bp v bn,pf:=updI x.pf v pn} B m cm win tb ⟨al.sl,al.ln,mIns v (PgS.new 0 kind) al.sm⟩:=by
 have h9:=ap.tu.t9;have of:∀{n:Nat} {r:Tag},n≠4→Off (fun y=>y=t++[4]) (t++n :: r):=fun hn=>off_eq (pre_one hn) (ne_nine h9 _)
 refine⟨⟨h.hp.blk.fr f (fun e=>not_und t 4 [] (by rw [←e];exact Und.self _)),h.hp.win.fr f (of (by decide)).self,h.hp.ta.fr f (of (by decide)),fun k hk=>(h.hp.sl k hk).fr f (of (by decide)),fun k hk=>?_,?_,fun y p hp=>?_⟩,h.cma.fr f ⟨fun y hy e=>ap.tu.ne y (by rw [e];exact Und.app t [4]) hy,fun e=>ne_nine h9 _ e.symm⟩,h.ar.fr f ⟨fun y hy e=>ap.tz.ne y (by rw [e];exact Und.app t [4]) hy,fun e=>ne_nine h9 _ e.symm⟩⟩
 ·obtain⟨s,h1,h2⟩:=h.hp.ln k hk
  exact⟨s,h1.fr f (of (by decide)).self,h2⟩
 ·show MpAt w' o _ _ _ _ ((mIns v (PgS.new 0 kind) al.sm).map fun y=>(y.1,updI x.bp v bn y.1))
  rw [map_ins (updI x.bp v bn),updI_same];have:(al.sm.map fun y=>(y.1,updI x.bp v bn y.1))=al.sm.map fun y=>(y.1,x.bp y.1):=List.map_congr_left fun y hy=>by
   rw [updI_other];exact mGet_none hv y hy
  rw [this];exact qm
 ·replace hp:mGet (mIns v (PgS.new 0 kind) al.sm) y=some p:=hp
  show PgAt w' o _ (updI x.bp v bn y) a (p.on (updI x.pf v pn y*512:Nat));by_cases e:y=v
  ·subst e
   rw [mGet_ins_same hok] at hp;obtain rfl:=Option.some.inj hp;rw [updI_same,updI_same];exact q.fr f (of (by decide))
  ·rw [mGet_ins_other e] at hp
   rw [updI_other e,updI_other e];exact(h.hp.pg y p hp).fr f (of (by decide))
theorem HpW.inLn(h:HpW w o t u z b a c x B m cm win tb al)(ap:Ap3 t u z){k:Nat}(hk:k<8){s:LnS}{l:List Int}(f:Fr (fun y=>y=t++[3,k]) w o w' o')(q:LnG w' o' (t++[3,k]) (x.bl k) (x.gl k) s)(hs:LnIs s l):HpW w' o' t u z b a c x B m cm win tb ⟨al.sl,up1 al.ln k l,al.sm⟩ :=
 ⟨h.hp.upLn ap.tu.t9 hk f q hs,h.cma.fr f ⟨fun y hy e=>ap.tu.ne y (by rw [e];exact Und.app t [3,k]) hy,fun e=>ne_nine ap.tu.t9 _ e.symm⟩,h.ar.fr f ⟨fun y hy e=>ap.tz.ne y (by rw [e];exact Und.app t [3,k]) hy,fun e=>ne_nine ap.tu.t9 _ e.symm⟩⟩
theorem up1_eq{α:Type}(f:Nat→α)(k:Nat):up1 f k (f k)=f:=by
 funext d
 unfold up1
 split
 ·rename_i e;rw [e]
 ·rfl
theorem HpW.delPg(h:HpW w o t u z b a c x B m cm win tb al)(ap:Ap3 t u z)(hok:Rise al.sm){v:Int}(f:Fr (fun y=>y=t++[4]) w o w' o)(qm:MpAt w' o (t++[4]) x.gm .i64 eP (mDel v (al.sm.map fun y=>(y.1,x.bp y.1)))) :
  HpW w' o t u z b a c x B m cm win tb ⟨al.sl,al.ln,mDel v al.sm⟩:=by
 have h9:=ap.tu.t9;have of:∀{n:Nat} {r:Tag},n≠4→Off (fun y=>y=t++[4]) (t++n :: r):=fun hn=>off_eq (pre_one hn) (ne_nine h9 _)
 refine⟨⟨h.hp.blk.fr f (fun e=>not_und t 4 [] (by rw [←e];exact Und.self _)),h.hp.win.fr f (of (by decide)).self,h.hp.ta.fr f (of (by decide)),fun k hk=>(h.hp.sl k hk).fr f (of (by decide)),fun k hk=>?_,?_,fun y p hp=>?_⟩,h.cma.fr f ⟨fun y hy e=>ap.tu.ne y (by rw [e];exact Und.app t [4]) hy,fun e=>ne_nine h9 _ e.symm⟩,h.ar.fr f ⟨fun y hy e=>ap.tz.ne y (by rw [e];exact Und.app t [4]) hy,fun e=>ne_nine h9 _ e.symm⟩⟩
 ·obtain⟨s,h1,h2⟩:=h.hp.ln k hk
  exact⟨s,h1.fr f (of (by decide)).self,h2⟩
 ·show MpAt w' o _ _ _ _ ((mDel v al.sm).map fun y=>(y.1,x.bp y.1))
  rw [mDel_map x.bp];exact qm
 ·replace hp:mGet (mDel v al.sm) y=some p:=hp
  by_cases e:y=v
  ·subst e;rw [mGet_del_same hok] at hp;cases hp
  ·rw [mGet_del_other e] at hp
   exact(h.hp.pg y p hp).fr f (of (by decide))
end
end
section
open Go.RowKit
def AlS.mal(a:AlS)(c:Nat):Int×AlS :=
 if c<8 then
  match a.ln c with
  |v :: _=>(posT c (v%256) (a.pgAt v).alK,a.takeP c v)
  |[]=>(posT c (((256*(c+1)+(a.sl c).lowI.toNat:Nat):Int)%256) ((a.openP c (a.sl c).lowI.toNat).pgAt ((256*(c+1)+(a.sl c).lowI.toNat:Nat):Int)).alK,(a.openP c (a.sl c).lowI.toNat).takeP c ((256*(c+1)+(a.sl c).lowI.toNat:Nat):Int))
 else (posT c (a.sl c).lowI.toNat 0,⟨up1 a.sl c ((a.sl c).flip (a.sl c).lowI.toNat),a.ln,a.sm⟩)
def MalPost(w:World)(o:Nat→Tag)(t u z:Tag)(b a c:Nat)(B:List UInt8)(m:Nat)(cm:CmS)(win:List Int)(tb:TbS)(al:AlS)(k:Nat)(addr:Int)(w':World):Prop :=
 ∃x o' B' cm' tb' al',HpW w' o' t u z b a c x B' m cm' win tb' al'∧x.is tb' al'∧MalRes B cm win tb al k B' cm' tb' al' addr∧al.mal k=(addr,al')∧Fr (S3 t u z) w o w' o'
structure MalS(w:World)(o:Nat→Tag)(t u z:Tag)(b a c:Nat)(B:List UInt8)(m:Nat)(cm:CmS)(win:List Int)(tb:TbS)(al:AlS)(k bl:Nat)(w1:World)(x:HpX)(o1:Nat→Tag)(cm1:CmS)(tb1:TbS)(al1:AlS)(v:Int):Prop where
 hw:HpW w1 o1 t u z b a c x B m cm1 win tb1 al1
 is_:x.is tb1 al1
 hp:HpOk B cm1 win tb1 al1
 keep:Keep win B cm B cm1
 ext:∀v q,mGet tb.pg v=some q→mGet tb1.pg v=some q
 had:∀c1 s1 k1,Had al c1 s1 k1↔Had al1 c1 s1 k1
 cost:al1.cost=al.cost
 used:al.Used→∀u p',u≠v→mGet al1.sm u=some p'→p'.had.cnt<p'.had.n
 ln:∃l,al1.ln k=v :: l
 mal:al.mal k=(posT k (v%256) (al1.pgAt v).alK,al1.takeP k v)
 bl:x.bl k=bl
 fr:Fr (S3 t u z) w o w1 o1
theorem small_there{al:AlS}(h:AlOk al){c:Nat}(hc:c<8){v:Int}{p:PgS}(hg:mGet al.sm v=some p)(hk:kdV v=c)(hcnt:0<p.had.cnt):thereT c (v%256) p.alK=true:=by
 obtain⟨g1,g2,g3,g4,g5⟩:=h.pg v p hg;obtain⟨a1,a2⟩:=alK_free g4 hcnt;have hroom:roomT c=(p.had.n:Nat):=by
  rw [g4.n];unfold PgS.per;rw [g3,hk];exact room_per (by have:=per_cases (c:=(c:Int)) (by omega) (by omega);omega)
 exact there_iff.2 ⟨by omega,by rw [(pages_lt8 hc).2];omega,by omega,by rw [hroom];omega⟩
theorem MalS.step{w:World}{o:Nat→Tag}{t u z:Tag}{b a c:Nat}{B:List UInt8}{m:Nat}{cm:CmS}{win:List Int}{tb:TbS}{al:AlS}{k bl:Nat}{w1:World}{x:HpX}{o1:Nat→Tag}{cm1:CmS}{tb1:TbS}{al1:AlS}{v:Int}
  (h0:HpOk B cm win tb al) (h:MalS w o t u z b a c B m cm win tb al k bl w1 x o1 cm1 tb1 al1 v) (ap:Ap3 t u z) (hm:m≤900000) (hk:k<8) :
  ∃(kk:Nat) (full:Bool),(0≤v∧v<6400∧v-vOf k 0=v%256)∧thereT k (v%256) kk=true ∧
   Calls Tryz.prog 197 #[.pointer (some ⟨bl,0,none⟩)] w1 (fun e w'=>e=.returned (.int .i64 v)∧w'=w1) ∧
   w1.cell? ⟨b,36,none⟩=some (.map (some x.gm))∧(Instr.lookup 199 (.map (some x.gm)) (.int .i64 v) false).run Tryz.prog w1=.ok (.pointer (some ⟨x.bp v,0,none⟩)) w1 ∧
   Calls Tryz.prog 198 #[.pointer (some ⟨x.bp v,0,none⟩)] w1 (fun e w2=>e=.returned (.tuple #[.int .i64 kk,.int .i64 0]) ∧
    Calls Tryz.prog 199 #[.pointer (some ⟨x.bp v,0,none⟩)] w2 (fun e w3=>e=.returned (.bool full)∧w3=w2) ∧
    (full=false→MalPost w o t u z b a c B (m+2) cm win tb al k (posT k (v%256) kk) w2) ∧
    (full=true→Calls Tryz.prog 200 #[.pointer (some ⟨bl,0,none⟩),.int .i64 v] w2 (fun e w3=>e=.returned (.int .i64 0)∧MalPost w o t u z b a c B (m+2) cm win tb al k (posT k (v%256) kk) w3))):=by
 obtain⟨l,hl⟩:=h.ln;obtain⟨hnd,hmem⟩:=h.hp.al.ln k hk;have hvm:v∈al1.ln k:=by rw [hl];simp
 obtain⟨p,hg,hkd,hcnt⟩:=(hmem v).1 hvm;obtain⟨q,hq⟩:=Option.isSome_iff_exists.1 ((h.hp.dom v).2 (sm_mapped h.hp.al hg));obtain⟨g1,g2,g3,g4,g5⟩:=h.hp.al.pg v p hg;obtain⟨r1,r2,r3,r4⟩:=h.hp.ton.rng v q hq;have hlen:=h.hp.len;have hpf:x.pf v=q.toNat:=by rw [h.is_ v p hg,pgOf_some hq]
 have hpgok:PgOk B (p.on (x.pf v*512:Nat)):=by
  rw [hpf];exact g4.pgOk (by omega) (h.hp.c v p q hg hq)
 obtain⟨ls,hls,hli⟩:=h.hw.hp.ln k hk;have heq:=pgAt_some hg;have hres:=mal_small h0 h.hp h.keep h.ext h.had h.cost hk hg hkd hcnt hq h.used;refine⟨p.alK,decide (p.alP.had.cnt=0),⟨by omega,by omega,by unfold vOf kdV at *;rw [(pages_lt8 hk).1];omega⟩,small_there h.hp.al hk hg hkd hcnt,?_,h.hw.hp.cm,h.hw.hp.look hg,?_⟩
 ·have:=lnFront (x.bl k) w1 ⟨_,hls⟩
  rw [h.bl,hli.first,hl] at this;exact this
 ·have hal:=pgAlloc (x.bp v) a w1 (h.hw.hp.pg v p hg) h.hw.ar (by omega) hpgok (ap.tz.sub [5,v.toNat])
  rw [alF_eq g4 hcnt] at hal;refine hal.mono ?_;rintro e w2 ⟨rfl,o2,q1,q2,f2⟩;rw [hpf] at q2;have hw2:=h.hw.upPg ap h.hp.al hg f2 q1 q2;have hS:Fr (S3 t u z) w o w2 o2:=h.fr.trans (f2.mono fun y q=>q.elim (fun q=>.inl q.up) (fun q=>.inr (.inr q)));have his:x.is tb1 (al1.takeP k v):=fun y p' hy=>by
   replace hy:mGet (mIns v _ al1.sm) y=some p':=hy;by_cases e:y=v
   ·subst e;exact h.is_ y p hg
   ·rw [mGet_ins_other e] at hy;exact h.is_ y p' hy
  refine⟨rfl,?_,fun hf=>?_,fun hf=>?_⟩
  ·have hfu:=pgFull (x.bp v) a w2 (p:=p.alP.on (x.pf v*512:Nat)) q1
   exact hfu
  ·have hz:¬p.alP.had.cnt=0:=of_decide_eq_false hf
   have e:al1.takeP k v=⟨al1.sl,al1.ln,mIns v p.alP al1.sm⟩:=by unfold AlS.takeP AlS.outL;rw [heq,if_neg hz]
   refine⟨x,o2,_,cm1,tb1,al1.takeP k v,?_,his,hres,?_,hS⟩
   ·rw [e];exact hw2
   ·rw [h.mal,heq]
  ·have hz:p.alP.had.cnt=0:=of_decide_eq_true hf
   have e:al1.takeP k v=⟨al1.sl,up1 al1.ln k ((al1.ln k).erase v),mIns v p.alP al1.sm⟩:=by unfold AlS.takeP AlS.outL;rw [heq,if_pos hz]
   obtain⟨ls2,hls2,hli2⟩:=hw2.hp.ln k hk;have hrm:=hli2.rm hvm;have hlen2:ls2.m.length<900000:=by
    rw [hli2.len];have h256:=h.hp.al.ln k hk;have:(al1.ln k).length≤2304:=nodup_len 2304 _ h256.1 (fun y hy=>by
     obtain⟨p',e1,_⟩:=(h256.2 y).1 hy;have:=(h.hp.al.pg y p' e1).1;omega)
    show (al1.ln k).length<900000;omega
   have hr:=lnRemove (x.bl k) v w2 hls2 hlen2;rw [hrm.1,h.bl] at hr;refine hr.mono ?_;rintro e' w3 ⟨rfl,q3,f3⟩;rw [←h.bl] at q3;refine⟨rfl,x,_,_,cm1,tb1,al1.takeP k v,?_,his,hres,?_,hS.trans (f3.mono fun y q=>.inl (by rw [q];exact Und.app t [3,k]))⟩
   ·rw [e];exact hw2.inLn ap hk f3 q3 hrm.2
   ·rw [h.mal,heq]
end
section
open Go.RowKit
structure MalPre(B:List UInt8)(cm:CmS)(win:List Int)(tb:TbS)(al:AlS)(k:Nat):Prop where
 hp:HpOk B cm win tb al
 k24:k<24
 room:(k<8→al.ln k=[])→∃s:Nat,HoldPre B cm win tb al k s
section
variable{w:World}{o:Nat→Tag}{t u z:Tag}{b a c:Nat}{x:HpX}{B:List UInt8}{m:Nat}{cm:CmS}{win:List Int}{tb:TbS}{al:AlS}{k:Nat}
theorem mal_start(h:HpW w o t u z b a c x B m cm win tb al)(hx:x.is tb al)(hp:HpOk B cm win tb al)(hk:k<8){v:Int}{l:List Int}(hl:al.ln k=v :: l) :
  MalS w o t u z b a c B m cm win tb al k (x.bl k) w x o cm tb al v :=
 ⟨h,hx,hp,Keep.refl _ _ _,fun _ _ q=>q,fun _ _ _=>Iff.rfl,rfl,fun hu y p' _ hy=>hu y p' hy,⟨l,hl⟩,by unfold AlS.mal;rw [if_pos hk,hl],rfl,Fr.refl _ _ _⟩
theorem mal_open(h:HpW w o t u z b a c x B m cm win tb al)(hx:x.is tb al)(ap:Ap3 t u z)(hm:m≤900000)(hk:k<8){s:Nat}(hpre:HoldPre B cm win tb al k s)(hl:al.ln k=[]){w1:World}(hh:HoldPost w o t u b a c x cm win tb al k s (.returned (.tuple #[.int .i64 s,.bool true])) w1) :
  w1.drew.cell? ⟨b,36,none⟩=some (.map (some x.gm))∧w1.drew.cell? ⟨b,0,none⟩=some (.pointer (some ⟨a,0,none⟩))∧w1.drew.cell? ⟨b,3,none⟩=some (.pointer (some ⟨x.bt,0,none⟩)) ∧
  ∃q:Int,(0≤q∧q<4096)∧Calls Tryz.prog 183 #[.pointer (some ⟨x.bt,0,none⟩),.int .i64 (vOf k s)] w1.drew (fun e w'=>e=.returned (.int .i64 q)∧w'=w1.drew) ∧
   Calls Tryz.prog 202 #[.pointer (some ⟨a,0,none⟩),.int .i64 (q*512),.int .i64 k] w1.drew (fun e w2=>∃bn,e=.returned (.tuple #[.pointer (some ⟨bn,0,none⟩),.int .i64 0])∧∃w3,
    (Instr.mapUpdate 199 (.map (some x.gm)) (.int .i64 (vOf k s)) (.pointer (some ⟨bn,0,none⟩))).run Tryz.prog w2=.ok () w3 ∧
    (w2.cell? ⟨b,36,none⟩=some (.map (some x.gm))∧w2.cell? ⟨b,0,none⟩=some (.pointer (some ⟨a,0,none⟩))∧w2.cell? ⟨b,3,none⟩=some (.pointer (some ⟨x.bt,0,none⟩))) ∧
    (w3.cell? ⟨b,36,none⟩=some (.map (some x.gm))∧w3.cell? ⟨b,0,none⟩=some (.pointer (some ⟨a,0,none⟩))∧w3.cell? ⟨b,3,none⟩=some (.pointer (some ⟨x.bt,0,none⟩))) ∧
    Calls Tryz.prog 203 #[.pointer (some ⟨x.bl k,0,none⟩),.int .i64 (vOf k s)] w3 (fun e w4=>e=.returned (.int .i64 0)∧∃x' o' cm' tb' al' v,MalS w o t u z b a c B m cm win tb al k (x.bl k) w4 x' o' cm' tb' al' v)):=by
 obtain⟨_,cm1,tb1,hr⟩:=hh;obtain⟨s1,s2,s3⟩:=hpre.slot;have hs256:s<256:=by rw [(pages_lt8 hk).2] at s3;omega
 have hld:Hld cm win tb cm1 tb1 (fun v=>vOf k s≤v∧v<vOf k s+pagesT k) (pagesT k).toNat:=hr.hld.cong (fun v=>by unfold rng;rw [(pages_lt8 hk).1];omega);obtain⟨p1,p2,p3,p4,q,p5,p6,p7⟩:=hpre.hp.opened hk s1 s2 hld;have hvo:=vOf_small (c:=k) (s:=s) hk;rw [←hvo] at p5;have hP:=hpre.hp.cmo.2.2.2.1;obtain⟨_,hno,_⟩:=hpre.hp.al.openP hk hs256 s2;rw [←hvo] at hno;have hw1:HpW w1 o t u z b a c x B m cm1 win tb1 ⟨up1 al.sl k ((al.sl k).flip s),al.ln,al.sm⟩:=⟨hr.hp,hr.cma,h.ar.fr hr.fr (ap.tz.off.or ap.uz.off)⟩
 have hd:=hw1.drew;have hlow:(al.sl k).lowI.toNat=s:=by have:=hpre.low;omega
 refine⟨hd.hp.cm,hd.hp.c0,hd.hp.c3,q,⟨p6,by omega⟩,?_,?_⟩
 ·have:=tbFind x.bt (vOf k s) w1.drew hd.hp.ta
  rwa [lookV_some p5] at this
 ·have hvr:=(pos_local (c:=k) (s:=s) (by omega) s3).2.2
  have hT:Tab w1.drew o:=(hd.hp.sl 0 (by omega)).1;have hlen:=hpre.hp.len;refine(pgNew a (q*512) k w1.drew (t:=t++[5,(vOf k s).toNat]) hd.ar hT (by omega) (by omega)).mono ?_;rintro e w2 ⟨bn,o2,rfl,q2,f2⟩;have hw2:=hd.still f2;have hrise:=hpre.hp.al.rise;have hsml:al.sm.length<1000000000:=by
   have:=rise_len hrise 256 2304 (by omega) (fun y hy=>(hpre.hp.al.pg y.1 y.2 (mGet_of hrise hy)).1);omega
  obtain⟨w3,e3,m3,f3,q3⟩:=mp_store (P:=Tryz.prog) hw2.hp.mp Tryz.underlying199 Tryz.underlying3 (vOf k s) bn (by rw [List.length_map];exact hsml);have hq512:q*512=(q.toNat*512:Nat):=by omega
  rw [hq512] at q2;have hadd:=HpW.addPg (al:=⟨up1 al.sl k ((al.sl k).flip s),al.ln,al.sm⟩) hw2 ap hrise (by omega) hno q2 f3 m3;refine⟨bn,rfl,w3,e3,⟨hw2.hp.cm,hw2.hp.c0,hw2.hp.c3⟩,⟨hadd.hp.cm,hadd.hp.c0,hadd.hp.c3⟩,?_⟩;obtain⟨ls,hls,hli⟩:=hadd.hp.ln k hk;have hli':LnIs ls []:=by
   have e:(⟨up1 al.sl k ((al.sl k).flip s),al.ln,mIns (vOf k s) (PgS.new 0 k) al.sm⟩:AlS).ln k=[]:=hl;rw [e] at hli;exact hli
  have hpu:=hli'.push (k:=vOf k s) (by omega) (by simp);have hpc:=lnPush (x.bl k) (vOf k s) w3 hls (by rw [hli'.len];simp);rw [hpu.1] at hpc;refine hpc.mono ?_;rintro e w4 ⟨rfl,q4,f4⟩;have hw4:=hadd.inLn ap hk f4 q4 hpu.2;have hS:Fr (S3 t u z) w o w4 (newO o2 w3 (t++[3,k])):=(((hr.fr.mono fun y q=>q.elim .inl (fun q=>.inr (.inl q))).trans (Fr.drew.trans (f2.mono fun y q=>q.elim))).trans (f3.mono fun y q=>.inl (by rw [q];exact Und.app t [4]))).trans (f4.mono fun y q=>.inl (by rw [q];exact Und.app t [3,k]));have eop:al.openP k s=⟨up1 al.sl k ((al.sl k).flip s),up1 al.ln k ([]++[vOf k s]),mIns (vOf k s) (PgS.new 0 k) al.sm⟩:=by unfold AlS.openP;rw [hl,hvo]
  refine⟨rfl,{x with bp:=updI x.bp (vOf k s) bn,pf:=updI x.pf (vOf k s) q.toNat},_,cm1,tb1,al.openP k s,vOf k s,by rw [eop];exact hw4,fun y p' hy=>?_,p1,p2,p3,had_open hpre.hp.al hk hs256 s2,p4,fun hu y p' hne hy=>?_,⟨[],?_⟩,?_,rfl,hS⟩
  ·show updI x.pf (vOf k s) q.toNat y=_
   by_cases e:y=vOf k s
   ·rw [e,updI_same,pgOf_some p5]
   ·rw [updI_other e]
    rw [eop] at hy;replace hy:mGet (mIns (vOf k s) (PgS.new 0 k) al.sm) y=some p':=hy;rw [mGet_ins_other e] at hy;obtain⟨r,hr'⟩:=Option.isSome_iff_exists.1 ((hpre.hp.dom y).2 (sm_mapped hpre.hp.al hy));rw [hx y p' hy,pgOf_some hr',pgOf_some (p3 y r hr')]
  ·rw [eop] at hy
   replace hy:mGet (mIns (vOf k s) (PgS.new 0 k) al.sm) y=some p':=hy;rw [mGet_ins_other hne] at hy;exact hu y p' hy
  ·rw [eop]
   show up1 al.ln k ([]++[vOf k s]) k=_;rw [up1_same];rfl
  ·unfold AlS.mal
   rw [if_pos hk,hl,hlow,←hvo]
end
end
section
open Go.RowKit
def MalEnd(w:World)(o:Nat→Tag)(t u z:Tag)(b a c:Nat)(B:List UInt8)(m:Nat)(cm:CmS)(win:List Int)(tb:TbS)(al:AlS)(k:Nat)(e:Ending)(w':World):Prop :=
 ∃addr,e=.returned (.tuple #[.int .i64 addr,.int .i64 0])∧MalPost w o t u z b a c B m cm win tb al k addr w'
section
variable{o:Nat→Tag}{t u z:Tag}{x:HpX}{B:List UInt8}{m:Nat}{cm:CmS}{win:List Int}{tb:TbS}{al:AlS}
theorem hpMalloc_run(b a c k:Nat)(n:Int)(w:World)(h:HpW w o t u z b a c x B m cm win tb al)(hx:x.is tb al)(ap:Ap3 t u z)(hm:m≤900000)(hpre:MalPre B cm win tb al k)(hn:kindT n=k)(h8:8≤k) :
  Calls Tryz.prog 145 #[.pointer (some ⟨b,0,none⟩),.int .i64 n] w (MalEnd w o t u z b a c B (m+2) cm win tb al k):=by
 obtain⟨s,hs⟩:=hpre.room (fun q=>by omega);have hk:=hpre.k24;have hki:=HD (fun w=>kindOf_any n w);rw [hn] at hki;have hho:=HD (hpHold b a c k s w h.hp h.cma hs ap.tu);obtain⟨s1,s2,s3⟩:=hs.slot;have hpo:=HD (fun w=>placeOf_yes k s 0 w (pos_local hk s3).1);have hfin:=HD (show ∀w1,HoldPost w o t u b a c x cm win tb al k s (.returned (.tuple #[.int .i64 s,.bool true])) w1→MalEnd w o t u z b a c B (m+2) cm win tb al k (.returned (.tuple #[.int .i64 (posT k s 0),.int .i64 0])) w1 from fun w1 r=>by
  obtain⟨_,cm1,tb1,r⟩:=r;have hkf:=kind_facts (c:=(k:Int)) (by omega) (by omega);have hld:Hld cm win tb cm1 tb1 (fun v=>vOf k s≤v∧v<vOf k s+pagesT k) (pagesT k).toNat:=r.hld.cong (fun v=>by unfold rng;omega);refine⟨_,rfl,x,o,B,cm1,tb1,_,⟨r.hp,r.cma,(h.ar.fr r.fr (ap.tz.off.or ap.uz.off)).mono (by omega)⟩,fun y p hy=>?_,mal_run hpre.hp h8 hk s1 s2 hld,?_,r.fr.mono fun y q=>q.elim .inl (fun q=>.inr (.inl q))⟩
  ·obtain⟨q,hq⟩:=Option.isSome_iff_exists.1 ((hpre.hp.dom y).2 (sm_mapped hpre.hp.al (p:=p) hy))
   rw [hx y p hy,pgOf_some hq,pgOf_some (r.hld.old y q hq)]
  ·unfold AlS.mal
   rw [if_neg (by omega),show (al.sl k).lowI.toNat=s by have:=hs.low;omega])
 have d1:decide ((k:Int)<0)=false:=decide_eq_false (by omega);have d2:decide ((8:Int)≤(k:Int))=true:=decide_eq_true (by omega);clear h hx hpre hs s1 s2 s3 hn;go_enter Tryz.func145,Tryz.ntmps145
 go_wp2_with fail;go_step3
 go_wp2_with fail;refine SM (hki.out _) ?_;go_wp2_with fail;refine hho.out.mono ?_;rintro e w1 hq;obtain rfl:=hq.1;have hend:=HD (hfin.out w1 hq);clear hq hfin hho;go_wp2_with fail;refine SM (hpo.out _) ?_;go_wp2_with fail;rw [Exit.noGoto_ret];go_ret2
 exact hend.out
theorem hpMalloc_small(b a c k:Nat)(n:Int)(w:World)(h:HpW w o t u z b a c x B m cm win tb al)(hx:x.is tb al)(ap:Ap3 t u z)(hm:m≤900000)(hpre:MalPre B cm win tb al k)(hn:kindT n=k)(h8:k<8){v:Int}{l:List Int}(hl:al.ln k=v :: l) :
  Calls Tryz.prog 145 #[.pointer (some ⟨b,0,none⟩),.int .i64 n] w (MalEnd w o t u z b a c B (m+2) cm win tb al k):=by
 have hki:=HD (fun w=>kindOf_any n w);rw [hn] at hki;have hcl:w.cell? ⟨b,28+k,none⟩=some (.pointer (some ⟨x.bl k,0,none⟩)):=h.hp.cl h8;obtain⟨kk,full,⟨v1,v2,v3⟩,ht,h1,h2,h3,h4⟩:=(mal_start h hx hpre.hp h8 hl).step hpre.hp ap hm h8;replace h1:=HD h1;replace h4:=HD h4;have hlo:=HD (fun w=>hpLocal k 0 w (by omega) (by rw [(pages_lt8 h8).2];omega));have hpo:=HD (fun w=>placeOf_yes k (v%256) kk w ht);have u1:=IntWalk.i64_in (v%256) (by omega);have d1:decide ((k:Int)<0)=false:=decide_eq_false (by omega);have d2:decide ((8:Int)≤(k:Int))=false:=decide_eq_false (by omega);have d3:decide ((0:Int)≤v)=true:=decide_eq_true (by omega);have hidx:0≤(k:Int)∧(k:Int)<8:=by omega
 have hkk:((k:Int)).toNat=k:=by omega
 clear h hx hpre hn hl ht;cases full
 ·go_enter Tryz.func145,Tryz.ntmps145
  go_wp2_with fail;go_step3
  go_wp2_with fail;refine SM (hki.out _) ?_;go_wp2_with fail;go_step3
  rename_i K hK;refine hK _ _ ?_;clear hK;go_wp2_with fail;refine SM h1.out ?_;go_wp2_with fail;refine h4.out.mono ?_;rintro e w2 ⟨rfl,hfu,hno,hyes⟩;replace hfu:=HD hfu;have hend:=HD (hno (by simp));clear h4 h1 hno hyes;go_wp2_with fail;refine hfu.out.mono ?_;rintro e w3 ⟨rfl,rfl⟩;clear hfu;go_wp2_with fail;refine SM (hlo.out _) ?_;go_wp2_with fail;refine SM (hpo.out _) ?_;go_wp2_with fail;rw [Exit.noGoto_ret];go_ret2
  exact⟨_,rfl,hend.out⟩
 ·go_enter Tryz.func145,Tryz.ntmps145
  go_wp2_with fail;go_step3
  go_wp2_with fail;refine SM (hki.out _) ?_;go_wp2_with fail;go_step3
  rename_i K hK;refine hK _ _ ?_;clear hK;go_wp2_with fail;refine SM h1.out ?_;go_wp2_with fail;refine h4.out.mono ?_;rintro e w2 ⟨rfl,hfu,hno,hyes⟩;replace hfu:=HD hfu;have hrm:=HD (hyes (by simp));clear h4 h1 hno hyes;go_wp2_with fail;refine hfu.out.mono ?_;rintro e w3 ⟨rfl,rfl⟩;clear hfu;go_wp2_with fail;refine hrm.out.mono ?_;rintro e w4 ⟨rfl,hend⟩;replace hend:=HD hend;clear hrm;go_wp2_with fail;refine SM (hlo.out _) ?_;go_wp2_with fail;refine SM (hpo.out _) ?_;go_wp2_with fail;rw [Exit.noGoto_ret];go_ret2
  exact⟨_,rfl,hend.out⟩
end
end
section
open Go.RowKit
section
variable{o:Nat→Tag}{t u z:Tag}{x:HpX}{B:List UInt8}{m:Nat}{cm:CmS}{win:List Int}{tb:TbS}{al:AlS}
theorem hpMalloc_open(b a c k:Nat)(n:Int)(w:World)(h:HpW w o t u z b a c x B m cm win tb al)(hx:x.is tb al)(ap:Ap3 t u z)(hm:m≤900000)(hpre:MalPre B cm win tb al k)(hn:kindT n=k)(h8:k<8)(hl:al.ln k=[]) :
  Calls Tryz.prog 145 #[.pointer (some ⟨b,0,none⟩),.int .i64 n] w (MalEnd w o t u z b a c B (m+2) cm win tb al k):=by
 obtain⟨s,hs⟩:=hpre.room (fun _=>hl);have hki:=HD (fun w=>kindOf_any n w);rw [hn] at hki;have hcl:w.cell? ⟨b,28+k,none⟩=some (.pointer (some ⟨x.bl k,0,none⟩)):=h.hp.cl h8;have hfr:=HD (show Calls Tryz.prog 197 #[.pointer (some ⟨x.bl k,0,none⟩)] w (fun e w'=>e=.returned (.int .i64 (-1))∧w'=w) from by
  obtain⟨ls,h1,h2⟩:=h.hp.ln k h8;have:=lnFront (x.bl k) w ⟨_,h1⟩
  rwa [h2.first,hl] at this)
 have hho:=HD (hpHold b a c k s w h.hp h.cma hs ap.tu);have hop:=HD (fun w1=>mal_open (w1:=w1) h hx ap hm h8 hs hl);have hst:=HD (fun w1 x1 o1 cm1 tb1 al1 v (q:MalS w o t u z b a c B m cm win tb al k (x.bl k) w1 x1 o1 cm1 tb1 al1 v)=>q.step hpre.hp ap hm h8);have hlo:=HD (fun w=>hpLocal k 0 w (by omega) (by rw [(pages_lt8 h8).2];omega));have hlos:=HD (fun w=>hpLocal k s w (by omega) hs.slot.2.2);have d1:decide ((k:Int)<0)=false:=decide_eq_false (by omega);have d2:decide ((8:Int)≤(k:Int))=false:=decide_eq_false (by omega);have hidx:0≤(k:Int)∧(k:Int)<8:=by omega
 have hkk:((k:Int)).toNat=k:=by omega
 clear h hx hpre hn hl hs;go_enter Tryz.func145,Tryz.ntmps145
 go_wp2_with fail;obtain⟨J,hJ0⟩:∃J:Act→World→Prop,J=(fun a' w'=>Hid (∃x1 o1 cm1 tb1 al1 v,MalS w o t u z b a c B m cm win tb al k (x.bl k) w' x1 o1 cm1 tb1 al1 v)∧∃fv:Nat→Value,a'={tmps:=#[.pointer (some ⟨b,0,none⟩),.int .i64 n,fv 2,fv 3,fv 4,fv 5,.int .i64 k,fv 7,fv 8,.pointer (some ⟨x.bl k,0,none⟩),fv 10,fv 11,fv 12,fv 13,fv 14,fv 15,fv 16,fv 17,fv 18,fv 19,fv 20,fv 21,fv 22,fv 23,fv 24,fv 25,fv 26,fv 27,fv 28,fv 29,fv 30,fv 31,fv 32,fv 33,fv 34,fv 35,fv 36,fv 37,fv 38,fv 39,fv 40,fv 41,fv 42,fv 43,fv 44,fv 45,fv 46,fv 47,fv 48,fv 49,fv 50,fv 51,fv 52,fv 53,fv 54,fv 55,fv 56,fv 57,fv 58,fv 59,fv 60,fv 61,fv 62,fv 63,fv 64,fv 65,fv 66,fv 67,fv 68,fv 69,fv 70,fv 71,fv 72,fv 73,fv 74,fv 75,fv 76,fv 77,fv 78,fv 79,fv 80,fv 81,fv 82,fv 83,fv 84,fv 85,fv 86,fv 87,fv 88,fv 89,fv 90,fv 91,fv 92,fv 93,fv 94,fv 95,fv 96,fv 97,fv 98,fv 99,fv 100,fv 101,fv 102,fv 103,fv 104,fv 105,fv 106,fv 107,fv 108,fv 109,fv 110,fv 111,fv 112],defers:=[]}):=⟨_,rfl⟩
 have hJ:=HD hJ0;clear hJ0;refine wp_scope_round 0 J (fun _ _=>0) rfl ?_ ?_
 ·intro a' w1 hq
  rw [hJ.out] at hq;obtain⟨hg,fv,rfl⟩:=hq;obtain⟨x1,o1,cm1,tb1,al1,v,hg⟩:=hg.out;obtain⟨kk,full,⟨v1,v2,v3⟩,ht,h1,h2,h3,h4⟩:=hst.out w1 x1 o1 cm1 tb1 al1 v hg;replace h1:=HD h1;replace h4:=HD h4;have hpo:=HD (fun w=>placeOf_yes k (v%256) kk w ht);have u1:=IntWalk.i64_in (v%256) (by omega);have d3:decide ((0:Int)≤v)=true:=decide_eq_true (by omega);clear hg ht hst hop hho hfr hki hcl hlos;cases full
  ·go_wp2_with fail
   refine SM h1.out ?_;go_wp2_with fail;refine h4.out.mono ?_;rintro e w2 ⟨rfl,hfu,hno,hyes⟩;replace hfu:=HD hfu;have hend:=HD (hno (by simp));clear h4 h1 hno hyes;go_wp2_with fail;refine hfu.out.mono ?_;rintro e w3 ⟨rfl,rfl⟩;clear hfu;go_wp2_with fail;refine SM (hlo.out _) ?_;go_wp2_with fail;refine SM (hpo.out _) ?_;go_wp2_with fail;simp only [Exit.jump];go_ret2
   exact⟨_,rfl,hend.out⟩
  ·go_wp2_with fail
   refine SM h1.out ?_;go_wp2_with fail;refine h4.out.mono ?_;rintro e w2 ⟨rfl,hfu,hno,hyes⟩;replace hfu:=HD hfu;have hrm:=HD (hyes (by simp));clear h4 h1 hno hyes;go_wp2_with fail;refine hfu.out.mono ?_;rintro e w3 ⟨rfl,rfl⟩;clear hfu;go_wp2_with fail;refine hrm.out.mono ?_;rintro e w4 ⟨rfl,hend⟩;replace hend:=HD hend;clear hrm;go_wp2_with fail;refine SM (hlo.out _) ?_;go_wp2_with fail;refine SM (hpo.out _) ?_;go_wp2_with fail;simp only [Exit.jump];go_ret2
   exact⟨_,rfl,hend.out⟩
 ·intro H
  clear hst;go_wp2_with fail;refine SM (hki.out _) ?_;go_wp2_with fail;go_step3
  rename_i K hK;refine hK _ _ ?_;clear H hK;go_wp2_with fail;refine SM hfr.out ?_;go_wp2_with fail;refine hho.out.mono ?_;rintro e w2 hq;obtain rfl:=hq.1;obtain⟨z1,z2,z3,q,hq0,hfi,hnw⟩:=hop.out w2 hq;have hc3:w2.drew.cell? ⟨b,36,none⟩=some (.map (some x.gm))∧w2.drew.cell? ⟨b,0,none⟩=some (.pointer (some ⟨a,0,none⟩))∧w2.drew.cell? ⟨b,3,none⟩=some (.pointer (some ⟨x.bt,0,none⟩)):=⟨z1,z2,z3⟩
  have u2:=IntWalk.i64_in (q*512) (by omega);replace hfi:=HD hfi;replace hnw:=HD hnw;clear hq hop hho hfr hki z1 z2 z3;go_wp2_with fail;refine SM (hlos.out _) ?_;go_wp2_with fail;refine wp_region_noPanic ?_;refine wp_region_held_drew (S:=(fun W=>W.cell? ⟨b,36,none⟩=some (.map (some x.gm))∧W.cell? ⟨b,0,none⟩=some (.pointer (some ⟨a,0,none⟩))∧W.cell? ⟨b,3,none⟩=some (.pointer (some ⟨x.bt,0,none⟩)))) (by kernel_rfl) ?_ (fun hHeld=>?_)
  ·(first|exact hc3|exact hcs|exact hcs2)
  refine tkH 0 (h:=?_);refine tkH 1 (h:=?_);refine tkH 2 (h:=?_);refine tkH 3 (h:=?_);refine tkH 4 (h:=?_);refine tkH 5 (h:=?_);refine tkH 6 (h:=?_);refine tkH 7 (h:=?_);refine tkH 8 (h:=?_);refine tkH 9 (h:=?_);refine tkH 10 (h:=?_);refine tkH 11 (h:=?_);refine tkH 12 (h:=?_);refine tkH 13 (h:=?_);refine tkH 16 (h:=?_);refine onH 14 (h:=fun K hK=>?_);go_simp;refine hfi.out.mono ?_;rintro e w3 ⟨rfl,rfl⟩;have hcs:=hc3;go_wp2_with fail;refine hK.out _ _ ?_ (fun hHeld=>?_)
  ·(first|exact hc3|exact hcs|exact hcs2)
  clear hK;refine nmH (h:=?_);refine tkH 15 (h:=?_);refine onH 17 (h:=fun K hK=>?_);go_simp;refine hnw.out.mono ?_;rintro e w4 ⟨bn,rfl,w5,hst,hcs,hcs2,hnx⟩;replace hnx:=HD hnx;go_wp2_with fail;refine hK.out _ _ ?_ (fun hHeld=>?_)
  ·(first|exact hc3|exact hcs|exact hcs2)
  clear hK;refine nmH (h:=?_);refine tkH 18 (h:=?_);refine tkH 19 (h:=?_);refine tkH 20 (h:=?_);refine onH 21 (h:=fun K hK=>?_);go_simp;refine hK.out _ _ ?_ (fun hHeld=>?_)
  ·(first|exact hc3|exact hcs|exact hcs2)
  clear hK;refine nmH (h:=?_);refine wpAnyH_done (by kernel_rfl) ?_ _;refine NoPanic.normal ?_;go_wp2_with fail;refine hnx.out.mono ?_;rintro e w6 ⟨rfl,hMS⟩;replace hMS:=HD hMS;clear hnx;go_wp2_with fail;go_step3
  rw [hJ.out];exact⟨rfl,hMS,fun k=>List.getD [undef,undef,_,_,_,_,undef,_,_,undef,_,_,_,_,_,_,_,_,_,_,_,_,_,_,_,_,_,_,_,_,_,_,_,_,_,_,_,_,_,_,_,_,_,_,_,_,_,_,_,_,_,_,_,_,_,_,_,_,_,_,_,_,_,_,_,_,_,_,_,_,_,_,_,_,_,_,_,_,_,_,_,_,_,_,_,_,_,_,_,_,_,_,_,_,_,_,_,_,_,_,_,_,_,_,_,_,_,_,_,_,_,_,_] k undef,rfl⟩
end
end
section
open Go.RowKit
def AlS.fre(a:AlS)(c s k:Nat):AlS:=if c<8 then a.giveP c (vOf c s) k else ⟨up1 a.sl c ((a.sl c).flip s),a.ln,a.sm⟩
structure FreRes(B:List UInt8)(cm:CmS)(win:List Int)(tb:TbS)(al:AlS)(c s k:Nat)(B':List UInt8)(cm':CmS)(tb':TbS)(al':AlS):Prop where
 hp:HpOk B' cm' win tb' al'
 keep:Keep win B cm B' cm'
 old:∀c1 s1 k1,Had al c1 s1 k1→¬(c1=c∧s1=s∧k1=k)→Had al' c1 s1 k1∧∀i,0≤i→i<unitT c1→lb tb' B' (posT c1 s1 k1+i)=lb tb B (posT c1 s1 k1+i)
 cost:al'.cost+(unitT c).toNat=al.cost
 used:al.Used→al'.Used
section
variable{B:List UInt8}{cm:CmS}{win:List Int}{tb:TbS}{al:AlS}
theorem had_n{c s k:Nat}(h:AlOk al)(hh:Had al c s k):s<(al.sl c).n:=by
 obtain⟨h1,h2,_⟩:=hh.there;have:=h.n c h1;omega
theorem rel_lb(h:HpOk B cm win tb al){c s:Nat}{B':List UInt8}{cm':CmS}{tb':TbS}(R:Rel B cm win tb B' cm' tb' (fun v=>vOf c s≤v∧v<vOf c s+pagesT c) (pagesT c).toNat){c1 s1 k1:Nat}(hh:Had al c1 s1 k1)(hc:c<24)(hs:(s:Int)<slotsT c)(hne:¬(c1=c∧s1=s)){i:Int}(i0:0≤i)(i1:i<unitT c1) :
  lb tb' B' (posT c1 s1 k1+i)=lb tb B (posT c1 s1 k1+i):=by
 have hbp:=blk_page hh.1 i0 i1;obtain⟨r,hr⟩:=had_mapped h hh hbp;obtain⟨x1,x2,x3⟩:=hh.there;have hD:¬(vOf c s≤(posT c1 s1 k1+i)/512∧(posT c1 s1 k1+i)/512<vOf c s+pagesT c):=fun q=>by
  have e1:=(in_slot hc hs _).1 q;have e2:=(in_slot x1 x2 _).1 hbp;exact hne ⟨by omega,by omega⟩
 have hr':=(R.stay _ hD).trans hr;unfold lb;rw [pgOf_some hr,pgOf_some hr'];exact R.bys _ r hD hr _ (by omega)
theorem fre_run(h:HpOk B cm win tb al){c s:Nat}(h8:8≤c)(hh:Had al c s 0){B':List UInt8}{cm':CmS}{tb':TbS}(R:Rel B cm win tb B' cm' tb' (fun v=>vOf c s≤v∧v<vOf c s+pagesT c) (pagesT c).toNat) :
  FreRes B cm win tb al c s 0 B' cm' tb' (al.fre c s 0):=by
 obtain⟨h1,h2,h3⟩:=hh.there;have hn:=had_n h.al hh;have e:al.fre c s 0=⟨up1 al.sl c ((al.sl c).flip s),al.ln,al.sm⟩:=if_neg (by omega);rw [e];refine⟨h.released h1 hn hh.2.1 R rfl (h.al.run h8 h1 s) (fun v p hp=>hp),R.keep,fun c1 s1 k1 hh1 hne=>?_,?_,fun hu=>hu⟩
 ·have hne':¬(c1=c∧s1=s):=by
   rintro ⟨rfl,rfl⟩;have:=there_iff.1 hh1.1;have hr:roomT c1=1:=room_one (by rw [per_out (by omega)];omega);exact hne ⟨rfl,rfl,by omega⟩
  refine⟨⟨hh1.1,?_,hh1.2.2⟩,fun i i0 i1=>rel_lb h R hh1 h1 h2 hne' i0 i1⟩;show (up1 al.sl c _ c1).f s1=false;by_cases e:c1=c
  ·subst e
   rw [up1_same,flip_f,if_neg (fun q=>hne' ⟨rfl,q⟩)];exact hh1.2.1
  ·rw [up1_other e];exact hh1.2.1
 ·show smcost al.sm+runsum (up1 al.sl c _)+_=smcost al.sm+runsum al.sl
  have:=runsum_give h8 h1 hn hh.2.1;omega
theorem del_ins{α:Type}{M:List (Int×α)}(k:Int)(p:α)(hr:Rise M):mDel k (mIns k p M)=mDel k M:=by
 induction M with
 |nil=>simp [mIns,mDel]
 |cons q M ih =>
  obtain⟨a,u⟩:=q;have hr':=List.pairwise_cons.1 hr;rw [mIns];by_cases h1:k<a
  ·rw [if_pos h1,mDel,if_pos rfl,mDel,if_neg (by omega)]
   have hno:mGet M k=none:=by
    cases e:mGet M k with
    |none=>rfl
    |some y=>have:=hr'.1 _ (mGet_mem e);simp only at this;omega
   rw [mDel_none hno]
  ·rw [if_neg h1]
   by_cases h2:a=k
   ·rw [if_pos h2,mDel,if_pos rfl,mDel,if_pos h2]
   ·rw [if_neg h2,mDel,if_neg h2,mDel,if_neg h2,ih hr'.2]
theorem fre_back(h:HpOk B cm win tb al){c s k:Nat}(hc:c<8)(hh:Had al c s k){p:PgS}{q:Int}(hg:mGet al.sm (vOf c s)=some p)(hq:mGet tb.pg (vOf c s)=some q) :
  ∃B',B'=(p.on (q.toNat*512:Nat)).frB k B∧HpOk B' cm win tb (al.backP c (vOf c s) k)∧Keep win B cm B' cm ∧
   (∀c1 s1 k1,Had al c1 s1 k1→¬(c1=c∧s1=s∧k1=k)→Had (al.backP c (vOf c s) k) c1 s1 k1∧∀i,0≤i→i<unitT c1→lb tb B' (posT c1 s1 k1+i)=lb tb B (posT c1 s1 k1+i)) ∧
   (al.backP c (vOf c s) k).cost+(unitT c).toNat=al.cost∧(al.Used→∀u p',u≠vOf c s→mGet (al.backP c (vOf c s) k).sm u=some p'→p'.had.cnt<p'.had.n):=by
 obtain⟨h1,h2,h3⟩:=hh.there;obtain⟨p1,e1,e2,e3⟩:=hh.2.2 hc;rw [hg] at e1;obtain rfl:=Option.some.inj e1;obtain⟨g1,g2,g3,g4,g5⟩:=h.al.pg _ p hg;have hkd:kdV (vOf c s)=c:=by unfold kdV vOf;rw [(pages_lt8 hc).1,(pages_lt8 hc).2] at *;omega
 obtain⟨t1,t2,t3,t4⟩:=h.backP hc hg hkd hq e3 e2;have hu:p.unit=unitT c:=by unfold PgS.unit;rw [g3,hkd]
 refine⟨_,rfl,t1,t2,fun c1 s1 k1 hh1 hne=>?_,by rw [←hu];exact t4,fun hus u p' hu' hp'=>?_⟩
 ·constructor
  ·refine⟨hh1.1,hh1.2.1,fun h8=>?_⟩
   obtain⟨p2,f1,f2,f3⟩:=hh1.2.2 h8;by_cases e:vOf c1 s1=vOf c s
   ·rw [e,hg] at f1
    obtain rfl:=Option.some.inj f1;have z1:=vOf_small (c:=c1) (s:=s1) h8;have z2:=vOf_small (c:=c) (s:=s) hc;have hcs:c1=c∧s1=s:=by
     have y1:=hh1.there.2.1;have y2:=h2;rw [(pages_lt8 h8).2] at y1;rw [(pages_lt8 hc).2] at y2;omega
    refine⟨p.fr k,?_,?_,f3⟩
    ·show mGet (mIns _ _ al.sm) _=_
     rw [e,mGet_ins_same h.al.rise,pgAt_some hg]
    ·show (p.had.flip k).f k1=false
     rw [flip_f,if_neg (fun q=>hne ⟨hcs.1,hcs.2,q⟩)];exact f2
   ·exact⟨p2,by show mGet (mIns _ _ al.sm) _=_;rw [mGet_ins_other e];exact f1,f2,f3⟩
  ·intro i i0 i1
   have hbp:=blk_page hh1.1 i0 i1;obtain⟨r,hr⟩:=had_mapped h hh1 hbp;have hbs:=fun h8=>blk_small (c:=c1) h8 hh1.1 i0 i1
   unfold lb;rw [pgOf_some hr];generalize (posT c1 s1 k1+i)/512=vx at *;have hoff:0≤(posT c1 s1 k1+i)%512∧(posT c1 s1 k1+i)%512<512:=by omega
   generalize (posT c1 s1 k1+i)%512=off at *;by_cases e:vx=vOf c s
   ·have hrq:r=q:=by rw [e,hq] at hr;exact(Option.some.inj hr).symm
    subst hrq;obtain⟨x1,x2,x3⟩:=hh1.there;have hi:=(in_slot x1 x2 vx).1 hbp;have hc1:c1=c:=by rw [e] at hi;omega
    subst hc1;obtain⟨y1,y2,y3⟩:=hbs hc;have hs1:s1=s:=by
     have z1:=vOf_small (c:=c1) (s:=s1) hc;have z2:=vOf_small (c:=c1) (s:=s) hc;omega
    subst hs1;rw [y2];refine t3.same _ (fun w=>?_);rw [hu] at w;have:=mul_sep (u:=(unitT c1).toNat) (i:=i.toNat) (j:=k1*(unitT c1).toNat+i.toNat-k*(unitT c1).toNat) (fun q=>hne ⟨rfl,rfl,q⟩) (by omega) (by omega);omega
   ·have hs:=pg_sep h hr hq e
    exact t3.page hs (by omega)
 ·replace hp':mGet (mIns _ _ al.sm) u=some p':=hp'
  rw [mGet_ins_other hu'] at hp';exact hus u p' hp'
theorem fre_stay(h:HpOk B cm win tb al){c s k:Nat}(hc:c<8)(hh:Had al c s k){p:PgS}{q:Int}(hg:mGet al.sm (vOf c s)=some p)(hq:mGet tb.pg (vOf c s)=some q)(hne:¬(p.fr k).had.tkn=0) :
  al.fre c s k=al.backP c (vOf c s) k∧FreRes B cm win tb al c s k ((p.on (q.toNat*512:Nat)).frB k B) cm tb (al.fre c s k):=by
 have e:al.fre c s k=al.backP c (vOf c s) k:=by
  unfold AlS.fre AlS.giveP;rw [if_pos hc,pgAt_some hg,if_neg hne];unfold AlS.backP;rw [pgAt_some hg]
 obtain⟨_,rfl,t1,t2,t3,t4,t5⟩:=fre_back h hc hh hg hq;refine⟨e,by rw [e];exact t1,t2,by rw [e];exact t3,by rw [e];exact t4,fun hu u p' hp'=>?_⟩;rw [e] at hp';by_cases eu:u=vOf c s
 ·replace hp':mGet (mIns _ _ al.sm) u=some p':=hp'
  rw [eu,mGet_ins_same h.al.rise,pgAt_some hg] at hp';obtain rfl:=Option.some.inj hp';unfold ShS.tkn at hne;have:=cnt_le (p.fr k).had;omega
 ·exact t5 hu u p' eu hp'
theorem fre_shut(h:HpOk B cm win tb al){c s k:Nat}(hc:c<8)(hh:Had al c s k){p:PgS}{q:Int}(hg:mGet al.sm (vOf c s)=some p)(hq:mGet tb.pg (vOf c s)=some q)(hz:(p.fr k).had.tkn=0){B':List UInt8}{cm':CmS}{tb':TbS}
  (R:Rel ((p.on (q.toNat*512:Nat)).frB k B) cm win tb B' cm' tb' (fun v=>vOf c s≤v∧v<vOf c s+pagesT c) (pagesT c).toNat) :
  al.fre c s k=⟨up1 al.sl c ((al.sl c).flip s),up1 al.ln c ((al.backL c (vOf c s)).erase (vOf c s)),mDel (vOf c s) al.sm⟩∧FreRes B cm win tb al c s k B' cm' tb' (al.fre c s k):=by
 obtain⟨h1,h2,h3⟩:=hh.there;obtain⟨p1,e1,e2,e3⟩:=hh.2.2 hc;rw [hg] at e1;obtain rfl:=Option.some.inj e1;have hkd:kdV (vOf c s)=c:=by unfold kdV vOf;rw [(pages_lt8 hc).1,(pages_lt8 hc).2] at *;omega
 have hvm:(vOf c s%256).toNat=s:=by rw [vOf_small hc];rw [(pages_lt8 hc).2] at h2;omega
 have e:al.fre c s k=⟨up1 al.sl c ((al.sl c).flip s),up1 al.ln c ((al.backL c (vOf c s)).erase (vOf c s)),mDel (vOf c s) al.sm⟩:=by
  unfold AlS.fre AlS.giveP;rw [if_pos hc,pgAt_some hg,if_pos hz,hvm]
 have hok:=h.al.giveP hc hg hkd e3 e2;have ef:al.giveP c (vOf c s) k=al.fre c s k:=by unfold AlS.fre;rw [if_pos hc]
 rw [ef] at hok;obtain⟨g1,g2,g3,g4,g5⟩:=h.al.pg _ p hg;have hu:p.unit=unitT c:=by unfold PgS.unit;rw [g3,hkd]
 obtain⟨_,rfl,t1,t2,t3,t4,t5⟩:=fre_back h hc hh hg hq;have hn:=had_n h.al hh;refine⟨e,t1.released h1 hn hh.2.1 R (by rw [e];rfl) hok.1 (fun v p' hp'=>?_),t2.trans R.keep,fun c1 s1 k1 hh1 hne=>?_,by rw [←hu];exact hok.2,fun hus u p' hp'=>?_⟩
 ·rw [e] at hp'
  replace hp':mGet (mDel _ al.sm) v=some p':=hp';show mGet (mIns _ _ al.sm) v=some p';by_cases ev:v=vOf c s
  ·rw [ev,mGet_del_same h.al.rise] at hp';cases hp'
  ·rw [mGet_del_other ev] at hp'
   rw [mGet_ins_other ev];exact hp'
 ·obtain⟨a1,a2⟩:=t3 c1 s1 k1 hh1 hne
  have hcs:¬(c1=c∧s1=s):=by
   rintro ⟨rfl,rfl⟩;obtain⟨p2,f1,f2,f3⟩:=a1.2.2 hc;replace f1:mGet (mIns _ _ al.sm) _=some p2:=f1;rw [mGet_ins_same h.al.rise,pgAt_some hg] at f1;obtain rfl:=Option.some.inj f1;have hcn:(p.fr k).had.cnt=(p.fr k).had.n:=by
    have:=cnt_le (p.fr k).had;unfold ShS.tkn at hz;omega
   unfold ShS.cnt at hcn;have hall:=List.countP_eq_length.1 (hcn.trans (by simp));have:=hall k1 (List.mem_range.2 f3);rw [f2] at this;cases this
  refine⟨⟨hh1.1,?_,fun h8=>?_⟩,fun i i0 i1=>?_⟩
  ·rw [e]
   show (up1 al.sl c _ c1).f s1=false;by_cases ec:c1=c
   ·subst ec
    rw [up1_same,flip_f,if_neg (fun q=>hcs ⟨rfl,q⟩)];exact hh1.2.1
   ·rw [up1_other ec];exact hh1.2.1
  ·obtain⟨p2,f1,f2,f3⟩:=hh1.2.2 h8
   refine⟨p2,?_,f2,f3⟩;rw [e];show mGet (mDel _ al.sm) _=_;rw [mGet_del_other]
   ·exact f1
   ·intro ev
    have z1:=vOf_small (c:=c1) (s:=s1) h8;have z2:=vOf_small (c:=c) (s:=s) hc;have y1:=hh1.there.2.1;rw [(pages_lt8 h8).2] at y1;rw [(pages_lt8 hc).2] at h2;exact hcs (by omega)
  ·rw [←a2 i i0 i1]
   exact rel_lb t1 R a1 h1 h2 hcs i0 i1
 ·rw [e] at hp'
  replace hp':mGet (mDel _ al.sm) u=some p':=hp';by_cases ev:u=vOf c s
  ·rw [ev,mGet_del_same h.al.rise] at hp';cases hp'
  ·rw [mGet_del_other ev] at hp';exact hus u p' hp'
end
end
section
open Go.RowKit
def FrePost(w:World)(o:Nat→Tag)(t u z:Tag)(b a c:Nat)(x:HpX)(B:List UInt8)(m:Nat)(cm:CmS)(win:List Int)(tb:TbS)(al:AlS)(k s j:Nat)(w':World):Prop :=
 ∃o' B' cm' tb',HpW w' o' t u z b a c x B' m cm' win tb' (al.fre k s j)∧x.is tb' (al.fre k s j)∧FreRes B cm win tb al k s j B' cm' tb' (al.fre k s j)∧Fr (S3 t u z) w o w' o'
section
variable{o:Nat→Tag}{t u z:Tag}{x:HpX}{B:List UInt8}{m:Nat}{cm:CmS}{win:List Int}{tb:TbS}{al:AlS}
theorem relPre_of{B1:List UInt8}{a1:AlS}{k s:Nat}(h1:HpOk B1 cm win tb a1)(hsl:al.sl=a1.sl)(hk:k<24)(hn:s<(al.sl k).n)(hf:(al.sl k).f s=false):RelPre B1 cm win tb al k s:=by
 have hT:((al.sl k).n:Int)=slotsT k:=by rw [hsl];exact h1.al.n k hk
 refine⟨h1.ton,h1.cmo,h1.z,h1.len,hk,hT,hn,hf,fun v hv=>?_⟩;have hs:(s:Int)<slotsT k:=by omega
 have hp:=slot_in hk hs;have hl:=(pos_local hk hs).2.2;unfold rng at hv;have hi:=(in_slot hk hs v).1 ⟨hv.1,by omega⟩;refine(h1.dom v).2 ⟨⟨hi.1,by omega⟩,?_,?_⟩
 ·rw [hi.2.1,hi.2.2];exact hs
 ·rw [hi.2.1,hi.2.2,Int.toNat_natCast,Int.toNat_natCast,←hsl];exact hf
def FreC(w:World)(o:Nat→Tag)(t u z:Tag)(b a c:Nat)(x:HpX)(B:List UInt8)(m:Nat)(cm:CmS)(win:List Int)(tb:TbS)(al:AlS)(k s j:Nat)(us:Int)(w2:World):Prop :=
 Calls Tryz.prog 205 #[.pointer (some ⟨x.bp (vOf k s),0,none⟩),.int .i64 j] w2 fun e w3=>e=.returned (.int .i64 0) ∧
  Calls Tryz.prog 206 #[.pointer (some ⟨x.bp (vOf k s),0,none⟩)] w3 (fun e w4=>e=.returned (.int .i64 us)∧w4=w3.drew) ∧
  (us≠0→FrePost w o t u z b a c x B m cm win tb al k s j w3.drew) ∧
  (us=0→w3.drew.cell? ⟨b,28+k,none⟩=some (.pointer (some ⟨x.bl k,0,none⟩)) ∧
   Calls Tryz.prog 200 #[.pointer (some ⟨x.bl k,0,none⟩),.int .i64 (vOf k s)] w3.drew (fun e w5=>e=.returned (.int .i64 0)∧w5.cell? ⟨b,36,none⟩=some (.map (some x.gm)) ∧
    ∃w6,(∀ty,(Builtin.delete_ #[199,3] ty #[.map (some x.gm),.int .i64 (vOf k s)]).run Tryz.prog w5=.ok (.tuple #[]) w6) ∧
     Calls Tryz.prog 204 #[.pointer (some ⟨b,0,none⟩),.int .i64 k,.int .i64 s] w6 (fun e w7=>e=.returned (.tuple #[])∧FrePost w o t u z b a c x B m cm win tb al k s j w7)))
theorem freC(b a c k s j:Nat)(w:World)(h0:HpOk B cm win tb al)(hx:x.is tb al)(ap:Ap3 t u z)(hm:m≤800000)(hk:k<8)(hh:Had al k s j){p:PgS}(hg:mGet al.sm (vOf k s)=some p){w2:World}{o2:Nat→Tag}
  (h2:HpW w2 o2 t u z b a c x B m cm win tb ⟨al.sl,up1 al.ln k (al.backL k (vOf k s)),al.sm⟩) (hS:Fr (S3 t u z) w o w2 o2):FreC w o t u z b a c x B (m+20) cm win tb al k s j (p.fr j).had.tkn w2:=by
 obtain⟨t1,t2,t3⟩:=hh.there;obtain⟨p1,e1,e2,e3⟩:=hh.2.2 hk;rw [hg] at e1;obtain rfl:=Option.some.inj e1;obtain⟨q,hq⟩:=Option.isSome_iff_exists.1 ((h0.dom _).2 (sm_mapped h0.al hg));obtain⟨g1,g2,g3,g4,g5⟩:=h0.al.pg _ p hg;obtain⟨r1,r2,r3,r4⟩:=h0.ton.rng _ q hq;have hlen:=h0.len;have hpf:x.pf (vOf k s)=q.toNat:=by rw [hx _ p hg,pgOf_some hq]
 have hpgok:PgOk B (p.on (x.pf (vOf k s)*512:Nat)):=by
  rw [hpf];exact g4.pgOk (by omega) (h0.c _ p q hg hq)
 have hkd:kdV (vOf k s)=k:=by unfold kdV vOf;rw [(pages_lt8 hk).1,(pages_lt8 hk).2] at *;omega
 have heq:=pgAt_some hg;have hback:=h0.al.backP hk hg hkd e3 e2;obtain⟨_,rfl,hb1,_⟩:=fre_back h0 hk hh hg hq;have hfree:=pgFree (x.bp (vOf k s)) a j w2 (h2.hp.pg _ p hg) h2.ar (by omega) hpgok (ap.tz.sub [5,(vOf k s).toNat]) e3 e2;have hmono:∀{w' o' B' cm' tb' al' m1},HpW w' o' t u z b a c x B' m1 cm' win tb' al'→m1≤m+20→HpW w' o' t u z b a c x B' (m+20) cm' win tb' al':=fun h h'=>h.mono h'
 have hokb:AlOk (⟨al.sl,up1 al.ln k (al.backL k (vOf k s)),al.sm⟩:AlS)∨True:=.inr trivial;unfold FreC;refine hfree.mono ?_;rintro e w3 ⟨rfl,o3,q1,q2,f3⟩;have hpg:PgAt w3 o3 (t++[5,(vOf k s).toNat]) (x.bp (vOf k s)) a ((p.fr j).on (x.pf (vOf k s)*512:Nat)):=q1;have hw3:HpW w3 o3 t u z b a c x ((p.on (x.pf (vOf k s)*512:Nat)).frB j B) (m+2) cm win tb ⟨al.sl,up1 al.ln k (al.backL k (vOf k s)),mIns (vOf k s) (p.fr j) al.sm⟩:=by
  have h9:=ap.tu.t9;have of:∀{n:Nat} {r:Tag},n≠5→Off (fun y=>Und (t++[5,(vOf k s).toNat]) y∨Und z y) (t++n :: r):=fun hn=>(off_one (Ne.symm hn) h9).or (ap.tz.off_sub _)
  refine⟨⟨h2.hp.blk.fr f3 (fun e=>e.elim (not_und t 5 [(vOf k s).toNat]) (ap.tz.ne t (Und.self t))),h2.hp.win.fr f3 (of (by decide)).self,h2.hp.ta.fr f3 (of (by decide)),fun k hk=>(h2.hp.sl k hk).fr f3 (of (by decide)),fun k hk=>?_,?_,fun y p' hp=>?_⟩,h2.cma.fr f3 (((ap.tu.sub _).off).or ap.uz.swap.off),q2⟩
  ·obtain⟨s,h1,h2⟩:=h2.hp.ln k hk
   exact⟨s,h1.fr f3 (of (by decide)).self,h2⟩
  ·have e:(mIns (vOf k s) (p.fr j) al.sm).map (fun y=>(y.1,x.bp y.1))=al.sm.map (fun y=>(y.1,x.bp y.1)):=by
    rw [map_ins x.bp,mIns_self (rise_map _ h0.al.rise)];rw [mGet_map (fun v _=>x.bp v),hg];rfl
   show MpAt w3 o3 _ _ _ _ ((mIns (vOf k s) (p.fr j) al.sm).map _);rw [e];exact h2.hp.mp.fr f3 (of (by decide)).self
  ·replace hp:mGet (mIns (vOf k s) (p.fr j) al.sm) y=some p':=hp
   by_cases e:y=vOf k s
   ·subst e
    rw [mGet_ins_same h0.al.rise] at hp;obtain rfl:=Option.some.inj hp;exact hpg
   ·rw [mGet_ins_other e] at hp
    have hyk:=(h0.al.pg y p' hp).1;exact(h2.hp.pg y p' hp).fr f3 ((off_two (by omega) h9).or (ap.tz.off_sub _))
 have hS3:Fr (S3 t u z) w o w3 o3:=hS.trans (f3.mono fun y q=>q.elim (fun q=>.inl q.up) (fun q=>.inr (.inr q)));rw [hpf] at hw3;have hisb:x.is tb (al.backP k (vOf k s) j):=fun y p' hy=>by
  replace hy:mGet (mIns _ _ al.sm) y=some p':=hy;by_cases e:y=vOf k s
  ·subst e;exact hx _ p hg
  ·rw [mGet_ins_other e] at hy;exact hx y p' hy
 have ebk:al.backP k (vOf k s) j=⟨al.sl,up1 al.ln k (al.backL k (vOf k s)),mIns (vOf k s) (p.fr j) al.sm⟩:=by unfold AlS.backP;rw [heq]
 refine⟨rfl,?_,fun hne=>?_,fun hz=>?_⟩
 ·have hu:=pgUsed (x.bp (vOf k s)) a w3 hpg
  have e:((p.fr j).on (x.pf (vOf k s)*512:Nat)).used=((p.fr j).had.tkn:Int):=by
   show ((p.fr j).had.n:Int)-(p.fr j).had.cnt=_;have:=cnt_le (p.fr j).had;unfold ShS.tkn;omega
  rw [e] at hu;exact hu
 ·obtain⟨y1,y2⟩:=fre_stay h0 hk hh hg hq (fun e=>hne (by rw [e];rfl))
  refine⟨o3,_,cm,tb,?_,by rw [y1];exact hisb,y2,hS3.drew'⟩;rw [y1,ebk];exact hmono hw3.drew (by omega)
 ·have hz':(p.fr j).had.tkn=0:=by omega
  have hd:=hw3.drew;refine⟨hd.hp.cl hk,?_⟩;obtain⟨ls,hls,hli⟩:=hd.hp.ln k hk;have hli':LnIs ls (al.backL k (vOf k s)):=by
   have e:(⟨al.sl,up1 al.ln k (al.backL k (vOf k s)),mIns (vOf k s) (p.fr j) al.sm⟩:AlS).ln k=al.backL k (vOf k s):=up1_same;rw [e] at hli;exact hli
  obtain⟨b1,b2,b3⟩:=back_mem h0.al hk hg hkd;have hrm:=hli'.rm b2;have hlen2:ls.m.length<900000:=by
   rw [hli'.len];have:(al.backL k (vOf k s)).length≤2304:=nodup_len 2304 _ b1 (fun y hy=>by
    by_cases e:y=vOf k s
    ·rw [e];omega
    ·have:=(b3 y e).1 hy
     obtain⟨p',f1,_⟩:=((h0.al.ln k hk).2 y).1 this;have:=(h0.al.pg y p' f1).1;omega)
   omega
  have hr:=lnRemove (x.bl k) (vOf k s) w3.drew hls hlen2;rw [hrm.1] at hr;refine hr.mono ?_;rintro e w5 ⟨rfl,q5,f5⟩;have hw5:=hd.inLn ap hk f5 q5 hrm.2;obtain⟨w6,e6,m6,f6,_⟩:=mp_delete (P:=Tryz.prog) (ty:=0) hw5.hp.mp Tryz.underlying199 Tryz.underlying3 (vOf k s);have hw6:=hw5.delPg ap (mIns_rise h0.al.rise _ _) f6 m6;refine⟨rfl,hw5.hp.cm,w6,fun ty=>e6,?_⟩;have eal:(⟨al.sl,up1 (up1 al.ln k (al.backL k (vOf k s))) k ((al.backL k (vOf k s)).erase (vOf k s)),mDel (vOf k s) (mIns (vOf k s) (p.fr j) al.sm)⟩:AlS)=⟨al.sl,up1 al.ln k ((al.backL k (vOf k s)).erase (vOf k s)),mDel (vOf k s) al.sm⟩:=by
   rw [del_ins _ _ h0.al.rise]
   congr 1
   funext d
   unfold up1
   split<;>rfl
  rw [eal] at hw6;have hpre:RelPre ((p.on (q.toNat*512:Nat)).frB j B) cm win tb ⟨al.sl,up1 al.ln k ((al.backL k (vOf k s)).erase (vOf k s)),mDel (vOf k s) al.sm⟩ k s:=relPre_of hb1 rfl t1 (show s<(al.sl k).n from had_n h0.al hh) hh.2.1;refine(hpRelease b a c k s w6 hw6 ap (by omega) hpre).mono ?_;rintro e w7 ⟨rfl,o7,B7,cm7,tb7,h7,R7,f7⟩;obtain⟨y1,y2⟩:=fre_shut h0 hk hh hg hq hz' R7;refine⟨rfl,o7,B7,cm7,tb7,?_,fun y p' hy=>?_,y2,(((hS3.drew'.trans (f5.mono fun y q=>.inl (by rw [q];exact Und.app t [3,k]))).trans (f6.mono fun y q=>.inl (by rw [q];exact Und.app t [4]))).trans f7)⟩
  ·rw [y1]
   exact hmono h7 (by omega)
  ·rw [y1] at hy
   replace hy:mGet (mDel (vOf k s) al.sm) y=some p':=hy;by_cases e:y=vOf k s
   ·rw [e,mGet_del_same h0.al.rise] at hy;cases hy
   ·rw [mGet_del_other e] at hy
    rw [hx y p' hy];unfold pgOf;have hD:¬(vOf k s≤y∧y<vOf k s+pagesT k):=by rw [(pages_lt8 hk).1];omega
    unfold lookV;rw [R7.stay y hD]
end
end
end Go.Proofs.YtfliaggjkianpaaGreatDoor
