import Derived.Test.YtfliaggjkianpaaGreatDoorK00
import Derived.Test.YtfliaggjkianpaaGreatDoorK03
import Derived.Test.YtfliaggjkianpaaGreatDoorK10
import Derived.Test.YtfliaggjkianpaaGreatDoorK06
import Derived.Test.YtfliaggjkianpaaGreatDoorK05
set_option linter.unusedVariables false
set_option linter.unusedSimpArgs false
set_option maxRecDepth 100000
namespace Go.Proofs.YtfliaggjkianpaaGreatDoor
section
open Go.RowKit
def CpS.sh(s:CpS)(ob:Bool):ShS:=if ob then s.obj else s.ext
def CpS.base(ob:Bool):Int:=if ob then 0 else 4096
def CpG(w:World)(o:Nat→Tag)(t:Tag)(b g bo be:Nat)(s:CpS):Prop :=
 Blk w o t b #[.int .i64 s.tenant,.int .i64 s.next,.map (some g),.pointer (some ⟨bo,0,none⟩),.pointer (some ⟨be,0,none⟩)] 195 ∧
  MpAt w o t g .i64 eS s.slots∧ShAt w o (t++[0]) bo s.obj∧ShAt w o (t++[1]) be s.ext∧b≠g
theorem CpG.at{w:World}{o:Nat→Tag}{t:Tag}{b g bo be:Nat}{s:CpS}(h:CpG w o t b g bo be s):CpAt w o t b s:=⟨g,bo,be,h⟩
structure CpOk(s:CpS):Prop where
 tenant:0≤s.tenant∧s.tenant≤7
 next:1≤s.next∧s.next≤17592186044416
 obj:s.obj.n=4096
 ext:s.ext.n=64
 keys:∀p∈s.slots,0≤p.1∧p.1<4160
def CpS.fill(s:CpS)(ob:Bool)(addr rights:Int)(k:Nat):CpS :=
 ⟨s.tenant,s.next+1,mIns (CpS.base ob+k) ((rights,s.next),addr) s.slots,if ob then s.obj.flip k else s.obj,if ob then s.ext else s.ext.flip k⟩
def CpS.putF(s:CpS)(ob:Bool)(addr rights:Int):Value×CpS :=
 if 17592186044416≤s.next then (.tuple #[.int .u64 0,.int .i64 10],s)
 else match (s.sh ob).low with
 |none=>(.tuple #[.int .u64 0,.int .i64 10],s)
 |some k=>(.tuple #[.int .u64 (packN s.tenant (CpS.base ob+k) rights s.next:Nat),.int .i64 0],s.fill ob addr rights k)
theorem CpG.fr{S:Tag→Prop}{w w':World}{o o':Nat→Tag}{t:Tag}{b g bo be:Nat}{s:CpS}(h:CpG w o t b g bo be s)(f:Fr S w o w' o')(hS:Off S t):CpG w' o' t b g bo be s :=
 ⟨h.1.fr f hS.self,h.2.1.fr f hS.self,h.2.2.1.fr f (hS.sub [0]),h.2.2.2.1.fr f (hS.sub [1]),h.2.2.2.2⟩
def CpPost(w:World)(o:Nat→Tag)(t:Tag)(b:Nat)(v:Value)(s:CpS)(e:Ending)(w':World):Prop:=e=.returned v∧∃o',CpAt w' o' t b s∧Fr (Und t) w o w' o'
def CpPostG(w:World)(o:Nat→Tag)(t:Tag)(b g bo be:Nat)(v:Value)(s:CpS)(e:Ending)(w':World):Prop:=e=.returned v∧CpG w' o t b g bo be s∧Fr (Und t) w o w' o
theorem CpPostG.post{w:World}{o:Nat→Tag}{t:Tag}{b g bo be:Nat}{v:Value}{s:CpS}{e:Ending}{w':World}(h:CpPostG w o t b g bo be v s e w'):CpPost w o t b v s e w':=⟨h.1,o,h.2.1.at,h.2.2⟩
def CpS.ix(ob:Bool):Nat:=if ob then 0 else 1
theorem cpPut(ob:Bool)(b g bo be p:Nat)(addr rights:Int)(w:World){o:Nat→Tag}{t:Tag}{s:CpS}(h:CpG w o t b g bo be s)(hok:CpOk s)(h9:¬t <+: [9])(hp:p=if ob then bo else be)(hr:1≤rights∧rights≤7) :
  Calls Tryz.prog 164 #[.pointer (some ⟨b,0,none⟩),.pointer (some ⟨p,0,none⟩),.int .i64 (CpS.base ob),.int .i64 addr,.int .i64 rights] w (CpPostG w o t b g bo be (s.putF ob addr rights).1 (s.putF ob addr rights).2):=by
 have hs0:=HD h;obtain⟨h1,h2,h3,h4,h5⟩:=h;have c1:w.cell? ⟨b,1,none⟩=some (.int .i64 s.next):=h1.cell' (i:=1) rfl;unfold CpS.putF;by_cases hn:17592186044416≤s.next
 ·rw [if_pos hn]
  clear h1 h2 h3 h4 h5 hok hr hp;go_enter Tryz.func164,Tryz.ntmps164
  go_wp2_with fail;go_ret2
  exact⟨rfl,hs0.out,Fr.refl _ _ _⟩
 ·rw [if_neg hn]
  have hpk:ShAt w o (t++[CpS.ix ob]) p (s.sh ob):=by rw [hp];cases ob<;>assumption
  have htk:=HD (shTake p w hpk (not_nine h9 _));have hnb:(s.sh ob).n≤4096∧CpS.base ob+(s.sh ob).n≤4160∧0≤CpS.base ob:=by
   have:=hok.obj;have:=hok.ext;cases ob
   ·show s.ext.n≤4096∧(4096:Int)+s.ext.n≤4160∧_;exact⟨by omega,by omega,by show (0:Int)≤4096;omega⟩
   ·show s.obj.n≤4096∧(0:Int)+s.obj.n≤4160∧_;exact⟨by omega,by omega,by show (0:Int)≤0;omega⟩
  rcases low_cases (s.sh ob) with ⟨e1,e2⟩|⟨k,e1,e2,hk,hkf⟩
  ·rw [e2]
   have e3:(s.sh ob).tkV=0∧(s.sh ob).tkE=13∧(s.sh ob).tk=s.sh ob:=by unfold ShS.tkV ShS.tkE ShS.tk;rw [e1];exact⟨rfl,rfl,rfl⟩
   rw [e3.1,e3.2.1,e3.2.2] at htk;have hfin:=HD (show ∀w1,ShAt w1 o (t++[CpS.ix ob]) p (s.sh ob)→Fr (Und (t++[CpS.ix ob])) w o w1 o→CpPostG w o t b g bo be (.tuple #[.int .u64 0,.int .i64 10]) s (.returned (.tuple #[.int .u64 0,.int .i64 10])) w1 from fun w1 r1 r2=>by
    refine⟨rfl,⟨h1.fr r2 (not_sub t _),h2.fr r2 (not_sub t _),?_,?_,h5⟩,r2.mono fun v q=>q.up⟩
    ·cases ob
     ·exact h3.fr r2 (off_one (by decide) h9)
     ·rw [hp] at r1;exact r1
    ·cases ob
     ·rw [hp] at r1;exact r1
     ·exact h4.fr r2 (off_one (by decide) h9))
   clear h1 h2 h3 h4 h5 hok hr hp hpk hs0 e1 e2 e3 hnb;generalize CpS.base ob=base at *;go_enter Tryz.func164,Tryz.ntmps164
   go_wp2_with fail;refine htk.out.mono ?_;rintro e w1 ⟨rfl,r1,r2⟩;have hf:=HD (hfin.out w1 r1 r2);clear r1 r2;go_wp2_with fail;go_ret2
   exact hf.out
  ·rw [e2]
   simp only;have e3:(s.sh ob).tkV=k∧(s.sh ob).tkE=0∧(s.sh ob).tk=(s.sh ob).flip k:=by unfold ShS.tkV ShS.tkE ShS.tk;rw [e1];exact⟨if_neg (by omega),if_neg (by omega),by rw [if_neg (by omega)];rfl⟩
   rw [e3.1,e3.2.1,e3.2.2] at htk;have hlen:=rise_len h2.2.1 0 4160 (by omega) hok.keys;have hnext:=hok.next;have hten:=hok.tenant;have hkey:keyOK s.tenant (CpS.base ob+k) rights s.next:=⟨hten,⟨by omega,by omega⟩,hr,⟨hnext.1,by omega⟩⟩
   have hfin:=HD (show ∀w1,ShAt w1 o (t++[CpS.ix ob]) p ((s.sh ob).flip k)→Fr (Und (t++[CpS.ix ob])) w o w1 o →
     w1.drew.cell? ⟨b,1,none⟩=some (.int .i64 s.next)∧w1.drew.cell? ⟨b,2,none⟩=some (.map (some g)) ∧
     ∃w2,(Instr.mapUpdate 193 (.map (some g)) (.int .i64 (CpS.base ob+k)) (.agg #[.int .i64 rights,.int .i64 s.next,.int .i64 addr])).run Tryz.prog w1.drew=.ok () w2 ∧
      w2.cell? ⟨b,1,none⟩=some (.int .i64 s.next)∧w2.cell? ⟨b,2,none⟩=some (.map (some g))∧w2.drew.cell? ⟨b,0,none⟩=some (.int .i64 s.tenant)∧w2.drew.cell? ⟨b,1,none⟩=some (.int .i64 s.next) ∧
      Calls Tryz.prog 215 #[.agg #[.int .i64 s.tenant,.int .i64 (CpS.base ob+k),.int .i64 rights,.int .i64 s.next]] w2.drew (fun e w3=>e=.returned (.tuple #[.int .u64 (packN s.tenant (CpS.base ob+k) rights s.next:Nat),.int .i64 0]) ∧
       (w3.cell? ⟨b,0,none⟩=some (.int .i64 s.tenant)∧w3.cell? ⟨b,1,none⟩=some (.int .i64 s.next))∧w3.frozen? ⟨b,1,none⟩=false ∧
       CpPostG w o t b g bo be (.tuple #[.int .u64 (packN s.tenant (CpS.base ob+k) rights s.next:Nat),.int .i64 0]) (s.fill ob addr rights k) (.returned (.tuple #[.int .u64 (packN s.tenant (CpS.base ob+k) rights s.next:Nat),.int .i64 0])) (w3.setCell ⟨b,1,none⟩ (.int .i64 (s.next+1)))) from fun w1 r1 r2=>by
    have q1:=h1.fr r2 (not_sub t _);have q2:=h2.fr r2 (not_sub t _);obtain⟨w2,hup,m2,m3,m4⟩:=mp_store (P:=Tryz.prog) q2.drew Tryz.underlying193 Tryz.underlying3 (CpS.base ob+k) ((rights,s.next),addr) (by omega);have b2:=only_blk q1.drew m4 h5;refine⟨q1.cell' (i:=1) rfl,q1.cell' (i:=2) rfl,w2,hup,b2.cell' (i:=1) rfl,b2.cell' (i:=2) rfl,b2.cell' (i:=0) rfl,b2.cell' (i:=1) rfl,?_⟩;refine(hnPack s.tenant (CpS.base ob+k) rights s.next w2.drew).mono ?_;rintro e w3 ⟨rfl,hB⟩;have f3:Fr (fun _=>False) w2 o w3 o:=Fr.drew.trans (Fr.below hB);have b3:=b2.fr f3 (fun q=>q);have g3:=m2.fr f3 (fun q=>q);have f4:Fr (· = t) w1 o (w3.setCell ⟨b,1,none⟩ (.int .i64 (s.next+1))) o:=((Fr.drew.trans m3).trans (f3.mono fun _ q=>q.elim)).set' (fun _=>q1.1) _;have hsib:∀i,Off (· = t) (t++[i]):=fun i=>⟨fun v hv q=>by subst q;have:=List.IsPrefix.length_le hv;simp at this;omega,fun q=>h9 (by rw [←q];exact List.prefix_refl _)⟩
    refine⟨by unfold packE;rw [if_pos hkey],⟨b3.cell' (i:=0) rfl,b3.cell' (i:=1) rfl⟩,b3.free 1,rfl,⟨b3.set 1 _,?_,?_,?_,h5⟩,(r2.mono fun v q=>q.up).trans (f4.mono fun v q=>by rw [q];exact Und.self t)⟩
    ·exact only_mp g3 ((Only.refl (· = b) w3).setCell (fun _=>rfl) _) (fun q=>h5 q.symm)
    ·cases ob
     ·exact(h3.fr r2 (off_one (by decide) h9)).fr f4 (hsib 0)
     ·rw [hp] at r1;exact r1.fr f4 (hsib 0)
    ·cases ob
     ·rw [hp] at r1;exact r1.fr f4 (hsib 1)
     ·exact(h4.fr r2 (off_one (by decide) h9)).fr f4 (hsib 1))
   have u1:=IntWalk.i64_in (CpS.base ob+k) (by omega);have u2:=IntWalk.i64_in (s.next+1) (by omega);clear h1 h2 h3 h4 h5 hok hp hpk hs0 e1 e2 e3 hkf hkey hten hlen;generalize CpS.base ob=base at *;generalize s.fill ob addr rights k=s' at *;go_enter Tryz.func164,Tryz.ntmps164
   go_wp2_with fail;refine htk.out.mono ?_;rintro e w1 ⟨rfl,r1,r2⟩;obtain⟨d1,d2,w2,hup,e1,e2,m0,m1,hpk⟩:=hfin.out w1 r1 r2;replace hpk:=HD hpk;clear r1 r2 hfin;go_wp2_with fail;refine wp_region_noPanic ?_;refine wp_region_held_drew (S:=(fun W=>W.cell? ⟨b,1,none⟩=some (.int .i64 s.next)∧W.cell? ⟨b,2,none⟩=some (.map (some g)))) (by kernel_rfl) ?_ (fun hHeld=>?_)
   ·(try dsimp only)
    (first|exact⟨d1,d2⟩|exact⟨e1,e2⟩)
   refine tkH 0 (h:=?_);refine tkH 1 (h:=?_);refine tkH 2 (h:=?_);refine tkH 3 (h:=?_);refine tkH 4 (h:=?_);refine tkH 5 (h:=?_);refine tkH 6 (h:=?_);refine tkH 7 (h:=?_);refine tkH 8 (h:=?_);refine tkH 9 (h:=?_);refine tkH 10 (h:=?_);refine tkH 11 (h:=?_);refine tkH 12 (h:=?_);refine tkH 13 (h:=?_);refine tkH 14 (h:=?_);refine onH 15 (h:=fun K hK=>?_);go_simp;refine hK.out _ _ ?_ (fun hHeld=>?_)
   ·(try dsimp only)
    (first|exact⟨d1,d2⟩|exact⟨e1,e2⟩)
   clear hK;refine nmH (h:=?_);refine wpAnyH_done (by kernel_rfl) ?_ _;refine NoPanic.normal ?_;go_wp2_with fail;refine wp_region_noPanic ?_;refine wp_region_held_drew (S:=(fun W=>W.cell? ⟨b,0,none⟩=some (.int .i64 s.tenant)∧W.cell? ⟨b,1,none⟩=some (.int .i64 s.next))) (by kernel_rfl) ?_ (fun hHeld=>?_)
   ·(try dsimp only)
    (first|exact⟨m0,m1⟩|exact hcs)
   refine tkH 0 (h:=?_);refine tkH 1 (h:=?_);refine tkH 2 (h:=?_);refine tkH 3 (h:=?_);refine tkH 4 (h:=?_);refine tkH 5 (h:=?_);refine tkH 6 (h:=?_);refine tkH 7 (h:=?_);refine tkH 8 (h:=?_);refine tkH 9 (h:=?_);refine tkH 10 (h:=?_);refine tkH 11 (h:=?_);refine tkH 12 (h:=?_);refine onH 13 (h:=fun K hK=>?_);go_simp;refine hpk.out.mono ?_;rintro e w3 ⟨rfl,hcs,hnx⟩;replace hnx:=HD hnx;go_wp2_with fail;refine hK.out _ _ ?_ (fun hHeld=>?_)
   ·(try dsimp only)
    (first|exact⟨m0,m1⟩|exact hcs)
   clear hK;refine nmH (h:=?_);refine tkH 14 (h:=?_);refine tkH 15 (h:=?_);refine tkH 16 (h:=?_);refine tkH 17 (h:=?_);refine tkH 18 (h:=?_);refine wpAnyH_done (by kernel_rfl) ?_ _;refine NoPanic.normal ?_;have z1:=hcs.2;have zf:=hnx.out.1;replace hnx:=HD hnx.out.2;go_wp2_with fail;go_ret2
   exact hnx.out
end
section
open Go.RowKit
theorem putF_tuple(s:CpS)(ob:Bool)(addr rights:Int):∃(v:Nat) (e:Int),(s.putF ob addr rights).1=.tuple #[.int .u64 (v:Nat),.int .i64 e]:=by
 unfold CpS.putF
 split
 ·exact⟨0,10,rfl⟩
 ·split
  ·exact⟨0,10,rfl⟩
  ·exact⟨_,0,rfl⟩
def CpS.grantF(s:CpS)(addr:Int):Value×CpS:=if addr<0 then (.tuple #[.int .u64 0,.int .i64 12],s) else s.putF true addr 7
theorem cpGrant(b:Nat)(addr:Int)(w:World){o:Nat→Tag}{t:Tag}{s:CpS}(h:CpAt w o t b s)(hok:CpOk s)(h9:¬t <+: [9]) :
  Calls Tryz.prog 146 #[.pointer (some ⟨b,0,none⟩),.int .i64 addr] w (CpPost w o t b (s.grantF addr).1 (s.grantF addr).2):=by
 have hs0:=HD h;obtain⟨g,bo,be,h⟩:=h;unfold CpS.grantF;by_cases ha:addr<0
 ·rw [if_pos ha]
  clear h hok;go_enter Tryz.func146,Tryz.ntmps146
  go_wp2_with fail;go_ret2
  exact⟨rfl,o,hs0.out,Fr.refl _ _ _⟩
 ·rw [if_neg ha]
  have hp:=HD (cpPut true b g bo be bo addr 7 w h hok h9 rfl (by omega));obtain⟨v,e,he⟩:=putF_tuple s true addr 7;rw [he] at hp ⊢;rw [show CpS.base true=0 from rfl] at hp;have c3:w.cell? ⟨b,3,none⟩=some (.pointer (some ⟨bo,0,none⟩)):=h.1.cell' (i:=3) rfl;clear h hok hs0 he;go_enter Tryz.func146,Tryz.ntmps146
  go_wp2_with fail;refine hp.out.mono ?_;rintro e w1 hx;have hv:=hx.1;replace hx:=HD hx.post;subst hv;go_wp2_with fail;go_ret2
  exact hx.out
def CpS.findF(s:CpS)(h:Nat)(r:Int):Int×Int:=match s.look h with
 |none=>(0,5)
 |some x=>if (0≤r∧r≤7)∧mayR x.1.1 r=true then (x.2,0) else (0,5)
theorem cpFind(b:Nat)(h:Nat)(r:Int)(hh:h<18446744073709551616)(w:World){o:Nat→Tag}{t:Tag}{s:CpS}(hc:CpAt w o t b s) :
  Calls Tryz.prog 150 #[.pointer (some ⟨b,0,none⟩),.int .u64 h,.int .i64 r] w fun e w'=>e=.returned (.tuple #[.int .i64 (s.findF h r).1,.int .i64 (s.findF h r).2])∧Below w.heap.size w w':=by
 have hf:=HD (cpFind0 b h hh w hc);unfold CpS.findF;unfold CpS.lookV at hf;cases hl:s.look h with
 |none =>
  rw [hl] at hf;simp only at hf ⊢;clear hc hl;have hB:Hid (∀w1,Below w.heap.size w w1→Below w.heap.size w (w1.alloc (.cells #[.int .i64 0,.int .i64 0,.int .i64 0] 230))):=HD fun w1 hb=>hb.alloc hb.size _
  go_enter Tryz.func150,Tryz.ntmps150
  go_wp2_with fail;refine hf.out.mono ?_;rintro e w1 ⟨rfl,hb⟩;replace hb:=HD (hB.out _ hb);go_wp2_with fail;go_ret2
  exact⟨rfl,hb.out⟩
 |some x =>
  obtain⟨⟨a,n⟩,d⟩:=x;rw [hl] at hf;simp only at hf ⊢;clear hc hl;have hB:Hid (∀w1,Below w.heap.size w w1→Below w.heap.size w (w1.alloc (.cells #[.int .i64 a,.int .i64 n,.int .i64 d] 230)) ∧
    Calls Tryz.prog 163 #[.agg #[.int .i64 a,.int .i64 n],.int .i64 r] (w1.alloc (.cells #[.int .i64 a,.int .i64 n,.int .i64 d] 230)) (fun e w2=>e=.returned (.bool (mayR a r))∧w2.cell? ⟨w1.heap.size,1+1,none⟩=some (.int .i64 d)∧w2.cell? ⟨w1.heap.size,2,none⟩=some (.int .i64 d)∧Below w.heap.size w w2)):=HD fun w1 hb=>by
   have q:=hb.alloc hb.size (.cells #[.int .i64 a,.int .i64 n,.int .i64 d] 230);refine⟨q,(cpMay a n r _).mono ?_⟩;rintro e w2 ⟨rfl,hb2⟩;have k:=((Blk.made w1 o t #[.int .i64 a,.int .i64 n,.int .i64 d] 230).fr (S:=fun _=>False) (Fr.below hb2) (fun q=>q)).cell' (i:=2) (v:=.int .i64 d) rfl;exact⟨rfl,k,k,q.trans (hb2.mono q.size)⟩
  by_cases r1:r<0
  ·have e0:¬((0≤r∧r≤7)∧mayR a r=true):=by omega
   rw [if_neg e0];clear e0;go_enter Tryz.func150,Tryz.ntmps150
   go_wp2_with fail;refine hf.out.mono ?_;rintro e w1 ⟨rfl,hb⟩;replace hb:=HD (hB.out _ hb).1;go_wp2_with fail;go_ret2
   exact⟨rfl,hb.out⟩
  ·by_cases r2:7<r
   ·have e0:¬((0≤r∧r≤7)∧mayR a r=true):=by omega
    rw [if_neg e0];clear e0;go_enter Tryz.func150,Tryz.ntmps150
    go_wp2_with fail;refine hf.out.mono ?_;rintro e w1 ⟨rfl,hb⟩;replace hb:=HD (hB.out _ hb).1;go_wp2_with fail;go_ret2
    exact⟨rfl,hb.out⟩
   ·have e1:((0≤r∧r≤7)∧mayR a r=true)↔mayR a r=true:=by constructor;exact fun q=>q.2;exact fun q=>⟨by omega,q⟩
    simp only [e1];clear e1;generalize mayR a r=mb at *;cases mb
    ·simp only [Bool.false_eq_true,if_false]
     go_enter Tryz.func150,Tryz.ntmps150
     go_wp2_with fail;refine hf.out.mono ?_;rintro e w1 ⟨rfl,hb⟩;replace hb:=HD (hB.out _ hb).2;go_wp2_with fail;refine hb.out.mono ?_;rintro e w2 ⟨rfl,_,_,hb2⟩;replace hb2:=HD hb2;go_wp2_with fail;go_ret2
     exact⟨rfl,hb2.out⟩
    ·simp only [if_true]
     go_enter Tryz.func150,Tryz.ntmps150
     go_wp2_with fail;refine hf.out.mono ?_;rintro e w1 ⟨rfl,hb⟩;replace hb:=HD (hB.out _ hb).2;go_wp2_with fail;refine hb.out.mono ?_;rintro e w2 ⟨rfl,k1,k2,hb2⟩;replace hb2:=HD hb2;go_wp2_with fail;go_ret2
     exact⟨rfl,hb2.out⟩
end
section
open Go.RowKit
def CpS.restF(s:CpS)(h:Nat)(r:Int):Value×CpS:=match s.look h with
 |none=>(.tuple #[.int .u64 0,.int .i64 5],s)
 |some x=>if r<1∨7<r then (.tuple #[.int .u64 0,.int .i64 2],s) else if mayR x.1.1 r=true then s.putF false x.2 r else (.tuple #[.int .u64 0,.int .i64 5],s)
theorem und_nil{t:Tag}(h9:¬t <+: [9]):¬Und t []:=fun q=>h9 (by
 cases t with
 |nil=>exact List.nil_prefix
 |cons a l=>have:=List.IsPrefix.length_le q;simp at this)
theorem cpRestrict(b:Nat)(h:Nat)(r:Int)(hh:h<18446744073709551616)(w:World){o:Nat→Tag}{t:Tag}{s:CpS}(hc:CpAt w o t b s)(hok:CpOk s)(h9:¬t <+: [9]) :
  Calls Tryz.prog 111 #[.pointer (some ⟨b,0,none⟩),.int .u64 h,.int .i64 r] w (CpPost w o t b (s.restF h r).1 (s.restF h r).2):=by
 have hf:=HD (cpFind0 b h hh w hc);have hsame:=HD (show ∀v w1,Below w.heap.size w w1→CpPost w o t b v s (.returned v) w1 from fun v w1 hb=>⟨rfl,o,hc.fr (Fr.below (S:=fun _=>False) hb) off_no,Fr.below hb⟩);unfold CpS.restF;unfold CpS.lookV at hf;cases hl:s.look h with
 |none =>
  rw [hl] at hf;simp only at hf ⊢;clear hc hl hok;have hB:Hid (∀w1,Below w.heap.size w w1→Below w.heap.size w (w1.alloc (.cells #[.int .i64 0,.int .i64 0,.int .i64 0] 230))):=HD fun w1 hb=>hb.alloc hb.size _
  go_enter Tryz.func111,Tryz.ntmps111
  go_wp2_with fail;refine hf.out.mono ?_;rintro e w1 ⟨rfl,hb⟩;replace hb:=HD (hB.out _ hb);go_wp2_with fail;go_ret2
  exact hsame.out _ _ hb.out
 |some x =>
  obtain⟨⟨a,n⟩,d⟩:=x;rw [hl] at hf;simp only at hf ⊢;clear hl;obtain⟨g,bo,be,hg⟩:=hc;replace hg:CpG w o t b g bo be s:=hg;have hB:Hid (∀w1,Below w.heap.size w w1→Below w.heap.size w (w1.alloc (.cells #[.int .i64 a,.int .i64 n,.int .i64 d] 230)) ∧
    Calls Tryz.prog 163 #[.agg #[.int .i64 a,.int .i64 n],.int .i64 r] (w1.alloc (.cells #[.int .i64 a,.int .i64 n,.int .i64 d] 230)) (fun e w2=>e=.returned (.bool (mayR a r))∧Below w.heap.size w w2 ∧
     w2.drew.cell? ⟨b,4,none⟩=some (.pointer (some ⟨be,0,none⟩))∧w2.drew.cell? ⟨w1.heap.size,2,none⟩=some (.int .i64 d) ∧
     (1≤r∧r≤7→Calls Tryz.prog 164 #[.pointer (some ⟨b,0,none⟩),.pointer (some ⟨be,0,none⟩),.int .i64 4096,.int .i64 d,.int .i64 r] w2.drew (fun e w3=>e=.returned (s.putF false d r).1 ∧
      (w3.cell? ⟨b,4,none⟩=some (.pointer (some ⟨be,0,none⟩))∧w3.cell? ⟨w1.heap.size,2,none⟩=some (.int .i64 d))∧CpPost w o t b (s.putF false d r).1 (s.putF false d r).2 (.returned (s.putF false d r).1) w3)))):=HD fun w1 hb=>by
   have q:=hb.alloc hb.size (.cells #[.int .i64 a,.int .i64 n,.int .i64 d] 230);refine⟨q,(cpMay a n r _).mono ?_⟩;rintro e w2 ⟨rfl,hb2⟩;have hbb:=q.trans (hb2.mono q.size);have f:Fr (fun _=>False) w o w2 (newO o w []):=Fr.below' hbb [];have g2:=hg.fr f off_no;have kk:Blk w2.drew (newO o w []) [] w1.heap.size #[.int .i64 a,.int .i64 n,.int .i64 d] 230:=⟨newO_new hb.size,((Blk.made w1 o t #[.int .i64 a,.int .i64 n,.int .i64 d] 230).fr (S:=fun _=>False) (Fr.below hb2) (fun q=>q)).2⟩
   refine⟨rfl,hbb,g2.1.cell' (i:=4) rfl,kk.cell' (i:=2) (v:=.int .i64 d) rfl,fun hr=>?_⟩;refine(cpPut false b g bo be be d r w2.drew (g2.fr (S:=fun _=>False) Fr.drew off_no) hok h9 rfl hr).mono ?_;rintro e w3 ⟨rfl,r1,r2⟩;exact⟨rfl,⟨r1.1.cell' (i:=4) rfl,(kk.fr r2 (und_nil h9)).cell' (i:=2) (v:=.int .i64 d) rfl⟩,rfl,_,r1.at,(f.mono (fun _ q=>q.elim)).trans (Fr.drew.trans r2)⟩
  clear hg hok;by_cases r1:r<1
  ·rw [if_pos (.inl r1)]
   go_enter Tryz.func111,Tryz.ntmps111
   go_wp2_with fail;refine hf.out.mono ?_;rintro e w1 ⟨rfl,hb⟩;replace hb:=HD (hB.out _ hb).1;go_wp2_with fail;go_ret2
   exact hsame.out _ _ hb.out
  ·by_cases r2:7<r
   ·rw [if_pos (.inr r2)]
    go_enter Tryz.func111,Tryz.ntmps111
    go_wp2_with fail;refine hf.out.mono ?_;rintro e w1 ⟨rfl,hb⟩;replace hb:=HD (hB.out _ hb).1;go_wp2_with fail;go_ret2
    exact hsame.out _ _ hb.out
   ·rw [if_neg (show ¬(r<1∨7<r) by omega)]
    generalize mayR a r=mb at *;cases mb
    ·simp only [Bool.false_eq_true,if_false]
     go_enter Tryz.func111,Tryz.ntmps111
     go_wp2_with fail;refine hf.out.mono ?_;rintro e w1 ⟨rfl,hb⟩;replace hb:=HD (hB.out _ hb).2;go_wp2_with fail;refine hb.out.mono ?_;rintro e w2 ⟨rfl,hb2,_⟩;replace hb2:=HD hb2;go_wp2_with fail;go_ret2
     exact hsame.out _ _ hb2.out
    ·simp only [if_true]
     obtain⟨v,e,he⟩:=putF_tuple s false d r;rw [he] at hB ⊢;go_enter Tryz.func111,Tryz.ntmps111
     go_wp2_with fail;refine hf.out.mono ?_;rintro e w1 ⟨rfl,hb⟩;replace hb:=HD (hB.out _ hb).2;go_wp2_with fail;refine hb.out.mono ?_;rintro e w2 ⟨rfl,hb2,z4,zd,hput⟩;replace hput:=HD (hput ⟨by omega,by omega⟩);clear hb hB hb2 hf hsame he;go_wp2_with fail;refine wp_region_noPanic ?_;refine wp_region_held_drew (S:=(fun W=>W.cell? ⟨b,4,none⟩=some (.pointer (some ⟨be,0,none⟩))∧W.cell? ⟨w1.heap.size,2,none⟩=some (.int .i64 d))) (by kernel_rfl) ?_ (fun hHeld=>?_)
     ·(try dsimp only)
      (first|exact⟨z4,zd⟩|exact hcs)
     refine tkH 0 (h:=?_);refine tkH 1 (h:=?_);refine tkH 2 (h:=?_);refine tkH 3 (h:=?_);refine tkH 4 (h:=?_);refine tkH 5 (h:=?_);refine tkH 6 (h:=?_);refine tkH 7 (h:=?_);refine onH 8 (h:=fun K hK=>?_);go_simp;refine hput.out.mono ?_;rintro e w3 ⟨rfl,hcs,hx⟩;replace hx:=HD hx;go_wp2_with fail;refine hK.out _ _ ?_ (fun hHeld=>?_)
     ·(try dsimp only)
      (first|exact⟨z4,zd⟩|exact hcs)
     clear hK;refine nmH (h:=?_);refine tkH 9 (h:=?_);refine tkH 10 (h:=?_);refine tkH 11 (h:=?_);refine tkH 12 (h:=?_);refine wpAnyH_done (by kernel_rfl) ?_ _;refine NoPanic.normal ?_;go_wp2_with fail;go_ret2
     exact hx.out
end
section
open Go.RowKit
def CpS.hit(s:CpS)(addr:Int)(k:Nat):Bool:=match mGet s.slots k with
 |some x=>decide (x.2=addr)
 |none=>false
def CpS.drop(s:CpS)(k:Nat):CpS:=⟨s.tenant,s.next,mDel k s.slots,if k<4096 then s.obj.give k else s.obj,if k<4096 then s.ext else s.ext.give ((k:Int)-4096)⟩
def CpS.rv(s:CpS)(addr:Int):Nat→CpS×Nat
 |0=>(s,0)
 |k+1=>if (s.rv addr k).1.hit addr k=true then ((s.rv addr k).1.drop k,(s.rv addr k).2+1) else s.rv addr k
theorem rv_le(s:CpS)(addr:Int)(k:Nat):(s.rv addr k).2≤k:=by
 induction k with
 |zero=>exact Nat.le_refl _
 |succ k ih =>
  unfold CpS.rv
  split
  ·show (s.rv addr k).2+1≤k+1
   omega
  ·omega
theorem rv_hit{w1:World}{o:Nat→Tag}{t:Tag}{b g bo be:Nat}{q:CpS}{k:Nat}{a n d:Int}(h:CpG w1 o t b g bo be q)(h9:¬t <+: [9]) :
  (w1.alloc (.cells #[.int .i64 a,.int .i64 n,.int .i64 d] 230)).cell? ⟨b,2,none⟩=some (.map (some g)) ∧
  ∃w2,(Builtin.delete_ #[193,3] 0 #[.map (some g),.int .i64 k]).run Tryz.prog (w1.alloc (.cells #[.int .i64 a,.int .i64 n,.int .i64 d] 230))=.ok (.tuple #[]) w2 ∧
   w2.cell? ⟨b,3,none⟩=some (.pointer (some ⟨bo,0,none⟩))∧w2.cell? ⟨b,4,none⟩=some (.pointer (some ⟨be,0,none⟩)) ∧
   (k<4096→Calls Tryz.prog 93 #[.pointer (some ⟨bo,0,none⟩),.int .i64 k] w2 (fun e w3=>∃v,e=.returned v∧CpG w3 o t b g bo be (q.drop k)∧Fr (Und t) w1 o w3 o)) ∧
   (¬k<4096→Calls Tryz.prog 93 #[.pointer (some ⟨be,0,none⟩),.int .i64 ((k:Int)-4096)] w2 (fun e w3=>∃v,e=.returned v∧CpG w3 o t b g bo be (q.drop k)∧Fr (Und t) w1 o w3 o)):=by
 have f0:Fr (fun _=>False) w1 o (w1.alloc (.cells #[.int .i64 a,.int .i64 n,.int .i64 d] 230)) o:=Fr.alloc' _;have h0:=h.fr f0 off_no;obtain⟨w2,e1,m1,f1,q1⟩:=mp_delete (P:=Tryz.prog) (ty:=0) h0.2.1 Tryz.underlying193 Tryz.underlying3 k;have hsib:∀i,Off (· = t) (t++[i]):=fun i=>⟨fun v hv q=>by subst q;have:=List.IsPrefix.length_le hv;simp at this;omega,fun q=>h9 (by rw [←q];exact List.prefix_refl _)⟩
 have b2:=only_blk h0.1 q1 h.2.2.2.2;have s3:=h0.2.2.1.fr f1 (hsib 0);have s4:=h0.2.2.2.1.fr f1 (hsib 1);have g1:Fr (Und t) w1 o w2 o:=(f0.mono fun _ q=>q.elim).trans (f1.mono fun v q=>by rw [q];exact Und.self t);refine⟨h0.1.cell' (i:=2) rfl,w2,e1,b2.cell' (i:=3) rfl,b2.cell' (i:=4) rfl,fun hk=>?_,fun hk=>?_⟩
 ·refine(shGive bo k w2 s3 (not_nine h9 _)).mono ?_
  rintro e w3 ⟨rfl,r1,r2⟩;refine⟨_,rfl,⟨b2.fr r2 (not_sub t _),m1.fr r2 (not_sub t _),?_,?_,h.2.2.2.2⟩,g1.trans (r2.mono fun v q=>q.up)⟩
  ·show ShAt w3 o (t++[0]) bo (if k<4096 then q.obj.give k else q.obj)
   rw [if_pos hk];exact r1
  ·show ShAt w3 o (t++[1]) be (if k<4096 then q.ext else _)
   rw [if_pos hk];exact s4.fr r2 (off_one (by decide) h9)
 ·refine(shGive be ((k:Int)-4096) w2 s4 (not_nine h9 _)).mono ?_
  rintro e w3 ⟨rfl,r1,r2⟩;refine⟨_,rfl,⟨b2.fr r2 (not_sub t _),m1.fr r2 (not_sub t _),?_,?_,h.2.2.2.2⟩,g1.trans (r2.mono fun v q=>q.up)⟩
  ·show ShAt w3 o (t++[0]) bo (if k<4096 then q.obj.give k else q.obj)
   rw [if_neg hk];exact s3.fr r2 (off_one (by decide) h9)
  ·show ShAt w3 o (t++[1]) be (if k<4096 then q.ext else _)
   rw [if_neg hk];exact r1
set_option maxHeartbeats 1000000 in
theorem cpRevoke(b:Nat)(addr:Int)(w:World){o:Nat→Tag}{t:Tag}{s:CpS}(hc:CpAt w o t b s)(h9:¬t <+: [9]) :
  Calls Tryz.prog 147 #[.pointer (some ⟨b,0,none⟩),.int .i64 addr] w (CpPost w o t b (.int .i64 (s.rv addr 4160).2) (s.rv addr 4160).1):=by
 obtain⟨g,bo,be,h⟩:=hc;replace h:Hid (CpG w o t b g bo be s):=HD h;go_enter Tryz.func147,Tryz.ntmps147
 go_wp2_with fail;refine wp_scope_round 0 (fun a' w'=>∃(k:Nat) (u2 u3 u4 u7 u8 u9 u10 u11 u12 u13 u14 u15 u16 u17 u18 u19 u20 u21 u22 u23 u24 u25 u26 u27 u28 u29 u30 u31 u32 u33 u34 u35 u36 u37 u38 u39 u40 u41 u42 u43 u44 u45 u46 u47 u48 u49 u50 u51 u52 u53:Value),a'={tmps:=#[.pointer (some ⟨b,0,none⟩),.int .i64 addr,u2,u3,u4,.int .i64 (s.rv addr k).2,.int .i64 k,u7,u8,u9,u10,u11,u12,u13,u14,u15,u16,u17,u18,u19,u20,u21,u22,u23,u24,u25,u26,u27,u28,u29,u30,u31,u32,u33,u34,u35,u36,u37,u38,u39,u40,u41,u42,u43,u44,u45,u46,u47,u48,u49,u50,u51,u52,u53],defers:=[]}∧k≤4160∧Hid (CpG w' o t b g bo be (s.rv addr k).1∧Fr (Und t) w o w' o)) (fun a' _=>4160-(intOf (a'.tmps.getD 6 undef)).toNat) rfl ?_ ?_
 ·rintro a' w1 ⟨k,u2,u3,u4,u7,u8,u9,u10,u11,u12,u13,u14,u15,u16,u17,u18,u19,u20,u21,u22,u23,u24,u25,u26,u27,u28,u29,u30,u31,u32,u33,u34,u35,u36,u37,u38,u39,u40,u41,u42,u43,u44,u45,u46,u47,u48,u49,u50,u51,u52,u53,rfl,hk,hg⟩
  have hn:=rv_le s addr k;by_cases hlt:k<4160
  ·have hd:decide ((4160:Int)≤(k:Int))=false:=decide_eq_false (by omega)
   obtain⟨a,n,d,th,hrel,hlk⟩:=slot_of (s.rv addr k).1.slots k;replace hlk:=hlk w1 o t g hg.out.1.2.1;have c2:w1.cell? ⟨b,2,none⟩=some (.map (some g)):=hg.out.1.1.cell' (i:=2) rfl;by_cases hhit:(s.rv addr k).1.hit addr k=true
   ·have hdd:th=true∧d=addr:=by
     unfold CpS.hit at hhit;rcases hrel with ⟨rfl,hm⟩|⟨rfl,hm⟩
     ·rw [hm] at hhit;exact⟨rfl,by simpa using hhit⟩
     ·rw [hm] at hhit;cases hhit
    obtain⟨rfl,rfl⟩:=hdd;have hnext:s.rv d (k+1)=((s.rv d k).1.drop k,(s.rv d k).2+1):=by
     conv=>lhs;unfold CpS.rv
     rw [if_pos hhit]
    obtain⟨z2,w2,hdel,z3,z4,hlo,hhi⟩:=rv_hit (a:=a) (n:=n) (d:=d) (k:=k) hg.out.1 h9;have hfin:=HD (show ∀w3,CpG w3 o t b g bo be ((s.rv d k).1.drop k)→Fr (Und t) w1 o w3 o→CpG w3 o t b g bo be (s.rv d (k+1)).1∧Fr (Und t) w o w3 o from fun w3 r1 r2=>by
     rw [hnext];exact⟨r1,hg.out.2.trans r2⟩)
    have hcount:((s.rv d (k+1)).2:Int)=(s.rv d k).2+1:=by rw [hnext];simp
    generalize (s.rv d k).2=c at *;have u1:=IntWalk.i64_in ((c:Int)+1) (by omega);have u2:=IntWalk.i64_in ((k:Int)+1) (by omega);have u3:=IntWalk.i64_in ((k:Int)-4096) (by omega);clear hrel hhit hg h hnext;by_cases hk0:k<4096
    ·have hk1:decide ((k:Int)<4096)=true:=decide_eq_true (by omega)
     replace hlo:=HD (hlo hk0);clear hhi;go_wp2_with fail;refine hlo.out.mono ?_;rintro e w3 ⟨v,rfl,r1,r2⟩;replace r1:=HD (hfin.out w3 r1 r2);clear r2;go_wp2_with fail;go_step3
     rw [←hcount,show ((k:Int)+1)=((k+1:Nat):Int) from rfl];refine⟨rfl,⟨k+1,_,_,_,_,_,_,_,_,_,_,_,_,_,_,_,_,_,_,_,_,_,_,_,_,_,_,_,_,_,_,_,_,_,_,_,_,_,_,_,_,_,_,_,_,_,_,_,_,_,_,rfl,by omega,r1⟩,?_⟩;simp [intOf]
     omega
    ·have hk1:decide ((k:Int)<4096)=false:=decide_eq_false (by omega)
     replace hhi:=HD (hhi hk0);clear hlo;go_wp2_with fail;refine hhi.out.mono ?_;rintro e w3 ⟨v,rfl,r1,r2⟩;replace r1:=HD (hfin.out w3 r1 r2);clear r2;go_wp2_with fail;go_step3
     rw [←hcount,show ((k:Int)+1)=((k+1:Nat):Int) from rfl];refine⟨rfl,⟨k+1,_,_,_,_,_,_,_,_,_,_,_,_,_,_,_,_,_,_,_,_,_,_,_,_,_,_,_,_,_,_,_,_,_,_,_,_,_,_,_,_,_,_,_,_,_,_,_,_,_,_,rfl,by omega,r1⟩,?_⟩;simp [intOf]
     omega
   ·have hnext:s.rv addr (k+1)=s.rv addr k:=by
     conv=>lhs;unfold CpS.rv
     rw [if_neg hhit]
    have hfin:=HD (show CpG (w1.alloc (.cells #[.int .i64 a,.int .i64 n,.int .i64 d] 230)) o t b g bo be (s.rv addr (k+1)).1∧Fr (Und t) w o (w1.alloc (.cells #[.int .i64 a,.int .i64 n,.int .i64 d] 230)) o from by
     have f0:Fr (fun _=>False) w1 o (w1.alloc (.cells #[.int .i64 a,.int .i64 n,.int .i64 d] 230)) o:=Fr.alloc' _;rw [hnext];exact⟨hg.out.1.fr f0 off_no,hg.out.2.trans (f0.mono fun _ q=>q.elim)⟩)
    have hcount:(s.rv addr (k+1)).2=(s.rv addr k).2:=by rw [hnext]
    have u2:=IntWalk.i64_in ((k:Int)+1) (by omega);have hth:th=false∨(th=true∧(d==addr)=false):=by
     unfold CpS.hit at hhit;rcases hrel with ⟨rfl,hm⟩|⟨rfl,hm⟩
     ·rw [hm] at hhit;exact .inr ⟨rfl,by simpa using hhit⟩
     ·exact .inl rfl
    rw [←hcount];clear hrel hhit hg h hnext hcount hn;rcases hth with rfl|⟨rfl,hd2⟩
    ·go_wp2_with fail
     go_step3
     rw [show ((k:Int)+1)=((k+1:Nat):Int) from rfl];refine⟨rfl,⟨k+1,_,_,_,_,_,_,_,_,_,_,_,_,_,_,_,_,_,_,_,_,_,_,_,_,_,_,_,_,_,_,_,_,_,_,_,_,_,_,_,_,_,_,_,_,_,_,_,_,_,_,rfl,by omega,hfin⟩,?_⟩;simp [intOf]
     omega
    ·go_wp2_with fail
     go_step3
     rw [show ((k:Int)+1)=((k+1:Nat):Int) from rfl];refine⟨rfl,⟨k+1,_,_,_,_,_,_,_,_,_,_,_,_,_,_,_,_,_,_,_,_,_,_,_,_,_,_,_,_,_,_,_,_,_,_,_,_,_,_,_,_,_,_,_,_,_,_,_,_,_,_,rfl,by omega,hfin⟩,?_⟩;simp [intOf]
     omega
  ·obtain rfl:k=4160:=by omega
   have hfin:=HD (show CpPost w o t b (.int .i64 (s.rv addr 4160).2) (s.rv addr 4160).1 (.returned (.int .i64 (s.rv addr 4160).2)) w1 from⟨rfl,o,hg.out.1.at,hg.out.2⟩);clear hg h;go_wp2_with fail;simp only [Exit.jump];go_ret
   exact hfin.out
 ·intro H
  go_wp2_with fail;go_step3
  rename_i K hK;exact hK _ _ <| H _ _ ⟨0,_,_,_,_,_,_,_,_,_,_,_,_,_,_,_,_,_,_,_,_,_,_,_,_,_,_,_,_,_,_,_,_,_,_,_,_,_,_,_,_,_,_,_,_,_,_,_,_,_,_,rfl,Nat.zero_le _,HD ⟨h.out,Fr.refl _ _ _⟩⟩
end
section
open Go.RowKit
def CpS.new(tenant serial:Int):CpS:=⟨tenant,serial,[],ShS.new 4096,ShS.new 64⟩
theorem cpNew(tenant serial:Int)(w:World){o:Nat→Tag}{t:Tag}(hT:Tab w o)(ht:0≤tenant∧tenant≤7)(hs:1≤serial∧serial≤17592186044416) :
  Calls Tryz.prog 85 #[.int .i64 tenant,.int .i64 serial] w fun e w'=>∃b o',e=.returned (.tuple #[.pointer (some ⟨b,0,none⟩),.int .i64 0])∧CpAt w' o' t b (CpS.new tenant serial)∧Fr (fun _=>False) w o w' o':=by
 have hmk:∀w,(Instr.makeMap 193 none).run Tryz.prog w=.ok (.map (some w.heap.size)) (w.alloc (.map #[] 0)):=fun w=>run_makeMap _ w
 have h1:=HD (shNew 4096 w o (t++[0]) hT (by omega));have hfin:=HD (show ∀w1 b1 o1,ShAt w1 o1 (t++[0]) b1 (ShS.new 4096)→Fr (fun _=>False) w o w1 o1 →
   Calls Tryz.prog 77 #[.int .i64 64] w1 (fun e w2=>∃b2,e=.returned (.tuple #[.pointer (some ⟨b2,0,none⟩),.int .i64 0]) ∧
    ∃o',CpAt ((w2.alloc (.map #[] 0)).alloc (.cells #[.int .i64 tenant,.int .i64 serial,.map (some w2.heap.size),.pointer (some ⟨b1,0,none⟩),.pointer (some ⟨b2,0,none⟩)] 195)) o' t (w2.heap.size+1) (CpS.new tenant serial) ∧
     Fr (fun _=>False) w o ((w2.alloc (.map #[] 0)).alloc (.cells #[.int .i64 tenant,.int .i64 serial,.map (some w2.heap.size),.pointer (some ⟨b1,0,none⟩),.pointer (some ⟨b2,0,none⟩)] 195)) o') from fun w1 b1 o1 r1 f1=>by
  refine(shNew 64 w1 o1 (t++[1]) (hT.fr f1 (fun q=>q)) (by omega)).mono ?_;rintro e w2 ⟨b2,o2,rfl,r2,f2⟩;refine⟨b2,rfl,?_⟩;have f3:Fr (fun _=>False) w2 o2 (w2.alloc (.map #[] 0)) (setO o2 w2.heap.size t):=Fr.alloc _ t;have m3:=MpAt.made w2 o2 t .i64 eS;have f4:Fr (fun _=>False) (w2.alloc (.map #[] 0)) (setO o2 w2.heap.size t) ((w2.alloc (.map #[] 0)).alloc (.cells #[.int .i64 tenant,.int .i64 serial,.map (some w2.heap.size),.pointer (some ⟨b1,0,none⟩),.pointer (some ⟨b2,0,none⟩)] 195)) (setO (setO o2 w2.heap.size t) (w2.alloc (.map #[] 0)).heap.size t):=Fr.alloc _ t;have b4:=Blk.made (w2.alloc (.map #[] 0)) (setO o2 w2.heap.size t) t #[.int .i64 tenant,.int .i64 serial,.map (some w2.heap.size),.pointer (some ⟨b1,0,none⟩),.pointer (some ⟨b2,0,none⟩)] 195;have g1:=(r1.fr ((f2.trans f3).trans f4) off_no)
  have g2:=(r2.fr (f3.trans f4) off_no)
  have g3:=m3.fr f4 (fun q=>q);rw [World.size_alloc] at b4 g1 g2 g3;rw [World.size_alloc] at f4;exact⟨_,⟨w2.heap.size,b1,b2,b4,g3,g1,g2,by omega⟩,((f1.trans f2).trans f3).trans f4⟩)
 clear hT;go_enter Tryz.func85,Tryz.ntmps85
 go_wp2_with fail;refine h1.out.mono ?_;rintro e w1 ⟨b1,o1,rfl,r1,r2⟩;replace hfin:=HD (hfin.out w1 b1 o1 r1 r2);clear r1 r2;go_wp2_with fail;refine hfin.out.mono ?_;rintro e w2 ⟨b2,rfl,o',r1,r2⟩;replace r1:=HD r1;replace r2:=HD r2;go_wp2_with fail;go_ret2
 exact⟨_,o',rfl,r1.out,r2.out⟩
theorem give_n'(s:ShS)(k:Int):(s.give k).n=s.n:=by unfold ShS.give;split<;>rfl
theorem CpOk.new{tenant serial:Int}(ht:0≤tenant∧tenant≤7)(hs:1≤serial∧serial≤17592186044416):CpOk (CpS.new tenant serial):=⟨ht,hs,rfl,rfl,fun p q=>by simp [CpS.new] at q⟩
theorem CpOk.putF{s:CpS}(h:CpOk s)(ob:Bool)(addr rights:Int):CpOk (s.putF ob addr rights).2:=by
 unfold CpS.putF
 split
 ·exact h
 ·split
  ·exact h
  ·rename_i hn k hl
   have hk:k<(s.sh ob).n:=by
    have:=List.mem_of_find?_eq_some hl;simpa using this
   have h1:=h.obj;have h2:=h.ext;have h3:=h.next;refine⟨h.tenant,⟨show 1≤s.next+1 by omega,show s.next+1≤17592186044416 by omega⟩,?_,?_,fun p hp=>?_⟩
   ·show (if ob then s.obj.flip k else s.obj).n=4096
    cases ob<;>exact h1
   ·show (if ob then s.ext else s.ext.flip k).n=64
    cases ob<;>exact h2
   ·rcases mIns_mem p hp with rfl|hp
    ·cases ob
     ·have hk':k<s.ext.n:=hk
      show 0≤(4096:Int)+k∧(4096:Int)+k<4160;omega
     ·have hk':k<s.obj.n:=hk
      show 0≤(0:Int)+k∧(0:Int)+k<4160;omega
    ·exact h.keys p hp
theorem CpOk.grantF{s:CpS}(h:CpOk s)(addr:Int):CpOk (s.grantF addr).2:=by
 unfold CpS.grantF;split
 ·exact h
 ·exact h.putF _ _ _
theorem CpOk.restF{s:CpS}(h:CpOk s)(k:Nat)(r:Int):CpOk (s.restF k r).2:=by
 unfold CpS.restF;split
 ·exact h
 ·split
  ·exact h
  ·split
   ·exact h.putF _ _ _
   ·exact h
theorem CpOk.drop{s:CpS}(h:CpOk s)(k:Nat):CpOk (s.drop k):=by
 refine⟨h.tenant,h.next,?_,?_,fun p hp=>h.keys p (mDel_mem p hp)⟩
 ·show (if k<4096 then s.obj.give k else s.obj).n=4096
  split
  ·rw [give_n'];exact h.obj
  ·exact h.obj
 ·show (if k<4096 then s.ext else s.ext.give ((k:Int)-4096)).n=64
  split
  ·exact h.ext
  ·rw [give_n'];exact h.ext
theorem CpOk.rv{s:CpS}(h:CpOk s)(addr:Int)(k:Nat):CpOk (s.rv addr k).1:=by
 induction k with
 |zero=>exact h
 |succ k ih =>
  unfold CpS.rv
  split
  ·exact ih.drop k
  ·exact ih
end
end Go.Proofs.YtfliaggjkianpaaGreatDoor
