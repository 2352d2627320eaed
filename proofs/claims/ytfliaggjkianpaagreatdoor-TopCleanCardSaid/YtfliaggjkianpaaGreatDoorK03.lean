import Derived.Test.YtfliaggjkianpaaGreatDoorK02
import Derived.WalkMore
import Derived.IntWalk
set_option linter.unusedVariables false
set_option linter.unusedSimpArgs false
set_option maxRecDepth 100000
namespace Go.Proofs.YtfliaggjkianpaaGreatDoor
section
open Go.RowKit
structure CnS where
 base:Int
 unit:Int
 per:Int
 head:Int
def CnS.ok(s:CnS):Prop:=(0≤s.base∧s.base≤2097152)∧(8≤s.unit∧s.unit≤512)∧(1≤s.per∧s.per≤64)∧-1≤s.head∧s.head<s.per
def CnAt(w:World)(o:Nat→Tag)(t:Tag)(b a:Nat)(s:CnS):Prop :=
 s.ok∧Blk w o t b #[.pointer (some ⟨a,0,none⟩),.int .i64 s.base,.int .i64 s.unit,.int .i64 s.per,.int .i64 s.head] 302
theorem CnAt.fr{S:Tag→Prop}{w w':World}{o o':Nat→Tag}{t:Tag}{b a:Nat}{s:CnS}(h:CnAt w o t b a s)(f:Fr S w o w' o')(hS:¬S t):CnAt w' o' t b a s:=⟨h.1,h.2.fr f hS⟩
theorem cnEmpty(b a:Nat)(w:World){o:Nat→Tag}{t:Tag}{s:CnS}(h:CnAt w o t b a s) :
  Calls Tryz.prog 230 #[.pointer (some ⟨b,0,none⟩)] w fun e w'=>e=.returned (.bool (decide (s.head<0)))∧w'=w:=by
 have c4:w.cell? ⟨b,4,none⟩=some (.int .i64 s.head):=h.2.cell' (i:=4) rfl;clear h;go_enter Tryz.func230,Tryz.ntmps230
 go_wp2_with fail;go_ret
 exact⟨rfl,rfl⟩
theorem mul_b{a b A B:Int}(h0:0≤a)(h1:a≤A)(h2:0≤b)(h3:b≤B):0≤a*b∧a*b≤A*B :=
 ⟨Int.mul_nonneg h0 h2,Int.le_trans (Int.mul_le_mul_of_nonneg_right h1 h2) (Int.mul_le_mul_of_nonneg_left h3 (Int.le_trans h0 h1))⟩
theorem cnAt(b a:Nat)(k:Int)(w:World){o:Nat→Tag}{t:Tag}{s:CnS}(h:CnAt w o t b a s)(hk:0≤k∧k≤64) :
  Calls Tryz.prog 248 #[.pointer (some ⟨b,0,none⟩),.int .i64 k] w fun e w'=>e=.returned (.int .i64 (s.base+k*s.unit))∧w'=w.drew:=by
 have c1:w.cell? ⟨b,1,none⟩=some (.int .i64 s.base):=h.2.cell' (i:=1) rfl;have c2:w.cell? ⟨b,2,none⟩=some (.int .i64 s.unit):=h.2.cell' (i:=2) rfl;obtain⟨⟨h1,h2,_⟩,_⟩:=h;have hb:=mul_b hk.1 hk.2 (show 0≤s.unit by omega) h2.2;have u1:=IntWalk.i64_in (k*s.unit) (by omega);have u2:=IntWalk.i64_in (s.base+k*s.unit) (by omega);generalize s.base=x at *;generalize s.unit=y at *;go_enter Tryz.func248,Tryz.ntmps248
 go_wp2_with fail;go_still (by kernel_rfl)
 go_wp2_with fail;go_ret
 exact⟨rfl,rfl⟩
def liesB(l:Nat)(base unit per:Int):Bool:=decide (0≤base∧base≤l∧unit*per≤l-base)
theorem cnLies(a:Nat)(base unit per:Int)(w:World){o:Nat→Tag}{t:Tag}{B:List UInt8}{m:Nat}(h:ArAt w o t a B m)(hu:0≤unit∧unit≤512)(hp:0≤per∧per≤64) :
  Calls Tryz.prog 243 #[.pointer (some ⟨a,0,none⟩),.int .i64 base,.int .i64 unit,.int .i64 per] w fun e w'=>e=.returned (.bool (liesB B.length base unit per))∧w'=w:=by
 have hs:=HD (arSize a w h);have hsz:=h.sz;have hb:=mul_b hu.1 hu.2 hp.1 hp.2;have u1:=IntWalk.i64_in (unit*per) (by omega);clear h;generalize B.length=l at *;unfold liesB;by_cases h0:0≤base
 ·by_cases h1:base≤l
  ·have u2:=IntWalk.i64_in ((l:Int)-base) (by omega)
   have e:decide (0≤base∧base≤l∧unit*per≤l-base)=decide (unit*per≤l-base):=by simp [h0,h1]
   rw [e];clear e;go_enter Tryz.func243,Tryz.ntmps243
   go_wp2_with fail;refine SM hs.out ?_;go_wp2_with fail;refine SM hs.out ?_;go_wp2_with fail;go_ret
   exact⟨rfl,rfl⟩
  ·have e:decide (0≤base∧base≤l∧unit*per≤l-base)=false:=by simp [h0,h1]
   rw [e];clear e;go_enter Tryz.func243,Tryz.ntmps243
   go_wp2_with fail;refine SM hs.out ?_;go_wp2_with fail;go_ret
   exact⟨rfl,rfl⟩
 ·have e:decide (0≤base∧base≤l∧unit*per≤l-base)=false:=by simp [h0]
  rw [e];clear e;go_enter Tryz.func243,Tryz.ntmps243
  go_wp2_with fail;go_ret
  exact⟨rfl,rfl⟩
end
section
open Go.RowKit
def CnS.new(base unit per:Int):CnS:=⟨base,unit,per,-1⟩
theorem cnNew(a:Nat)(base unit per:Int)(w:World){o:Nat→Tag}{t u:Tag}{B:List UInt8}{m:Nat}(h:ArAt w o t a B m)(hu:8≤unit∧unit≤512)(hp:1≤per∧per≤64)(hl:liesB B.length base unit per=true) :
  Calls Tryz.prog 236 #[.pointer (some ⟨a,0,none⟩),.int .i64 base,.int .i64 unit,.int .i64 per] w fun e w'=>(∃b,e=.returned (.tuple #[.pointer (some ⟨b,0,none⟩),.int .i64 0])∧CnAt w' (newO o w u) u b a (CnS.new base unit per))∧Below w.heap.size w w':=by
 have hs:=HD (cnLies a base unit per w h (by omega) (by omega));have hsz:=h.sz;have hB:=HD ((Below.refl w.heap.size w).alloc (Nat.le_refl _) (.cells #[.pointer (some ⟨a,0,none⟩),.int .i64 base,.int .i64 unit,.int .i64 per,.int .i64 (-1)] 302));have hC:Hid (CnAt (w.alloc (.cells #[.pointer (some ⟨a,0,none⟩),.int .i64 base,.int .i64 unit,.int .i64 per,.int .i64 (-1)] 302)) (newO o w u) u w.heap.size a (CnS.new base unit per)):=HD (by
  have hl':=hl;unfold liesB at hl';simp only [decide_eq_true_eq] at hl';exact⟨⟨⟨hl'.1,show base≤2097152 by omega⟩,hu,hp,Int.le_refl _,show (-1:Int)<per by omega⟩,newO_new (Nat.le_refl _),heap_alloc_new w _⟩)
 rw [hl] at hs;clear h hl;go_enter Tryz.func236,Tryz.ntmps236
 go_wp2_with fail;refine SM hs.out ?_;go_wp2_with fail;go_ret2
 exact⟨⟨_,rfl,hC.out⟩,hB.out⟩
end
section
open Go.RowKit
def CnS.to(s:CnS)(h:Int):CnS:=⟨s.base,s.unit,s.per,h⟩
theorem cnTake(b d a:Nat)(w:World){o:Nat→Tag}{t u:Tag}{s x:CnS}(h:CnAt w o t b a s)(k:CnAt w o u d a x)(h0:¬0≤s.head)(hp:s.per=x.per)(hbd:b≠d) :
  Calls Tryz.prog 249 #[.pointer (some ⟨b,0,none⟩),.pointer (some ⟨d,0,none⟩)] w fun e w'=>e=.returned (.int .i64 0)∧CnAt w' o t b a (s.to x.head)∧CnAt w' o u d a (x.to (-1))∧Fr (fun v=>v=t∨v=u) w o w' o:=by
 have c4:w.cell? ⟨b,4,none⟩=some (.int .i64 s.head):=h.2.cell' (i:=4) rfl;have d4:w.cell? ⟨d,4,none⟩=some (.int .i64 x.head):=k.2.cell' (i:=4) rfl;have f1:=h.2.free 4;have q1:=(h.2.set 4 (.int .i64 x.head))
 have q2:=k.2.set_ne (p:=⟨b,4,none⟩) hbd (.int .i64 x.head);have d4':(w.setCell ⟨b,4,none⟩ (.int .i64 x.head)).cell? ⟨d,4,none⟩=some (.int .i64 x.head):=q2.cell' (i:=4) rfl;have f2:=q2.free 4;have q3:=q1.set_ne (p:=⟨d,4,none⟩) (fun e=>hbd e.symm) (.int .i64 (-1));have q4:=q2.set 4 (.int .i64 (-1));have hF:Fr (fun v=>v=t∨v=u) w o ((w.setCell ⟨b,4,none⟩ (.int .i64 x.head)).setCell ⟨d,4,none⟩ (.int .i64 (-1))) o:=(Fr.setCell (fun _=>.inl h.2.1) _).trans (Fr.setCell (fun _=>.inr k.2.1) _);have hok:=h.1;have kok:=k.1;have hfin:=HD (show CnAt ((w.setCell ⟨b,4,none⟩ (.int .i64 x.head)).setCell ⟨d,4,none⟩ (.int .i64 (-1))) o t b a (s.to x.head)∧CnAt ((w.setCell ⟨b,4,none⟩ (.int .i64 x.head)).setCell ⟨d,4,none⟩ (.int .i64 (-1))) o u d a (x.to (-1))∧Fr (fun v=>v=t∨v=u) w o ((w.setCell ⟨b,4,none⟩ (.int .i64 x.head)).setCell ⟨d,4,none⟩ (.int .i64 (-1))) o from
  ⟨⟨⟨hok.1,hok.2.1,hok.2.2.1,kok.2.2.2.1,show x.head<s.per by have:=kok.2.2.2.2;omega⟩,q3⟩,⟨⟨kok.1,kok.2.1,kok.2.2.1,Int.le_refl _,show (-1:Int)<x.per by have:=kok.2.2.1.1;omega⟩,q4⟩,hF⟩)
 clear h k q1 q2 q3 q4 hF hok kok;generalize s.head=sh at *;go_enter Tryz.func249,Tryz.ntmps249
 go_wp2_with fail;go_ret
 exact⟨rfl,hfin.out⟩
end
section
open Go.RowKit
theorem cnMove(b a:Nat)(base:Int)(w:World){o:Nat→Tag}{t u:Tag}{s:CnS}{B:List UInt8}{m:Nat}(h:CnAt w o t b a s)(ha:ArAt w o u a B m)(hl:liesB B.length base s.unit s.per=true) :
  Calls Tryz.prog 224 #[.pointer (some ⟨b,0,none⟩),.int .i64 base] w fun e w'=>e=.returned (.int .i64 0)∧CnAt w' o t b a ⟨base,s.unit,s.per,s.head⟩∧Fr (· = t) w o w' o:=by
 have c0:w.drew.cell? ⟨b,0,none⟩=some (.pointer (some ⟨a,0,none⟩)):=h.2.cell' (i:=0) rfl;have c1:w.cell? ⟨b,1,none⟩=some (.int .i64 s.base):=h.2.cell' (i:=1) rfl;have c2:w.drew.cell? ⟨b,2,none⟩=some (.int .i64 s.unit):=h.2.cell' (i:=2) rfl;have c3:w.drew.cell? ⟨b,3,none⟩=some (.int .i64 s.per):=h.2.cell' (i:=3) rfl;have f1:=h.2.free 1;have hok:=h.1;have hs:=HD (cnLies a base s.unit s.per w.drew (ha.fr (S:=fun _=>False) Fr.drew ⟨fun _ _ q=>q,fun q=>q⟩) (by have:=hok.2.1;omega) (by have:=hok.2.2.1;omega));rw [hl] at hs;have hsz:=ha.sz;have hl':=hl;unfold liesB at hl';simp only [decide_eq_true_eq] at hl';have hfin:=HD (show CnAt (w.drew.setCell ⟨b,1,none⟩ (.int .i64 base)) o t b a ⟨base,s.unit,s.per,s.head⟩∧Fr (· = t) w o (w.drew.setCell ⟨b,1,none⟩ (.int .i64 base)) o from
  ⟨⟨⟨⟨hl'.1,show base≤2097152 by omega⟩,hok.2⟩,h.2.drew.set 1 _⟩,Fr.drew.trans (Fr.setCell (fun _=>h.2.1) _)⟩)
 clear h ha hl hok hl' hsz;generalize s.unit=y at *;generalize s.per=p at *;go_enter Tryz.func224,Tryz.ntmps224
 go_wp2_with fail;refine wp_region_still_lit (by kernel_rfl) (by kernel_rfl) ?_;repeat still_step
 still_call hs.out
 repeat still_step
 refine wpStill_nil ?_;change Exit.then _ _ _ _ w.drew;go_wp2_with fail;go_ret
 exact⟨rfl,hfin.out⟩
end
section
open Go.RowKit
def CnPost(w:World)(o:Nat→Tag)(t u:Tag)(b a:Nat)(v:Value)(s:CnS)(B:List UInt8)(m:Nat)(e:Ending)(w':World):Prop :=
 e=.returned v∧CnAt w' (newO o w u) t b a s∧ArAt w' (newO o w u) u a B m∧Fr (fun v=>v=t∨Und u v) w o w' (newO o w u)
def CnS.at(s:CnS)(k:Int):Int:=s.base+k*s.unit
theorem cnPush(b a:Nat)(k:Int)(w:World){o:Nat→Tag}{t u:Tag}{s:CnS}{B:List UInt8}{m:Nat}(h:CnAt w o t b a s)(ha:ArAt w o u a B m)(hm:m≤1000000)
  (hk:0≤k∧k<s.per) (he:hasE B.length (s.at k) 8=0) (htu:¬Und u t) (h9:t≠[9]) :
  Calls Tryz.prog 237 #[.pointer (some ⟨b,0,none⟩),.int .i64 k] w (CnPost w o t u b a (.int .i64 0) (s.to k) (stB B (s.at k) (s.head+1).toNat) (m+1)):=by
 have hok:=h.1;obtain⟨o1,o2,o3,o4,o5⟩:=hok;have c0:w.drew.cell? ⟨b,0,none⟩=some (.pointer (some ⟨a,0,none⟩)):=h.2.cell' (i:=0) rfl;have c3:w.cell? ⟨b,3,none⟩=some (.int .i64 s.per):=h.2.cell' (i:=3) rfl;have c4:w.drew.cell? ⟨b,4,none⟩=some (.int .i64 s.head):=h.2.cell' (i:=4) rfl;have hd:CnAt w.drew o t b a s:=⟨h.1,h.2⟩
 have ht:=HD (cnAt b a k w.drew hd (by omega));have had:ArAt w.drew.drew o u a B m:=(ha.fr (S:=fun _=>False) Fr.drew ⟨fun _ _ q=>q,fun q=>q⟩).fr (S:=fun _=>False) Fr.drew ⟨fun _ _ q=>q,fun q=>q⟩;have hst:=HD (arStore a (s.at k) (s.head+1).toNat (by omega) w.drew.drew had hm);rw [he] at hst;have hto:(((s.head+1).toNat:Nat):Int)=IntKind.u64.wrap (IntKind.i64.wrap (s.head+1)):=by rw [IntWalk.i64_in _ (by omega),IntWalk.u64_in _ (by omega)];omega
 rw [hto] at hst;have hfin:=HD (show ∀w1:World,ArAt w1 (newO o w u) u a (stB B (s.at k) (s.head+1).toNat) (m+1)→Fr (Und u) w.drew.drew o w1 (newO o w u) →
   w1.cell? ⟨b,0,none⟩=some (.pointer (some ⟨a,0,none⟩))∧w1.cell? ⟨b,4,none⟩=some (.int .i64 s.head)∧w1.frozen? ⟨b,4,none⟩=false ∧
   CnPost w o t u b a (.int .i64 0) (s.to k) (stB B (s.at k) (s.head+1).toNat) (m+1) (.returned (.int .i64 0)) (w1.setCell ⟨b,4,none⟩ (.int .i64 k)) from fun w1 r1 r2=>by
  have f:=(Fr.drew.trans Fr.drew).trans r2 (o1:=o) (w:=w);have q:=h.2.fr f htu;refine⟨q.cell' (i:=0) rfl,q.cell' (i:=4) rfl,q.free 4,rfl,⟨⟨o1,o2,o3,by show -1≤k;omega,by show k<s.per;omega⟩,q.set 4 _⟩,r1.fr (S:=(· = t)) (Fr.setCell (fun _=>q.1) _) ⟨fun v hv e=>htu (by rw [←e];exact hv),fun e=>h9 e.symm⟩,(f.mono (fun v hv=>.inr hv)).set' (fun _=>.inl h.2.1) _⟩)
 clear h ha hd had o1 o2 o4 o5;go_enter Tryz.func237,Tryz.ntmps237
 go_wp2_with fail;refine wp_region_noPanic ?_;refine wp_region_held_drew (S:=(fun W=>W.cell? ⟨b,0,none⟩=some (.pointer (some ⟨a,0,none⟩))∧W.cell? ⟨b,4,none⟩=some (.int .i64 s.head))) (by kernel_rfl) ?_ (fun hHeld=>?_)
 ·(first|exact⟨c0,c4⟩|exact hcs)
 refine tkH 0 (h:=?_);refine tkH 1 (h:=?_);refine tkH 2 (h:=?_);refine tkH 3 (h:=?_);refine tkH 4 (h:=?_);refine tkH 5 (h:=?_);refine tkH 7 (h:=?_);refine tkH 8 (h:=?_);refine tkH 9 (h:=?_);refine tkH 10 (h:=?_);refine tkH 11 (h:=?_);refine tkH 12 (h:=?_);refine onH 6 (h:=fun K hK=>?_);go_simp;refine ht.out.mono ?_;rintro e w1 ⟨rfl,rfl⟩;go_wp2_with fail;refine hK.out _ _ ?_ (fun hHeld=>?_)
 ·(first|exact⟨c0,c4⟩|exact hcs)
 clear hK;refine nmH (h:=?_);refine onH 13 (h:=fun K hK=>?_);go_simp;refine hst.out.mono ?_;rintro e w1 ⟨rfl,r1,r2⟩;have hf:=HD (hfin.out w1 r1 r2);have hcs:w1.cell? ⟨b,0,none⟩=some (.pointer (some ⟨a,0,none⟩))∧w1.cell? ⟨b,4,none⟩=some (.int .i64 s.head):=⟨hf.out.1,hf.out.2.1⟩
 clear r1 r2;go_wp2_with fail;refine hK.out _ _ ?_ (fun hHeld=>?_)
 ·(first|exact⟨c0,c4⟩|exact hcs)
 clear hK;refine nmH (h:=?_);refine tkH 14 (h:=?_);refine wpAnyH_done (by kernel_rfl) ?_ _;refine NoPanic.normal ?_;have hfz:=hf.out.2.2.1;obtain⟨hc0,hc4⟩:=hcs;go_wp2_with fail;go_ret
 exact hf.out.2.2.2
end
section
open Go.RowKit
theorem cnNext(b a:Nat)(k:Int)(w:World){o:Nat→Tag}{t u:Tag}{s:CnS}{B:List UInt8}{m:Nat}(h:CnAt w o t b a s)(ha:ArAt w o u a B m)(hm:m≤1000000)
  (hk:0≤k∧k<s.per) (he:hasE B.length (s.at k) 8=0) (hv:(ldV B (s.at k):Int)≤s.per) (htu:¬Und u t) :
  Calls Tryz.prog 246 #[.pointer (some ⟨b,0,none⟩),.int .i64 k] w (CnPost w o t u b a (.tuple #[.int .i64 ((ldV B (s.at k):Nat)-1:Int),.int .i64 0]) s B (m+1)):=by
 have hok:=h.1;obtain⟨o1,o2,o3,o4,o5⟩:=hok;have c0:w.drew.cell? ⟨b,0,none⟩=some (.pointer (some ⟨a,0,none⟩)):=h.2.cell' (i:=0) rfl;have hd:CnAt w.drew o t b a s:=⟨h.1,h.2⟩
 have ht:=HD (cnAt b a k w.drew hd (by omega));have had:ArAt w.drew.drew o u a B m:=(ha.fr (S:=fun _=>False) Fr.drew ⟨fun _ _ q=>q,fun q=>q⟩).fr (S:=fun _=>False) Fr.drew ⟨fun _ _ q=>q,fun q=>q⟩;have hst:=HD (arLoad a (s.at k) w.drew.drew had hm);rw [he] at hst;have hfin:=HD (show ∀w1:World,ArAt w1 (newO o w u) u a B (m+1)→Fr (Und u) w.drew.drew o w1 (newO o w u) →
   w1.cell? ⟨b,0,none⟩=some (.pointer (some ⟨a,0,none⟩))∧w1.cell? ⟨b,3,none⟩=some (.int .i64 s.per) ∧
   CnPost w o t u b a (.tuple #[.int .i64 ((ldV B (s.at k):Nat)-1:Int),.int .i64 0]) s B (m+1) (.returned (.tuple #[.int .i64 ((ldV B (s.at k):Nat)-1:Int),.int .i64 0])) w1 from fun w1 r1 r2=>by
  have f:=(Fr.drew.trans Fr.drew).trans r2 (o1:=o) (w:=w);have q:=h.2.fr f htu;exact⟨q.cell' (i:=0) rfl,q.cell' (i:=3) rfl,rfl,⟨⟨o1,o2,o3,o4,o5⟩,q⟩,r1,(f.mono (fun v hv=>.inr hv))⟩)
 generalize ldV B (s.at k)=x at *;have u1:=IntWalk.i64_in (x:Int) (by omega);have u2:=IntWalk.i64_in ((x:Int)-1) (by omega);have u3:=IntWalk.u64_in s.per (by omega);clear h ha hd had o2 o4 o5;generalize s.per=per at *;go_enter Tryz.func246,Tryz.ntmps246
 go_wp2_with fail;refine wp_region_noPanic ?_;refine wp_region_held_drew (S:=(fun W=>W.cell? ⟨b,0,none⟩=some (.pointer (some ⟨a,0,none⟩)))) (by kernel_rfl) ?_ (fun hHeld=>?_)
 ·(first|exact c0|exact hcs)
 refine tkH 0 (h:=?_);refine tkH 1 (h:=?_);refine tkH 2 (h:=?_);refine tkH 3 (h:=?_);refine tkH 4 (h:=?_);refine tkH 5 (h:=?_);refine onH 6 (h:=fun K hK=>?_);go_simp;refine ht.out.mono ?_;rintro e w1 ⟨rfl,rfl⟩;go_wp2_with fail;refine hK.out _ _ ?_ (fun hHeld=>?_)
 ·(first|exact c0|exact hcs)
 clear hK;refine nmH (h:=?_);refine onH 7 (h:=fun K hK=>?_);go_simp;refine hst.out.mono ?_;rintro e w1 ⟨rfl,r1,r2⟩;have hf:=HD (hfin.out w1 r1 r2);have hcs:=hf.out.1;clear r1 r2;go_wp2_with fail;refine hK.out _ _ ?_ (fun hHeld=>?_)
 ·(first|exact c0|exact hcs)
 clear hK;refine nmH (h:=?_);refine tkH 8 (h:=?_);refine tkH 9 (h:=?_);refine tkH 10 (h:=?_);refine tkH 11 (h:=?_);refine tkH 12 (h:=?_);refine wpAnyH_done (by kernel_rfl) ?_ _;refine NoPanic.normal ?_;have hc3:=hf.out.2.1;go_wp2_with fail;go_ret2
 exact hf.out.2.2
theorem cnPop(b a:Nat)(w:World){o:Nat→Tag}{t u:Tag}{s:CnS}{B:List UInt8}{m:Nat}(h:CnAt w o t b a s)(ha:ArAt w o u a B m)(hm:m<1000000)
  (hk:0≤s.head) (he:hasE B.length (s.at s.head) 8=0) (hv:(ldV B (s.at s.head):Int)≤s.per) (htu:¬Und u t) (h9:t≠[9]) :
  Calls Tryz.prog 231 #[.pointer (some ⟨b,0,none⟩)] w (CnPost w o t u b a (.tuple #[.int .i64 s.head,.int .i64 0]) (s.to ((ldV B (s.at s.head):Nat)-1:Int)) (stB B (s.at s.head) 0) (m+2)):=by
 have hok:=h.1;obtain⟨o1,o2,o3,o4,o5⟩:=hok;have c4:w.cell? ⟨b,4,none⟩=some (.int .i64 s.head):=h.2.cell' (i:=4) rfl;have hn:=HD (cnNext b a s.head w h ha (by omega) ⟨hk,o5⟩ he hv htu);generalize hx:ldV B (s.at s.head)=x at *;have hfin:=HD (show ∀w1:World,CnPost w o t u b a (.tuple #[.int .i64 ((x:Nat)-1:Int),.int .i64 0]) s B (m+1) (.returned (.tuple #[.int .i64 ((x:Nat)-1:Int),.int .i64 0])) w1 →
   w1.frozen? ⟨b,4,none⟩=false∧w1.cell? ⟨b,4,none⟩=some (.int .i64 s.head) ∧
   (w1.setCell ⟨b,4,none⟩ (.int .i64 ((x:Nat)-1:Int))).drew.cell? ⟨b,0,none⟩=some (.pointer (some ⟨a,0,none⟩)) ∧
   Calls Tryz.prog 248 #[.pointer (some ⟨b,0,none⟩),.int .i64 s.head] (w1.setCell ⟨b,4,none⟩ (.int .i64 ((x:Nat)-1:Int))).drew (fun e w'=>e=.returned (.int .i64 (s.base+s.head*s.unit))∧w'=(w1.setCell ⟨b,4,none⟩ (.int .i64 ((x:Nat)-1:Int))).drew.drew) ∧
   Calls Tryz.prog 247 #[.pointer (some ⟨a,0,none⟩),.int .i64 (s.at s.head),.int .u64 0] (w1.setCell ⟨b,4,none⟩ (.int .i64 ((x:Nat)-1:Int))).drew.drew (fun e w2=>e=.returned (.int .i64 0) ∧
    w2.cell? ⟨b,0,none⟩=some (.pointer (some ⟨a,0,none⟩)) ∧
    CnPost w o t u b a (.tuple #[.int .i64 s.head,.int .i64 0]) (s.to ((x:Nat)-1:Int)) (stB B (s.at s.head) 0) (m+2) (.returned (.tuple #[.int .i64 s.head,.int .i64 0])) w2) from fun w1 r=>by
  obtain⟨_,r1,r2,r3⟩:=r;have q2:CnAt (w1.setCell ⟨b,4,none⟩ (.int .i64 ((x:Nat)-1:Int))) (newO o w u) t b a (s.to ((x:Nat)-1:Int)):=⟨⟨o1,o2,o3,by show -1≤(x:Int)-1;omega,by show (x:Int)-1<s.per;omega⟩,r1.2.set 4 _⟩
  have hob:newO o w u b=t:=r1.2.1;have q3:=r2.fr (S:=(· = t)) (Fr.setCell (p:=⟨b,4,none⟩) (fun _=>hob) (.int .i64 ((x:Nat)-1:Int))) ⟨fun v hv e=>htu (by rw [←e];exact hv),fun e=>h9 e.symm⟩;have q5:ArAt (w1.setCell ⟨b,4,none⟩ (.int .i64 ((x:Nat)-1:Int))).drew.drew (newO o w u) u a B (m+1):=(q3.fr (S:=fun _=>False) Fr.drew ⟨fun _ _ q=>q,fun q=>q⟩).fr (S:=fun _=>False) Fr.drew ⟨fun _ _ q=>q,fun q=>q⟩;have f1:Fr (fun v=>v=t∨Und u v) w o (w1.setCell ⟨b,4,none⟩ (.int .i64 ((x:Nat)-1:Int))).drew.drew (newO o w u):=(r3.trans (Fr.setCell (fun _=>.inl hob) _)).drew'.drew';have q6:CnAt (w1.setCell ⟨b,4,none⟩ (.int .i64 ((x:Nat)-1:Int))).drew (newO o w u) t b a (s.to ((x:Nat)-1:Int)):=⟨q2.1,q2.2⟩
  refine⟨r1.2.free 4,r1.2.cell' (i:=4) rfl,q2.2.cell' (i:=0) rfl,cnAt (s:=s.to ((x:Nat)-1:Int)) b a s.head _ q6 (by omega),?_⟩;have hs:=arStore a (s.at s.head) 0 (by omega) (w1.setCell ⟨b,4,none⟩ (.int .i64 ((x:Nat)-1:Int))).drew.drew q5 (by omega);rw [he] at hs;refine hs.mono ?_;rintro e w2 ⟨rfl,g1,g2⟩;have hsz:w.heap.size≤(w1.setCell ⟨b,4,none⟩ (.int .i64 ((x:Nat)-1:Int))).drew.drew.heap.size:=f1.size;have eo:newO (newO o w u) (w1.setCell ⟨b,4,none⟩ (.int .i64 ((x:Nat)-1:Int))).drew.drew u=newO o w u:=by
   funext j;unfold newO;split<;>split<;>first|rfl|omega
  rw [eo] at g1 g2;have g3:CnAt w2 (newO o w u) t b a (s.to ((x:Nat)-1:Int)):=CnAt.fr (w:=(w1.setCell ⟨b,4,none⟩ (.int .i64 ((x:Nat)-1:Int))).drew.drew) ⟨q6.1,q6.2⟩ g2 htu;exact⟨rfl,g3.2.cell' (i:=0) rfl,rfl,g3,g1,f1.trans (g2.mono fun v hv=>.inr hv)⟩)
 clear h ha o1 o2 o3 o4 o5 hx;generalize s.head=sh at *;go_enter Tryz.func231,Tryz.ntmps231
 go_wp2_with fail;refine hn.out.mono ?_;rintro e w1 hp;have hp1:=HD hp;obtain⟨rfl,hp⟩:=hp;clear hp;have hq:=hfin.out w1 hp1.out;obtain⟨hfz,z4,z0,ht0,hst0⟩:=hq;have ht:=HD ht0;have hst:=HD hst0;clear ht0 hst0;go_wp2_with fail;refine wp_region_noPanic ?_;refine wp_region_held_drew (S:=(fun W=>W.cell? ⟨b,0,none⟩=some (.pointer (some ⟨a,0,none⟩)))) (by kernel_rfl) ?_ (fun hHeld=>?_)
 ·(first|exact z0|exact hcs)
 refine tkH 0 (h:=?_);refine tkH 1 (h:=?_);refine tkH 2 (h:=?_);refine tkH 3 (h:=?_);refine tkH 4 (h:=?_);refine tkH 5 (h:=?_);refine tkH 6 (h:=?_);refine onH 7 (h:=fun K hK=>?_);go_simp;refine ht.out.mono ?_;rintro e w2 ⟨rfl,rfl⟩;go_wp2_with fail;refine hK.out _ _ ?_ (fun hHeld=>?_)
 ·(first|exact z0|exact hcs)
 clear hK;refine nmH (h:=?_);refine onH 8 (h:=fun K hK=>?_);go_simp;refine hst.out.mono ?_;rintro e w2 ⟨rfl,hcs,hf2⟩;go_wp2_with fail;refine hK.out _ _ ?_ (fun hHeld=>?_)
 ·(first|exact z0|exact hcs)
 clear hK;refine nmH (h:=?_);refine tkH 9 (h:=?_);refine tkH 10 (h:=?_);refine wpAnyH_done (by kernel_rfl) ?_ _;refine NoPanic.normal ?_;go_wp2_with fail;go_ret2
 exact hf2
end
section
def smallT(c:Int):Int:=if c=0 then 16 else if c=1 then 32 else if c=2 then 48 else if c=3 then 64 else if c=4 then 96 else if c=5 then 128 else if c=6 then 192 else 256
def unitT(c:Int):Int:=if c<0∨23<c then 0 else if c<8 then smallT c else (c-7)*512
def kindT(n:Int):Int:=if n<1∨8192<n then -1 else if n≤16 then 0 else if n≤32 then 1 else if n≤48 then 2 else if n≤64 then 3 else if n≤96 then 4 else if n≤128 then 5 else if n≤192 then 6 else if n≤256 then 7 else 8+(n-1)/512
def perT(c:Int):Int:=if c=0 then 32 else if c=1 then 16 else if c=2 then 10 else if c=3 then 8 else if c=4 then 5 else if c=5 then 4 else if c=6 then 2 else if c=7 then 2 else 0
def pagesT(c:Int):Int:=if c<0∨23<c then 0 else if c<8 then 1 else c-7
def alignT(c:Int):Int:=if c<0∨23<c then 0 else if c=0 then 16 else if c=1 then 32 else if c=2 then 16 else if c=3 then 64 else if c=4 then 32 else if c=5 then 128 else if c=6 then 64 else if c=7 then 256 else 512
def chargeT(n:Int):Int:=unitT (kindT n)
theorem small_cases{c:Int}(h0:0≤c)(h7:c≤7):(c=0∧smallT c=16)∨(c=1∧smallT c=32)∨(c=2∧smallT c=48)∨(c=3∧smallT c=64)∨(c=4∧smallT c=96)∨(c=5∧smallT c=128)∨(c=6∧smallT c=192)∨(c=7∧smallT c=256):=by
 rcases(by omega:c=0∨c=1∨c=2∨c=3∨c=4∨c=5∨c=6∨c=7) with rfl|rfl|rfl|rfl|rfl|rfl|rfl|rfl<;>simp [smallT]
theorem unit_out{c:Int}(h:c<0∨23<c):unitT c=0:=by unfold unitT;rw [if_pos h]
theorem unit_small{c:Int}(h0:0≤c)(h7:c≤7):unitT c=smallT c:=by unfold unitT;rw [if_neg (by omega),if_pos (by omega)]
theorem unit_run{c:Int}(h0:8≤c)(h7:c≤23):unitT c=(c-7)*512:=by unfold unitT;rw [if_neg (by omega),if_neg (by omega)]
theorem kind_out{n:Int}(h:n<1∨8192<n):kindT n=-1:=by unfold kindT;rw [if_pos h]
theorem kind_run{n:Int}(h0:256<n)(h:n≤8192):kindT n=8+(n-1)/512:=by
 unfold kindT;rw [if_neg (by omega),if_neg (by omega),if_neg (by omega),if_neg (by omega),if_neg (by omega),if_neg (by omega),if_neg (by omega),if_neg (by omega),if_neg (by omega)]
theorem kind_small{n:Int}(h0:1≤n)(h:n≤256):0≤kindT n∧kindT n≤7∧n≤smallT (kindT n)∧∀c,0≤c→c<kindT n→smallT c<n:=by
 have key:∀k:Int,0≤k→k≤7→kindT n=k→n≤smallT k→(∀c,0≤c→c<k→smallT c<n)→0≤kindT n∧kindT n≤7∧n≤smallT (kindT n)∧∀c,0≤c→c<kindT n→smallT c<n:=by
  intro k k0 k7 e h1 h2;rw [e];exact⟨k0,k7,h1,h2⟩
 have low:∀k:Int,k≤7→(1≤k→smallT (k-1)<n)→∀c,0≤c→c<k→smallT c<n:=by
  intro k k7 hk c c0 ck;have a:=small_cases c0 (by omega);have b:=small_cases (c:=k-1) (by omega) (by omega);have:=hk (by omega);omega
 unfold kindT at key ⊢;rw [if_neg (by omega:¬(n<1∨8192<n))] at key ⊢;by_cases g0:n≤16
 ·exact key 0 (by omega) (by omega) (by rw [if_pos g0]) (by simpa [smallT] using g0) (low 0 (by omega) (fun q=>by omega))
 by_cases g1:n≤32
 ·exact key 1 (by omega) (by omega) (by rw [if_neg g0,if_pos g1]) (by simpa [smallT] using g1) (low 1 (by omega) (fun _=>by simp [smallT];omega))
 by_cases g2:n≤48
 ·exact key 2 (by omega) (by omega) (by rw [if_neg g0,if_neg g1,if_pos g2]) (by simpa [smallT] using g2) (low 2 (by omega) (fun _=>by simp [smallT];omega))
 by_cases g3:n≤64
 ·exact key 3 (by omega) (by omega) (by rw [if_neg g0,if_neg g1,if_neg g2,if_pos g3]) (by simpa [smallT] using g3) (low 3 (by omega) (fun _=>by simp [smallT];omega))
 by_cases g4:n≤96
 ·exact key 4 (by omega) (by omega) (by rw [if_neg g0,if_neg g1,if_neg g2,if_neg g3,if_pos g4]) (by simpa [smallT] using g4) (low 4 (by omega) (fun _=>by simp [smallT];omega))
 by_cases g5:n≤128
 ·exact key 5 (by omega) (by omega) (by rw [if_neg g0,if_neg g1,if_neg g2,if_neg g3,if_neg g4,if_pos g5]) (by simpa [smallT] using g5) (low 5 (by omega) (fun _=>by simp [smallT];omega))
 by_cases g6:n≤192
 ·exact key 6 (by omega) (by omega) (by rw [if_neg g0,if_neg g1,if_neg g2,if_neg g3,if_neg g4,if_neg g5,if_pos g6]) (by simpa [smallT] using g6) (low 6 (by omega) (fun _=>by simp [smallT];omega))
 ·exact key 7 (by omega) (by omega) (by rw [if_neg g0,if_neg g1,if_neg g2,if_neg g3,if_neg g4,if_neg g5,if_neg g6,if_pos h]) (by simpa [smallT] using h) (low 7 (by omega) (fun _=>by simp [smallT];omega))
theorem kind_eq{n c:Int}(h0:1≤n)(h:n≤256)(c0:0≤c)(c7:c≤7)(hc:n≤smallT c)(hl:1≤c→smallT (c-1)<n):kindT n=c:=by
 obtain⟨k0,k7,hk,hlow⟩:=kind_small h0 h;rcases Int.lt_trichotomy (kindT n) c with g|g|g
 ·have:=hl (by omega)
  have a:=small_cases k0 k7;have b:=small_cases (c:=c-1) (by omega) (by omega);omega
 ·exact g
 ·have:=hlow c c0 g;omega
theorem per_cases{c:Int}(h0:0≤c)(h7:c≤7):(c=0∧perT c=32)∨(c=1∧perT c=16)∨(c=2∧perT c=10)∨(c=3∧perT c=8)∨(c=4∧perT c=5)∨(c=5∧perT c=4)∨(c=6∧perT c=2)∨(c=7∧perT c=2):=by
 rcases(by omega:c=0∨c=1∨c=2∨c=3∨c=4∨c=5∨c=6∨c=7) with rfl|rfl|rfl|rfl|rfl|rfl|rfl|rfl<;>simp [perT]
theorem per_out{c:Int}(h:c<0∨7<c):perT c=0:=by
 unfold perT;rw [if_neg (by omega),if_neg (by omega),if_neg (by omega),if_neg (by omega),if_neg (by omega),if_neg (by omega),if_neg (by omega),if_neg (by omega)]
theorem pages_out{c:Int}(h:c<0∨23<c):pagesT c=0:=by unfold pagesT;rw [if_pos h]
theorem pages_small{c:Int}(h0:0≤c)(h7:c≤7):pagesT c=1:=by unfold pagesT;rw [if_neg (by omega),if_pos (by omega)]
theorem pages_run{c:Int}(h0:8≤c)(h7:c≤23):pagesT c=c-7:=by unfold pagesT;rw [if_neg (by omega),if_neg (by omega)]
theorem unit_bound(c:Int):0≤unitT c∧unitT c≤8192:=by
 by_cases h:c<0∨23<c
 ·rw [unit_out h];omega
 ·by_cases h7:c≤7
  ·rw [unit_small (by omega) h7]
   have:=small_cases (by omega:0≤c) h7;omega
  ·rw [unit_run (by omega) (by omega)];omega
theorem unit_kind{n:Int}(h0:1≤n)(h:n≤8192):0≤kindT n∧kindT n≤23∧n≤unitT (kindT n)∧∀c,0≤c→c<kindT n→unitT c<n:=by
 by_cases h':n≤256
 ·obtain⟨k0,k7,hk,hl⟩:=kind_small h0 h'
  refine⟨k0,by omega,by rw [unit_small k0 k7];exact hk,fun c c0 ck=>?_⟩;rw [unit_small c0 (by omega)];exact hl c c0 ck
 ·rw [kind_run (by omega) h]
  refine⟨by omega,by omega,by rw [unit_run (by omega) (by omega)];omega,fun c c0 ck=>?_⟩;by_cases c7:c≤7
  ·rw [unit_small c0 c7]
   have:=small_cases c0 c7;omega
  ·rw [unit_run (by omega) (by omega)];omega
end
section
open Go.RowKit
attribute [local irreducible] smallT unitT kindT perT pagesT alignT chargeT
theorem small_any(c:Int)(w:World)(h0:0≤c)(h7:c≤7) :
  Calls Tryz.prog 151 #[.int .i64 c] w fun e w'=>e=.returned (.int .i64 (smallT c))∧w'=w:=by
 rcases small_cases h0 h7 with ⟨rfl,e⟩|⟨rfl,e⟩|⟨rfl,e⟩|⟨rfl,e⟩|⟨rfl,e⟩|⟨rfl,e⟩|⟨rfl,e⟩|⟨rfl,e⟩
 all_goals
  rw [e];clear e h0 h7;go_enter Tryz.func151,Tryz.ntmps151
  go_wp2
  go_ret
  exact⟨rfl,rfl⟩
end
section
open Go.RowKit
attribute [local irreducible] smallT unitT kindT perT pagesT alignT chargeT
theorem within_yes(c:Int)(w:World)(h0:0≤c)(h7:c≤23) :
  Calls Tryz.prog 209 #[.int .i64 c] w fun e w'=>e=.returned (.bool true)∧w'=w:=by
 go_enter Tryz.func209,Tryz.ntmps209
 go_wp2
 go_ret
 exact⟨by simp;omega,rfl⟩
theorem within_no(c:Int)(w:World)(h:c<0∨23<c) :
  Calls Tryz.prog 209 #[.int .i64 c] w fun e w'=>e=.returned (.bool false)∧w'=w:=by
 rcases h with h|h
 ·go_enter Tryz.func209,Tryz.ntmps209
  go_wp2
  go_ret
  exact⟨rfl,rfl⟩
 ·have h0:0≤c:=by omega
  go_enter Tryz.func209,Tryz.ntmps209
  go_wp2
  go_ret
  exact⟨by simp;omega,rfl⟩
theorem pages_any(c:Int)(w:World) :
  Calls Tryz.prog 210 #[.int .i64 c] w fun e w'=>e=.returned (.int .i64 (pagesT c))∧w'=w:=by
 by_cases hc:c<0∨23<c
 ·rw [pages_out hc]
  replace hc:=HD hc;go_enter Tryz.func210,Tryz.ntmps210
  go_wp2_with (go_at_call 209;refine(within_no _ _ hc.out).mono ?_;rintro e w' ⟨rfl,hw⟩;obtain rfl:=hw.symm)
  go_ret
  exact⟨rfl,rfl⟩
 ·have h0:0≤c:=by omega
  have h1:c≤23:=by omega
  clear hc;by_cases h7:c≤7
  ·rw [pages_small h0 h7]
   have hm:¬(1<c-8+1):=by omega
   go_enter Tryz.func210,Tryz.ntmps210
   go_wp2_with (go_at_call 209;refine(within_yes _ _ h0 h1).mono ?_;rintro e w' ⟨rfl,hw⟩;obtain rfl:=hw.symm)
   go_ret
   exact⟨rfl,rfl⟩
  ·rw [pages_run (by omega) h1]
   go_enter Tryz.func210,Tryz.ntmps210
   go_wp2_with (go_at_call 209;refine(within_yes _ _ h0 h1).mono ?_;rintro e w' ⟨rfl,hw⟩;obtain rfl:=hw.symm)
   all_goals
    go_ret
    exact⟨ret_eq (by omega),rfl⟩
theorem unit_any(c:Int)(w:World) :
  Calls Tryz.prog 153 #[.int .i64 c] w fun e w'=>e=.returned (.int .i64 (unitT c))∧w'=w:=by
 by_cases hc:c<0∨23<c
 ·rw [unit_out hc]
  replace hc:=HD hc;go_enter Tryz.func153,Tryz.ntmps153
  go_wp2_with (go_at_call 209;refine(within_no _ _ hc.out).mono ?_;rintro e w' ⟨rfl,hw⟩;obtain rfl:=hw.symm)
  go_ret
  exact⟨rfl,rfl⟩
 ·have h0:0≤c:=by omega
  have h1:c≤23:=by omega
  clear hc;by_cases h7:c≤7
  ·rw [unit_small h0 h7]
   go_enter Tryz.func153,Tryz.ntmps153
   go_wp2_with (first|(go_at_call 209;refine(within_yes _ _ h0 h1).mono ?_;rintro e w' ⟨rfl,hw⟩;obtain rfl:=hw.symm)|(go_at_call 151;refine(small_any _ _ h0 h7).mono ?_;rintro e w' ⟨rfl,hw⟩;obtain rfl:=hw.symm))
   go_ret
   exact⟨rfl,rfl⟩
  ·rw [unit_run (by omega) h1]
   have hp:=HD (pages_run (by omega:8≤c) h1);have hp':∀w,Calls Tryz.prog 210 #[.int .i64 c] w fun e w'=>e=.returned (.int .i64 (c-7))∧w'=w:=by
    intro w;have:=pages_any c w;rwa [hp.out] at this
   replace hp':=HD hp';go_enter Tryz.func153,Tryz.ntmps153
   go_wp2_with (first|(go_at_call 209;refine(within_yes _ _ h0 h1).mono ?_;rintro e w' ⟨rfl,hw⟩;obtain rfl:=hw.symm)|(go_at_call 210;refine(hp'.out _).mono ?_;rintro e w' ⟨rfl,hw⟩;obtain rfl:=hw.symm))
   go_ret
   exact⟨rfl,rfl⟩
theorem per_any(c:Int)(w:World) :
  Calls Tryz.prog 166 #[.int .i64 c] w fun e w'=>e=.returned (.int .i64 (perT c))∧w'=w:=by
 by_cases hc:c<0∨7<c
 ·rw [per_out hc]
  by_cases hd:c<0∨23<c
  ·replace hd:=HD hd
   clear hc;go_enter Tryz.func166,Tryz.ntmps166
   go_wp2_with (go_at_call 209;refine(within_no _ _ hd.out).mono ?_;rintro e w' ⟨rfl,hw⟩;obtain rfl:=hw.symm)
   go_ret
   exact⟨rfl,rfl⟩
  ·have h0:0≤c:=by omega
   have h1:c≤23:=by omega
   have h2:8≤c:=by omega
   clear hc hd;go_enter Tryz.func166,Tryz.ntmps166
   go_wp2_with (go_at_call 209;refine(within_yes _ _ h0 h1).mono ?_;rintro e w' ⟨rfl,hw⟩;obtain rfl:=hw.symm)
   go_ret
   exact⟨rfl,rfl⟩
 ·rcases per_cases (by omega:0≤c) (by omega:c≤7) with ⟨rfl,e⟩|⟨rfl,e⟩|⟨rfl,e⟩|⟨rfl,e⟩|⟨rfl,e⟩|⟨rfl,e⟩|⟨rfl,e⟩|⟨rfl,e⟩
  all_goals
   rw [e];clear hc e;go_enter Tryz.func166,Tryz.ntmps166
   go_wp2
   go_ret
   exact⟨rfl,rfl⟩
end
section
open Go.RowKit
theorem ArAt.drew{w:World}{o:Nat→Tag}{t:Tag}{b:Nat}{B:List UInt8}{m:Nat}(h:ArAt w o t b B m):ArAt w.drew o t b B m:=h.fr (S:=fun _=>False) Fr.drew ⟨fun _ _ q=>q,fun q=>q⟩
theorem ShAt.drew{w:World}{o:Nat→Tag}{t:Tag}{b:Nat}{s:ShS}(h:ShAt w o t b s):ShAt w.drew o t b s:=h.fr (S:=fun _=>False) Fr.drew ⟨fun _ _ q=>q,fun q=>q⟩
theorem CnAt.drew{w:World}{o:Nat→Tag}{t:Tag}{b a:Nat}{s:CnS}(h:CnAt w o t b a s):CnAt w.drew o t b a s:=⟨h.1,h.2⟩
structure PgS where
 base:Int
 kind:Int
 fresh:Nat
 had:ShS
 ready:List Nat
 waiting:List Nat
def hd:List Nat→Int
 |[]=>-1
 |k :: _=>k
def PgS.per(p:PgS):Int:=perT p.kind
def PgS.unit(p:PgS):Int:=unitT p.kind
def PgS.cn(p:PgS)(l:List Nat):CnS:=⟨p.base,p.unit,p.per,hd l⟩
def PgAt(w:World)(o:Nat→Tag)(t:Tag)(b a:Nat)(p:PgS):Prop :=
 ∃br bw bs,Blk w o t b #[.pointer (some ⟨br,0,none⟩),.pointer (some ⟨bw,0,none⟩),.pointer (some ⟨a,0,none⟩),.int .i64 p.base,.int .i64 p.kind,.int .i64 p.fresh,.pointer (some ⟨bs,0,none⟩)] 255 ∧
  CnAt w o (t++[0]) br a (p.cn p.ready)∧CnAt w o (t++[1]) bw a (p.cn p.waiting)∧ShAt w o (t++[2]) bs p.had
theorem PgAt.fr{S:Tag→Prop}{w w':World}{o o':Nat→Tag}{t:Tag}{b a:Nat}{p:PgS}(h:PgAt w o t b a p)(f:Fr S w o w' o')(hS:Off S t):PgAt w' o' t b a p:=by
 obtain⟨br,bw,bs,h1,h2,h3,h4⟩:=h;exact⟨br,bw,bs,h1.fr f hS.self,h2.fr f (hS.sub [0]).self,h3.fr f (hS.sub [1]).self,h4.fr f (hS.sub [2])⟩
theorem PgAt.drew{w:World}{o:Nat→Tag}{t:Tag}{b a:Nat}{p:PgS}(h:PgAt w o t b a p):PgAt w.drew o t b a p:=h.fr (S:=fun _=>False) Fr.drew ⟨fun _ _ q=>q,fun q=>q⟩
def PgS.has(p:PgS)(k:Int):Bool:=decide (0≤k∧k<p.had.n)&&!p.had.f k.toNat
theorem pgHas(b a:Nat)(k:Int)(w:World){o:Nat→Tag}{t:Tag}{p:PgS}(h:PgAt w o t b a p) :
  Calls Tryz.prog 208 #[.pointer (some ⟨b,0,none⟩),.int .i64 k] w fun e w'=>e=.returned (.bool (p.has k))∧w'=w:=by
 obtain⟨br,bw,bs,h1,h2,h3,h4⟩:=h;have c6:w.cell? ⟨b,6,none⟩=some (.pointer (some ⟨bs,0,none⟩)):=h1.cell' (i:=6) rfl;have ht:=HD (shTaken bs k w h4);have hfin:Hid (p.has k=(decide (0≤k∧k<p.had.n)&&!p.had.f k.toNat)):=HD rfl;rw [←hfin.out] at ht;clear h1 h2 h3 h4 hfin;go_enter Tryz.func208,Tryz.ntmps208
 go_wp2_with fail;refine SM ht.out ?_;go_wp2_with fail;go_ret
 exact⟨rfl,rfl⟩
theorem pgFull(b a:Nat)(w:World){o:Nat→Tag}{t:Tag}{p:PgS}(h:PgAt w o t b a p) :
  Calls Tryz.prog 199 #[.pointer (some ⟨b,0,none⟩)] w fun e w'=>e=.returned (.bool (decide (p.had.cnt=0)))∧w'=w:=by
 obtain⟨br,bw,bs,h1,h2,h3,h4⟩:=h;have c6:w.cell? ⟨b,6,none⟩=some (.pointer (some ⟨bs,0,none⟩)):=h1.cell' (i:=6) rfl;have ht:=HD (shFree bs w h4);have hc:decide (((p.had.cnt:Nat):Int)=0)=decide (p.had.cnt=0):=by congr 1;simp
 clear h1 h2 h3 h4;rw [←hc];clear hc;generalize p.had.cnt=c at *;go_enter Tryz.func199,Tryz.ntmps199
 go_wp2_with fail;refine SM ht.out ?_;go_wp2_with fail;go_ret
 exact⟨rfl,rfl⟩
def PgS.used(p:PgS):Int:=p.had.n-p.had.cnt
theorem pgLies(a:Nat)(base:Int)(w:World){o:Nat→Tag}{t:Tag}{B:List UInt8}{m:Nat}(h:ArAt w o t a B m)(hb:0≤base∧base%512=0∧base+512≤B.length) :
  Calls Tryz.prog 188 #[.pointer (some ⟨a,0,none⟩),.int .i64 base] w fun e w'=>e=.returned (.bool true)∧w'=w:=by
 have hs:=HD (arSize a w h);have hsz:=h.sz;clear h;obtain⟨b1,b2,b3⟩:=hb;generalize B.length=l at *;have u1:Int.tmod base 512=0:=by rw [Int.tmod_eq_emod_of_nonneg b1];exact b2
 have u2:=IntWalk.i64_in ((l:Int)-512) (by omega);have u3:base≤(l:Int)-512:=by omega
 go_enter Tryz.func188,Tryz.ntmps188
 go_wp2_with fail;refine SM hs.out ?_;go_wp2_with fail;go_ret
 exact⟨by congr 2,rfl⟩
end
section
open Go.RowKit
theorem pgUsed(b a:Nat)(w:World){o:Nat→Tag}{t:Tag}{p:PgS}(h:PgAt w o t b a p) :
  Calls Tryz.prog 206 #[.pointer (some ⟨b,0,none⟩)] w fun e w'=>e=.returned (.int .i64 p.used)∧w'=w.drew:=by
 obtain⟨br,bw,bs,h1,h2,h3,h4⟩:=h;have c6:w.drew.cell? ⟨b,6,none⟩=some (.pointer (some ⟨bs,0,none⟩)):=h1.cell' (i:=6) rfl;have hsz:=HD (shSize bs w.drew h4.drew);have hfr:=HD (shFree bs w.drew h4.drew);have hn:p.had.n≤65536:=h4.2.1;have hc:p.had.cnt≤p.had.n:=by unfold ShS.cnt;exact Nat.le_trans (List.countP_le_length) (by simp)
 have u:=IntWalk.i64_in ((p.had.n:Int)-p.had.cnt) (by omega);unfold PgS.used;clear h1 h2 h3 h4;generalize p.had.cnt=c at *;generalize p.had.n=n at *;go_enter Tryz.func206,Tryz.ntmps206
 go_wp2_with fail;refine wp_region_still_lit (by kernel_rfl) (by kernel_rfl) ?_;repeat still_step
 still_call hsz.out
 repeat still_step
 still_call hfr.out
 repeat still_step
 refine wpStill_nil ?_;change Exit.then _ _ _ _ w.drew;go_wp2_with fail;go_ret
 exact⟨rfl,rfl⟩
def PgS.coll(p:PgS):PgS:=⟨p.base,p.kind,p.fresh,p.had,p.waiting,[]⟩
theorem apps_ne{t:Tag}{i j:Nat}(h:i≠j):t++[i]≠t++[j]:=fun e=>h (by simpa using e)
theorem hd_neg{l:List Nat}:decide (hd l<0)=l.isEmpty:=by
 cases l with
 |nil=>rfl
 |cons k l=>exact decide_eq_false (show ¬((k:Nat):Int)<0 by omega)
theorem not_nine{t:Tag}(h:¬t <+: [9])(r:Tag):¬(t++r) <+: [9]:=fun q=>h (List.IsPrefix.trans (List.prefix_append t r) q)
theorem ne_nine{t:Tag}(h:¬t <+: [9])(r:Tag):t++r≠[9]:=fun q=>not_nine h r (by rw [q];exact List.prefix_refl _)
theorem pgCollect(b a:Nat)(w:World){o:Nat→Tag}{t:Tag}{p:PgS}(h:PgAt w o t b a p)(h9:¬t <+: [9])(hr:p.ready=[]) :
  Calls Tryz.prog 232 #[.pointer (some ⟨b,0,none⟩)] w fun e w'=>e=.returned (.bool !p.waiting.isEmpty)∧PgAt w' o t b a (if p.waiting.isEmpty then p else p.coll)∧Fr (Und t) w o w' o:=by
 have h0:=h;obtain⟨br,bw,bs,h1,h2,h3,h4⟩:=h;have c0:w.drew.cell? ⟨b,0,none⟩=some (.pointer (some ⟨br,0,none⟩)):=h1.cell' (i:=0) rfl;have c1:w.drew.cell? ⟨b,1,none⟩=some (.pointer (some ⟨bw,0,none⟩)):=h1.cell' (i:=1) rfl;have hem:=HD (cnEmpty bw a w.drew h3.drew);have e:decide ((p.cn p.waiting).head<0)=p.waiting.isEmpty:=hd_neg;rw [e] at hem;clear e;cases hw:p.waiting.isEmpty
 ·have hne:br≠bw:=fun q=>apps_ne (t:=t) (i:=0) (j:=1) (by decide) (by rw [←h2.2.1,←h3.2.1,q])
  have htk:=HD (cnTake br bw a w.drew h2.drew h3.drew (by rw [hr];exact(show ¬(0:Int)≤-1 by decide)) rfl hne);have hfin:=HD (show ∀w1:World,CnAt w1 o (t++[0]) br a ((p.cn p.ready).to (p.cn p.waiting).head)∧CnAt w1 o (t++[1]) bw a ((p.cn p.waiting).to (-1))∧Fr (fun v=>v=t++[0]∨v=t++[1]) w.drew o w1 o →
    (w1.cell? ⟨b,0,none⟩=some (.pointer (some ⟨br,0,none⟩))∧w1.cell? ⟨b,1,none⟩=some (.pointer (some ⟨bw,0,none⟩)))∧PgAt w1 o t b a p.coll∧Fr (Und t) w o w1 o from fun w1 r=>by
   obtain⟨r1,r2,r3⟩:=r;have f:Fr (fun v=>v=t++[0]∨v=t++[1]) w o w1 o:=Fr.drew.trans r3;have q:=h1.fr f (fun q=>by rcases q with q|q<;>simp at q);refine⟨⟨q.cell' (i:=0) rfl,q.cell' (i:=1) rfl⟩,⟨br,bw,bs,q,r1,r2,h4.fr f ⟨fun v hv q=>?_,fun q=>?_⟩⟩,f.mono fun v q=>?_⟩
   ·rcases q with rfl|rfl
    ·exact absurd ((List.prefix_append_right_inj t).1 hv) (by decide)
    ·exact absurd ((List.prefix_append_right_inj t).1 hv) (by decide)
   ·rcases q with q|q<;>exact ne_nine h9 _ q.symm
   ·rcases q with rfl|rfl<;>exact Und.app _ _)
  rw [hw] at hem;clear h0 h1 h2 h3 h4 hne hr;go_enter Tryz.func232,Tryz.ntmps232
  go_wp2_with fail;refine wp_region_noPanic ?_;refine wp_region_held_drew (S:=(fun W=>W.cell? ⟨b,0,none⟩=some (.pointer (some ⟨br,0,none⟩))∧W.cell? ⟨b,1,none⟩=some (.pointer (some ⟨bw,0,none⟩)))) (by kernel_rfl) ?_ (fun hHeld=>?_)
  ·(first|exact⟨c0,c1⟩|exact hcs)
  refine tkH 0 (h:=?_);refine tkH 1 (h:=?_);refine tkH 2 (h:=?_);refine tkH 3 (h:=?_);refine onH 4 (h:=fun K hK=>?_);go_simp;refine hem.out.mono ?_;rintro e w1 ⟨rfl,rfl⟩;go_wp2_with fail;refine hK.out _ _ ?_ (fun hHeld=>?_)
  ·(first|exact⟨c0,c1⟩|exact hcs)
  clear hK;refine nmH (h:=?_);refine tkH 5 (h:=?_);refine tkH 6 (h:=?_);refine tkH 7 (h:=?_);refine tkH 8 (h:=?_);refine tkH 9 (h:=?_);refine tkH 10 (h:=?_);refine tkH 11 (h:=?_);refine tkH 12 (h:=?_);refine tkH 13 (h:=?_);refine tkH 14 (h:=?_);refine onH 15 (h:=fun K hK=>?_);go_simp;refine htk.out.mono ?_;rintro e w1 ⟨rfl,r⟩;have hf:=HD (hfin.out w1 r);have hcs:=hf.out.1;clear r;go_wp2_with fail;refine hK.out _ _ ?_ (fun hHeld=>?_)
  ·(first|exact⟨c0,c1⟩|exact hcs)
  clear hK;refine nmH (h:=?_);refine tkH 16 (h:=?_);refine tkH 17 (h:=?_);refine tkH 18 (h:=?_);refine wpAnyH_done (by kernel_rfl) ?_ _;refine NoPanic.normal ?_;go_wp2_with fail;go_ret
  exact⟨rfl,hf.out.2⟩
 ·rw [hw] at hem
  have hfin:=HD (show PgAt w.drew o t b a p∧Fr (Und t) w o w.drew o from⟨h0.drew,Fr.drew⟩);clear h0 h1 h2 h3 h4 hr;go_enter Tryz.func232,Tryz.ntmps232
  go_wp2_with fail;refine wp_region_noPanic ?_;refine wp_region_held_drew (S:=(fun W=>W.cell? ⟨b,0,none⟩=some (.pointer (some ⟨br,0,none⟩))∧W.cell? ⟨b,1,none⟩=some (.pointer (some ⟨bw,0,none⟩)))) (by kernel_rfl) ?_ (fun hHeld=>?_)
  ·(first|exact⟨c0,c1⟩|exact hcs)
  refine tkH 0 (h:=?_);refine tkH 1 (h:=?_);refine tkH 2 (h:=?_);refine tkH 3 (h:=?_);refine onH 4 (h:=fun K hK=>?_);go_simp;refine hem.out.mono ?_;rintro e w1 ⟨rfl,rfl⟩;go_wp2_with fail;refine hK.out _ _ ?_ (fun hHeld=>?_)
  ·(first|exact⟨c0,c1⟩|exact hcs)
  clear hK;refine nmH (h:=?_);refine tkH 5 (h:=?_);refine tkH 6 (h:=?_);refine tkHs 7 (h:=?_);refine tkHs 8 (h:=?_);refine tkHs 9 (h:=?_);refine tkHs 10 (h:=?_);refine tkHs 11 (h:=?_);refine tkHs 12 (h:=?_);refine tkHs 13 (h:=?_);refine tkHs 14 (h:=?_);refine tkHs 15 (h:=?_);refine tkHs 16 (h:=?_);refine tkH 17 (h:=?_);refine tkH 18 (h:=?_);refine wpAnyH_done (by kernel_rfl) ?_ _;refine NoPanic.normal ?_;go_wp2_with fail;go_ret
  exact⟨rfl,hfin.out⟩
end
section
open Go.RowKit
def PgS.mv(p:PgS)(base:Int):PgS:=⟨base,p.kind,p.fresh,p.had,p.ready,p.waiting⟩
theorem page_lies{l:Nat}{base:Int}{kind:Int}(hk:0≤kind∧kind≤7)(hb:0≤base∧base%512=0∧base+512≤l):liesB l base (unitT kind) (perT kind)=true∧(8≤unitT kind∧unitT kind≤512)∧(1≤perT kind∧perT kind≤64):=by
 have hu:=small_cases hk.1 hk.2;have hp:=per_cases hk.1 hk.2;rw [unit_small hk.1 hk.2];refine⟨decide_eq_true ⟨hb.1,by omega,?_⟩,by omega,by omega⟩;rcases hu with ⟨q,e⟩|⟨q,e⟩|⟨q,e⟩|⟨q,e⟩|⟨q,e⟩|⟨q,e⟩|⟨q,e⟩|⟨q,e⟩<;>rcases hp with ⟨q',e'⟩|⟨q',e'⟩|⟨q',e'⟩|⟨q',e'⟩|⟨q',e'⟩|⟨q',e'⟩|⟨q',e'⟩|⟨q',e'⟩<;>first|(exfalso;omega)|(rw [e,e'];omega)
theorem pgMoves(b br bw a:Nat)(base:Int)(w:World){o:Nat→Tag}{t u:Tag}{c:Array Value}{T:TypeId}{s x:CnS}{B:List UInt8}{m:Nat}(h1:Blk w o t b c T)(e0:c[0]? = some (.pointer (some ⟨br,0,none⟩)))(e1:c[1]? = some (.pointer (some ⟨bw,0,none⟩)))
  (h2:CnAt w o (t++[0]) br a s) (h3:CnAt w o (t++[1]) bw a x) (ha:ArAt w o u a B m) (hau:Off (Und t) u) (l1:liesB B.length base s.unit s.per=true) (l2:liesB B.length base x.unit x.per=true) :
  Calls Tryz.prog 189 #[.pointer (some ⟨b,0,none⟩),.int .i64 base] w fun e w'=>e=.returned (.tuple #[])∧CnAt w' o (t++[0]) br a ⟨base,s.unit,s.per,s.head⟩∧CnAt w' o (t++[1]) bw a ⟨base,x.unit,x.per,x.head⟩∧Fr (fun v=>v=t++[0]∨v=t++[1]) w o w' o:=by
 have c0:=h1.cell' e0;have hm1:=HD (cnMove br a base w h2 ha l1);have hfin:=HD (show ∀w1:World,CnAt w1 o (t++[0]) br a ⟨base,s.unit,s.per,s.head⟩→Fr (· = t++[0]) w o w1 o→w1.cell? ⟨b,1,none⟩=some (.pointer (some ⟨bw,0,none⟩)) ∧
   Calls Tryz.prog 224 #[.pointer (some ⟨bw,0,none⟩),.int .i64 base] w1 (fun e w'=>e=.returned (.int .i64 0)∧CnAt w' o (t++[0]) br a ⟨base,s.unit,s.per,s.head⟩∧CnAt w' o (t++[1]) bw a ⟨base,x.unit,x.per,x.head⟩∧Fr (fun v=>v=t++[0]∨v=t++[1]) w o w' o) from fun w1 r1 r2=>by
  have g1:Fr (Und t) w o w1 o:=r2.mono fun v q=>by subst q;exact Und.app _ _
  refine⟨(h1.fr r2 (fun q=>by simp at q)).cell' e1,?_⟩;have q:=cnMove bw a base w1 (h3.fr r2 (apps_ne (by decide))) (ha.fr g1 hau) l2;refine q.mono ?_;rintro e w' ⟨rfl,k1,k2⟩;exact⟨rfl,r1.fr k2 (apps_ne (by decide)),k1,(r2.mono fun v q=>.inl q).trans (k2.mono fun v q=>.inr q)⟩)
 clear h1 h2 h3 ha hau l1 l2 e0 e1;go_enter Tryz.func189,Tryz.ntmps189
 go_wp2_with fail;refine hm1.out.mono ?_;rintro e w1 ⟨rfl,r1,r2⟩;obtain⟨c1,hm2⟩:=hfin.out w1 r1 r2;replace hm2:=HD hm2;clear r1 r2;go_wp2_with fail;refine hm2.out.mono ?_;rintro e w2 ⟨rfl,r⟩;replace r:=HD r;go_wp2_with fail;exact bodyPost_end (results_none (by kernel_rfl) _ _ _) rfl ⟨rfl,r.out⟩
theorem pgMove(b a:Nat)(base:Int)(w:World){o:Nat→Tag}{t u:Tag}{p:PgS}{B:List UInt8}{m:Nat}(h:PgAt w o t b a p)(ha:ArAt w o u a B m)(hau:Off (Und t) u)(h9:¬t <+: [9])(hk:0≤p.kind∧p.kind≤7)(hb:0≤base∧base%512=0∧base+512≤B.length) :
  Calls Tryz.prog 134 #[.pointer (some ⟨b,0,none⟩),.int .i64 base] w fun e w'=>e=.returned (.int .i64 0)∧PgAt w' o t b a (p.mv base)∧Fr (Und t) w o w' o:=by
 obtain⟨br,bw,bs,h1,h2,h3,h4⟩:=h;have hl:=page_lies hk hb;have c2:w.cell? ⟨b,2,none⟩=some (.pointer (some ⟨a,0,none⟩)):=h1.cell' (i:=2) rfl;have c3:w.cell? ⟨b,3,none⟩=some (.int .i64 p.base):=h1.cell' (i:=3) rfl;have z3:=h1.free 3;have hli:=HD (pgLies a base w ha hb);have f1:Fr (· = t) w o (w.setCell ⟨b,3,none⟩ (.int .i64 base)) o:=Fr.setCell (fun _=>h1.1) _;have g1:Fr (Und t) w o (w.setCell ⟨b,3,none⟩ (.int .i64 base)) o:=f1.mono fun v q=>by subst q;exact Und.self _
 have q1:=h1.set 3 (.int .i64 base);have q4:=h4.fr f1 ⟨fun v hv q=>by subst q;have:=List.IsPrefix.length_le hv;simp at this;omega,fun q=>h9 (by rw [←q];exact List.prefix_refl _)⟩;have hmv:=HD (pgMoves b br bw a base _ q1 rfl rfl (h2.fr f1 (fun q=>by simp at q)) (h3.fr f1 (fun q=>by simp at q)) (ha.fr g1 hau) hau hl.1 hl.1);have hfin:=HD (show ∀w':World,CnAt w' o (t++[0]) br a ⟨base,p.unit,p.per,hd p.ready⟩∧CnAt w' o (t++[1]) bw a ⟨base,p.unit,p.per,hd p.waiting⟩∧Fr (fun v=>v=t++[0]∨v=t++[1]) (w.setCell ⟨b,3,none⟩ (.int .i64 base)) o w' o→PgAt w' o t b a (p.mv base)∧Fr (Und t) w o w' o from fun w' r=>by
  obtain⟨r1,r2,r3⟩:=r;refine⟨⟨br,bw,bs,q1.fr r3 (fun q=>by rcases q with q|q<;>simp at q),r1,r2,q4.fr r3 ⟨fun v hv q=>?_,fun q=>?_⟩⟩,g1.trans (r3.mono fun v q=>?_)⟩
  ·rcases q with rfl|rfl
   ·exact absurd ((List.prefix_append_right_inj t).1 hv) (by decide)
   ·exact absurd ((List.prefix_append_right_inj t).1 hv) (by decide)
  ·rcases q with q|q<;>exact ne_nine h9 _ q.symm
  ·rcases q with rfl|rfl<;>exact Und.app _ _)
 clear h1 h2 h3 h4 hl hb hk ha hau q1 q4 f1 g1;go_enter Tryz.func134,Tryz.ntmps134
 go_wp2_with fail;refine hli.out.mono ?_;rintro e w1 ⟨rfl,rfl⟩;go_wp2_with fail;refine hmv.out.mono ?_;rintro e w1 ⟨rfl,r⟩;replace r:=HD (hfin.out w1 r);go_wp2_with fail;go_ret
 exact⟨rfl,r.out⟩
end
section
open Go.RowKit
def PgS.new(base kind:Int):PgS:=⟨base,kind,0,ShS.new (perT kind).toNat,[],[]⟩
def PgNew(w:World)(o:Nat→Tag)(t:Tag)(a:Nat)(base kind:Int)(e:Ending)(w':World):Prop:=∃b o',e=.returned (.tuple #[.pointer (some ⟨b,0,none⟩),.int .i64 0])∧PgAt w' o' t b a (PgS.new base kind)∧Fr (fun _=>False) w o w' o'
theorem off_no{t:Tag}:Off (fun _=>False) t:=⟨fun _ _ q=>q,fun q=>q⟩
theorem pgNew(a:Nat)(base kind:Int)(w:World){o:Nat→Tag}{t u:Tag}{B:List UInt8}{m:Nat}(ha:ArAt w o u a B m)(hT:Tab w o)(hk:0≤kind∧kind≤7)(hb:0≤base∧base%512=0∧base+512≤B.length) :
  Calls Tryz.prog 202 #[.pointer (some ⟨a,0,none⟩),.int .i64 base,.int .i64 kind] w (PgNew w o t a base kind):=by
 obtain⟨l1,l2,l3⟩:=page_lies hk hb;obtain⟨n,hn⟩:∃n:Nat,perT kind=n:=⟨(perT kind).toNat,by omega⟩
 have hper:=HD fun w=>per_any kind w
 have huni:=HD fun w=>unit_any kind w
 have hli:=HD (pgLies a base w ha hb);have h1:=HD (cnNew a base (unitT kind) (perT kind) w (u:=t++[0]) ha l2 l3 l1);have hp1:¬(n:Int)=0:=by omega
 have hfin:=HD (show ∀w1 b1,CnAt w1 (newO o w (t++[0])) (t++[0]) b1 a (CnS.new base (unitT kind) (perT kind))→Below w.heap.size w w1 →
   Calls Tryz.prog 236 #[.pointer (some ⟨a,0,none⟩),.int .i64 base,.int .i64 (unitT kind),.int .i64 (perT kind)] w1 (fun e w2=>∃b2,e=.returned (.tuple #[.pointer (some ⟨b2,0,none⟩),.int .i64 0]) ∧
    Calls Tryz.prog 77 #[.int .i64 n] w2 (fun e w3=>∃b3,e=.returned (.tuple #[.pointer (some ⟨b3,0,none⟩),.int .i64 0]) ∧
     PgNew w o t a base kind (.returned (.tuple #[.pointer (some ⟨w3.heap.size,0,none⟩),.int .i64 0])) (w3.alloc (.cells #[.pointer (some ⟨b1,0,none⟩),.pointer (some ⟨b2,0,none⟩),.pointer (some ⟨a,0,none⟩),.int .i64 base,.int .i64 kind,.int .i64 0,.pointer (some ⟨b3,0,none⟩)] 255)))) from fun w1 b1 r1 q1=>by
  have f1:Fr (fun _=>False) w o w1 (newO o w (t++[0])):=Fr.below' q1 _;refine(cnNew a base (unitT kind) (perT kind) w1 (u:=t++[1]) (ha.fr f1 off_no) l2 l3 l1).mono ?_;rintro e w2 ⟨⟨b2,rfl,r2⟩,q2⟩;refine⟨b2,rfl,?_⟩;have f2:Fr (fun _=>False) w1 (newO o w (t++[0])) w2 (newO (newO o w (t++[0])) w1 (t++[1])):=Fr.below' q2 _;refine(shNew n w2 _ (t++[2]) (hT.fr (f1.trans f2) (fun q=>q)) (by omega)).mono ?_;rintro e w3 ⟨b3,o3,rfl,r3,f3⟩;refine⟨b3,rfl,w3.heap.size,setO o3 w3.heap.size t,rfl,?_,((f1.trans f2).trans f3).al' _ _⟩;have f4:Fr (fun _=>False) w3 o3 (w3.alloc (.cells #[.pointer (some ⟨b1,0,none⟩),.pointer (some ⟨b2,0,none⟩),.pointer (some ⟨a,0,none⟩),.int .i64 base,.int .i64 kind,.int .i64 0,.pointer (some ⟨b3,0,none⟩)] 255)) (setO o3 w3.heap.size t):=Fr.alloc _ t;refine⟨b1,b2,b3,Blk.made w3 o3 t _ _,((r1.fr f2 (fun q=>q)).fr f3 (fun q=>q)).fr f4 (fun q=>q),(r2.fr f3 (fun q=>q)).fr f4 (fun q=>q),?_⟩;have:=r3.fr f4 off_no;show ShAt _ _ _ _ (ShS.new (perT kind).toNat);rw [hn];exact this)
 rw [hn] at h1 hfin hper;clear ha hT l1 l2 l3 hb hn;generalize unitT kind=unit at *;go_enter Tryz.func202,Tryz.ntmps202
 go_wp2_with fail;refine(hper.out _).mono ?_;rintro e w1 ⟨rfl,rfl⟩;go_wp2_with fail;refine hli.out.mono ?_;rintro e w1 ⟨rfl,rfl⟩;go_wp2_with fail;refine(huni.out _).mono ?_;rintro e w1 ⟨rfl,rfl⟩;go_wp2_with fail;refine h1.out.mono ?_;rintro e w1 ⟨⟨b1,rfl,r1⟩,q1⟩;replace hfin:=HD (hfin.out w1 b1 r1 q1);clear r1 q1;go_wp2_with fail;refine(huni.out _).mono ?_;rintro e w1 ⟨rfl,rfl⟩;go_wp2_with fail;refine hfin.out.mono ?_;rintro e w2 ⟨b2,rfl,r⟩;replace r:=HD r;go_wp2_with fail;refine r.out.mono ?_;rintro e w3 ⟨b3,rfl,r3⟩;replace r3:=HD r3;go_wp2_with fail;go_ret2
 exact r3.out
end
section
open Go.RowKit
structure Apart(t u:Tag):Prop where
 ne:∀v,Und t v→¬Und u v
 t9:¬t <+: [9]
 u9:¬u <+: [9]
theorem Apart.off{t u:Tag}(h:Apart t u):Off (Und t) u:=⟨fun v q k=>h.ne v k q,h.t9⟩
theorem Apart.swap{t u:Tag}(h:Apart t u):Apart u t:=⟨fun v q k=>h.ne v k q,h.u9,h.t9⟩
theorem Apart.sub{t u:Tag}(h:Apart t u)(r:Tag):Apart (t++r) u:=⟨fun v q=>h.ne v q.up,not_nine h.t9 r,h.u9⟩
theorem Apart.off_sub{t u:Tag}(h:Apart t u)(r:Tag):Off (Und u) (t++r):=(h.sub r).swap.off
theorem not_sub(t:Tag)(c:Nat):¬Und (t++[c]) t:=fun q=>by have:=List.IsPrefix.length_le q;simp at this;omega
def PgS.at(p:PgS)(k:Int):Int:=p.base+k*p.unit
def Linked(B:List UInt8)(at_:Int→Int):List Nat→Prop
 |[]=>True
 |k :: l=>ldV B (at_ k)=(hd l+1).toNat∧Linked B at_ l
structure PgOk(B:List UInt8)(p:PgS):Prop where
 kind:0≤p.kind∧p.kind≤7
 base:0≤p.base∧p.base%512=0∧p.base+512≤B.length
 n:(p.had.n:Int)=p.per
 fresh:p.fresh≤p.had.n
 nodup:(p.ready++p.waiting).Nodup
 lists:∀k,k∈p.ready++p.waiting↔k<p.fresh∧p.had.f k=true
 rest:∀k,p.fresh≤k→k<p.had.n→p.had.f k=true
 l1:Linked B p.at p.ready
 l2:Linked B p.at p.waiting
theorem blk_in{kind k:Int}(hk:0≤kind∧kind≤7)(h0:0≤k)(h1:k<perT kind):0≤k*unitT kind∧k*unitT kind+unitT kind≤512∧16≤unitT kind:=by
 have hu:=small_cases hk.1 hk.2;have hp:=per_cases hk.1 hk.2;rw [unit_small hk.1 hk.2];rcases hu with ⟨q,e⟩|⟨q,e⟩|⟨q,e⟩|⟨q,e⟩|⟨q,e⟩|⟨q,e⟩|⟨q,e⟩|⟨q,e⟩<;>rcases hp with ⟨q',e'⟩|⟨q',e'⟩|⟨q',e'⟩|⟨q',e'⟩|⟨q',e'⟩|⟨q',e'⟩|⟨q',e'⟩|⟨q',e'⟩<;>first|(exfalso;omega)|(rw [e];rw [e'] at h1;omega)
theorem PgOk.has8{B:List UInt8}{p:PgS}(h:PgOk B p){k:Nat}(hk:k<p.had.n):hasE B.length (p.at k) 8=0:=by
 have hb:=blk_in (k:=(k:Int)) h.kind (by omega) (by have:=h.n;unfold PgS.per at this;omega);have:=h.base;unfold PgS.at PgS.unit;exact if_pos (by omega)
theorem PgOk.mem{B:List UInt8}{p:PgS}(h:PgOk B p){k:Nat}(hk:k∈p.ready++p.waiting):k<p.had.n:=Nat.lt_of_lt_of_le ((h.lists k).1 hk).1 h.fresh
theorem PgOk.hd_le{B:List UInt8}{p:PgS}(h:PgOk B p){l:List Nat}(hl:∀k∈l,k∈p.ready++p.waiting):-1≤hd l∧hd l<p.had.n:=by
 cases l with
 |nil=>exact⟨Int.le_refl _,by show (-1:Int)<_;omega⟩
 |cons k l=>exact⟨by show (-1:Int)≤(k:Nat);omega,by show ((k:Nat):Int)<_;have:=h.mem (hl k (by simp));omega⟩
theorem coll_ok{B:List UInt8}{p:PgS}(h:PgOk B p)(hr:p.ready=[]):PgOk B p.coll where
 kind:=h.kind
 base:=h.base
 n:=h.n
 fresh:=h.fresh
 nodup:=by have:=h.nodup;rw [hr] at this;show (p.waiting++[]).Nodup;simpa using this
 lists k:=by have:=h.lists k;rw [hr] at this;show k∈p.waiting++[]↔k<p.fresh∧p.had.f k=true;simpa using this
 rest:=h.rest
 l1:=h.l2
 l2:=trivial
def PgPost(w:World)(o:Nat→Tag)(t u:Tag)(b a:Nat)(v:Value)(p:PgS)(B:List UInt8)(m:Nat)(e:Ending)(w':World):Prop :=
 e=.returned v∧∃o',PgAt w' o' t b a p∧ArAt w' o' u a B m∧Fr (fun v=>Und t v∨Und u v) w o w' o'
def PgS.pre(p:PgS):PgS:=if p.ready.isEmpty&&!p.waiting.isEmpty then p.coll else p
def PgS.alF(p:PgS)(B:List UInt8):Int×Int×PgS×List UInt8 :=
 match p.pre.ready with
 |k :: l=>(k,0,⟨p.base,p.kind,p.fresh,p.had.flip k,l,p.pre.waiting⟩,stB B (p.at k) 0)
 |[]=>if p.fresh=p.had.n then (0,10,p,B) else (p.fresh,0,⟨p.base,p.kind,p.fresh+1,p.had.flip p.fresh,[],[]⟩,B)
theorem al_pop{w1:World}{o:Nat→Tag}{t u:Tag}{b a:Nat}{q:PgS}{B:List UInt8}{m k:Nat}{l:List Nat}(h:PgAt w1 o t b a q)(ha:ArAt w1 o u a B m)(hm:m<1000000)(hq:PgOk B q)(hr:q.ready=k :: l)(htu:Apart t u) :
  ∃br bs,w1.cell? ⟨b,0,none⟩=some (.pointer (some ⟨br,0,none⟩)) ∧
   Calls Tryz.prog 230 #[.pointer (some ⟨br,0,none⟩)] w1 (fun e w'=>e=.returned (.bool false)∧w'=w1) ∧
   Calls Tryz.prog 231 #[.pointer (some ⟨br,0,none⟩)] w1 (fun e w2=>e=.returned (.tuple #[.int .i64 k,.int .i64 0])∧w2.cell? ⟨b,6,none⟩=some (.pointer (some ⟨bs,0,none⟩)) ∧
    Calls Tryz.prog 185 #[.pointer (some ⟨bs,0,none⟩),.int .i64 k] w2 (fun e w3=>e=.returned (.int .i64 0) ∧
     PgPost w1 o t u b a (.tuple #[.int .i64 k,.int .i64 0]) ⟨q.base,q.kind,q.fresh,q.had.flip k,l,q.waiting⟩ (stB B (q.at k) 0) (m+2) (.returned (.tuple #[.int .i64 k,.int .i64 0])) w3)):=by
 obtain⟨br,bw,bs,h1,h2,h3,h4⟩:=h;have hkm:k∈q.ready++q.waiting:=by rw [hr];simp
 have hkn:=hq.mem hkm;have hkf:=((hq.lists k).1 hkm).2;have hcn:q.cn q.ready=⟨q.base,q.unit,q.per,(k:Int)⟩:=by rw [hr];rfl
 have hlink:=hq.l1;rw [hr] at hlink;have hl:=hq.hd_le (l:=l) (fun x hx=>by rw [hr];simp [hx]);have hv:(ldV B (q.at k):Int)=hd l+1:=by rw [hlink.1];omega
 rw [hcn] at h2;refine⟨br,bs,h1.cell' (i:=0) rfl,?_,?_⟩
 ·have:=cnEmpty br a w1 h2
  rwa [show decide ((⟨q.base,q.unit,q.per,(k:Int)⟩:CnS).head<0)=false from decide_eq_false (show ¬((k:Nat):Int)<0 by omega)] at this
 ·refine(cnPop br a w1 h2 ha hm (show (0:Int)≤(k:Nat) by omega) (hq.has8 hkn) (show (ldV B (q.at k):Int)≤q.per by rw [hv,←hq.n];omega) (fun e=>htu.ne _ (Und.app t [0]) e) (ne_nine htu.t9 _)).mono ?_
  rintro e w2 ⟨rfl,r1,r2,r3⟩;have hS:∀r:Tag,r≠[0]→r.length=1→∀v,t++r <+: v→¬(v=t++[0]∨Und u v):=fun r hr0 hr1 v hv q=>by
   rcases q with rfl|q
   ·have e:=(List.prefix_append_right_inj t).1 hv
    match r,hr1 with
    |[x],_=>exact hr0 (by simpa using e)
   ·exact htu.ne v (List.IsPrefix.trans (List.prefix_append t r) hv) q
  have g1:=h1.fr r3 (fun q=>by
   rcases q with q|q
   ·simp at q
   ·exact htu.ne t (Und.self t) q)
  have g3:=h3.fr r3 (hS [1] (by decide) rfl _ (List.prefix_refl _));have g4:=h4.fr r3 ⟨hS [2] (by decide) rfl,fun q=>by
   rcases q with q|q
   ·exact ne_nine htu.t9 _ q.symm
   ·exact htu.u9 q⟩
  refine⟨rfl,g1.cell' (i:=6) rfl,(shTakeAt bs k w2 g4 (not_nine htu.t9 _)).mono ?_⟩;rintro e w3 ⟨rfl,k1,k2⟩;have e0:q.had.takeE k=0:=by unfold ShS.takeE;rw [if_pos (by omega)];simp [hkf]
  have e1:q.had.take k=q.had.flip k:=by unfold ShS.take;rw [if_pos ⟨by omega,by simpa using hkf⟩];simp
  rw [e1] at k1;refine⟨by rw [e0],rfl,newO o w1 u,⟨br,bw,bs,g1.fr k2 (not_sub t 2),?_,g3.fr k2 (fun q=>?_),k1⟩,r2.fr k2 (htu.sub [2]).off,(r3.mono fun v q=>?_).trans (k2.mono fun v q=>.inl q.up)⟩
  ·have:=r1.fr k2 (fun q=>by have:=(List.prefix_append_right_inj t).1 q;revert this;decide)
   show CnAt w3 (newO o w1 u) (t++[0]) br a ⟨q.base,q.unit,q.per,hd l⟩;have e2:((ldV B ((⟨q.base,q.unit,q.per,(k:Int)⟩:CnS).at (⟨q.base,q.unit,q.per,(k:Int)⟩:CnS).head):Nat):Int)-1=hd l:=by
    show ((ldV B (q.at k):Nat):Int)-1=hd l;rw [hv];omega
   rw [e2] at this;exact this
  ·have:=(List.prefix_append_right_inj t).1 q;revert this;decide
  ·rcases q with rfl|q
   ·exact .inl (Und.app t [0])
   ·exact .inr q
end
section
def mayB(q:Int):Bool:=decide (1≤q)&&decide (q≤65536)
theorem may_iff{q:Int}:mayB q=true↔1≤q∧q≤65536:=by unfold mayB;simp only [Bool.and_eq_true,decide_eq_true_eq]
def byT(c q:Int):Int:=if perT c=0∨mayB q=false then 0 else (q/unitT c+perT c-1)/perT c
def runsT(q:Int):Int:=if mayB q=true then q/512 else 0
def sumBy(q:Int):Nat→Int
 |0=>0
 |k+1=>sumBy q k+byT k q
def demT(q:Int):Int:=sumBy q 8+runsT q
theorem by_zero{c q:Int}(h:perT c=0∨mayB q=false):byT c q=0:=by unfold byT;rw [if_pos h]
theorem by_in{c q:Int}(h0:0≤c)(h1:c≤7)(h:mayB q=true):byT c q=(q/unitT c+perT c-1)/perT c:=by
 unfold byT;rw [if_neg];rintro (g|g)
 ·have:=per_cases h0 h1;omega
 ·rw [h] at g;cases g
theorem per_pos{c:Int}(h0:0≤c)(h1:c≤7):2≤perT c∧perT c≤32:=by
 have:=per_cases h0 h1;omega
theorem per_unit{c:Int}(h0:0≤c)(h1:c≤7):(perT c=32∧unitT c=16)∨(perT c=16∧unitT c=32)∨(perT c=10∧unitT c=48)∨(perT c=8∧unitT c=64)∨(perT c=5∧unitT c=96)∨(perT c=4∧unitT c=128)∨(perT c=2∧unitT c=192)∨(perT c=2∧unitT c=256):=by
 rcases(by omega:c=0∨c=1∨c=2∨c=3∨c=4∨c=5∨c=6∨c=7) with rfl|rfl|rfl|rfl|rfl|rfl|rfl|rfl<;>decide
theorem by_ceil{c q:Int}(h0:0≤c)(h1:c≤7)(h:mayB q=true):0≤byT c q∧byT c q≤4096∧q/unitT c≤byT c q*perT c∧(byT c q-1)*perT c<q/unitT c+(if byT c q=0 then perT c else 0)∧(byT c q=0→q/unitT c=0)∧byT c q*perT c*unitT c≤2097152:=by
 obtain⟨a,b⟩:=may_iff.1 h;rw [by_in h0 h1 h];rcases per_unit h0 h1 with ⟨e,f⟩|⟨e,f⟩|⟨e,f⟩|⟨e,f⟩|⟨e,f⟩|⟨e,f⟩|⟨e,f⟩|⟨e,f⟩<;>rw [e,f]<;>refine⟨by omega,by omega,by omega,?_,by omega,by omega⟩<;>split<;>omega
theorem by_bound(c q:Int):0≤byT c q∧byT c q≤4096:=by
 by_cases hc:0≤c∧c≤7
 ·cases h:mayB q with
  |true=>have:=by_ceil hc.1 hc.2 h;omega
  |false=>rw [by_zero (.inr h)];omega
 ·rw [by_zero (.inl (per_out (by omega)))];omega
theorem by_mono{c a b:Int}(h0:0≤c)(h1:c≤7)(ha:mayB a=true)(hb:mayB b=true)(hab:a≤b):byT c a≤byT c b:=by
 rw [by_in h0 h1 ha,by_in h0 h1 hb];rcases per_unit h0 h1 with ⟨e,f⟩|⟨e,f⟩|⟨e,f⟩|⟨e,f⟩|⟨e,f⟩|⟨e,f⟩|⟨e,f⟩|⟨e,f⟩<;>rw [e,f]<;>omega
theorem sumBy_bound(q:Int):∀k:Nat,k≤8→0≤sumBy q k∧sumBy q k≤4096*k
 |0,_=>by unfold sumBy;omega
 |k+1,h=>by
  have:=sumBy_bound q k (by omega);have:=by_bound k q;unfold sumBy;omega
theorem runs_bound(q:Int):0≤runsT q∧runsT q≤128:=by
 unfold runsT
 split
 ·rename_i h;have:=may_iff.1 h;omega
 ·omega
theorem dem_bound(q:Int):0≤demT q∧demT q≤32896:=by
 have:=sumBy_bound q 8 (by omega);have:=runs_bound q;unfold demT;omega
theorem runs_in{q:Int}(h:mayB q=true):runsT q=q/512:=by unfold runsT;rw [if_pos h]
theorem runs_out{q:Int}(h:mayB q=false):runsT q=0:=by unfold runsT;rw [if_neg (by rw [h];decide)]
end
end Go.Proofs.YtfliaggjkianpaaGreatDoor
