import Derived.Test.YtfliaggjkianpaaGreatDoorK00
import Derived.Test.YtfliaggjkianpaaGreatDoorK36
set_option linter.unusedVariables false
set_option linter.unusedSimpArgs false
set_option maxRecDepth 100000
namespace Go.Proofs.YtfliaggjkianpaaGreatDoor
section
open Go.RowKit Flt
theorem flat_get{α β:Type}{f:α→List β}{m:Nat}(hf:∀x,(f x).length=m):∀(l:List α) (j i:Nat) (h:j<l.length),i<m→(l.flatMap f)[m*j+i]? = (f l[j])[i]?
 |[],j,i,h,_=>by simp at h
 |x :: l,0,i,h,hi=>by
  rw [List.flatMap_cons,Nat.mul_zero,Nat.zero_add,List.getElem?_append_left (by rw [hf];exact hi)];rfl
 |x :: l,j+1,i,h,hi=>by
  rw [List.flatMap_cons,List.getElem?_append_right (by rw [hf,Nat.mul_add];omega),hf];rw [show m*(j+1)+i-m=m*j+i by rw [Nat.mul_add];omega];exact flat_get hf l j i (by simpa using h) hi
structure Own(r:Tag)(q:Nat):Prop where
 rt:Root r
 h9:q≠9
 h50:q≠50
 hr:∀u,¬r <+: (q :: u)
theorem Own.off{r:Tag}{q k:Nat}{l:Tag}(h:Own r q):Off (fun v=>v=q :: k :: l) r:=⟨fun u hu e=>h.hr _ (e▸hu),fun e=>by simp at e⟩
theorem Own.off2{r:Tag}{q k:Nat}{l:Tag}(h:Own r q):Off (fun v=>v=q :: k :: l) (sg r):=⟨fun u hu e=>by
 subst e;exact h.h50 (List.cons_prefix_cons.1 hu).1.symm,fun e=>by simp at e⟩
theorem Own.no{r:Tag}{q:Nat}(h:Own r q)(u:Tag):¬UndS r (q :: u):=fun e=>by
 rcases e with e|e
 ·exact h.hr _ e
 ·exact h.h50 (List.cons_prefix_cons.1 e).1.symm
structure RnG(w0:World)(o0:Nat→Tag)(w:World)(o:Nat→Tag)(r:Tag)(q b mb:Nat)(vO vA:Value)(B:List UInt8)(K:Nat)(M:List (Int×(Value×List Nat)))(R:RnS):Prop where
 sv:SvAt w o r b B K R.s
 mp:MpAt w o [q,0] mb .i64 Prod.fst M
 gr:∀p∈M,RowT w o [q,3,p.1.toNat] 0 30 1 p.2.1 p.2.2.length (p.2.2.map (fun h:Nat=>Value.int .u64 (h:Int)))
 gk:∀p∈M,0≤p.1∧p.1≤255
 gh:∀p∈M,∀h∈p.2.2,h<18446744073709551616
 gl:∀p∈M,p.2.2.length≤K
 lk:R.ops.length≤K
 rG:R.G=M.map (fun p=>(p.1,p.2.2))
 ro:RowT w o [q,1] 0 32 6 vO R.ops.length (R.ops.flatMap opL)
 ra:RowT w o [q,2] 0 47 6 vA R.said.length (R.said.flatMap ansL)
 ln:R.said.length=R.ops.length
 fr:Fr (fun _=>False) w0 o0 w o
 old:∀k,k<w0.heap.size→¬UndS r (o0 k)∧∀l,o0 k≠q :: l
section
variable{S:Tag→Prop}{w0 w w':World}{o0 o o':Nat→Tag}{r:Tag}{q b mb:Nat}{vO vA:Value}{B B':List UInt8}{K:Nat}{M:List (Int×(Value×List Nat))}{R:RnS}
theorem RnG.does(h:RnG w0 o0 w o r q b mb vO vA B K M R)(hq:Own r q){s':AdS}{K':Nat}(hs:SvAt w' o' r b B' K' s')(f:Fr (UndS r) w o w' o')(hK:K≤K'):RnG w0 o0 w' o' r q b mb vO vA B' K' M {R with s:=s'} :=
 ⟨hs,h.mp.fr f (hq.no _),fun p hp=>(h.gr p hp).fr f (hq.no _),h.gk,h.gh,fun p hp=>Nat.le_trans (h.gl p hp) hK,Nat.le_trans h.lk hK,h.rG,h.ro.fr f (hq.no _),h.ra.fr f (hq.no _),h.ln,
  ⟨h.fr.only.seq f.only (fun i hi hu=>(h.old i hi).1 (by rw [←h.fr.ext i hi];exact hu)),fun i hi=>(f.ext i (Nat.lt_of_lt_of_le hi h.fr.size)).trans (h.fr.ext i hi)⟩,h.old⟩
theorem RnG.calm(h:RnG w0 o0 w o r q b mb vO vA B K M R)(f:Fr (fun _=>False) w o w' o'):RnG w0 o0 w' o' r q b mb vO vA B K M R :=
 ⟨h.sv.fr f ⟨fun _ _ e=>e,fun e=>e⟩ ⟨fun _ _ e=>e,fun e=>e⟩,h.mp.fr f (fun e=>e),fun p hp=>(h.gr p hp).fr f (fun e=>e),h.gk,h.gh,h.gl,h.lk,h.rG,h.ro.fr f (fun e=>e),h.ra.fr f (fun e=>e),h.ln,h.fr.trans f,h.old⟩
theorem get_G(h:RnG w0 o0 w o r q b mb vO vA B K M R)(k:Int):mGet R.G k=(mGet M k).map Prod.snd:=by
 rw [h.rG];clear h;induction M with
 |nil=>rfl
 |cons p M ih =>
  obtain⟨a,v⟩:=p;simp only [List.map_cons,mGet]
  split
  ·rfl
  ·exact ih
theorem zeroU(w:World):(zeroValue 62).run Tryz.prog w=.ok (.slice none 0 0) w:=by kernel_rfl
theorem mIns_map{α β:Type}(f:α→β)(k:Int)(v:α):∀M:List (Int×α),(mIns k v M).map (fun p=>(p.1,f p.2))=mIns k (f v) (M.map (fun p=>(p.1,f p.2)))
 |[]=>rfl
 |(a,u) :: M=>by
  simp only [mIns,List.map_cons]
  split
  ·rfl
  ·split
   ·rfl
   ·simp only [List.map_cons,mIns_map f k v M]
abbrev u64L(l:List Nat):List Value:=l.map (fun h:Nat=>Value.int .u64 (h:Int))
theorem RnG.given(h:RnG w0 o0 w o r q b mb vO vA B K M R)(T:Int):∃gv,RowT w o [q,3,T.toNat] 0 30 1 gv (gvn R.G T).length (u64L (gvn R.G T))∧(gvn R.G T).length≤K∧(∀x∈gvn R.G T,x<18446744073709551616) ∧
  ∀W' O',MpAt W' O' [q,0] mb .i64 Prod.fst M→(Instr.lookup 70 (.map (some mb)) (.int .i64 T) false).run Tryz.prog W'=.ok gv W':=by
 have hg:=get_G h T;cases hm:mGet M T with
 |none =>
  rw [hm] at hg;have e:gvn R.G T=[]:=by unfold gvn;rw [hg];rfl
  rw [e];refine⟨.slice none 0 0,RowT.nil _ _ _ _ _ _,Nat.zero_le _,fun x hx=>(by cases hx),fun W' O' hW=>?_⟩;have:=mp_lookup (P:=Tryz.prog) hW Tryz.underlying70 Tryz.underlying3 zeroU T false;rw [hm] at this;exact this
 |some v =>
  rw [hm] at hg;have hmem:=mGet_mem hm;have e:gvn R.G T=v.2:=by unfold gvn;rw [hg];rfl
  rw [e];refine⟨v.1,h.gr _ hmem,h.gl _ hmem,h.gh _ hmem,fun W' O' hW=>?_⟩;have:=mp_lookup (P:=Tryz.prog) hW Tryz.underlying70 Tryz.underlying3 zeroU T false;rw [hm] at this;exact this
theorem RnG.gvl(h:RnG w0 o0 w o r q b mb vO vA B K M R)(T:Int):(gvn R.G T).length≤K:=by
 obtain⟨_,_,h1,_⟩:=h.given T;exact h1
theorem RnG.mlen(h:RnG w0 o0 w o r q b mb vO vA B K M R):M.length≤256:=by
 have h1:(M.map (·.1)).Nodup:=by
  have:(M.map (·.1)).Pairwise (· < ·):=List.pairwise_map.2 h.mp.2.1;exact this.imp (fun q=>by omega)
 have:=nodup_len 256 (M.map (·.1)) h1 (fun x hx=>by
  obtain⟨p,hp,rfl⟩:=List.mem_map.1 hx;have:=h.gk p hp;omega)
 rwa [List.length_map] at this
theorem RnG.give(h:RnG w0 o0 w o r q b mb vO vA B K M R)(hq:Own r q){T:Int}(hT:0≤T∧T≤255){g:Nat}(hg0:g≠0)(hg:g<18446744073709551616){gv:Value}(hgv:RowT w o [q,3,T.toNat] 0 30 1 gv (gvn R.G T).length (u64L (gvn R.G T)))(hgl:(gvn R.G T).length+1≤K)(hgh:∀x∈gvn R.G T,x<18446744073709551616)(hK:K≤1000000)(hml:M.length<1000000000) :
  ∃A k c w2 w3 o2,(Builtin.append_ #[62,62] 62 #[gv,.slice (some ⟨w.heap.size,0,none⟩) 1 1]).run Tryz.prog (w.alloc (.cells #[.int .u64 (g:Int)] 30))=.ok (.slice A k c) w2∧Fr (fun v=>v=[q,3,T.toNat]) w o w2 o2∧MpAt w2 o2 [q,0] mb .i64 Prod.fst M ∧
   (Instr.mapUpdate 70 (.map (some mb)) (.int .i64 T) (.slice A k c)).run Tryz.prog w2=.ok () w3∧RnG w0 o0 w3 o2 r q b mb vO vA B K (mIns T (.slice A k c,gvn R.G T++[g]) M) {R with G:=giv R.G T g}∧Fr (fun v=>v=[q,0]∨v=[q,3,T.toNat]) w o w3 o2:=by
 obtain⟨i0,hi,hz0,hz1,hz2⟩:=info_parts infoU64;have f1:Fr (fun _=>False) w o (w.alloc (.cells #[.int .u64 (g:Int)] 30)) o:=Fr.alloc' _;have hg1:=hgv.fr f1 (fun e=>e);obtain⟨A,k,c,w2,e1,r2,f2⟩:=hg1.app (T:=62) (ty:=62) (p:=w.heap.size) (C:=#[.int .u64 (g:Int)]) Tryz.underlying62 hi hz0 hz1 hz2 rfl (by decide) (heap_alloc_new w _) rfl (fun u hu=>by simp at hu;rw [hu];rfl) (by omega) (by decide) (Nat.zero_le _);generalize newO o (w.alloc (.cells #[.int .u64 (g:Int)] 30)) [q,3,T.toNat]=o2 at r2 f2;have f3:Fr (fun v=>v=[q,3,T.toNat]) w o w2 o2:=(f1.mono (fun v e=>e.elim)).trans f2;have m2:=h.mp.fr f3 (fun e=>by simp at e);obtain⟨w3,e3,m3,f4,_⟩:=mp_store (P:=Tryz.prog) m2 Tryz.underlying70 Tryz.underlying3 T (.slice A k c,gvn R.G T++[g]) hml;have f5:Fr (fun v=>v=[q,0]∨v=[q,3,T.toNat]) w o w3 o2:=(f3.mono (fun v e=>.inr e)).trans (f4.mono (fun v e=>.inl e));have hn0:∀n:Nat,¬([q,3,n]:Tag)=[q,0]:=fun n e=>by simp at e
 have hmem:∀p∈mIns T (Value.slice A k c,gvn R.G T++[g]) M,(p.1=T∧p.2=(.slice A k c,gvn R.G T++[g]))∨(p∈M∧p.1≠T):=fun p hp=>by
  by_cases c1:p.1=T
  ·refine .inl ⟨c1,?_⟩
   have hr:=m3.2.1;have x1:=mGet_of hr (k:=p.1) (v:=p.2) hp;rw [c1,mGet_ins_same h.mp.2.1] at x1;exact(Option.some.inj x1).symm
  ·rcases mIns_mem p hp with e|e
   ·exact absurd (by rw [e]) c1
   ·exact .inr ⟨e,c1⟩
 refine⟨A,k,c,w2,w3,o2,e1,f3,m2,e3,⟨?_,m3,fun p hp=>?_,fun p hp=>?_,fun p hp=>?_,fun p hp=>?_,h.lk,?_,h.ro.fr f5 (fun e=>by simp at e),h.ra.fr f5 (fun e=>by simp at e),h.ln,?_,h.old⟩,f5⟩
 ·exact(h.sv.fr f3 hq.off hq.off2).fr f4 hq.off hq.off2
 ·rcases hmem p hp with ⟨c1,c2⟩|⟨c1,c2⟩
  ·rw [c1,c2]
   have r3:=r2.fr f4 (hn0 _);simp only [List.length_append,List.length_singleton];rw [List.map_append];exact r3
  ·have hk:=h.gk p c1
   refine((h.gr p c1).fr f3 (fun e=>?_)).fr f4 (hn0 _);injection e with _ e;injection e with _ e;injection e with e _
   omega
 ·rcases hmem p hp with ⟨c1,c2⟩|⟨c1,c2⟩
  ·rw [c1];exact hT
  ·exact h.gk p c1
 ·rcases hmem p hp with ⟨c1,c2⟩|⟨c1,c2⟩
  ·rw [c2]
   intro y hy;rcases List.mem_append.1 hy with z|z
   ·exact hgh y z
   ·rw [List.mem_singleton.1 z];exact hg
  ·exact h.gh p c1
 ·rcases hmem p hp with ⟨c1,c2⟩|⟨c1,c2⟩
  ·rw [c2];simpa using hgl
  ·exact h.gl p c1
 ·show giv R.G T g=_
  unfold giv;rw [if_neg hg0,mIns_map Prod.snd,←h.rG]
 ·refine⟨h.fr.only.seq f5.only (fun i hi hu=>?_),fun i hi=>(f5.ext i (Nat.lt_of_lt_of_le hi h.fr.size)).trans (h.fr.ext i hi)⟩
  have ho:=(h.old i hi).2;rw [h.fr.ext i hi] at hu;rcases hu with hu|hu
  ·exact ho _ hu
  ·exact ho _ hu
end
end
section
open Go.RowKit Flt
def PendO(W:World)(O:Nat→Tag)(p:Nat)(x:OpS):Prop:=OpRow W p x∧O p=[7]
def PendA(W:World)(O:Nat→Tag)(p:Nat)(y:Ans):Prop:=Row W p y∧O p=[7]
section
variable{S:Tag→Prop}{w W W':World}{o O O':Nat→Tag}{q p px py:Nat}{x:OpS}{y:Ans}{vO vA:Value}{nO nA:Nat}{lo la:List Value}
theorem PendO.fr(h:PendO W O p x)(f:Fr S W O W' O')(hS:¬S [7]):PendO W' O' p x:=by
 have hb:Blk W O [7] p (opC x) 32:=⟨h.2,h.1⟩
 have:=hb.fr f hS;exact⟨this.2,this.1⟩
theorem PendA.fr(h:PendA W O p y)(f:Fr S W O W' O')(hS:¬S [7]):PendA W' O' p y:=by
 have hb:Blk W O [7] p (ansC y) 47:=⟨h.2,h.1⟩
 have:=hb.fr f hS;exact⟨this.2,this.1⟩
structure Mid(w:World)(o:Nat→Tag)(q px py:Nat)(x:OpS)(y:Ans)(W:World)(O:Nat→Tag)(vO vA:Value)(nO nA:Nat)(lo la:List Value):Prop where
 fr:Fr (fun v=>v=[q,1]∨v=[q,2]) w o W O
 ro:RowT W O [q,1] 0 32 6 vO nO lo
 ra:RowT W O [q,2] 0 47 6 vA nA la
 kx:PendO W O px x
 ky:PendA W O py y
abbrev MidS(px py:Nat)(x:OpS)(y:Ans)(W:World):Prop :=
 W.cell? ⟨px,0,none⟩=some (.int .i64 x.K)∧W.cell? ⟨px,1,none⟩=some (.int .i64 x.T)∧W.cell? ⟨px,2,none⟩=some (.int .i64 x.N)∧W.cell? ⟨px,3,none⟩=some (.int .i64 x.M)∧W.cell? ⟨px,4,none⟩=some (.int .u64 x.H)∧W.cell? ⟨px,5,none⟩=some (.string x.s) ∧
 W.cell? ⟨py,0,none⟩=some (.int .i64 y.err)∧W.cell? ⟨py,1,none⟩=some (.int .u64 y.h)∧W.cell? ⟨py,2,none⟩=some (.int .i64 y.addr)∧W.cell? ⟨py,3,none⟩=some (.int .i64 y.n)∧W.cell? ⟨py,4,none⟩=some (.string y.data)∧W.cell? ⟨py,5,none⟩=some (.int .i64 y.ch)
theorem Mid.cl(h:Mid w o q px py x y W O vO vA nO nA lo la):MidS px py x y W:=by
 obtain⟨a0,a1,a2,a3,a4,a5⟩:=h.kx.1.cells;obtain⟨b0,b1,b2,b3,b4,b5,_⟩:=h.ky.1.cells;exact⟨a0,a1,a2,a3,a4,a5,b0,b1,b2,b3,b4,b5⟩
theorem Mid.drew(h:Mid w o q px py x y W O vO vA nO nA lo la):Mid w o q px py x y W.drew O vO vA nO nA lo la :=
 ⟨h.fr.drew',h.ro.fr (S:=fun _=>False) Fr.drew (fun e=>e),h.ra.fr (S:=fun _=>False) Fr.drew (fun e=>e),h.kx,h.ky⟩
theorem Mid.alloc(h:Mid w o q px py x y W O vO vA nO nA lo la)(z:Obj):Mid w o q px py x y (W.alloc z) (setO O W.heap.size [7]) vO vA nO nA lo la:=by
 have f:Fr (fun _=>False) W O (W.alloc z) (setO O W.heap.size [7]):=Fr.alloc _ _;exact⟨h.fr.al' _ _,h.ro.fr f (fun e=>e),h.ra.fr f (fun e=>e),h.kx.fr f (fun e=>e),h.ky.fr f (fun e=>e)⟩
theorem PendO.new(W:World)(O:Nat→Tag)(x:OpS):PendO (W.alloc (.cells (opC x) 32)) (setO O W.heap.size [7]) W.heap.size x:=⟨heap_alloc_new W _,setO_same⟩
theorem PendA.new(W:World)(O:Nat→Tag)(y:Ans):PendA (W.alloc (.cells (ansC y) 47)) (setO O W.heap.size [7]) W.heap.size y:=⟨heap_alloc_new W _,setO_same⟩
theorem Mid.alloc'(h:Mid w o q px py x y W O vO vA nO nA lo la)(z:Obj){k:Nat}(hk:W.heap.size=k):Mid w o q px py x y (W.alloc z) (setO O k [7]) vO vA nO nA lo la:=by subst hk;exact h.alloc z
theorem PendO.new'(W:World)(O:Nat→Tag)(x:OpS){k:Nat}(hk:W.heap.size=k):PendO (W.alloc (.cells (opC x) 32)) (setO O k [7]) k x:=by subst hk;exact PendO.new W O x
theorem PendA.new'(W:World)(O:Nat→Tag)(y:Ans){k:Nat}(hk:W.heap.size=k):PendA (W.alloc (.cells (ansC y) 47)) (setO O k [7]) k y:=by subst hk;exact PendA.new W O y
theorem PendO.al(h:PendO W O p x)(z:Obj){k:Nat}(hk:W.heap.size=k):PendO (W.alloc z) (setO O k [7]) p x:=by subst hk;exact h.fr (S:=fun _=>False) (Fr.alloc z [7]) (fun e=>e)
theorem PendA.al(h:PendA W O p y)(z:Obj){k:Nat}(hk:W.heap.size=k):PendA (W.alloc z) (setO O k [7]) p y:=by subst hk;exact h.fr (S:=fun _=>False) (Fr.alloc z [7]) (fun e=>e)
theorem Mid.alO(h:Mid w o q px py x y W O vO vA nO nA lo la)(z:OpS){k:Nat}(hk:W.heap.size=k):Mid w o q px py x y (W.alloc (.cells (opC z) 32)) (setO O k [7]) vO vA nO nA lo la∧PendO (W.alloc (.cells (opC z) 32)) (setO O k [7]) k z:=⟨h.alloc' _ hk,PendO.new' W O z hk⟩
theorem Mid.alA(h:Mid w o q px py x y W O vO vA nO nA lo la)(z:Ans){k:Nat}(hk:W.heap.size=k):Mid w o q px py x y (W.alloc (.cells (ansC z) 47)) (setO O k [7]) vO vA nO nA lo la∧PendA (W.alloc (.cells (ansC z) 47)) (setO O k [7]) k z:=⟨h.alloc' _ hk,PendA.new' W O z hk⟩
theorem Mid.appO(h:Mid w o q px py x y W O vO vA nO nA lo la)(hp:PendO W O p x)(hn:nO≤1000000) :
  ∃A k c W' O',(Builtin.append_ #[36,36] 36 #[vO,.slice (some ⟨p,0,none⟩) 1 1]).run Tryz.prog W=.ok (.slice A k c) W'∧Mid w o q px py x y W' O' (.slice A k c) vA (nO+1) nA (lo++opL x) la∧(∀p' y',PendA W O p' y'→PendA W' O' p' y'):=by
 obtain⟨i0,hi,hz0,hz1,hz2⟩:=info_parts infoOp;obtain⟨A,k,c,W',e1,r2,f2⟩:=h.ro.app (T:=36) (ty:=36) (p:=p) (C:=opC x) Tryz.underlying36 hi hz0 hz1 hz2 rfl (by decide) hp.1 rfl (fun u hu=>by simp at hu;rcases hu with rfl|rfl|rfl|rfl|rfl|rfl<;>rfl) hn (by decide) (Nat.zero_le _);refine⟨A,k,c,W',_,e1,⟨h.fr.trans (f2.mono fun v e=>.inl e),r2,h.ra.fr f2 (fun e=>by simp at e),h.kx.fr f2 (fun e=>by simp at e),h.ky.fr f2 (fun e=>by simp at e)⟩,fun p' y' hp'=>hp'.fr f2 (fun e=>by simp at e)⟩
theorem Mid.appA(h:Mid w o q px py x y W O vO vA nO nA lo la)(hp:PendA W O p y)(hn:nA≤1000000) :
  ∃A k c W' O',(Builtin.append_ #[37,37] 37 #[vA,.slice (some ⟨p,0,none⟩) 1 1]).run Tryz.prog W=.ok (.slice A k c) W'∧Mid w o q px py x y W' O' vO (.slice A k c) nO (nA+1) lo (la++ansL y):=by
 obtain⟨i0,hi,hz0,hz1,hz2⟩:=info_parts infoAn;obtain⟨A,k,c,W',e1,r2,f2⟩:=h.ra.app (T:=37) (ty:=37) (p:=p) (C:=ansC y) Tryz.underlying37 hi hz0 hz1 hz2 rfl (by decide) hp.1 rfl (fun u hu=>by simp at hu;rcases hu with rfl|rfl|rfl|rfl|rfl|rfl<;>rfl) hn (by decide) (Nat.zero_le _);exact⟨A,k,c,W',_,e1,⟨h.fr.trans (f2.mono fun v e=>.inr e),h.ro.fr f2 (fun e=>by simp at e),r2,h.kx.fr f2 (fun e=>by simp at e),h.ky.fr f2 (fun e=>by simp at e)⟩⟩
end
section
variable{w0 w W:World}{o0 o O:Nat→Tag}{r:Tag}{q b mb px py:Nat}{x:OpS}{y:Ans}{vO vA vO' vA':Value}{B:List UInt8}{K:Nat}{M:List (Int×(Value×List Nat))}{R:RnS}
theorem RnG.mid(h:RnG w0 o0 w o r q b mb vO vA B K M R)(hx:PendO w o px x)(hy:PendA w o py y):Mid w o q px py x y w o vO vA R.ops.length R.said.length (R.ops.flatMap opL) (R.said.flatMap ansL) :=
 ⟨Fr.refl _ _ _,h.ro,h.ra,hx,hy⟩
theorem RnG.noted(h:RnG w0 o0 w o r q b mb vO vA B K M R)(hq:Own r q)(hM:Mid w o q px py x y W O vO' vA' (R.ops.length+1) (R.said.length+1) (R.ops.flatMap opL++opL x) (R.said.flatMap ansL++ansL y))(hK:R.ops.length<K) :
  RnG w0 o0 W O r q b mb vO' vA' B K M {R with ops:=R.ops++[x],said:=R.said++[y]}:=by
 have f:=hM.fr;refine⟨?_,h.mp.fr f (fun e=>by simp at e),fun p hp=>(h.gr p hp).fr f (fun e=>by simp at e),h.gk,h.gh,h.gl,by simp;omega,h.rG,?_,?_,by simp [h.ln],?_,h.old⟩
 ·refine h.sv.fr f ⟨fun u hu e=>?_,fun e=>by simp at e⟩ ⟨fun u hu e=>?_,fun e=>by simp at e⟩
  ·rcases e with e|e
   ·exact hq.hr _ (e▸hu)
   ·exact hq.hr _ (e▸hu)
  ·rcases e with e|e
   ·subst e;exact hq.h50 (List.cons_prefix_cons.1 hu).1.symm
   ·subst e;exact hq.h50 (List.cons_prefix_cons.1 hu).1.symm
 ·simp only [List.length_append,List.length_singleton,List.flatMap_append]
  have:=hM.ro;simpa using this
 ·simp only [List.length_append,List.length_singleton,List.flatMap_append]
  have:=hM.ra;simpa using this
 ·refine⟨h.fr.only.seq f.only (fun i hi hu=>?_),fun i hi=>(f.ext i (Nat.lt_of_lt_of_le hi h.fr.size)).trans (h.fr.ext i hi)⟩
  have ho:=(h.old i hi).2;rw [h.fr.ext i hi] at hu;rcases hu with hu|hu
  ·exact ho _ hu
  ·exact ho _ hu
theorem RnG.dos(h:RnG w0 o0 W O r q b mb vO vA B K M R)(hq:Own r q)(hx:PendO W O px x)(hK:K≤900000)(hH:x.H<18446744073709551616)(hs:x.s.size≤255){t:Tag}{v:Value}{l:List StS}(hv:RowT W O t 0 34 7 v l.length (l.flatMap stL))(ht:¬UndS r t) :
  Calls Tryz.prog 18 #[eP b,x.v] W fun e W'=>e=.returned (ansV (R.s.do_ x).1)∧∃O' B',RnG w0 o0 W' O' r q b mb vO vA B' (K+1) M {R with s:=(R.s.do_ x).2}∧PendO W' O' px x∧RowT W' O' t 0 34 7 v l.length (l.flatMap stL):=by
 refine(svDo x h.sv hq.rt hK hH (by unfold maxLen;omega)).mono ?_;rintro e W' ⟨rfl,O',B',h1,f,_⟩;have h7:¬UndS r [7]:=fun e=>by
  rcases e with e|e
  ·exact hq.rt.r7 e
  ·have:=(List.cons_prefix_cons.1 e).1;omega
 exact⟨rfl,O',B',h.does hq h1 f (Nat.le_succ _),hx.fr f h7,hv.fr f ht⟩
end
end
section
open Go.RowKit Flt
attribute [local irreducible] CpS.rv
theorem grH_lt{cp:CpS}{K:List Int}(h:CpR cp K)(hx:cp.next<17592186044416)(ht:cp.tenant<8):cp.grH<18446744073709551616:=by
 have hl:(cp.obj.low.getD 0:Nat)≤8191:=by
  cases e:cp.obj.low with
  |none=>simp
  |some k =>
   have:=(low_spec e).1;rw [h.ok.obj] at this;simp;omega
 unfold CpS.grH packN;generalize cp.obj.low.getD 0=z at *;omega
theorem restA_lt{cp:CpS}{K:List Int}(h:CpR cp K)(g:Nat)(r:Int):(cp.restA g r).1<18446744073709551616:=by
 unfold CpS.restA
 split
 ·exact Nat.two_pow_pos 64
 ·split
  ·exact Nat.two_pow_pos 64
  ·split
   ·unfold CpS.putA
    split
    ·exact Nat.two_pow_pos 64
    ·rename_i hr _ hn
     split
     ·exact Nat.two_pow_pos 64
     ·rename_i k e
      have hk:=(low_spec e).1;have hs:cp.sh false=cp.ext:=rfl;rw [hs,h.ok.ext] at hk;have ht:=h.ok.tenant;have hb:CpS.base false=4096:=rfl;show packN cp.tenant (CpS.base false+k) r cp.next<_;rw [hb];unfold packN;omega
   ·exact Nat.two_pow_pos 64
theorem ask_h{B:List UInt8}{cm:CmS}{win:List Int}{tb:TbS}{t:TnS}(x:OpS)(ok:TnOk B cm win tb t)(hx:t.cp.next<17592186044416)(ht:t.cp.tenant<8)(hH:x.H<18446744073709551616):(t.ask x).1.h<18446744073709551616:=by
 have hg:=grH_lt ok.cp hx ht;have hR:∀n,(t.getR n).1.h<18446744073709551616:=fun n=>by
  unfold TnS.getR
  split
  ·exact Nat.two_pow_pos 64
  ·split
   ·exact Nat.two_pow_pos 64
   ·exact hg
 have hM:∀n,(t.malloc n).1.h<18446744073709551616:=hR;have h0:(0:Nat)<18446744073709551616:=by decide
 unfold TnS.ask
 split
 ·exact hM _
 split
 ·unfold TnS.calloc
  split
  ·exact hM _
  ·exact h0
 split
 ·unfold TnS.free;(repeat' split)<;>exact h0
 split
 ·unfold TnS.realloc
  (repeat' split)<;>first|exact h0|exact hH|exact hg
 split
 ·unfold TnS.usable;(repeat' split)<;>exact h0
 split
 ·unfold TnS.read;(repeat' split)<;>exact h0
 split
 ·unfold TnS.write;(repeat' split)<;>exact h0
 ·exact restA_lt ok.cp _ _
theorem do_h{w:World}{o:Nat→Tag}{r:Tag}{b:Nat}{B:List UInt8}{K:Nat}{s:AdS}(x:OpS)(h:SvAt w o r b B K s)(hK:K≤900000)(hH:x.H<18446744073709551616):(s.do_ x).1.h<18446744073709551616:=by
 obtain⟨ba,dv,n,tv,m,h1,hn,hm,hx⟩:=h;obtain⟨y,cm,p,tbs,g⟩:=h1.ad;have h0:(0:Nat)<18446744073709551616:=by decide
 unfold AdS.do_
 split
 ·rename_i hr
  obtain⟨g1,g2,g3,g4,g5,g6⟩:=right_iff.1 hr
  (repeat' split)<;>first|exact h0|skip
  rename_i t ht;obtain⟨a1,a2,a3⟩:=g.ok.tn x.T.toNat t (by omega) ht;have:=(hx x.T.toNat (by omega)).2 t ht;exact ask_h x a1 (by omega) (by omega) hH
 ·exact h0
end
end Go.Proofs.YtfliaggjkianpaaGreatDoor
