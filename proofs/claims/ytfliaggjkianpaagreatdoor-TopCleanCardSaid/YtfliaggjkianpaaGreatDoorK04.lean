import Derived.Test.YtfliaggjkianpaaGreatDoorK02
import Derived.Carry
import Derived.MapKept
set_option linter.unusedVariables false
set_option linter.unusedSimpArgs false
set_option maxRecDepth 100000
namespace Go.Proofs.YtfliaggjkianpaaGreatDoor
section
open Go.RowKit
section
variable{α:Type}
def mGet:List (Int×α)→Int→Option α
 |[],_=>none
 |(a,v) :: M,k=>if a=k then some v else mGet M k
def mIns(k:Int)(v:α):List (Int×α)→List (Int×α)
 |[]=>[(k,v)]
 |(a,u) :: M=>if k<a then (k,v) :: (a,u) :: M else if a=k then (k,v) :: M else (a,u) :: mIns k v M
def mDel(k:Int):List (Int×α)→List (Int×α)
 |[]=>[]
 |(a,u) :: M=>if a=k then M else (a,u) :: mDel k M
def Rise(M:List (Int×α)):Prop:=M.Pairwise (fun p q=>p.1<q.1)
theorem mGet_mem{M:List (Int×α)}{k:Int}{v:α}(h:mGet M k=some v):(k,v)∈M:=by
 induction M with
 |nil=>cases h
 |cons p M ih =>
  obtain⟨a,u⟩:=p;unfold mGet at h
  split at h
  ·rename_i e;injection h with h;subst h;subst e;exact List.mem_cons_self ..
  ·exact List.mem_cons_of_mem _ (ih h)
theorem mGet_of{M:List (Int×α)}(hr:Rise M){k:Int}{v:α}(h:(k,v)∈M):mGet M k=some v:=by
 induction M with
 |nil=>cases h
 |cons p M ih =>
  obtain⟨a,u⟩:=p;have hr':=List.pairwise_cons.1 hr;unfold mGet;rcases List.mem_cons.1 h with e|h
  ·injection e with e1 e2;rw [if_pos e1.symm,e2]
  ·have:=hr'.1 _ h
   simp only at this;rw [if_neg (by omega),ih hr'.2 h]
theorem mGet_none{M:List (Int×α)}{k:Int}(h:mGet M k=none):∀p∈M,p.1≠k:=by
 induction M with
 |nil=>intro p hp;cases hp
 |cons q M ih =>
  obtain⟨a,u⟩:=q;unfold mGet at h
  split at h
  ·cases h
  ·rename_i e
   intro p hp;rcases List.mem_cons.1 hp with rfl|hp
   ·exact e
   ·exact ih h p hp
theorem mIns_mem{M:List (Int×α)}{k:Int}{v:α}:∀p∈mIns k v M,p=(k,v)∨p∈M:=by
 induction M with
 |nil=>intro p hp;simp [mIns] at hp;exact .inl hp
 |cons q M ih =>
  obtain⟨a,u⟩:=q;intro p hp;unfold mIns at hp
  split at hp
  ·rcases List.mem_cons.1 hp with e|hp
   ·exact .inl e
   ·exact .inr hp
  ·split at hp
   ·rcases List.mem_cons.1 hp with e|hp
    ·exact .inl e
    ·exact .inr (List.mem_cons_of_mem _ hp)
   ·rcases List.mem_cons.1 hp with e|hp
    ·exact .inr (by rw [e];exact List.mem_cons_self ..)
    ·rcases ih p hp with e|e
     ·exact .inl e
     ·exact .inr (List.mem_cons_of_mem _ e)
theorem mIns_rise{M:List (Int×α)}(hr:Rise M)(k:Int)(v:α):Rise (mIns k v M):=by
 induction M with
 |nil=>simp [mIns,Rise]
 |cons q M ih =>
  obtain⟨a,u⟩:=q;have hr':=List.pairwise_cons.1 hr;unfold mIns
  split
  ·rename_i h
   refine List.pairwise_cons.2 ⟨fun p hp=>?_,hr⟩;rcases List.mem_cons.1 hp with rfl|hp
   ·exact h
   ·have:=hr'.1 p hp;simp only at this ⊢;omega
  ·split
   ·rename_i h1 h2
    subst h2;exact List.pairwise_cons.2 ⟨hr'.1,hr'.2⟩
   ·rename_i h1 h2
    refine List.pairwise_cons.2 ⟨fun p hp=>?_,ih hr'.2⟩;rcases mIns_mem p hp with rfl|hp
    ·simp only;omega
    ·exact hr'.1 p hp
theorem mDel_mem{M:List (Int×α)}{k:Int}:∀p∈mDel k M,p∈M:=by
 induction M with
 |nil=>intro p hp;cases hp
 |cons q M ih =>
  obtain⟨a,u⟩:=q;intro p hp;unfold mDel at hp
  split at hp
  ·exact List.mem_cons_of_mem _ hp
  ·rcases List.mem_cons.1 hp with e|hp
   ·rw [e];exact List.mem_cons_self ..
   ·exact List.mem_cons_of_mem _ (ih p hp)
theorem mDel_rise{M:List (Int×α)}(hr:Rise M)(k:Int):Rise (mDel k M):=by
 induction M with
 |nil=>exact List.Pairwise.nil
 |cons q M ih =>
  obtain⟨a,u⟩:=q;have hr':=List.pairwise_cons.1 hr;unfold mDel
  split
  ·exact hr'.2
  ·exact List.pairwise_cons.2 ⟨fun p hp=>hr'.1 p (mDel_mem p hp),ih hr'.2⟩
theorem mIns_new{M:List (Int×α)}{k:Int}(h:mGet M k=none)(v:α):(mIns k v M).Perm ((k,v) :: M):=by
 induction M with
 |nil=>exact List.Perm.refl _
 |cons q M ih =>
  obtain⟨a,u⟩:=q;unfold mGet at h
  split at h
  ·cases h
  ·rename_i e
   unfold mIns
   split
   ·exact List.Perm.refl _
   ·exact((ih h).cons (a,u)).trans (List.Perm.swap _ _ _)
theorem mAt{M:List (Int×α)}(hr:Rise M){k:Int}{u:α}(h:(k,u)∈M):∃A B,M=A++(k,u) :: B∧(∀v,mIns k v M=A++(k,v) :: B)∧mDel k M=A++B:=by
 induction M with
 |nil=>cases h
 |cons q M ih =>
  obtain⟨a,w⟩:=q;have hr':=List.pairwise_cons.1 hr;rcases List.mem_cons.1 h with e|h
  ·injection e with e1 e2
   subst e1 e2;exact⟨[],M,rfl,fun v=>by unfold mIns;rw [if_neg (by omega),if_pos rfl];rfl,by unfold mDel;rw [if_pos rfl];rfl⟩
  ·obtain⟨A,B,h1,h2,h3⟩:=ih hr'.2 h
   have:=hr'.1 _ h;simp only at this;refine⟨(a,w) :: A,B,by rw [h1];rfl,fun v=>?_,?_⟩
   ·unfold mIns;rw [if_neg (by omega),if_neg (by omega),h2];rfl
   ·unfold mDel;rw [if_neg (by omega),h3];rfl
theorem mGet_ins_same{M:List (Int×α)}(hr:Rise M)(k:Int)(v:α):mGet (mIns k v M) k=some v:=by
 refine mGet_of (mIns_rise hr k v) ?_;cases h:mGet M k with
 |none=>exact(mIns_new h v).mem_iff.2 (List.mem_cons_self ..)
 |some u =>
  obtain⟨A,B,_,h2,_⟩:=mAt hr (mGet_mem h);rw [h2];simp
theorem mGet_del_same{M:List (Int×α)}(hr:Rise M)(k:Int):mGet (mDel k M) k=none:=by
 induction M with
 |nil=>rfl
 |cons q M ih =>
  obtain⟨a,u⟩:=q;have hr':=List.pairwise_cons.1 hr;unfold mDel
  split
  ·rename_i e
   subst e;cases h:mGet M a with
   |none=>rfl
   |some v=>have:=hr'.1 _ (mGet_mem h);simp only at this;omega
  ·rename_i e
   unfold mGet;rw [if_neg e,ih hr'.2]
theorem mGet_ins_other{M:List (Int×α)}{k j:Int}(h:j≠k)(v:α):mGet (mIns k v M) j=mGet M j:=by
 induction M with
 |nil=>simp [mIns,mGet,Ne.symm h]
 |cons q M ih =>
  obtain⟨a,u⟩:=q;unfold mIns
  split
  ·simp [mGet,Ne.symm h]
  ·split
   ·rename_i h1 h2;subst h2;simp [mGet,Ne.symm h]
   ·simp only [mGet,ih]
theorem mGet_del_other{M:List (Int×α)}{k j:Int}(h:j≠k):mGet (mDel k M) j=mGet M j:=by
 induction M with
 |nil=>rfl
 |cons q M ih =>
  obtain⟨a,u⟩:=q;unfold mDel
  split
  ·rename_i h1;subst h1;simp [mGet,Ne.symm h]
  ·simp only [mGet,ih]
end
end
section
open Go.RowKit
open Go.MapKept (Stamped)
section
variable{α:Type}{P:Program}
def MpAt(w:World)(o:Nat→Tag)(t:Tag)(b:Nat)(q:IntKind)(enc:α→Value)(M:List (Int×α)):Prop :=
 o b=t∧Rise M∧M.length≤1000000000∧∃(es:Array MapEntry) (clock:Nat),w.heap[b]? = some (.map es clock)∧Stamped es clock∧(es.toList.map fun e=>(e.key,e.val)).Perm (M.map fun p=>(Value.int q p.1,enc p.2))
theorem MpAt.fr{S:Tag→Prop}{w w':World}{o o':Nat→Tag}{t:Tag}{b:Nat}{q:IntKind}{enc:α→Value}{M:List (Int×α)}(h:MpAt w o t b q enc M)(f:Fr S w o w' o')(hS:¬S t):MpAt w' o' t b q enc M:=by
 obtain⟨h1,h2,h3,es,clock,hb,h4⟩:=h;have hl:b<w.heap.size:=(Array.getElem?_eq_some_iff.1 hb).1;exact⟨(f.ext b hl).trans h1,h2,h3,es,clock,(f.only.block b hl (by show ¬S (o b);rw [h1];exact hS)).trans hb,h4⟩
theorem MpAt.lt{w:World}{o:Nat→Tag}{t:Tag}{b:Nat}{q:IntKind}{enc:α→Value}{M:List (Int×α)}(h:MpAt w o t b q enc M):b<w.heap.size:=by
 obtain⟨h1,h2,h3,es,clock,hb,h4⟩:=h;exact(Array.getElem?_eq_some_iff.1 hb).1
theorem MpAt.drew{w:World}{o:Nat→Tag}{t:Tag}{b:Nat}{q:IntKind}{enc:α→Value}{M:List (Int×α)}(h:MpAt w o t b q enc M):MpAt w.drew o t b q enc M:=h
theorem MpAt.made(w:World)(o:Nat→Tag)(t:Tag)(q:IntKind)(enc:α→Value):MpAt (w.alloc (.map #[] 0)) (setO o w.heap.size t) t w.heap.size q enc [] :=
 ⟨setO_same,List.Pairwise.nil,by simp,#[],0,heap_alloc_new w _,MapKept.stamped_empty 0,by simp⟩
theorem findNow_int(q:IntKind)(k:Int):∀(es:List MapEntry) (i:Nat),(∀e∈es,∃a,e.key=.int q a) →
  (Instr.findNow (.int q) (.int q k) es i=some none∧∀e∈es,e.key≠.int q k)∨∃A e B,es=A++e :: B∧e.key=.int q k∧Instr.findNow (.int q) (.int q k) es i=some (some (i+A.length,e.val))
 |[],i,_=>.inl ⟨rfl,fun e he=>by cases he⟩
 |x :: es,i,h=>by
  obtain⟨a,ha⟩:=h x (List.mem_cons_self ..);by_cases e:k=a
  ·subst e
   refine .inr ⟨[],x,es,rfl,ha,?_⟩;simp [Instr.findNow,Instr.sameNow,ha]
  ·have hs:Instr.findNow (.int q) (.int q k) (x :: es) i=Instr.findNow (.int q) (.int q k) es (i+1):=by
    simp [Instr.findNow,Instr.sameNow,ha,beq_eq_false_iff_ne.2 e]
   rcases findNow_int q k es (i+1) (fun e he=>h e (List.mem_cons_of_mem _ he)) with ⟨h1,h2⟩|⟨A,y,B,h1,h2,h3⟩
   ·refine .inl ⟨hs.trans h1,fun y hy=>?_⟩
    rcases List.mem_cons.1 hy with rfl|hy
    ·rw [ha];intro q;injection q with _ q;exact e q.symm
    ·exact h2 y hy
   ·refine .inr ⟨x :: A,y,B,by rw [h1];rfl,h2,?_⟩
    rw [hs,h3];simp;omega
theorem rep_find{q:IntKind}{enc:α→Value}{es:List MapEntry}{M:List (Int×α)}(hr:Rise M)(hp:(es.map fun e=>(e.key,e.val)).Perm (M.map fun p=>(Value.int q p.1,enc p.2)))(k:Int) :
  (mGet M k=none∧Instr.findNow (.int q) (.int q k) es 0=some none∧∀e∈es,e.key≠.int q k) ∨
  ∃v A e B,mGet M k=some v∧es=A++e :: B∧e.key=.int q k∧e.val=enc v∧Instr.findNow (.int q) (.int q k) es 0=some (some (A.length,e.val)):=by
 have hk:∀e∈es,∃p∈M,e.key=.int q p.1∧e.val=enc p.2:=fun e he=>by
  have:=hp.mem_iff.1 (List.mem_map.2 ⟨e,he,rfl⟩);obtain⟨p,hpm,h⟩:=List.mem_map.1 this;injection h with h1 h2
  exact⟨p,hpm,h1.symm,h2.symm⟩
 rcases findNow_int q k es 0 (fun e he=>by obtain⟨p,_,h,_⟩:=hk e he;exact⟨_,h⟩) with ⟨h1,h2⟩|⟨A,e,B,h1,h2,h3⟩
 ·refine .inl ⟨?_,h1,h2⟩
  cases hg:mGet M k with
  |none=>rfl
  |some v =>
   exfalso
   have:=hp.mem_iff.2 (List.mem_map.2 ⟨(k,v),mGet_mem hg,rfl⟩);obtain⟨e,he,h⟩:=List.mem_map.1 this;injection h with e1 _
   exact h2 e he e1
 ·obtain⟨p,hpm,e1,e2⟩:=hk e (by rw [h1];simp)
  have hkp:p.1=k:=by rw [h2] at e1;injection e1 with _ e1;exact e1.symm
  refine .inr ⟨p.2,A,e,B,mGet_of hr (by rw [←hkp];exact hpm),h1,h2,e2,by rw [h3,Nat.zero_add]⟩
theorem mp_lookup{w:World}{o:Nat→Tag}{t:Tag}{b:Nat}{q:IntKind}{enc:α→Value}{M:List (Int×α)}(h:MpAt w o t b q enc M){T kT eT:TypeId}(hT:P.underlying T=some (.map kT eT))(hk:P.underlying kT=some (.int q))
  {z:Value} (hz:∀w,(zeroValue eT).run P w=.ok z w) (k:Int) (c:Bool) :
  (Instr.lookup T (.map (some b)) (.int q k) c).run P w=.ok (match mGet M k with|some v=>if c then .tuple #[enc v,.bool true] else enc v|none=>if c then .tuple #[z,.bool false] else z) w:=by
 obtain⟨h1,h2,h3,es,clock,hb,h4,h5⟩:=h;have hck:∀e,(Instr.checkKey e 10000 kT (.int q k)).run P w=.ok () w:=fun e=>MapKept.run_checkKey hk (show MapKept.IsKey (.int q) (.int q k) from rfl) e 9999
 rcases rep_find h2 h5 k with ⟨hg,hf,_⟩|⟨v,A,e,B,hg,_,_,hv,hf⟩
 ·have:=MapKept.run_findKey (w:=w) hk hf
  rw [hg];simp [Instr.lookup,run_underlying hT,MapKept.run_getObj_map hb,hck,this,hz,Result.andThen]
 ·have:=MapKept.run_findKey (w:=w) hk hf
  rw [hg];simp [Instr.lookup,run_underlying hT,MapKept.run_getObj_map hb,hck,this,hv,Result.andThen]
theorem modify_mid{β:Type}:∀(A B:List β) (e:β) (f:β→β),(A++e :: B).modify A.length f=A++f e :: B
 |[],B,e,f=>rfl
 |a :: A,B,e,f=>by simpa using modify_mid A B e f
theorem toList_modify{es:Array MapEntry}{A B:List MapEntry}{e:MapEntry}(h:es.toList=A++e :: B)(f:MapEntry→MapEntry):(es.modify A.length f).toList=A++f e :: B:=by
 rw [Array.toList_modify,h];exact modify_mid A B e f
theorem toList_erase{es:Array MapEntry}{A B:List MapEntry}{e:MapEntry}(h:es.toList=A++e :: B):(es.eraseIdxIfInBounds A.length).toList=A++B:=by
 have hl:A.length<es.size:=by
  have:es.toList.length=es.size:=by simp
  rw [←this,h];simp
 unfold Array.eraseIdxIfInBounds;rw [dif_pos hl,Array.toList_eraseIdx,h,List.eraseIdx_append_of_length_le (Nat.le_refl _)];simp
def MpPost(w w':World)(o:Nat→Tag)(t:Tag)(b:Nat)(q:IntKind)(enc:α→Value)(M:List (Int×α)):Prop:=MpAt w' o t b q enc M∧Fr (· = t) w o w' o∧Only (· = b) w w'
theorem mp_set{w:World}{o:Nat→Tag}{t:Tag}{b:Nat}{x:Obj}(ho:o b=t):Only (· = b) w {w with heap:=w.heap.setIfInBounds b x}∧Fr (· = t) w o {w with heap:=w.heap.setIfInBounds b x} o:=by
 have h1:Only (· = b) w {w with heap:=w.heap.setIfInBounds b x}:=⟨rfl,rfl,rfl,by simp,fun k _ hk=>by simp [Ne.symm hk]⟩
 exact⟨h1,Fr.of_only (h1.mono (fun k _ e=>by rw [e];exact ho))⟩
theorem mp_store{w:World}{o:Nat→Tag}{t:Tag}{b:Nat}{q:IntKind}{enc:α→Value}{M:List (Int×α)}(h:MpAt w o t b q enc M){T kT eT:TypeId}(hT:P.underlying T=some (.map kT eT))(hk:P.underlying kT=some (.int q))(k:Int)(v:α)(hroom:M.length<1000000000) :
  ∃w',(Instr.mapUpdate T (.map (some b)) (.int q k) (enc v)).run P w=.ok () w'∧MpPost w w' o t b q enc (mIns k v M):=by
 obtain⟨h1,h2,h3,es,clock,hb,h4,h5⟩:=h;have hl:b<w.heap.size:=(Array.getElem?_eq_some_iff.1 hb).1;have hck:∀e,(Instr.checkKey e 10000 kT (.int q k)).run P w=.ok () w:=fun e=>MapKept.run_checkKey hk (show MapKept.IsKey (.int q) (.int q k) from rfl) e 9999
 rcases rep_find h2 h5 k with ⟨hg,hf,hne⟩|⟨u,A,e,B,hg,hes,he,hv,hf⟩
 ·have hfk:=MapKept.run_findKey (w:=w) hk hf
  refine⟨{w with heap:=w.heap.setIfInBounds b (.map (es.push ⟨.int q k,enc v,clock⟩) (clock+1))},?_,⟨h1,mIns_rise h2 k v,?_,es.push ⟨.int q k,enc v,clock⟩,clock+1,?_,MapKept.stamped_push h4 hne,?_⟩,(mp_set h1).2,(mp_set (o:=o) h1).1⟩
  ·simp [Instr.mapUpdate,run_underlying hT,MapKept.run_getObj_map hb,hck,hfk,MapKept.run_setObj_map _ hb,Result.andThen]
  ·rw [(mIns_new hg v).length_eq];simp;omega
  ·simp [hl]
  ·rw [Array.toList_push,List.map_append]
   refine(List.perm_append_comm).trans ?_;exact((h5.cons _).trans (((mIns_new hg v).symm.map (fun p:Int×α=>(Value.int q p.1,enc p.2)))))
 ·have hfk:=MapKept.run_findKey (w:=w) hk hf
  have hsame:Instr.sameBits 10000 (.int q k) (.int q k)=true:=by simp [Instr.sameBits]
  obtain⟨A',B',m1,m2,m3⟩:=mAt h2 (mGet_mem hg);have hget:es[A.length]? = some e:=by
   have:es.toList[A.length]? = some e:=by rw [hes];simp
   simpa using this
  refine⟨{w with heap:=w.heap.setIfInBounds b (.map (es.modify A.length fun e=>{e with key:=.int q k,val:=enc v}) clock)},?_,⟨h1,mIns_rise h2 k v,?_,es.modify A.length (fun e=>{e with key:=.int q k,val:=enc v}),clock,?_,?_,?_⟩,(mp_set h1).2,(mp_set (o:=o) h1).1⟩
  ·simp [Instr.mapUpdate,run_underlying hT,MapKept.run_getObj_map hb,hck,hfk,Instr.keyThatStays,hget,he,hsame,MapKept.run_setObj_map _ hb,Result.andThen]
  ·have:(mIns k v M).length=M.length:=by rw [m2,m1];simp
   omega
  ·simp [hl]
  ·exact MapKept.stamped_modify h4 A.length _ (fun _ _=>rfl) (fun x hx hxe=>by rw [hget] at hxe;injection hxe with hxe;rw [←hxe,he])
  ·rw [toList_modify hes,m2]
   rw [hes,m1] at h5;simp only [List.map_append,List.map_cons,he,hv] at h5 ⊢;have h6:=(List.perm_middle.symm.trans (h5.trans List.perm_middle)).cons_inv;exact List.perm_middle.trans ((h6.cons _).trans List.perm_middle.symm)
theorem mp_delete{w:World}{o:Nat→Tag}{t:Tag}{b:Nat}{q:IntKind}{enc:α→Value}{M:List (Int×α)}(h:MpAt w o t b q enc M){T kT eT ty:TypeId}(hT:P.underlying T=some (.map kT eT))(hk:P.underlying kT=some (.int q))(k:Int) :
  ∃w',(Builtin.delete_ #[T,kT] ty #[.map (some b),.int q k]).run P w=.ok (.tuple #[]) w'∧MpPost w w' o t b q enc (mDel k M):=by
 obtain⟨h1,h2,h3,es,clock,hb,h4,h5⟩:=h;have hl:b<w.heap.size:=(Array.getElem?_eq_some_iff.1 hb).1;have hck:∀e,(Instr.checkKey e 10000 kT (.int q k)).run P w=.ok () w:=fun e=>MapKept.run_checkKey hk (show MapKept.IsKey (.int q) (.int q k) from rfl) e 9999
 rcases rep_find h2 h5 k with ⟨hg,hf,hne⟩|⟨u,A,e,B,hg,hes,he,hv,hf⟩
 ·have hfk:=MapKept.run_findKey (w:=w) hk hf
  have hd:mDel k M=M:=by
   have hno:=mGet_none hg;clear h5 hg h2 h3;induction M with
   |nil=>rfl
   |cons p M ih =>
    obtain⟨a,u⟩:=p;unfold mDel;rw [if_neg (hno _ (List.mem_cons_self ..)),ih (fun p hp=>hno p (List.mem_cons_of_mem _ hp))]
  rw [hd];refine⟨{w with heap:=w.heap.setIfInBounds b (.map es clock)},?_,⟨h1,h2,h3,es,clock,?_,h4,h5⟩,(mp_set h1).2,(mp_set (o:=o) h1).1⟩
  ·simp [Builtin.delete_,run_underlying hT,MapKept.run_getObj_map hb,hck,hfk,MapKept.run_setObj_map _ hb,Result.andThen]
  ·simp [hl]
 ·have hfk:=MapKept.run_findKey (w:=w) hk hf
  obtain⟨A',B',m1,m2,m3⟩:=mAt h2 (mGet_mem hg);refine⟨{w with heap:=w.heap.setIfInBounds b (.map (es.eraseIdxIfInBounds A.length) clock)},?_,⟨h1,mDel_rise h2 k,?_,es.eraseIdxIfInBounds A.length,clock,?_,MapKept.stamped_erase h4 _,?_⟩,(mp_set h1).2,(mp_set (o:=o) h1).1⟩
  ·simp [Builtin.delete_,run_underlying hT,MapKept.run_getObj_map hb,hck,hfk,MapKept.run_setObj_map _ hb,Result.andThen]
  ·rw [m3];rw [m1] at h3;simp at h3 ⊢;omega
  ·simp [hl]
  ·rw [toList_erase hes,m3]
   rw [hes,m1] at h5;simp only [List.map_append,List.map_cons,he,hv] at h5 ⊢;exact(List.perm_middle.symm.trans (h5.trans List.perm_middle)).cons_inv
theorem mp_len{w:World}{o:Nat→Tag}{t:Tag}{b:Nat}{q:IntKind}{enc:α→Value}{M:List (Int×α)}(h:MpAt w o t b q enc M):∃es clock,w.heap[b]? = some (.map es clock)∧es.size=M.length:=by
 obtain⟨h1,h2,h3,es,clock,hb,h4,h5⟩:=h;have:=h5.length_eq;simp at this
 exact⟨es,clock,hb,this⟩
def MpOpen(w:World)(o:Nat→Tag)(t:Tag)(b:Nat)(q:IntKind)(enc:α→Value)(M:List (Int×α))(k:Int)(s:Nat):Prop :=
 o b=t∧Rise M∧M.length≤1000000000∧∃(es:Array MapEntry) (clock:Nat) (A B:List MapEntry) (e:MapEntry),w.heap[b]? = some (.map es clock)∧Stamped es clock∧es.toList=A++e :: B∧e.key=.int q k∧e.born=s ∧
  ((A++B).map fun e=>(e.key,e.val)).Perm ((mDel k M).map fun p=>(Value.int q p.1,enc p.2))
theorem MpOpen.fr{S:Tag→Prop}{w w':World}{o o':Nat→Tag}{t:Tag}{b:Nat}{q:IntKind}{enc:α→Value}{M:List (Int×α)}{k:Int}{s:Nat}(h:MpOpen w o t b q enc M k s)(f:Fr S w o w' o')(hS:¬S t):MpOpen w' o' t b q enc M k s:=by
 obtain⟨h1,h2,h3,es,clock,A,B,e,hb,h4⟩:=h;have hl:b<w.heap.size:=(Array.getElem?_eq_some_iff.1 hb).1;exact⟨(f.ext b hl).trans h1,h2,h3,es,clock,A,B,e,(f.only.block b hl (by show ¬S (o b);rw [h1];exact hS)).trans hb,h4⟩
theorem mDel_none{M:List (Int×α)}{k:Int}(h:mGet M k=none):mDel k M=M:=by
 have hno:=mGet_none h;clear h;induction M with
 |nil=>rfl
 |cons p M ih =>
  obtain⟨a,u⟩:=p;unfold mDel;rw [if_neg (hno _ (List.mem_cons_self ..)),ih (fun p hp=>hno p (List.mem_cons_of_mem _ hp))]
theorem mIns_perm{M:List (Int×α)}(hr:Rise M)(k:Int)(v:α):(mIns k v M).Perm ((k,v) :: mDel k M):=by
 cases h:mGet M k with
 |none=>rw [mDel_none h];exact mIns_new h v
 |some u =>
  obtain⟨A,B,_,h2,h3⟩:=mAt hr (mGet_mem h);rw [h2,h3];exact List.perm_middle
theorem mIns_len{M:List (Int×α)}(hr:Rise M)(k:Int)(v:α):(mIns k v M).length≤M.length+1:=by
 cases h:mGet M k with
 |none=>rw [(mIns_new h v).length_eq];simp
 |some u =>
  obtain⟨A,B,h1,h2,_⟩:=mAt hr (mGet_mem h);rw [h2,h1];simp
theorem mp_entry{w:World}{o:Nat→Tag}{t:Tag}{b:Nat}{q:IntKind}{enc:α→Value}{M:List (Int×α)}(h:MpAt w o t b q enc M){T kT eT:TypeId}(hT:P.underlying T=some (.map kT eT))(hk:P.underlying kT=some (.int q))
  {z:Value} (hz:∀w,(zeroValue eT).run P w=.ok z w) (k:Int) :
  ∃(v:Value) (s:Nat) (w':World),(Instr.mapEntry T (.map (some b)) (.int q k)).run P w=.ok (.tuple #[v,.int .i64 (s:Int)]) w'∧MpOpen w' o t b q enc M k s∧Fr (· = t) w o w' o∧Only (· = b) w w':=by
 obtain⟨h1,h2,h3,es,clock,hb,h4,h5⟩:=h;have hl:b<w.heap.size:=(Array.getElem?_eq_some_iff.1 hb).1;have hck:∀e,(Instr.checkKey e 10000 kT (.int q k)).run P w=.ok () w:=fun e=>MapKept.run_checkKey hk (show MapKept.IsKey (.int q) (.int q k) from rfl) e 9999
 rcases rep_find h2 h5 k with ⟨hg,hf,hne⟩|⟨u,A,e,B,hg,hes,he,hv,hf⟩
 ·have hfk:=MapKept.run_findKey (w:=w) hk hf
  refine⟨z,clock,{w with heap:=w.heap.setIfInBounds b (.map (es.push ⟨.int q k,z,clock⟩) (clock+1))},?_,⟨h1,h2,h3,es.push ⟨.int q k,z,clock⟩,clock+1,es.toList,[],⟨.int q k,z,clock⟩,?_,MapKept.stamped_push h4 hne,?_,rfl,rfl,?_⟩,(mp_set h1).2,(mp_set (o:=o) h1).1⟩
  ·simp [Instr.mapEntry,goInt,run_underlying hT,MapKept.run_getObj_map hb,hck,hfk,hz,MapKept.run_setObj_map _ hb,Result.andThen]
  ·simp [hl]
  ·simp
  ·rw [mDel_none hg,List.append_nil];exact h5
 ·have hfk:=MapKept.run_findKey (w:=w) hk hf
  have hsame:Instr.sameBits 10000 (.int q k) (.int q k)=true:=by simp [Instr.sameBits]
  obtain⟨A',B',m1,m2,m3⟩:=mAt h2 (mGet_mem hg);have hget:es[A.length]? = some e:=by
   have:es.toList[A.length]? = some e:=by rw [hes];simp
   simpa using this
  refine⟨e.val,e.born,{w with heap:=w.heap.setIfInBounds b (.map (es.modify A.length fun e=>{e with key:=.int q k}) clock)},?_,⟨h1,h2,h3,es.modify A.length (fun e=>{e with key:=.int q k}),clock,A,B,{e with key:=.int q k},?_,?_,toList_modify hes _,rfl,rfl,?_⟩,(mp_set h1).2,(mp_set (o:=o) h1).1⟩
  ·simp [Instr.mapEntry,goInt,run_underlying hT,MapKept.run_getObj_map hb,hck,hfk,Instr.keyThatStays,hget,he,hsame,MapKept.run_setObj_map _ hb,Result.andThen]
  ·simp [hl]
  ·exact MapKept.stamped_modify h4 A.length _ (fun _ _=>rfl) (fun x hx hxe=>by rw [hget] at hxe;injection hxe with hxe;rw [←hxe,he])
  ·rw [m3]
   rw [hes,m1] at h5;simp only [List.map_append,List.map_cons,he,hv] at h5 ⊢;exact(List.perm_middle.symm.trans (h5.trans List.perm_middle)).cons_inv
theorem mp_entryStore{w:World}{o:Nat→Tag}{t:Tag}{b:Nat}{q:IntKind}{enc:α→Value}{M:List (Int×α)}{k:Int}{s:Nat}(h:MpOpen w o t b q enc M k s)(T:TypeId)(v:α)(hroom:M.length<1000000000) :
  ∃w',(Instr.entryStore T (.map (some b)) (.int .i64 (s:Int)) (enc v)).run P w=.ok () w'∧MpPost w w' o t b q enc (mIns k v M):=by
 obtain⟨h1,h2,h3,es,clock,A,B,e,hb,h4,hes,he,hs,h5⟩:=h;have hl:b<w.heap.size:=(Array.getElem?_eq_some_iff.1 hb).1;have hfi:es.findIdx? (fun e=>(e.born:Int)==(s:Int))=some A.length:=by
  have hlen:A.length<es.size:=by
   have:es.toList.length=es.size:=by simp
   rw [←this,hes];simp
  have hi:∀j (hj:j<es.size),es[j]=es.toList[j]'(by simpa using hj):=fun j hj=>by simp
  rw [Array.findIdx?_eq_some_iff_getElem];refine⟨hlen,?_,fun j hj=>?_⟩
  ·rw [hi]
   simp [hes,hs]
  ·rw [hi]
   have hnd:=h4.2.1;rw [hes,List.map_append,List.map_cons,List.nodup_append] at hnd;simp only [hes,List.getElem_append_left hj];intro q;have q':(A[j]).born=s:=by have:=beq_iff_eq.1 q;omega
   exact hnd.2.2 _ (List.mem_map.2 ⟨A[j],List.getElem_mem hj,rfl⟩) _ (List.mem_cons_self ..) (by rw [q',hs])
 refine⟨{w with heap:=w.heap.setIfInBounds b (.map (es.modify A.length fun e=>{e with val:=enc v}) clock)},?_,⟨h1,mIns_rise h2 k v,?_,es.modify A.length (fun e=>{e with val:=enc v}),clock,?_,?_,?_⟩,(mp_set h1).2,(mp_set (o:=o) h1).1⟩
 ·simp [Instr.entryStore,MapKept.run_getObj_map hb,asInt,asIntOf,hfi,MapKept.run_setObj_map _ hb,Result.andThen]
 ·have:=mIns_len h2 k v;omega
 ·simp [hl]
 ·exact MapKept.stamped_modify h4 A.length _ (fun _ _=>rfl) (fun _ _ _=>rfl)
 ·rw [toList_modify hes]
  simp only [List.map_append,List.map_cons,he];refine List.perm_middle.trans ?_;rw [←List.map_append];exact(h5.cons _).trans ((mIns_perm h2 k v).symm.map (fun p:Int×α=>(Value.int q p.1,enc p.2)))
end
end
section
open Go.RowKit
abbrev eI:Int→Value:=fun x=>.int .i64 x
structure TbS where
 pg:List (Int×Int)
 lc:List (Int×Int)
def TbS.ok(s:TbS):Prop:=(∀p∈s.pg,256≤p.1∧p.1<6400)∧∀p∈s.lc,0≤p.1∧p.1<1048577
theorem rise_len{α:Type}{M:List (Int×α)}(hr:Rise M):∀(a b:Int),a≤b→(∀p∈M,a≤p.1∧p.1<b)→(M.length:Int)≤b-a:=by
 induction M with
 |nil=>intro a b h _;simp;omega
 |cons p M ih =>
  intro a b hab h;obtain⟨h1,h2⟩:=List.pairwise_cons.1 hr;have hp:=h p (List.mem_cons_self ..);have:=ih h2 (p.1+1) b (by omega) (fun q hq=>⟨by have:=h1 q hq;omega,(h q (List.mem_cons_of_mem _ hq)).2⟩);simp only [List.length_cons];omega
def TbAt(w:World)(o:Nat→Tag)(t:Tag)(b:Nat)(s:TbS):Prop :=
 s.ok∧∃g l,Blk w o t b #[.map (some g),.map (some l)] 246∧MpAt w o t g .i64 eI s.pg∧MpAt w o t l .i64 eI s.lc∧g≠l∧b≠g∧b≠l
theorem TbAt.fr{S:Tag→Prop}{w w':World}{o o':Nat→Tag}{t:Tag}{b:Nat}{s:TbS}(h:TbAt w o t b s)(f:Fr S w o w' o')(hS:Off S t):TbAt w' o' t b s:=by
 obtain⟨h0,g,l,h1,h2,h3,h4⟩:=h;exact⟨h0,g,l,h1.fr f hS.self,h2.fr f hS.self,h3.fr f hS.self,h4⟩
theorem zeroI(w:World):(zeroValue 3).run Tryz.prog w=.ok (.int .i64 0) w:=by kernel_rfl
def lookV(M:List (Int×Int))(k:Int):Int:=(mGet M k).getD (-1)
theorem tbLook(g:Nat)(k:Int)(w:World){o:Nat→Tag}{t:Tag}{M:List (Int×Int)}(h:MpAt w o t g .i64 eI M) :
  Calls Tryz.prog 223 #[.map (some g),.int .i64 k] w fun e w'=>e=.returned (.int .i64 (lookV M k))∧w'=w:=by
 have hl:=mp_lookup h (P:=Tryz.prog) Tryz.underlying131 Tryz.underlying3 zeroI k true;unfold lookV;cases hg:mGet M k with
 |none =>
  rw [hg] at hl;simp only [if_true] at hl;clear h hg;go_enter Tryz.func223,Tryz.ntmps223
  go_wp2_with fail;go_ret
  exact⟨rfl,rfl⟩
 |some v =>
  rw [hg] at hl;simp only [if_true] at hl;clear h hg;go_enter Tryz.func223,Tryz.ntmps223
  go_wp2_with fail;go_ret
  exact⟨rfl,rfl⟩
theorem tbFind(b:Nat)(k:Int)(w:World){o:Nat→Tag}{t:Tag}{s:TbS}(h:TbAt w o t b s) :
  Calls Tryz.prog 183 #[.pointer (some ⟨b,0,none⟩),.int .i64 k] w fun e w'=>e=.returned (.int .i64 (lookV s.pg k))∧w'=w:=by
 obtain⟨_,g,l,h1,h2,_⟩:=h;have c0:w.cell? ⟨b,0,none⟩=some (.map (some g)):=h1.cell' (i:=0) rfl;have hl:=HD (tbLook g k w h2);clear h1 h2;go_enter Tryz.func183,Tryz.ntmps183
 go_wp2_with fail;refine SM hl.out ?_;go_wp2_with fail;go_ret
 exact⟨rfl,rfl⟩
theorem tbHolder(b:Nat)(k:Int)(w:World){o:Nat→Tag}{t:Tag}{s:TbS}(h:TbAt w o t b s) :
  Calls Tryz.prog 186 #[.pointer (some ⟨b,0,none⟩),.int .i64 k] w fun e w'=>e=.returned (.int .i64 (lookV s.lc k))∧w'=w:=by
 obtain⟨_,g,l,h1,_,h2,_⟩:=h;have c0:w.cell? ⟨b,1,none⟩=some (.map (some l)):=h1.cell' (i:=1) rfl;have hl:=HD (tbLook l k w h2);clear h1 h2;go_enter Tryz.func186,Tryz.ntmps186
 go_wp2_with fail;refine SM hl.out ?_;go_wp2_with fail;go_ret
 exact⟨rfl,rfl⟩
theorem tbLen(b:Nat)(w:World){o:Nat→Tag}{t:Tag}{s:TbS}(h:TbAt w o t b s) :
  Calls Tryz.prog 193 #[.pointer (some ⟨b,0,none⟩)] w fun e w'=>e=.returned (.int .i64 s.pg.length)∧w'=w:=by
 obtain⟨_,g,l,h1,h2,_⟩:=h;have c0:w.cell? ⟨b,0,none⟩=some (.map (some g)):=h1.cell' (i:=0) rfl;obtain⟨es,clock,hb,hs⟩:=mp_len h2;have hlen:∀w' ty,w'=w→(Builtin.len_ #[131] ty #[.map (some g)]).run Tryz.prog w'=.ok (.int .i64 s.pg.length) w:=by
  intro w' ty e;subst e;simp [Builtin.len_,run_getObj_map _ _ _ _ hb,hs,goInt]
 clear h1 h2;go_enter Tryz.func193,Tryz.ntmps193
 go_wp2_with fail;go_ret
 exact⟨rfl,rfl⟩
theorem tbNew(w:World)(o:Nat→Tag)(t:Tag) :
  Calls Tryz.prog 125 #[] w fun e w'=>(∃b,e=.returned (.pointer (some ⟨b,0,none⟩))∧TbAt w' (newO o w t) t b ⟨[],[]⟩)∧Below w.heap.size w w':=by
 have hmk:∀w,(Instr.makeMap 131 none).run Tryz.prog w=.ok (.map (some w.heap.size)) (w.alloc (.map #[] 0)):=fun w=>run_makeMap _ w
 have hB:Hid (Below w.heap.size w (((w.alloc (.map #[] 0)).alloc (.map #[] 0)).alloc (.cells #[.map (some w.heap.size),.map (some (w.heap.size+1))] 246))):=HD (below_alloc (by simp;omega) (below_alloc (by simp) (below_alloc (Nat.le_refl _) (Below.refl _ _))));have hC:Hid (TbAt (((w.alloc (.map #[] 0)).alloc (.map #[] 0)).alloc (.cells #[.map (some w.heap.size),.map (some (w.heap.size+1))] 246)) (newO o w t) t (w.heap.size+2) ⟨[],[]⟩):=HD (by
  have k0:(w.alloc (.map #[] 0)).heap[w.heap.size]? = some (.map #[] 0):=heap_alloc_new w _;have k1:((w.alloc (.map #[] 0)).alloc (.map #[] 0)).heap[w.heap.size+1]? = some (.map #[] 0):=by
   have:=heap_alloc_new (w.alloc (.map #[] 0)) (.map #[] 0);rwa [World.size_alloc] at this
  have k2:(((w.alloc (.map #[] 0)).alloc (.map #[] 0)).alloc (.cells #[.map (some w.heap.size),.map (some (w.heap.size+1))] 246)).heap[w.heap.size+2]? = some (.cells #[.map (some w.heap.size),.map (some (w.heap.size+1))] 246):=by
   have:=heap_alloc_new ((w.alloc (.map #[] 0)).alloc (.map #[] 0)) (.cells #[.map (some w.heap.size),.map (some (w.heap.size+1))] 246);rwa [World.size_alloc,World.size_alloc] at this
  have old:∀(W:World) (x:Obj) (k:Nat),k<W.heap.size→(W.alloc x).heap[k]? = W.heap[k]?:=fun W x k hk=>((Only.refl (fun _=>False) W).alloc x).block k hk (fun q=>q)
  refine⟨⟨fun p hp=>(by cases hp),fun p hp=>(by cases hp)⟩,w.heap.size,w.heap.size+1,⟨newO_new (by omega),k2⟩,⟨newO_new (Nat.le_refl _),List.Pairwise.nil,by simp,#[],0,?_,MapKept.stamped_empty 0,by simp⟩,⟨newO_new (by omega),List.Pairwise.nil,by simp,#[],0,?_,MapKept.stamped_empty 0,by simp⟩,by omega,by omega,by omega⟩
  ·rw [old _ _ _ (by simp;omega),old _ _ _ (by simp)];exact k0
  ·rw [old _ _ _ (by simp)];exact k1)
 go_enter Tryz.func125,Tryz.ntmps125
 go_wp2_with fail;go_ret
 exact⟨⟨_,rfl,hC.out⟩,hB.out⟩
end
section
open Go.RowKit
def TbPost(w:World)(o:Nat→Tag)(t:Tag)(b:Nat)(v:Value)(s:TbS)(e:Ending)(w':World):Prop:=e=.returned v∧TbAt w' o t b s∧Fr (Und t) w o w' o
theorem fr_eq{t:Tag}{w w':World}{o o':Nat→Tag}(f:Fr (· = t) w o w' o'):Fr (Und t) w o w' o':=f.mono (fun u e=>by rw [e];exact Und.self t)
theorem only_mp{α:Type}{bs:Nat→Prop}{w w':World}{o:Nat→Tag}{t:Tag}{b:Nat}{q:IntKind}{enc:α→Value}{M:List (Int×α)}(h:MpAt w o t b q enc M)(f:Only bs w w')(hb:¬bs b):MpAt w' o t b q enc M:=by
 obtain⟨h1,h2,h3,es,clock,hb',h4⟩:=h;exact⟨h1,h2,h3,es,clock,(f.block b (Array.getElem?_eq_some_iff.1 hb').1 hb).trans hb',h4⟩
theorem only_blk{bs:Nat→Prop}{w w':World}{o:Nat→Tag}{t:Tag}{b:Nat}{c:Array Value}{T:TypeId}(h:Blk w o t b c T)(f:Only bs w w')(hb:¬bs b):Blk w' o t b c T:=⟨h.1,(f.block b h.lt hb).trans h.2⟩
theorem tbPut(b:Nat)(k p:Int)(w:World){o:Nat→Tag}{t:Tag}{s:TbS}(h:TbAt w o t b s)(hk:256≤k∧k<6400)(hp:0≤p∧p<1048577) :
  Calls Tryz.prog 187 #[.pointer (some ⟨b,0,none⟩),.int .i64 k,.int .i64 p] w (TbPost w o t b (.tuple #[]) ⟨mIns k p s.pg,mIns p k s.lc⟩):=by
 obtain⟨h0,g,l,h1,h2,h3,hgl,hbg,hbl⟩:=h;have hr1:=rise_len h2.2.1 256 6400 (by omega) h0.1;have hr2:=rise_len h3.2.1 0 1048577 (by omega) h0.2;have hok:TbS.ok ⟨mIns k p s.pg,mIns p k s.lc⟩:=⟨fun x hx=>by
  rcases mIns_mem x hx with rfl|hx
  ·exact hk
  ·exact h0.1 x hx,fun x hx=>by
  rcases mIns_mem x hx with rfl|hx
  ·exact hp
  ·exact h0.2 x hx⟩
 have hg0:=h2.1;have hl0:=h3.1;have hd1:Blk w.drew o t b #[.map (some g),.map (some l)] 246:=h1;obtain⟨v1,s1,w1,e1,m1,f1,q1⟩:=mp_entry (P:=Tryz.prog) (MpAt.drew h2) Tryz.underlying131 Tryz.underlying3 zeroI k;obtain⟨w2,e2,m2,f2,q2⟩:=mp_entryStore (P:=Tryz.prog) m1 131 p (by omega);have k2:MpAt w2 o t l .i64 eI s.lc:=only_mp (only_mp (MpAt.drew h3) q1 (fun e=>hgl e.symm)) q2 (fun e=>hgl e.symm);obtain⟨v3,s3,w3,e3,m3,f3,q3⟩:=mp_entry (P:=Tryz.prog) k2 Tryz.underlying131 Tryz.underlying3 zeroI p;obtain⟨w4,e4,m4,f4,q4⟩:=mp_entryStore (P:=Tryz.prog) m3 131 k (by omega);have b1:=only_blk hd1 q1 hbg;have b2:=only_blk b1 q2 hbg;have b3:=only_blk b2 q3 hbl;have b4:=only_blk b3 q4 hbl;have m2':=only_mp (only_mp m2 q3 hgl) q4 hgl;have hfin:=HD (show TbPost w o t b (.tuple #[]) ⟨mIns k p s.pg,mIns p k s.lc⟩ (.returned (.tuple #[])) w4 from
  ⟨rfl,⟨hok,g,l,b4,m2',m4,hgl,hbg,hbl⟩,fr_eq ((Fr.drew.trans f1).trans ((f2.trans f3).trans f4))⟩)
 have c0:w.cell? ⟨b,0,none⟩=some (.map (some g)):=h1.cell' (i:=0) rfl;have c1:w.cell? ⟨b,1,none⟩=some (.map (some l)):=h1.cell' (i:=1) rfl;have x1:w1.cell? ⟨b,0,none⟩=some (.map (some g))∧w1.cell? ⟨b,1,none⟩=some (.map (some l)):=⟨b1.cell' (i:=0) rfl,b1.cell' (i:=1) rfl⟩
 have x2:w2.cell? ⟨b,0,none⟩=some (.map (some g))∧w2.cell? ⟨b,1,none⟩=some (.map (some l)):=⟨b2.cell' (i:=0) rfl,b2.cell' (i:=1) rfl⟩
 have x3:w3.cell? ⟨b,0,none⟩=some (.map (some g))∧w3.cell? ⟨b,1,none⟩=some (.map (some l)):=⟨b3.cell' (i:=0) rfl,b3.cell' (i:=1) rfl⟩
 have x4:w4.cell? ⟨b,0,none⟩=some (.map (some g))∧w4.cell? ⟨b,1,none⟩=some (.map (some l)):=⟨b4.cell' (i:=0) rfl,b4.cell' (i:=1) rfl⟩
 clear h0 hok hk hp hr1 hr2 h1 h2 h3 hd1 m1 f1 q1 m2 f2 q2 k2 m3 f3 q3 m4 f4 q4 b1 b2 b3 b4 m2' hg0 hl0;go_enter Tryz.func187,Tryz.ntmps187
 go_wp2_with fail;refine wp_region_noPanic ?_;refine wp_region_held_drew (S:=(fun W=>W.cell? ⟨b,0,none⟩=some (.map (some g))∧W.cell? ⟨b,1,none⟩=some (.map (some l)))) (by kernel_rfl) ?_ (fun hHeld=>?_)
 ·(first|exact⟨c0,c1⟩|exact x1|exact x2|exact x3|exact x4)
 refine tkH 0 (h:=?_);refine tkH 1 (h:=?_);refine tkH 2 (h:=?_);refine tkH 3 (h:=?_);refine tkH 4 (h:=?_);refine tkH 5 (h:=?_);refine tkH 6 (h:=?_);refine tkH 7 (h:=?_);refine tkH 8 (h:=?_);refine tkH 9 (h:=?_);refine tkH 10 (h:=?_);refine tkH 11 (h:=?_);refine onH 12 (h:=fun K hK=>?_);go_simp;refine hK.out _ _ ?_ (fun hHeld=>?_)
 ·(first|exact⟨c0,c1⟩|exact x1|exact x2|exact x3|exact x4)
 clear hK;refine nmH (h:=?_);refine tkH 13 (h:=?_);refine onH 14 (h:=fun K hK=>?_);go_simp;refine hK.out _ _ ?_ (fun hHeld=>?_)
 ·(first|exact⟨c0,c1⟩|exact x1|exact x2|exact x3|exact x4)
 clear hK;refine nmH (h:=?_);refine onH 15 (h:=fun K hK=>?_);go_simp;refine hK.out _ _ ?_ (fun hHeld=>?_)
 ·(first|exact⟨c0,c1⟩|exact x1|exact x2|exact x3|exact x4)
 clear hK;refine nmH (h:=?_);refine tkH 16 (h:=?_);refine onH 17 (h:=fun K hK=>?_);go_simp;refine hK.out _ _ ?_ (fun hHeld=>?_)
 ·(first|exact⟨c0,c1⟩|exact x1|exact x2|exact x3|exact x4)
 clear hK;refine nmH (h:=?_);refine wpAnyH_done (by kernel_rfl) ?_ _;refine NoPanic.normal ?_;exact bodyPost_end (results_none (by kernel_rfl) _ _ _) rfl hfin.out
def TbS.mapE(s:TbS)(v p:Int):Int:=if v<256∨6400≤v∨p<0∨1048576<p then 12 else if 0≤lookV s.pg v∨0≤lookV s.lc p then 7 else 0
def TbS.map(s:TbS)(v p:Int):TbS:=if s.mapE v p=0 then ⟨mIns v p s.pg,mIns p v s.lc⟩ else s
theorem tbMap(b:Nat)(k p:Int)(w:World){o:Nat→Tag}{t:Tag}{s:TbS}(h:TbAt w o t b s) :
  Calls Tryz.prog 228 #[.pointer (some ⟨b,0,none⟩),.int .i64 k,.int .i64 p] w (TbPost w o t b (.int .i64 (s.mapE k p)) (s.map k p)):=by
 have hs:=HD h;have hf:=HD (tbFind b k w h);have hh:=HD (tbHolder b p w h);unfold TbS.map;by_cases h1:k<256∨6400≤k∨p<0∨1048576<p
 ·have e:s.mapE k p=12:=if_pos h1
  rw [e,if_neg (by decide)];clear e hf hh h;rcases Classical.em (k<256) with q1|q1
  ·go_enter Tryz.func228,Tryz.ntmps228
   go_wp2_with fail;go_ret
   exact⟨rfl,hs.out,Fr.refl _ _ _⟩
  ·rcases Classical.em (6400≤k) with q2|q2
   ·go_enter Tryz.func228,Tryz.ntmps228
    go_wp2_with fail;go_ret
    exact⟨rfl,hs.out,Fr.refl _ _ _⟩
   ·rcases Classical.em (p<0) with q3|q3
    ·clear h1
     go_enter Tryz.func228,Tryz.ntmps228
     go_wp2_with fail;go_ret
     exact⟨rfl,hs.out,Fr.refl _ _ _⟩
    ·have q4:1048576<p:=by omega
     clear h1;go_enter Tryz.func228,Tryz.ntmps228
     go_wp2_with fail;go_ret
     exact⟨rfl,hs.out,Fr.refl _ _ _⟩
 ·have q1:¬k<256:=fun q=>h1 (.inl q)
  have q2:¬6400≤k:=fun q=>h1 (.inr (.inl q))
  have q3:¬p<0:=fun q=>h1 (.inr (.inr (.inl q)))
  have q4:¬1048576<p:=fun q=>h1 (.inr (.inr (.inr q)))
  by_cases h2:0≤lookV s.pg k
  ·have e:s.mapE k p=7:=by unfold TbS.mapE;rw [if_neg h1,if_pos (.inl h2)]
   rw [e,if_neg (by decide)];generalize lookV s.pg k=x at *;clear e hh h h1;go_enter Tryz.func228,Tryz.ntmps228
   go_wp2_with fail;refine SM hf.out ?_;go_wp2_with fail;go_ret
   exact⟨rfl,hs.out,Fr.refl _ _ _⟩
  ·by_cases h3:0≤lookV s.lc p
   ·have e:s.mapE k p=7:=by unfold TbS.mapE;rw [if_neg h1,if_pos (.inr h3)]
    rw [e,if_neg (by decide)];generalize lookV s.pg k=x at *;generalize lookV s.lc p=y at *;clear e h h1;go_enter Tryz.func228,Tryz.ntmps228
    go_wp2_with fail;refine SM hf.out ?_;go_wp2_with fail;refine SM hh.out ?_;go_wp2_with fail;go_ret
    exact⟨rfl,hs.out,Fr.refl _ _ _⟩
   ·have e:s.mapE k p=0:=by unfold TbS.mapE;rw [if_neg h1,if_neg (fun q=>q.elim h2 h3)]
    rw [e,if_pos rfl];have hp:=HD (tbPut b k p w h (by omega) (by omega));generalize lookV s.pg k=x at *;generalize lookV s.lc p=y at *;clear e h h1;go_enter Tryz.func228,Tryz.ntmps228
    go_wp2_with fail;refine SM hf.out ?_;go_wp2_with fail;refine SM hh.out ?_;go_wp2_with fail;refine hp.out.mono ?_;rintro e w1 ⟨rfl,r1,r2⟩;replace r1:=HD r1;replace r2:=HD r2;go_wp2_with fail;go_ret
    exact⟨rfl,r1.out,r2.out⟩
def TbS.unE(s:TbS)(v:Int):Int:=if lookV s.pg v<0 then 13 else 0
def TbS.unV(s:TbS)(v:Int):Int:=if lookV s.pg v<0 then 0 else lookV s.pg v
def TbS.un(s:TbS)(v:Int):TbS:=if lookV s.pg v<0 then s else ⟨mDel v s.pg,mDel (lookV s.pg v) s.lc⟩
theorem tbUnmap(b:Nat)(k:Int)(w:World){o:Nat→Tag}{t:Tag}{s:TbS}(h:TbAt w o t b s) :
  Calls Tryz.prog 192 #[.pointer (some ⟨b,0,none⟩),.int .i64 k] w (TbPost w o t b (.tuple #[.int .i64 (s.unV k),.int .i64 (s.unE k)]) (s.un k)):=by
 have hs:=HD h;have hf:=HD (tbFind b k w h);unfold TbS.unE TbS.unV TbS.un;by_cases h1:lookV s.pg k<0
 ·rw [if_pos h1,if_pos h1,if_pos h1]
  generalize lookV s.pg k=x at *;clear h;go_enter Tryz.func192,Tryz.ntmps192
  go_wp2_with fail;refine SM hf.out ?_;go_wp2_with fail;go_ret2
  exact⟨rfl,hs.out,Fr.refl _ _ _⟩
 ·rw [if_neg h1,if_neg h1,if_neg h1]
  generalize lookV s.pg k=x at *;obtain⟨h0,g,l,hb,hg,hl,hgl,hbg,hbl⟩:=h;obtain⟨w1,e1,m1,f1,q1⟩:=mp_delete (P:=Tryz.prog) (ty:=0) hg Tryz.underlying131 Tryz.underlying3 k;have hl1:=only_mp hl q1 (fun e=>hgl e.symm);obtain⟨w2,e2,m2,f2,q2⟩:=mp_delete (P:=Tryz.prog) (ty:=0) hl1 Tryz.underlying131 Tryz.underlying3 x;have b1:=only_blk hb q1 hbg;have b2:=only_blk b1 q2 hbl;have m1':=only_mp m1 q2 hgl;have hfin:=HD (show TbAt w2 o t b ⟨mDel k s.pg,mDel x s.lc⟩∧Fr (Und t) w o w2 o from
   ⟨⟨⟨fun y hy=>h0.1 y (mDel_mem y hy),fun y hy=>h0.2 y (mDel_mem y hy)⟩,g,l,b2,m1',m2,hgl,hbg,hbl⟩,fr_eq (f1.trans f2)⟩)
  have c0:w.cell? ⟨b,0,none⟩=some (.map (some g)):=hb.cell' (i:=0) rfl;have c1:w1.cell? ⟨b,1,none⟩=some (.map (some l)):=b1.cell' (i:=1) rfl;clear h0 hb hg hl m1 f1 q1 hl1 m2 f2 q2 b1 b2 m1';go_enter Tryz.func192,Tryz.ntmps192
  go_wp2_with fail;refine SM hf.out ?_;go_wp2_with fail;go_ret2
  exact⟨rfl,hfin.out.1,hfin.out.2⟩
end
section
open Go.RowKit
theorem lookV_mem{M:List (Int×Int)}{k:Int}(h:¬lookV M k<0):(k,lookV M k)∈M:=by
 unfold lookV at *;cases hg:mGet M k with
 |none=>rw [hg] at h;exact absurd (by decide:(-1:Int)<0) h
 |some v=>exact mGet_mem hg
def TbS.swE(s:TbS)(v p:Int):Int:=if p<0∨1048576<p then 12 else if lookV s.pg v<0 then 13 else if 0≤lookV s.lc p then 7 else 0
def TbS.swV(s:TbS)(v p:Int):Int:=if s.swE v p=0 then lookV s.pg v else 0
def TbS.sw(s:TbS)(v p:Int):TbS:=if s.swE v p=0 then ⟨mIns v p s.pg,mIns p v (mDel (lookV s.pg v) s.lc)⟩ else s
theorem tbSwap(b:Nat)(k p:Int)(w:World){o:Nat→Tag}{t:Tag}{s:TbS}(h:TbAt w o t b s) :
  Calls Tryz.prog 130 #[.pointer (some ⟨b,0,none⟩),.int .i64 k,.int .i64 p] w (TbPost w o t b (.tuple #[.int .i64 (s.swV k p),.int .i64 (s.swE k p)]) (s.sw k p)):=by
 have hs:=HD h;have hf:=HD (tbFind b k w h);have hh:=HD (tbHolder b p w h);unfold TbS.swV TbS.sw;by_cases h1:p<0∨1048576<p
 ·have e:s.swE k p=12:=if_pos h1
  rw [e,if_neg (by decide),if_neg (by decide)];generalize lookV s.pg k=x at *;clear e hh h;rcases Classical.em (p<0) with q1|q1
  ·go_enter Tryz.func130,Tryz.ntmps130
   go_wp2_with fail;refine SM hf.out ?_;go_wp2_with fail;go_ret2
   exact⟨rfl,hs.out,Fr.refl _ _ _⟩
  ·have q2:1048576<p:=by omega
   clear h1;go_enter Tryz.func130,Tryz.ntmps130
   go_wp2_with fail;refine SM hf.out ?_;go_wp2_with fail;go_ret2
   exact⟨rfl,hs.out,Fr.refl _ _ _⟩
 ·have q1:¬p<0:=fun q=>h1 (.inl q)
  have q2:¬1048576<p:=fun q=>h1 (.inr q)
  by_cases h2:lookV s.pg k<0
  ·have e:s.swE k p=13:=by unfold TbS.swE;rw [if_neg h1,if_pos h2]
   rw [e,if_neg (by decide),if_neg (by decide)];generalize lookV s.pg k=x at *;clear e hh h h1;go_enter Tryz.func130,Tryz.ntmps130
   go_wp2_with fail;refine SM hf.out ?_;go_wp2_with fail;go_ret2
   exact⟨rfl,hs.out,Fr.refl _ _ _⟩
  ·by_cases h3:0≤lookV s.lc p
   ·have e:s.swE k p=7:=by unfold TbS.swE;rw [if_neg h1,if_neg h2,if_pos h3]
    rw [e,if_neg (by decide),if_neg (by decide)];generalize lookV s.pg k=x at *;generalize lookV s.lc p=y at *;clear e h h1;go_enter Tryz.func130,Tryz.ntmps130
    go_wp2_with fail;refine SM hf.out ?_;go_wp2_with fail;refine SM hh.out ?_;go_wp2_with fail;go_ret2
    exact⟨rfl,hs.out,Fr.refl _ _ _⟩
   ·have e:s.swE k p=0:=by unfold TbS.swE;rw [if_neg h1,if_neg h2,if_neg h3]
    rw [e,if_pos rfl,if_pos rfl];have hm:=h.1.1 _ (lookV_mem h2);generalize lookV s.pg k=x at *;generalize lookV s.lc p=y at *;obtain⟨h0,g,l,hb,hg,hl,hgl,hbg,hbl⟩:=h;obtain⟨w2,e2,m2,f2,q2'⟩:=mp_delete (P:=Tryz.prog) (ty:=0) hl Tryz.underlying131 Tryz.underlying3 x;have b2:=only_blk hb q2' hbl;have m1:=only_mp hg q2' hgl;have hmid:TbAt w2 o t b ⟨s.pg,mDel x s.lc⟩:=⟨⟨h0.1,fun y hy=>h0.2 y (mDel_mem y hy)⟩,g,l,b2,m1,m2,hgl,hbg,hbl⟩
    have hp:=HD (tbPut b k p w2 hmid hm (by omega));have hfr:=HD (fr_eq f2);have c1:w.cell? ⟨b,1,none⟩=some (.map (some l)):=hb.cell' (i:=1) rfl;clear e h1 h0 hb hg hl m2 f2 q2' b2 m1 hmid hm;go_enter Tryz.func130,Tryz.ntmps130
    go_wp2_with fail;refine SM hf.out ?_;go_wp2_with fail;refine SM hh.out ?_;go_wp2_with fail;refine hp.out.mono ?_;rintro e w1 ⟨rfl,r1,r2⟩;replace r1:=HD r1;replace r2:=HD (hfr.out.trans r2);go_wp2_with fail;go_ret2
    exact⟨rfl,r1.out,r2.out⟩
end
section
open Go.RowKit
abbrev eN:Int×Int→Value:=fun p=>.agg #[.int .i64 p.1,.int .i64 p.2]
structure LnS where
 m:List (Int×(Int×Int))
 first:Int
 last:Int
def LnAt(w:World)(o:Nat→Tag)(t:Tag)(b:Nat)(s:LnS):Prop :=
 ∃g,Blk w o t b #[.map (some g),.int .i64 s.first,.int .i64 s.last] 282∧MpAt w o t g .i64 eN s.m∧b≠g
theorem LnAt.fr{S:Tag→Prop}{w w':World}{o o':Nat→Tag}{t:Tag}{b:Nat}{s:LnS}(h:LnAt w o t b s)(f:Fr S w o w' o')(hS:¬S t):LnAt w' o' t b s:=by
 obtain⟨g,h1,h2,h3⟩:=h;exact⟨g,h1.fr f hS,h2.fr f hS,h3⟩
theorem zeroN(w:World):(zeroValue 289).run Tryz.prog w=.ok (eN (0,0)) w:=by kernel_rfl
def LnS.new:LnS:=⟨[],-1,-1⟩
theorem lnNew(w:World)(o:Nat→Tag)(t:Tag) :
  Calls Tryz.prog 181 #[] w fun e w'=>(∃b,e=.returned (.pointer (some ⟨b,0,none⟩))∧LnAt w' (newO o w t) t b LnS.new)∧Below w.heap.size w w':=by
 have hmk:∀w,(Instr.makeMap 280 none).run Tryz.prog w=.ok (.map (some w.heap.size)) (w.alloc (.map #[] 0)):=fun w=>run_makeMap _ w
 have hB:Hid (Below w.heap.size w ((w.alloc (.map #[] 0)).alloc (.cells #[.map (some w.heap.size),.int .i64 (-1),.int .i64 (-1)] 282))):=HD (below_alloc (by simp) (below_alloc (Nat.le_refl _) (Below.refl _ _)));have hC:Hid (LnAt ((w.alloc (.map #[] 0)).alloc (.cells #[.map (some w.heap.size),.int .i64 (-1),.int .i64 (-1)] 282)) (newO o w t) t (w.heap.size+1) LnS.new):=HD (by
  have k0:(w.alloc (.map #[] 0)).heap[w.heap.size]? = some (.map #[] 0):=heap_alloc_new w _;have k1:((w.alloc (.map #[] 0)).alloc (.cells #[.map (some w.heap.size),.int .i64 (-1),.int .i64 (-1)] 282)).heap[w.heap.size+1]? = some (.cells #[.map (some w.heap.size),.int .i64 (-1),.int .i64 (-1)] 282):=by
   have:=heap_alloc_new (w.alloc (.map #[] 0)) (.cells #[.map (some w.heap.size),.int .i64 (-1),.int .i64 (-1)] 282);rwa [World.size_alloc] at this
  have old:∀(W:World) (x:Obj) (k:Nat),k<W.heap.size→(W.alloc x).heap[k]? = W.heap[k]?:=fun W x k hk=>((Only.refl (fun _=>False) W).alloc x).block k hk (fun q=>q)
  refine⟨w.heap.size,⟨newO_new (by omega),k1⟩,⟨newO_new (Nat.le_refl _),List.Pairwise.nil,by simp [LnS.new],#[],0,?_,MapKept.stamped_empty 0,by simp [LnS.new]⟩,by omega⟩;rw [old _ _ _ (by simp)];exact k0)
 go_enter Tryz.func181,Tryz.ntmps181
 go_wp2_with fail;go_ret
 exact⟨⟨_,rfl,hC.out⟩,hB.out⟩
theorem lnFront(b:Nat)(w:World){o:Nat→Tag}{t:Tag}{s:LnS}(h:LnAt w o t b s) :
  Calls Tryz.prog 197 #[.pointer (some ⟨b,0,none⟩)] w fun e w'=>e=.returned (.int .i64 s.first)∧w'=w:=by
 obtain⟨g,h1,h2,_⟩:=h;have c1:w.cell? ⟨b,1,none⟩=some (.int .i64 s.first):=h1.cell' (i:=1) rfl;clear h1 h2;go_enter Tryz.func197,Tryz.ntmps197
 go_wp2_with fail;go_ret
 exact⟨rfl,rfl⟩
def LnS.has(s:LnS)(k:Int):Bool:=(mGet s.m k).isSome
theorem lnHas(b:Nat)(k:Int)(w:World){o:Nat→Tag}{t:Tag}{s:LnS}(h:LnAt w o t b s) :
  Calls Tryz.prog 234 #[.pointer (some ⟨b,0,none⟩),.int .i64 k] w fun e w'=>e=.returned (.bool (s.has k))∧Below w.heap.size w w':=by
 obtain⟨g,h1,h2,_⟩:=h;have c0:w.cell? ⟨b,0,none⟩=some (.map (some g)):=h1.cell' (i:=0) rfl;have hl:=mp_lookup h2 (P:=Tryz.prog) Tryz.underlying280 Tryz.underlying3 zeroN k true;have hB:∀x:Array Value,Below w.heap.size w (w.alloc (.cells x 289)):=fun x=>(Below.refl _ _).alloc (Nat.le_refl _) _
 replace hB:=HD hB;unfold LnS.has;cases hg:mGet s.m k with
 |none =>
  rw [hg] at hl;simp only [if_true] at hl;clear h1 h2 hg;go_enter Tryz.func234,Tryz.ntmps234
  go_wp2_with fail;go_ret
  exact⟨rfl,hB.out _⟩
 |some v =>
  rw [hg] at hl;simp only [if_true] at hl;clear h1 h2 hg;go_enter Tryz.func234,Tryz.ntmps234
  go_wp2_with fail;go_ret
  exact⟨rfl,hB.out _⟩
end
section
open Go.RowKit
def LnG(w:World)(o:Nat→Tag)(t:Tag)(b g:Nat)(s:LnS):Prop :=
 Blk w o t b #[.map (some g),.int .i64 s.first,.int .i64 s.last] 282∧MpAt w o t g .i64 eN s.m∧b≠g
def LnS.near(s:LnS)(k:Int):Int×Int:=(mGet s.m k).getD (0,0)
def LnS.tieA(s:LnS)(a b:Int):LnS:=if a=-1 then ⟨s.m,b,s.last⟩ else ⟨mIns a ((s.near a).1,b) s.m,s.first,s.last⟩
def LnS.tieB(s:LnS)(a b:Int):LnS:=if b=-1 then ⟨s.m,s.first,a⟩ else ⟨mIns b (a,(s.near b).2) s.m,s.first,s.last⟩
def LnS.tie(s:LnS)(a b:Int):LnS:=(s.tieA a b).tieB a b
section
variable{w:World}{o:Nat→Tag}{t:Tag}{b g:Nat}{s:LnS}
theorem LnG.drew(h:LnG w o t b g s):LnG w.drew o t b g s:=⟨h.1.drew,h.2.1.drew,h.2.2⟩
theorem LnG.setA(h:LnG w o t b g s)(x:Int):LnG (w.setCell ⟨b,1,none⟩ (.int .i64 x)) o t b g ⟨s.m,x,s.last⟩∧Fr (· = t) w o (w.setCell ⟨b,1,none⟩ (.int .i64 x)) o:=by
 have f:Fr (· = t) w o (w.setCell ⟨b,1,none⟩ (.int .i64 x)) o:=Fr.setCell (fun _=>h.1.1) _;refine⟨⟨h.1.set 1 _,?_,h.2.2⟩,f⟩;exact only_mp h.2.1 (bs:=(· = b)) ((Only.refl (fun k=>k=b) w).setCell (p:=⟨b,1,none⟩) (fun _=>rfl) _) (fun e=>h.2.2 e.symm)
theorem LnG.setB(h:LnG w o t b g s)(x:Int):LnG (w.setCell ⟨b,2,none⟩ (.int .i64 x)) o t b g ⟨s.m,s.first,x⟩∧Fr (· = t) w o (w.setCell ⟨b,2,none⟩ (.int .i64 x)) o:=by
 have f:Fr (· = t) w o (w.setCell ⟨b,2,none⟩ (.int .i64 x)) o:=Fr.setCell (fun _=>h.1.1) _;refine⟨⟨h.1.set 2 _,?_,h.2.2⟩,f⟩;exact only_mp h.2.1 (bs:=(· = b)) ((Only.refl (fun k=>k=b) w).setCell (p:=⟨b,2,none⟩) (fun _=>rfl) _) (fun e=>h.2.2 e.symm)
theorem LnG.store(h:LnG w o t b g s)(k:Int)(v:Int×Int)(hr:s.m.length<1000000000) :
  ∃w',(Instr.mapUpdate 280 (.map (some g)) (.int .i64 k) (.agg #[.int .i64 v.1,.int .i64 v.2])).run Tryz.prog w=.ok () w'∧LnG w' o t b g ⟨mIns k v s.m,s.first,s.last⟩∧Fr (· = t) w o w' o:=by
 obtain⟨w1,e1,m1,f1,q1⟩:=mp_store (P:=Tryz.prog) h.2.1 Tryz.underlying280 Tryz.underlying3 k v hr;exact⟨w1,e1,⟨only_blk h.1 q1 h.2.2,m1,h.2.2⟩,f1⟩
theorem LnG.look(h:LnG w o t b g s)(k:Int):(Instr.lookup 280 (.map (some g)) (.int .i64 k) false).run Tryz.prog w=.ok (.agg #[.int .i64 (s.near k).1,.int .i64 (s.near k).2]) w:=by
 have:=mp_lookup h.2.1 (P:=Tryz.prog) Tryz.underlying280 Tryz.underlying3 zeroN k false;rw [this];unfold LnS.near;cases mGet s.m k<;>rfl
theorem LnG.c0(h:LnG w o t b g s):w.cell? ⟨b,0,none⟩=some (.map (some g)):=h.1.cell' (i:=0) rfl
theorem LnG.c1(h:LnG w o t b g s):w.cell? ⟨b,1,none⟩=some (.int .i64 s.first):=h.1.cell' (i:=1) rfl
theorem LnG.c2(h:LnG w o t b g s):w.cell? ⟨b,2,none⟩=some (.int .i64 s.last):=h.1.cell' (i:=2) rfl
theorem LnG.f1(h:LnG w o t b g s):w.frozen? ⟨b,1,none⟩=false:=h.1.free 1
theorem LnG.f2(h:LnG w o t b g s):w.frozen? ⟨b,2,none⟩=false:=h.1.free 2
end
theorem fieldN0(x y:Int)(w:World):(Instr.field 289 (.agg #[.int .i64 x,.int .i64 y]) 0).run Tryz.prog w=.ok (.int .i64 x) w:=by kernel_rfl
theorem fieldN1(x y:Int)(w:World):(Instr.field 289 (.agg #[.int .i64 x,.int .i64 y]) 1).run Tryz.prog w=.ok (.int .i64 y) w:=by kernel_rfl
set_option maxHeartbeats 1000000 in
theorem lnTie(bl:Nat)(a b:Int)(w:World){o:Nat→Tag}{t:Tag}{g:Nat}{s:LnS}(h:LnG w o t bl g s)(hr:s.m.length<1000000) :
  Calls Tryz.prog 235 #[.pointer (some ⟨bl,0,none⟩),.int .i64 a,.int .i64 b] w fun e w'=>e=.returned (.tuple #[])∧LnG w' o t bl g (s.tie a b)∧Fr (· = t) w o w' o:=by
 unfold LnS.tie;by_cases ha:a=-1
 ·subst ha
  have eA:s.tieA (-1) b=⟨s.m,b,s.last⟩:=if_pos rfl;rw [eA];obtain⟨k1,r1⟩:=h.setA b;have f1:=h.f1;have c1:=h.c1;have c0:=h.c0;have hr1:s.m.length<1000000000:=by omega
  by_cases hb:b=-1
  ·subst hb
   have eB:LnS.tieB ⟨s.m,-1,s.last⟩ (-1) (-1)=_:=if_pos rfl;rw [eB];obtain⟨k2,r2⟩:=k1.setB (-1);have f2:=k1.f2;have d2:=k1.c2;replace k2:=HD k2;have rr:=HD (r1.trans r2);clear k1 r1 r2 h eA eB;go_enter Tryz.func235,Tryz.ntmps235
   go_wp2_with fail;exact bodyPost_end (results_none (by kernel_rfl) _ _ _) rfl ⟨rfl,k2.out,rr.out⟩
  ·have eB:LnS.tieB ⟨s.m,b,s.last⟩ (-1) b=_:=if_neg hb
   rw [eB];obtain⟨w2,e2,k2,r2⟩:=k1.drew.store b ((-1),(LnS.near ⟨s.m,b,s.last⟩ b).2) hr1;have d0:=k1.c0;have l2:=k1.drew.look b;replace k2:=HD k2;have rr:=HD (r1.trans (Fr.drew.trans r2));clear k1 r1 r2 h eA eB;generalize LnS.near _ b=nb at *;have g1:=fieldN1 nb.1 nb.2;go_enter Tryz.func235,Tryz.ntmps235
   go_wp2_with fail;generalize w.setCell ⟨bl,1,none⟩ (.int .i64 b)=w1 at *;go_still_tail 14,(by kernel_rfl)
   change wpList _ _ _ _ _ w1.drew;go_wp2_with fail;exact bodyPost_end (results_none (by kernel_rfl) _ _ _) rfl ⟨rfl,k2.out,rr.out⟩
 ·have eA:s.tieA a b=⟨mIns a ((s.near a).1,b) s.m,s.first,s.last⟩:=if_neg ha
  rw [eA];obtain⟨w1,e1,k1,r1⟩:=h.drew.store a ((s.near a).1,b) (by omega);have c0:=h.c0;have l1:=h.drew.look a;have hr1:(mIns a ((s.near a).1,b) s.m).length<1000000000:=by have:=mIns_len h.2.1.2.1 a ((s.near a).1,b);omega
  have ea:¬a=-1:=ha;by_cases hb:b=-1
  ·subst hb
   have eB:LnS.tieB ⟨mIns a ((s.near a).1,-1) s.m,s.first,s.last⟩ a (-1)=_:=if_pos rfl;rw [eB];obtain⟨k2,r2⟩:=k1.setB a;have f2:=k1.f2;have d2:=k1.c2;replace k2:=HD k2;have rr:=HD ((Fr.drew.trans r1).trans r2);clear k1 r1 r2 h eA eB;generalize s.near a=na at *;have g0:=fieldN0 na.1 na.2;go_enter Tryz.func235,Tryz.ntmps235
   go_wp2_with fail;go_still_tail 14,(by kernel_rfl)
   change wpList _ _ _ _ _ w.drew;go_wp2_with fail;exact bodyPost_end (results_none (by kernel_rfl) _ _ _) rfl ⟨rfl,k2.out,rr.out⟩
  ·have eB:LnS.tieB ⟨mIns a ((s.near a).1,b) s.m,s.first,s.last⟩ a b=_:=if_neg hb
   rw [eB];obtain⟨w2,e2,k2,r2⟩:=k1.drew.store b (a,(LnS.near ⟨mIns a ((s.near a).1,b) s.m,s.first,s.last⟩ b).2) hr1;have d0:=k1.c0;have l2:=k1.drew.look b;replace k2:=HD k2;have rr:=HD ((Fr.drew.trans r1).trans (Fr.drew.trans r2));clear k1 r1 r2 h eA eB;generalize s.near a=na at *;have g0:=fieldN0 na.1 na.2;generalize LnS.near _ b=nb at *;have g1:=fieldN1 nb.1 nb.2;go_enter Tryz.func235,Tryz.ntmps235
   go_wp2_with fail;go_still_tail 14,(by kernel_rfl)
   change wpList _ _ _ _ _ w.drew;go_wp2_with fail;go_still_tail 14,(by kernel_rfl)
   change wpList _ _ _ _ _ w1.drew;go_wp2_with fail;exact bodyPost_end (results_none (by kernel_rfl) _ _ _) rfl ⟨rfl,k2.out,rr.out⟩
end
section
open Go.RowKit
theorem LnG.fr{S:Tag→Prop}{w w':World}{o o':Nat→Tag}{t:Tag}{b g:Nat}{s:LnS}(h:LnG w o t b g s)(f:Fr S w o w' o')(hS:¬S t):LnG w' o' t b g s :=
 ⟨h.1.fr f hS,h.2.1.fr f hS,h.2.2⟩
theorem tieA_len{s:LnS}(hr:Rise s.m)(a b:Int):(s.tieA a b).m.length≤s.m.length+1∧Rise (s.tieA a b).m:=by
 unfold LnS.tieA
 split
 ·exact⟨Nat.le_succ _,hr⟩
 ·exact⟨mIns_len hr _ _,mIns_rise hr _ _⟩
theorem tieB_len{s:LnS}(hr:Rise s.m)(a b:Int):(s.tieB a b).m.length≤s.m.length+1∧Rise (s.tieB a b).m:=by
 unfold LnS.tieB
 split
 ·exact⟨Nat.le_succ _,hr⟩
 ·exact⟨mIns_len hr _ _,mIns_rise hr _ _⟩
theorem tie_len{s:LnS}(hr:Rise s.m)(a b:Int):(s.tie a b).m.length≤s.m.length+2:=by
 have h1:=tieA_len hr a b;have h2:=tieB_len h1.2 a b;unfold LnS.tie;omega
def LnS.pushE(s:LnS)(k:Int):Int:=if k<0 then 12 else if s.has k=true then 7 else 0
def LnS.put(s:LnS)(k:Int):LnS:=((⟨mIns k (-1,-1) s.m,s.first,s.last⟩:LnS).tie s.last k).tie k (-1)
def LnS.push(s:LnS)(k:Int):LnS:=if s.pushE k=0 then s.put k else s
theorem lnPush(bl:Nat)(k:Int)(w:World){o:Nat→Tag}{t:Tag}{g:Nat}{s:LnS}(h:LnG w o t bl g s)(hr:s.m.length<900000) :
  Calls Tryz.prog 203 #[.pointer (some ⟨bl,0,none⟩),.int .i64 k] w fun e w'=>e=.returned (.int .i64 (s.pushE k))∧LnG w' (newO o w t) t bl g (s.push k)∧Fr (· = t) w o w' (newO o w t):=by
 have hH:=HD (lnHas bl k w ⟨g,h⟩);have hstay:=HD (fun (w1:World) (hB:Below w.heap.size w w1)=>(show LnG w1 (newO o w t) t bl g s∧Fr (· = t) w o w1 (newO o w t) from⟨h.fr (S:=fun _=>False) (Fr.below' hB t) (fun q=>q),Fr.below' hB t⟩));unfold LnS.push;by_cases h0:k<0
 ·have e:s.pushE k=12:=if_pos h0
  rw [e,if_neg (by decide)];clear hH e h;go_enter Tryz.func203,Tryz.ntmps203
  go_wp2_with fail;go_ret
  exact⟨rfl,hstay.out _ (Below.refl _ _)⟩
 ·by_cases h1:s.has k=true
  ·have e:s.pushE k=7:=by unfold LnS.pushE;rw [if_neg h0,if_pos h1]
   rw [e,if_neg (by decide)];rw [h1] at hH;clear e h;go_enter Tryz.func203,Tryz.ntmps203
   go_wp2_with fail;refine hH.out.mono ?_;rintro e w1 ⟨rfl,hB⟩;replace hB:=HD (hstay.out w1 hB);go_wp2_with fail;go_ret
   exact⟨rfl,hB.out⟩
  ·have e:s.pushE k=0:=by unfold LnS.pushE;rw [if_neg h0,if_neg h1]
   have hf:s.has k=false:=by simpa using h1
   rw [e,if_pos rfl];rw [hf] at hH;have hri:=h.2.1.2.1;have hlen:=mIns_len hri k ((-1:Int),(-1:Int));have hl2:=tie_len (s:=⟨mIns k (-1,-1) s.m,s.first,s.last⟩) (mIns_rise hri k (-1,-1)) s.last k;clear e h h1 hf;go_enter Tryz.func203,Tryz.ntmps203
   go_wp2_with fail;refine hH.out.mono ?_;rintro e w1 ⟨rfl,hB⟩;obtain⟨k1,r1⟩:=hstay.out w1 hB;obtain⟨w2,e2,k2,r2⟩:=k1.store k (-1,-1) (by omega);have c0:=k1.c0;have c2:=k1.c2;have hT:=HD (lnTie bl s.last k w2 k2 (show (mIns k (-1,-1) s.m).length<1000000 by omega));replace r2:=HD (r1.trans r2);clear k1 k2 r1 hB;go_wp2_with fail;refine hT.out.mono ?_;rintro e w3 ⟨rfl,k3,r3⟩;have hT2:=HD (lnTie bl k (-1) w3 k3 (by omega));replace r3:=HD (r2.out.trans r3);clear k3;go_wp2_with fail;refine hT2.out.mono ?_;rintro e w4 ⟨rfl,k4,r4⟩;replace k4:=HD k4;replace r4:=HD (r3.out.trans r4);go_wp2_with fail;go_ret
   exact⟨rfl,k4.out,r4.out⟩
end
section
open Go.RowKit
theorem LnG.delete{w:World}{o:Nat→Tag}{t:Tag}{b g:Nat}{s:LnS}(h:LnG w o t b g s)(k:Int) :
  ∃w',(Builtin.delete_ #[280,3] 0 #[.map (some g),.int .i64 k]).run Tryz.prog w=.ok (.tuple #[]) w'∧LnG w' o t b g ⟨mDel k s.m,s.first,s.last⟩∧Fr (· = t) w o w' o∧Only (· = g) w w':=by
 obtain⟨w1,e1,m1,f1,q1⟩:=mp_delete (P:=Tryz.prog) (ty:=0) h.2.1 Tryz.underlying280 Tryz.underlying3 k;exact⟨w1,e1,⟨only_blk h.1 q1 h.2.2,m1,h.2.2⟩,f1,q1⟩
theorem mDel_le{α:Type}{M:List (Int×α)}(k:Int):(mDel k M).length≤M.length:=by
 induction M with
 |nil=>simp [mDel]
 |cons p M ih=>unfold mDel;split<;>simp<;>omega
def LnS.rmE(s:LnS)(k:Int):Int:=if s.has k=true then 0 else 13
def LnS.cut(s:LnS)(k:Int):LnS:=(⟨mDel k s.m,s.first,s.last⟩:LnS).tie (s.near k).1 (s.near k).2
def LnS.rm(s:LnS)(k:Int):LnS:=if s.has k=true then s.cut k else s
set_option maxHeartbeats 1000000 in
theorem lnRemove(bl:Nat)(k:Int)(w:World){o:Nat→Tag}{t:Tag}{g:Nat}{s:LnS}(h:LnG w o t bl g s)(hr:s.m.length<900000) :
  Calls Tryz.prog 200 #[.pointer (some ⟨bl,0,none⟩),.int .i64 k] w fun e w'=>e=.returned (.int .i64 (s.rmE k))∧LnG w' (newO o w t) t bl g (s.rm k)∧Fr (· = t) w o w' (newO o w t):=by
 have hH:=HD (lnHas bl k w ⟨g,h⟩);have hstay:=HD (fun (w1:World) (hB:Below w.heap.size w w1)=>(show LnG w1 (newO o w t) t bl g s∧Fr (· = t) w o w1 (newO o w t) from⟨h.fr (S:=fun _=>False) (Fr.below' hB t) (fun q=>q),Fr.below' hB t⟩));unfold LnS.rm LnS.rmE;by_cases h1:s.has k=true
 ·rw [if_pos h1,if_pos h1]
  rw [h1] at hH;have hri:=h.2.1.2.1;have hdl:=mDel_le (M:=s.m) k;clear h h1;unfold LnS.cut;generalize hna:s.near k=na;replace hna:=HD hna;go_enter Tryz.func200,Tryz.ntmps200
  go_wp2_with fail;refine hH.out.mono ?_;rintro e w1 ⟨rfl,hB⟩;obtain⟨k1,r1⟩:=hstay.out w1 hB;have c0:=k1.c0;have l1:=k1.look k;rw [hna.out] at l1;have k2:LnG (w1.alloc (.cells #[.int .i64 na.1,.int .i64 na.2] 289)) (newO o w t) t bl g s:=k1.fr (S:=fun _=>False) (Fr.alloc' _) (fun q=>q);have r2:Fr (· = t) w o (w1.alloc (.cells #[.int .i64 na.1,.int .i64 na.2] 289)) (newO o w t):=r1.trans (Fr.alloc' _);have c0':=k2.c0;obtain⟨w2,e2,k3,r3,q3⟩:=k2.delete k;have hgs:g≠w1.heap.size:=by have:=k1.2.1.lt;omega
  have n0:w2.cell? ⟨w1.heap.size,0,none⟩=some (.int .i64 na.1):=q3.cell (by simp) (fun e=>hgs e.symm);have n1:w2.cell? ⟨w1.heap.size,1,none⟩=some (.int .i64 na.2):=q3.cell (by simp) (fun e=>hgs e.symm);have hT:=HD (lnTie bl na.1 na.2 w2 k3 (show (mDel k s.m).length<1000000 by omega));replace r3:=HD (r2.trans r3);clear k1 k2 k3 r1 r2 q3 hB hgs;go_wp2_with fail;refine hT.out.mono ?_;rintro e w4 ⟨rfl,k4,r4⟩;replace k4:=HD k4;replace r4:=HD (r3.out.trans r4);go_wp2_with fail;go_ret
  exact⟨rfl,k4.out,r4.out⟩
 ·rw [if_neg h1,if_neg h1]
  have hf:s.has k=false:=by simpa using h1
  rw [hf] at hH;clear h h1 hf;go_enter Tryz.func200,Tryz.ntmps200
  go_wp2_with fail;refine hH.out.mono ?_;rintro e w1 ⟨rfl,hB⟩;replace hB:=HD (hstay.out w1 hB);go_wp2_with fail;go_ret
  exact⟨rfl,hB.out⟩
end
end Go.Proofs.YtfliaggjkianpaaGreatDoor
