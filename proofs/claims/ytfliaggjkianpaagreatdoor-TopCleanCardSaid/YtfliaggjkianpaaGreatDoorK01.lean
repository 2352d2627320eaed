import Derived.Test.YtfliaggjkianpaaGreatDoorK00
import Derived.Below
import Derived.ChangeSame
import Derived.RowKit3
import Derived.Deep.Draws
import Derived.Deep.Quiet
import Derived.Tactics
import Derived.Laws.OwnMore
import Derived.OneCell
import Derived.WalkSpells
import Derived.WalkLawsBesides
import Derived.KernelRfl
import Derived.Lib.TrailingZeros
import Derived.ScopeJumps
import Derived.OwnWalk
import Derived.Laws.CopyOwn
import Derived.Laws.IdiomCopy
import Derived.Test.YtfliaggjkianpaaGreatDoorProg
import Derived.Laws.Bits64b
import Derived.Laws.IdiomStrings
import Derived.Lib.SliceRun
import Derived.StillTailTactics
import Derived.Deep.LoopGhost
import Derived.Deep.AppendLies
import Derived.Lib.LazyBuf
import Derived.Lib.BufferWrite
import Derived.Maps.AppendAt
set_option linter.unusedVariables false
set_option linter.unusedSimpArgs false
set_option maxRecDepth 100000
namespace Go.Proofs.YtfliaggjkianpaaGreatDoor
section
open Go.RowKit Go.WideShapes Go.ChangeShapes
theorem ret_eq{k:IntKind}{a b:Int}(h:a=b):Ending.returned (.int k a)=.returned (.int k b):=by rw [h]
theorem block_lt{W:World}{p:Addr}{v:Value}(h:W.cell? p=some v):p.block<W.heap.size:=by
 rcases Nat.lt_or_ge p.block W.heap.size with hlt|hge
 ·exact hlt
 ·unfold World.cell? at h
  rw [Array.getElem?_eq_none hge] at h;simp at h
theorem addr_ne{a b:Addr}(h:a.block≠b.block):a≠b:=fun e=>h (congrArg Addr.block e)
theorem keep_alloc{W:World}{p:Addr}{v:Value}{o:Obj}(h:W.cell? p=some v):(W.alloc o).cell? p=some v :=
 (World.cell?_alloc_lt W o p (block_lt h)).trans h
theorem keep_drew{W:World}{p:Addr}{v:Value}(h:W.cell? p=some v):W.drew.cell? p=some v:=h
theorem keep_set{W:World}{p q:Addr}{u v:Value}(hne:q≠p)(h:W.cell? p=some v):(W.setCell q u).cell? p=some v :=
 (World.cell?_setCell_other W q p u hne).trans h
theorem keep_below{B:Nat}{W W1:World}{p:Addr}{v:Value}(hb:Below B W W1)(hp:p.block<B)(h:W.cell? p=some v):W1.cell? p=some v:=(hb.cell hp).trans h
theorem new_cell{W:World}{c:Array Value}{t:TypeId}{i:Nat}{v:Value}(h:c[i]? = some v):(W.alloc (.cells c t)).cell? ⟨W.heap.size,i,none⟩=some v :=
 (World.cell?_alloc_new W c t i).trans h
theorem below_alloc{B:Nat}{a W:World}{o:Obj}(hB:B≤W.heap.size)(h:Below B a W):Below B a (W.alloc o):=h.alloc hB o
end
section
open Go.RowKit
theorem below_s{a W W1:World}(h:Below a.heap.size a W)(hb:Below W.heap.size W W1):Below a.heap.size a W1:=h.trans (hb.mono h.size)
theorem keep_b{W W1:World}{p:Addr}{v:Value}(hb:Below W.heap.size W W1)(h:W.cell? p=some v):W1.cell? p=some v:=keep_below hb (block_lt h) h
end
section
open Go.RowKit
structure Only(bs:Nat→Prop)(w w':World):Prop where
 os:w'.os=w.os
 tape:w'.tape=w.tape
 output:w'.output=w.output
 size:w.heap.size≤w'.heap.size
 block:∀k,k<w.heap.size→¬bs k→w'.heap[k]? = w.heap[k]?
namespace Only
variable{bs cs:Nat→Prop}{a w w':World}
theorem refl(bs:Nat→Prop)(w:World):Only bs w w:=⟨rfl,rfl,rfl,Nat.le_refl _,fun _ _ _=>rfl⟩
theorem trans(h:Only bs a w)(k:Only bs w w'):Only bs a w' :=
 ⟨k.os.trans h.os,k.tape.trans h.tape,k.output.trans h.output,Nat.le_trans h.size k.size,fun i hi hb=>(k.block i (Nat.lt_of_lt_of_le hi h.size) hb).trans (h.block i hi hb)⟩
theorem mono(h:Only bs a w)(hb:∀k,k<a.heap.size→bs k→cs k):Only cs a w:=⟨h.os,h.tape,h.output,h.size,fun k hk hn=>h.block k hk (fun q=>hn (hb k hk q))⟩
theorem seq(h:Only bs a w)(k:Only cs w w')(hb:∀i,i<a.heap.size→cs i→bs i):Only bs a w' :=
 ⟨k.os.trans h.os,k.tape.trans h.tape,k.output.trans h.output,Nat.le_trans h.size k.size,fun i hi hn=>(k.block i (Nat.lt_of_lt_of_le hi h.size) (fun q=>hn (hb i hi q))).trans (h.block i hi hn)⟩
theorem alloc(h:Only bs a w)(o:Obj):Only bs a (w.alloc o) :=
 ⟨h.os,h.tape,h.output,by have:=h.size;simp;omega,fun k hk hn=>(show (w.alloc o).heap[k]? = w.heap[k]? from by first|exact heap_alloc_old w o k (Nat.lt_of_lt_of_le hk h.size)|exact heap_alloc_old w o (Nat.lt_of_lt_of_le hk h.size)).trans (h.block k hk hn)⟩
theorem drew(h:Only bs a w):Only bs a w.drew:=⟨h.os,h.tape,h.output,h.size,h.block⟩
theorem drewN(h:Only bs a w)(n:Nat):Only bs a (w.drewN n):=by
 induction n with
 |zero=>exact h
 |succ n ih=>exact ih.drew
theorem setCell(h:Only bs a w){p:Addr}(hp:p.block<a.heap.size→bs p.block)(u:Value):Only bs a (w.setCell p u) :=
 ⟨h.os,h.tape,h.output,by simpa [World.setCell] using h.size,fun k hk hn=>by
  rw [Below.heap_setCell _ _ _ _ (by rintro rfl;exact hn (hp hk))];exact h.block k hk hn⟩
theorem grown{row:Option Nat}(h:Only bs a w)(hg:w.grownBy w' row)(hr:∀k,row=some k→k<a.heap.size→bs k):Only bs a w' :=
 h.seq (cs:=fun k=>row=some k) ⟨hg.os,hg.tape,hg.output,hg.size,fun k hk hn=>hg.block k hk (fun e=>hn e.symm)⟩ (fun i hi hc=>hr i hc hi)
theorem below{B:Nat}(h:Only bs a w)(hB:B≤a.heap.size)(hb:∀k,k<B→¬bs k):Below B a w:=⟨h.os,h.tape,h.output,h.size,fun k hk=>h.block k (Nat.lt_of_lt_of_le hk hB) (hb k hk)⟩
theorem of_below{B:Nat}(h:Below B a w):Only (fun k=>B≤k) a w:=⟨h.os,h.tape,h.output,h.size,fun k _ hn=>h.block k (by omega)⟩
theorem cell(h:Only bs a w){p:Addr}{v:Value}(hc:a.cell? p=some v)(hn:¬bs p.block):w.cell? p=some v :=
 (World.cell?_of_block (w:=a) (h.block p.block (block_lt hc) hn)).trans hc
theorem owns(h:Only bs a w){base:Nat}{e:TypeId}{size:Nat}{v:Value}{n:Nat}{xs:List Value}(ho:a.ownsRow base e size v n xs)(hn:∀g,v.ownBlock=some g→¬bs g):w.ownsRow base e size v n xs:=by
 refine⟨ho.1,?_⟩;rcases ho.2 with q|⟨g,cap,cur,rfl,hb,hgg,rest⟩
 ·exact .inl q
 ·refine .inr ⟨g,cap,cur,rfl,hb,?_,rest⟩
  rw [h.block g (Array.getElem?_eq_some_iff.1 hgg).1 (hn g rfl)];exact hgg
end Only
theorem map_set{α β:Type}(f:α→β)(l:List α)(i:Nat)(x:α):(l.set i x).map f=(l.map f).set i (f x):=by
 rw [List.map_set]
end
section
open Go.RowKit
theorem jump_mono{l:Nat}{J J':Act→World→Prop}{Q:Exit→Act→World→Prop}(h:∀a w,J a w→J' a w):∀e a w,Exit.jump l J Q e a w→Exit.jump l J' Q e a w:=by
 intro e a w q;unfold Exit.jump at *
 split at q<;>simp_all
theorem wp_scope_round{P:Program}{c rest:Code}{Q:Exit→Act→World→Prop}{a:Act}{w:World}(l:Nat)(J:Act→World→Prop)(μ:Act→World→Nat)(hf:findLabel c l=some (Code.skip.seq rest))
  (pass:∀a w,J a w→rest.wp P (Exit.jump l (fun a' w'=>J a' w'∧μ a' w'<μ a w) Q) a w)
  (first:(∀a w,J a w→rest.wp P (Exit.jump l J Q) a w)→c.wp P (Exit.jump l J Q) a w):(Code.scope c).wp P Q a w :=
 wp_scope_jumps l J μ hf (first fun a w h=>Code.wp_mono (jump_mono (fun _ _ q=>q.1)) (pass a w h)) (fun a w h=>wp_seq (wp_skip (pass a w h)))
abbrev Tag:=List Nat
def Ext(w:World)(o o':Nat→Tag):Prop:=∀k,k<w.heap.size→o' k=o k
def setO(o:Nat→Tag)(b:Nat)(t:Tag):Nat→Tag:=fun k=>if k=b then t else o k
theorem setO_same{o:Nat→Tag}{b:Nat}{t:Tag}:setO o b t b=t:=if_pos rfl
theorem setO_other{o:Nat→Tag}{b k:Nat}{t:Tag}(h:k≠b):setO o b t k=o k:=if_neg h
def newO(o:Nat→Tag)(w:World)(t:Tag):Nat→Tag:=fun k=>if w.heap.size≤k then t else o k
theorem newO_new{o:Nat→Tag}{w:World}{t:Tag}{k:Nat}(h:w.heap.size≤k):newO o w t k=t:=if_pos h
theorem newO_old{o:Nat→Tag}{w:World}{t:Tag}{k:Nat}(h:k<w.heap.size):newO o w t k=o k:=if_neg (by omega)
structure Fr(S:Tag→Prop)(w:World)(o:Nat→Tag)(w':World)(o':Nat→Tag):Prop where
 only:Only (fun k=>S (o k)) w w'
 ext:Ext w o o'
namespace Fr
variable{S S':Tag→Prop}{w w1 w2:World}{o o1 o2:Nat→Tag}
theorem refl(S:Tag→Prop)(w:World)(o:Nat→Tag):Fr S w o w o:=⟨Only.refl _ _,fun _ _=>rfl⟩
theorem size(h:Fr S w o w1 o1):w.heap.size≤w1.heap.size:=h.only.size
theorem trans(h:Fr S w o w1 o1)(k:Fr S w1 o1 w2 o2):Fr S w o w2 o2 :=
 ⟨h.only.seq k.only (fun i hi hs=>by have:=h.ext i hi;rwa [this] at hs),fun i hi=>(k.ext i (Nat.lt_of_lt_of_le hi h.size)).trans (h.ext i hi)⟩
theorem mono(h:Fr S w o w1 o1)(hS:∀t,S t→S' t):Fr S' w o w1 o1:=⟨h.only.mono (fun _ _ q=>hS _ q),h.ext⟩
theorem of_only(h:Only (fun k=>S (o k)) w w1):Fr S w o w1 o:=⟨h,fun _ _=>rfl⟩
theorem below(h:Below w.heap.size w w1):Fr S w o w1 o:=⟨(Only.of_below h).mono (fun k hk q=>absurd hk (by omega)),fun _ _=>rfl⟩
theorem drew:Fr S w o w.drew o:=⟨(Only.refl _ _).drew,fun _ _=>rfl⟩
theorem drew'(h:Fr S w o w1 o1):Fr S w o w1.drew o1:=h.trans Fr.drew
theorem alloc(x:Obj)(t:Tag):Fr S w o (w.alloc x) (setO o w.heap.size t):=⟨(Only.refl _ _).alloc x,fun k hk=>setO_other (by omega)⟩
theorem alloc'(x:Obj):Fr S w o (w.alloc x) o:=⟨(Only.refl _ _).alloc x,fun k hk=>rfl⟩
theorem setCell{p:Addr}(h:p.block<w.heap.size→S (o p.block))(u:Value):Fr S w o (w.setCell p u) o:=⟨(Only.refl _ _).setCell (fun hp=>h hp) u,fun _ _=>rfl⟩
theorem set'(h:Fr S w o w1 o1){p:Addr}(hp:p.block<w.heap.size→S (o p.block))(u:Value):Fr S w o (w1.setCell p u) o1:=⟨h.only.setCell hp u,h.ext⟩
theorem al'(h:Fr S w o w1 o1)(x:Obj)(t:Tag):Fr S w o (w1.alloc x) (setO o1 w1.heap.size t):=h.trans (Fr.alloc x t)
theorem of_new(h:Only (fun k=>S (o k)) w w1)(t:Tag):Fr S w o w1 (newO o w t):=⟨h,fun k hk=>newO_old hk⟩
theorem below'(h:Below w.heap.size w w1)(t:Tag):Fr S w o w1 (newO o w t):=of_new ((Only.of_below h).mono (fun k hk q=>absurd hk (by omega))) t
theorem os(h:Fr S w o w1 o1):w1.os=w.os:=h.only.os
theorem to_below(h:Fr S w o w1 o1){B:Nat}(hB:B≤w.heap.size)(hS:∀k,k<B→¬S (o k)):Below B w w1:=h.only.below hB hS
end Fr
def Off(S:Tag→Prop)(t:Tag):Prop:=(∀u,t <+: u→¬S u)∧¬S [9]
theorem Off.self{S:Tag→Prop}{t:Tag}(h:Off S t):¬S t:=h.1 t (List.prefix_refl t)
theorem Off.tab{S:Tag→Prop}{t:Tag}(h:Off S t):¬S [9]:=h.2
theorem Off.sub{S:Tag→Prop}{t:Tag}(h:Off S t)(r:Tag):Off S (t++r):=⟨fun u hu=>h.1 u (List.IsPrefix.trans (List.prefix_append t r) hu),h.2⟩
def Und(s:Tag)(u:Tag):Prop:=s <+: u
theorem Und.self(s:Tag):Und s s:=List.prefix_refl s
theorem Und.app(s r:Tag):Und s (s++r):=List.prefix_append s r
theorem Und.up{s r u:Tag}(h:Und (s++r) u):Und s u:=List.IsPrefix.trans (List.prefix_append s r) h
theorem pre_comp:∀{s t u:Tag},s <+: u→t <+: u→s <+: t∨t <+: s
 |[],_,_,_,_=>.inl (List.nil_prefix)
 |_ :: _,[],_,_,_=>.inr (List.nil_prefix)
 |a :: s,b :: t,[],h,_=>by simp at h
 |a :: s,b :: t,c :: u,h,k=>by
  rw [List.cons_prefix_cons] at h k;obtain⟨rfl,h⟩:=h;obtain⟨rfl,k⟩:=k;rcases pre_comp h k with q|q
  ·exact .inl (List.cons_prefix_cons.2 ⟨rfl,q⟩)
  ·exact .inr (List.cons_prefix_cons.2 ⟨rfl,q⟩)
theorem off_und{s t:Tag}(h:¬s <+: t)(k:¬t <+: s)(h9:¬s <+: [9]):Off (Und s) t:=⟨fun u hu hs=>by rcases pre_comp hs hu with q|q;exact h q;exact k q,h9⟩
theorem off_sib{p r r':Tag}(h:¬r <+: r')(k:¬r' <+: r)(h9:¬p <+: [9]):Off (Und (p++r)) (p++r') :=
 off_und (fun q=>h ((List.prefix_append_right_inj p).1 q)) (fun q=>k ((List.prefix_append_right_inj p).1 q)) (fun q=>h9 (List.IsPrefix.trans (List.prefix_append p r) q))
theorem off_one{p:Tag}{a b:Nat}{r r':Tag}(h:a≠b)(h9:¬p <+: [9]):Off (Und (p++a :: r)) (p++b :: r') :=
 off_sib (fun q=>h (List.cons_prefix_cons.1 q).1) (fun q=>h (List.cons_prefix_cons.1 q).1.symm) h9
def Blk(w:World)(o:Nat→Tag)(t:Tag)(b:Nat)(c:Array Value)(T:TypeId):Prop:=o b=t∧w.heap[b]? = some (.cells c T (0,0))
theorem setCells_heap{b:Nat}{T:TypeId}:∀(vs L:List Value) (w:World) {off:Nat},w.heap[b]? = some (.cells L.toArray T (0,0))→off+vs.length≤L.length→(w.setCells b off vs).heap[b]? = some (.cells (splice L off vs).toArray T (0,0))
 |[],L,w,off,h,_=>by simpa [World.setCells,splice] using h
 |v :: vs,L,w,off,h,hf=>by
  have hl:off<L.length:=by simp at hf;omega
  have h1:(w.setCell ⟨b,off,none⟩ v).heap[b]? = some (.cells (L.set off v).toArray T (0,0)):=by simp [World.setCell,Array.getElem?_modify,h]
  have:=setCells_heap vs (L.set off v) (w.setCell ⟨b,off,none⟩ v) (off:=off+1) h1 (by simp at hf ⊢;omega);have e:splice (L.set off v) (off+1) vs=splice L off (v :: vs):=by
   unfold splice;rw [List.take_set,List.drop_set];simp only [List.length_cons,show off<off+1+vs.length by omega,if_true];rw [List.take_succ_eq_append_getElem hl,List.set_append_right _ _ (by simp;omega)];simp [Nat.min_eq_left (Nat.le_of_lt hl),show off+1+vs.length=off+(vs.length+1) by omega]
  rw [e] at this;exact this
theorem setCells_heap_ne{b b':Nat}:∀(vs:List Value) (w:World) {off:Nat},b'≠b→(w.setCells b' off vs).heap[b]? = w.heap[b]?
 |[],w,off,_=>rfl
 |v :: vs,w,off,h=>by
  have h1:(w.setCell ⟨b',off,none⟩ v).heap[b]? = w.heap[b]?:=by simp [World.setCell,Array.getElem?_modify,h]
  exact(setCells_heap_ne vs _ h).trans h1
theorem setCells_only{bs:Nat→Prop}{b:Nat}{a:World}:∀(vs:List Value) (w:World) {off:Nat},Only bs a w→(b<a.heap.size→bs b)→Only bs a (w.setCells b off vs)
 |[],w,off,h,_=>h
 |v :: vs,w,off,h,hb=>setCells_only vs _ (h.setCell (p:=⟨b,off,none⟩) hb v) hb
namespace Blk
variable{S:Tag→Prop}{w w':World}{o o':Nat→Tag}{t:Tag}{b:Nat}{c:Array Value}{T:TypeId}{L:List Value}
theorem lt(h:Blk w o t b c T):b<w.heap.size:=(Array.getElem?_eq_some_iff.1 h.2).1
theorem fr(h:Blk w o t b c T)(f:Fr S w o w' o')(hS:¬S t):Blk w' o' t b c T :=
 ⟨(f.ext b h.lt).trans h.1,(f.only.block b h.lt (by rw [h.1];exact hS)).trans h.2⟩
theorem cell(h:Blk w o t b c T)(i:Nat):w.cell? ⟨b,i,none⟩=c[i]?:=cell_of_row w b i c T (0,0) h.2
theorem cell'(h:Blk w o t b c T){i:Nat}{v:Value}(hv:c[i]? = some v):w.cell? ⟨b,i,none⟩=some v:=(h.cell i).trans hv
theorem free(h:Blk w o t b c T)(i:Nat):w.frozen? ⟨b,i,none⟩=false:=frozen_of_row w b i c T h.2
theorem set(h:Blk w o t b c T)(i:Nat)(u:Value):Blk (w.setCell ⟨b,i,none⟩ u) o t b (c.setIfInBounds i u) T :=
 ⟨h.1,by simp [World.setCell,Array.getElem?_modify,h.2]⟩
theorem set_ne(h:Blk w o t b c T){p:Addr}(hp:p.block≠b)(u:Value):Blk (w.setCell p u) o t b c T :=
 ⟨h.1,by simp [World.setCell,Array.getElem?_modify,hp,h.2]⟩
theorem drew(h:Blk w o t b c T):Blk w.drew o t b c T:=h
theorem alloc(h:Blk w o t b c T)(x:Obj):Blk (w.alloc x) o t b c T:=⟨h.1,(((Only.refl (fun _=>False) w).alloc x).block b h.lt (fun q=>q)).trans h.2⟩
theorem made(w:World)(o:Nat→Tag)(t:Tag)(c:Array Value)(T:TypeId):Blk (w.alloc (.cells c T)) (setO o w.heap.size t) t w.heap.size c T:=⟨setO_same,heap_alloc_new w _⟩
theorem newO(h:Blk w o t b c T){w0:World}{u:Tag}(hk:b<w0.heap.size):Blk w (newO o w0 u) t b c T:=⟨(newO_old hk).trans h.1,h.2⟩
theorem new{w0:World}{o:Nat→Tag}{t:Tag}(hb:w0.heap.size≤b)(h:w.heap[b]? = some (.cells c T (0,0))):Blk w (Go.Proofs.YtfliaggjkianpaaGreatDoor.newO o w0 t) t b c T:=⟨newO_new hb,h⟩
theorem setCells(h:Blk w o t b L.toArray T){off:Nat}{vs:List Value}(hf:off+vs.length≤L.length):Blk (w.setCells b off vs) o t b (splice L off vs).toArray T :=
 ⟨h.1,setCells_heap vs L w h.2 hf⟩
theorem setCells_ne(h:Blk w o t b c T){b' off:Nat}{vs:List Value}(hne:b'≠b):Blk (w.setCells b' off vs) o t b c T :=
 ⟨h.1,(setCells_heap_ne vs w hne).trans h.2⟩
theorem setO(h:Blk w o t b c T){k:Nat}{u:Tag}(hk:w.heap.size≤k):Blk w (setO o k u) t b c T:=⟨(setO_other (by have:=h.lt;omega)).trans h.1,h.2⟩
end Blk
theorem wpList_make_eq{P:Program}(w:World){ops:Array Oper}{rest:List Oper}{o:Oper}{a:Act}{Q:Exit→Act→World→Prop}
  (hg:o.guard=none) (l c:Operand) (t:TypeId) (hop:o.op=Op.makeSlice t l c)
  (e:TypeId) (i:TypeInfo) (z:Value) (h1:P.underlying t=some (.slice e)) (h2:P.info? e=some i) (h3:i.zero=some z) (h4:i.size=1) (hz:z.cells=#[z])
  (kl kc:IntKind) (L C:Int) (n:Nat) (hl:a.eval l=.int kl L) (hc:a.eval c=.int kc C) (hL:L=(n:Int)) (hC:C=(n:Int)) (b2:i.bytes*n≤281474976710656) (b3:n≤9223372036854775807)
  (hK:wpList P ops Q rest (a.put o.dst (.slice (some ⟨w.heap.size,0,none⟩) n n)) (w.alloc (.cells (Array.replicate n z) e))) :
  wpList P ops Q (o :: rest) a w:=by
 refine wpList_plain hg fun K hK'=>?_
 subst hL hC;have hb:(i.bytes:Int)*(n:Int)≤281474976710656:=by
  have h:((i.bytes*n:Nat):Int)≤281474976710656:=by omega
  rwa [Int.natCast_mul] at h
 have hrun:=run_make (P:=P) w t e i z h1 h2 h3 kl kc n n (by omega) (Int.le_refl _) hb (by omega);have hm:madeCells z.cells (n*1)=Array.replicate n z:=by
  rw [hz];unfold madeCells;apply Array.ext
  ·simp
  ·intro j h1 h2;simp [Nat.mod_one]
 simp only [Int.toNat_natCast,h4,hm] at hrun;unfold Oper.wp;simp [execOp,hop,hl,hc,hrun,Result.andThen]
 exact hK' _ _ hK
def Tab(w:World)(o:Nat→Tag):Prop:=o 0=[9]∧0<w.heap.size∧∀j,j<64→w.cell? ⟨0,j,none⟩=some (.int .u8 (Lib.deBruijn64tab.getD j 0))
theorem Tab.fr{S:Tag→Prop}{w w':World}{o o':Nat→Tag}(h:Tab w o)(f:Fr S w o w' o')(hS:¬S [9]):Tab w' o' :=
 ⟨(f.ext 0 h.2.1).trans h.1,by have:=f.size;have:=h.2.1;omega,fun j hj=>f.only.cell (h.2.2 j hj) (by show ¬S (o 0);rw [h.1];exact hS)⟩
end
section
open Go.RowKit
def arB(B:List UInt8):List Value:=B.map fun x=>.int .u8 (x.toNat:Int)
theorem arB_len(B:List UInt8):(arB B).length=B.length:=by unfold arB;simp
theorem infoSpan:(Tryz.prog.info? 217).map (fun i=>(i.zero,i.size,i.bytes))=some (some (.agg #[.int .i64 0,.int .i64 0,.bool false]),3,24):=by kernel_rfl
structure ArC(w:World)(o:Nat→Tag)(t:Tag)(b g:Nat)(B:List UInt8)(m:Nat)(v:Value)(xs:List Value):Prop where
 sz:B.length≤2097152
 sb:Blk w o t b #[.slice (some ⟨g,0,none⟩) B.length B.length,v] 109
 bb:Blk w o t g (arB B).toArray 5
 ne:b≠g
 tr:w.ownsRow 0 217 3 v m xs
 tt:∀q,v.ownBlock=some q→o q=t∧q≠b∧q≠g
 one:∀u∈xs,u.oneCell'=true
def ArAt(w:World)(o:Nat→Tag)(t:Tag)(b:Nat)(B:List UInt8)(m:Nat):Prop:=∃g k v xs,k≤m∧ArC w o t b g B k v xs
theorem ArC.fr{S:Tag→Prop}{w w':World}{o o':Nat→Tag}{t:Tag}{b g:Nat}{B:List UInt8}{m:Nat}{v:Value}{xs:List Value}(h:ArC w o t b g B m v xs)(f:Fr S w o w' o')(hS:¬S t):ArC w' o' t b g B m v xs :=
 ⟨h.sz,h.sb.fr f hS,h.bb.fr f hS,h.ne,f.only.owns h.tr (fun q hq hs=>hS (by have:=(h.tt q hq).1;rwa [this] at hs)),fun q hq=>⟨(f.ext q (h.tr.lt q hq).2).trans (h.tt q hq).1,(h.tt q hq).2⟩,h.one⟩
theorem ArAt.fr{S:Tag→Prop}{w w':World}{o o':Nat→Tag}{t:Tag}{b:Nat}{B:List UInt8}{m:Nat}(h:ArAt w o t b B m)(f:Fr S w o w' o')(hS:Off S t):ArAt w' o' t b B m:=by
 obtain⟨g,k,v,xs,hk,h⟩:=h;exact⟨g,k,v,xs,hk,h.fr f hS.self⟩
theorem ArAt.mono{w:World}{o:Nat→Tag}{t:Tag}{b:Nat}{B:List UInt8}{m m':Nat}(h:ArAt w o t b B m)(hm:m≤m'):ArAt w o t b B m':=by
 obtain⟨g,k,v,xs,hk,h⟩:=h;exact⟨g,k,v,xs,Nat.le_trans hk hm,h⟩
theorem ArAt.sz{w:World}{o:Nat→Tag}{t:Tag}{b:Nat}{B:List UInt8}{m:Nat}(h:ArAt w o t b B m):B.length≤2097152:=by
 obtain⟨g,k,v,xs,hk,h⟩:=h;exact h.sz
theorem arSize(b:Nat)(w:World){o:Nat→Tag}{t:Tag}{B:List UInt8}{m:Nat}(h:ArAt w o t b B m) :
  Calls Tryz.prog 212 #[.pointer (some ⟨b,0,none⟩)] w fun e w'=>e=.returned (.int .i64 B.length)∧w'=w:=by
 obtain⟨g,k,v,xs,hk,h⟩:=h;have c0:w.cell? ⟨b,0,none⟩=some (.slice (some ⟨g,0,none⟩) B.length B.length):=h.sb.cell' (i:=0) rfl;clear h;go_enter Tryz.func212,Tryz.ntmps212
 go_wp2_with fail;go_ret
 exact⟨rfl,rfl⟩
def hasE(l:Nat)(at_ n:Int):Int:=if 0≤at_∧0≤n∧at_≤l∧n≤l-at_ then 0 else 4
theorem arHas(b:Nat)(at_ n:Int)(w:World){o:Nat→Tag}{t:Tag}{B:List UInt8}{m:Nat}(h:ArAt w o t b B m) :
  Calls Tryz.prog 112 #[.pointer (some ⟨b,0,none⟩),.int .i64 at_,.int .i64 n] w fun e w'=>e=.returned (.int .i64 (hasE B.length at_ n))∧w'=w:=by
 obtain⟨g,k,v,xs,hk,h⟩:=h;have c0:w.cell? ⟨b,0,none⟩=some (.slice (some ⟨g,0,none⟩) B.length B.length):=h.sb.cell' (i:=0) rfl;have hsz:=h.sz;clear h;generalize B.length=l at *;by_cases h0:0≤at_
 ·by_cases h1:0≤n
  ·by_cases h2:at_≤l
   ·by_cases h3:n≤l-at_
    ·have e:hasE l at_ n=0:=if_pos ⟨h0,h1,h2,h3⟩
     rw [e];clear e;go_enter Tryz.func112,Tryz.ntmps112
     go_wp2_with fail;go_step3
     go_wp2_with fail;rw [Exit.noGoto_ret];go_ret
     exact⟨rfl,rfl⟩
    ·have e:hasE l at_ n=4:=if_neg (by omega)
     rw [e];clear e;go_enter Tryz.func112,Tryz.ntmps112
     go_wp2_with fail;refine wp_scope_jumps 0 (fun a' w'=>w'=w∧∃(u0 u1 u2 u3 u4 u5 u6 u7 u8 u9 u10 u11 u12 u13 u14 u15 u16 u17 u18 u19 u20 u21 u22 u23 u24 u25 u26 u27 u28 u29 u30 u31 u32:Value),a'={tmps:=#[u0,u1,u2,u3,u4,u5,u6,u7,u8,u9,u10,u11,u12,u13,u14,u15,u16,u17,u18,u19,u20,u21,u22,u23,u24,u25,u26,u27,u28,u29,u30,u31,u32],defers:=[]}) (fun _ _=>0) rfl ?_ ?_
     ·go_wp2_with fail
      go_step3
      go_wp2_with fail;simp only [Exit.jump];go_ret
      exact⟨rfl,rfl⟩
     ·rintro a' w' ⟨rfl,u0,u1,u2,u3,u4,u5,u6,u7,u8,u9,u10,u11,u12,u13,u14,u15,u16,u17,u18,u19,u20,u21,u22,u23,u24,u25,u26,u27,u28,u29,u30,u31,u32,rfl⟩
      go_wp2_with fail;simp only [Exit.jump];go_ret
      exact⟨rfl,rfl⟩
   ·have e:hasE l at_ n=4:=if_neg (by omega)
    rw [e];clear e;go_enter Tryz.func112,Tryz.ntmps112
    go_wp2_with fail;refine wp_scope_jumps 0 (fun a' w'=>w'=w∧∃(u0 u1 u2 u3 u4 u5 u6 u7 u8 u9 u10 u11 u12 u13 u14 u15 u16 u17 u18 u19 u20 u21 u22 u23 u24 u25 u26 u27 u28 u29 u30 u31 u32:Value),a'={tmps:=#[u0,u1,u2,u3,u4,u5,u6,u7,u8,u9,u10,u11,u12,u13,u14,u15,u16,u17,u18,u19,u20,u21,u22,u23,u24,u25,u26,u27,u28,u29,u30,u31,u32],defers:=[]}) (fun _ _=>0) rfl ?_ ?_
    ·go_wp2_with fail
     go_step3
     exact⟨rfl,rfl,_,_,_,_,_,_,_,_,_,_,_,_,_,_,_,_,_,_,_,_,_,_,_,_,_,_,_,_,_,_,_,_,_,rfl⟩
    ·rintro a' w' ⟨rfl,u0,u1,u2,u3,u4,u5,u6,u7,u8,u9,u10,u11,u12,u13,u14,u15,u16,u17,u18,u19,u20,u21,u22,u23,u24,u25,u26,u27,u28,u29,u30,u31,u32,rfl⟩
     go_wp2_with fail;simp only [Exit.jump];go_ret
     exact⟨rfl,rfl⟩
  ·have e:hasE l at_ n=4:=if_neg (by omega)
   rw [e];clear e;go_enter Tryz.func112,Tryz.ntmps112
   go_wp2_with fail;refine wp_scope_jumps 0 (fun a' w'=>w'=w∧∃(u0 u1 u2 u3 u4 u5 u6 u7 u8 u9 u10 u11 u12 u13 u14 u15 u16 u17 u18 u19 u20 u21 u22 u23 u24 u25 u26 u27 u28 u29 u30 u31 u32:Value),a'={tmps:=#[u0,u1,u2,u3,u4,u5,u6,u7,u8,u9,u10,u11,u12,u13,u14,u15,u16,u17,u18,u19,u20,u21,u22,u23,u24,u25,u26,u27,u28,u29,u30,u31,u32],defers:=[]}) (fun _ _=>0) rfl ?_ ?_
   ·go_wp2_with fail
    go_step3
    exact⟨rfl,rfl,_,_,_,_,_,_,_,_,_,_,_,_,_,_,_,_,_,_,_,_,_,_,_,_,_,_,_,_,_,_,_,_,_,rfl⟩
   ·rintro a' w' ⟨rfl,u0,u1,u2,u3,u4,u5,u6,u7,u8,u9,u10,u11,u12,u13,u14,u15,u16,u17,u18,u19,u20,u21,u22,u23,u24,u25,u26,u27,u28,u29,u30,u31,u32,rfl⟩
    go_wp2_with fail;simp only [Exit.jump];go_ret
    exact⟨rfl,rfl⟩
 ·have e:hasE l at_ n=4:=if_neg (by omega)
  rw [e];clear e;go_enter Tryz.func112,Tryz.ntmps112
  go_wp2_with fail;refine wp_scope_jumps 0 (fun a' w'=>w'=w∧∃(u0 u1 u2 u3 u4 u5 u6 u7 u8 u9 u10 u11 u12 u13 u14 u15 u16 u17 u18 u19 u20 u21 u22 u23 u24 u25 u26 u27 u28 u29 u30 u31 u32:Value),a'={tmps:=#[u0,u1,u2,u3,u4,u5,u6,u7,u8,u9,u10,u11,u12,u13,u14,u15,u16,u17,u18,u19,u20,u21,u22,u23,u24,u25,u26,u27,u28,u29,u30,u31,u32],defers:=[]}) (fun _ _=>0) rfl ?_ ?_
  ·go_wp2_with fail
   go_step3
   exact⟨rfl,rfl,_,_,_,_,_,_,_,_,_,_,_,_,_,_,_,_,_,_,_,_,_,_,_,_,_,_,_,_,_,_,_,_,_,rfl⟩
  ·rintro a' w' ⟨rfl,u0,u1,u2,u3,u4,u5,u6,u7,u8,u9,u10,u11,u12,u13,u14,u15,u16,u17,u18,u19,u20,u21,u22,u23,u24,u25,u26,u27,u28,u29,u30,u31,u32,rfl⟩
   go_wp2_with fail;simp only [Exit.jump];go_ret
   exact⟨rfl,rfl⟩
theorem has_iff{l:Nat}{at_ n:Int}:hasE l at_ n=0↔0≤at_∧0≤n∧at_≤l∧n≤l-at_:=by
 unfold hasE;by_cases h:0≤at_∧0≤n∧at_≤l∧n≤l-at_
 ·rw [if_pos h];exact⟨fun _=>h,fun _=>rfl⟩
 ·rw [if_neg h];exact⟨fun q=>by omega,fun q=>absurd q h⟩
theorem has_or(l:Nat)(at_ n:Int):hasE l at_ n=0∨hasE l at_ n=4:=by
 unfold hasE;split
 ·exact .inl rfl
 ·exact .inr rfl
def TouchPost(w:World)(o:Nat→Tag)(t:Tag)(b g:Nat)(B:List UInt8)(m at_ n:Nat)(e:Ending)(w':World):Prop :=
 ∃(ad:Addr) (v':Value) (xs':List Value) (k:Nat),e=.returned (.slice (some ad) n (B.length-at_))∧(0<n→ad=⟨g,at_,none⟩)∧k≤m+1∧ArC w' (newO o w t) t b g B k v' xs'∧Fr (Und t) w o w' (newO o w t)
theorem arTouch(b g:Nat)(at_ n:Nat)(wr_:Bool)(w:World){o:Nat→Tag}{t:Tag}{B:List UInt8}{m:Nat}{v:Value}{xs:List Value}(h:ArC w o t b g B m v xs)(hm:m≤1000000000)(hf:at_+n≤B.length) :
  Calls Tryz.prog 113 #[.pointer (some ⟨b,0,none⟩),.int .i64 at_,.int .i64 n,.bool wr_] w (TouchPost w o t b g B m at_ n):=by
 have c0:w.cell? ⟨b,0,none⟩=some (.slice (some ⟨g,0,none⟩) B.length B.length):=h.sb.cell' (i:=0) rfl;have c1:w.cell? ⟨b,1,none⟩=some v:=h.sb.cell' (i:=1) rfl;have f1:=h.sb.free 1;have hsz:=h.sz;obtain⟨i0,hi,hz0,hz1,hz2⟩:=info_parts infoSpan;obtain⟨ad,had,hadC⟩:∃ad:Addr,(if B.length=at_ then some (⟨g,0,none⟩:Addr) else some ⟨g,at_,none⟩)=some ad∧(0<n→ad=⟨g,at_,none⟩):=by
  by_cases e:B.length=at_
  ·exact⟨_,if_pos e,fun q=>by omega⟩
  ·exact⟨_,if_neg e,fun _=>rfl⟩
 have hw:=IntWalk.i64_in ((at_:Int)+n) (by omega);have hnn:((at_:Int)+n).toNat=at_+n:=by omega
 have hsub:at_+n-at_=n:=by omega
 have hlb:(at_:Int)+n≤B.length:=by omega
 replace h:=HD h;replace hadC:=HD hadC;by_cases hn:n=0
 ·subst hn
  go_enter Tryz.func113,Tryz.ntmps113
  go_wp2_with fail;go_ret
  have ha:=h.out;refine⟨ad,v,xs,m,rfl,hadC.out,Nat.le_succ m,?_,Fr.below' (Below.refl _ _) t⟩;exact ha.fr (S:=fun _=>False) (Fr.below' (Below.refl _ _) t) (fun q=>q)
 ·have hn0:0<n:=by omega
  go_enter Tryz.func113,Tryz.ntmps113
  go_wp2_with (at_builtin;refine wpList_append_lies _ rfl _ _ 74 rfl 0 217 i0 (.agg #[.int .i64 0,.int .i64 0,.bool false]) 3 24 Tryz.underlying74 hi hz0 hz1 hz2 rfl (by decide) _ _ _ rfl (h.out.tr.alloc _) _ 1 1 [.int .i64 at_,.int .i64 n,.bool wr_] rfl rfl ?c1 ?c2 (by decide) ?c3 ?c4 (Nat.zero_le _) (w.heap.size+1) (by simp) ?_)
  case c1 =>
   intro q u hq;match q,hq with
   |0,hq=>simp at hq;subst hq;simp [Addr.add]
   |1,hq=>simp at hq;subst hq;simp [Addr.add]
   |2,hq=>simp at hq;subst hq;simp [Addr.add]
  case c2=>intro u hu;simp at hu;rcases hu with rfl|rfl|rfl<;>rfl
  case c3=>unfold maxLen;omega
  case c4=>omega
  intro q1 cap1 w1 hr1 hg1 hv1 _;have ha:=h.out;have hO1:Only (fun k=>v.ownBlock=some k) w w1:=((Only.refl _ _).alloc _).grown hg1 (fun k hk _=>hk);have hbl:=ha.sb.lt;have hgl:=ha.bb.lt;have hs1:Blk w1 (newO o w t) t b #[.slice (some ⟨g,0,none⟩) B.length B.length,v] 109:=⟨(newO_old hbl).trans ha.sb.1,(hO1.block b hbl (fun q=>(ha.tt b q).2.1 rfl)).trans ha.sb.2⟩
  have hb1:Blk w1 (newO o w t) t g (arB B).toArray 5:=⟨(newO_old hgl).trans ha.bb.1,(hO1.block g hgl (fun q=>(ha.tt g q).2.2 rfl)).trans ha.bb.2⟩
  have hv2:(Value.slice (some ⟨q1,0,none⟩) (m+1) cap1).ownBlock=v.ownBlock∨(Value.slice (some ⟨q1,0,none⟩) (m+1) cap1).ownBlock=some (w.heap.size+1):=hv1.imp (fun e=>e.symm) (fun e=>by rw [←e];rfl);generalize hv':Value.slice (some ⟨q1,0,none⟩) (m+1) cap1=v' at *;have htt:∀q,v'.ownBlock=some q→newO o w t q=t∧q≠b∧q≠g:=by
   intro q hq;rcases hv2 with e|e
   ·rw [e] at hq
    exact⟨(newO_old (ha.tr.lt q hq).2).trans (ha.tt q hq).1,(ha.tt q hq).2⟩
   ·rw [e] at hq;injection hq with hq
    exact⟨newO_new (by omega),by omega,by omega⟩
  have d0:w1.cell? ⟨b,0,none⟩=some (.slice (some ⟨g,0,none⟩) B.length B.length):=hs1.cell' (i:=0) rfl;have d1:w1.cell? ⟨b,1,none⟩=some v:=hs1.cell' (i:=1) rfl;have e1:=hs1.free 1;have hF:Fr (Und t) w o (w1.setCell ⟨b,1,none⟩ v') (newO o w t):=Fr.of_new ((hO1.mono (fun k _ hk=>by rw [(ha.tt k hk).1];exact Und.self t)).setCell (p:=⟨b,1,none⟩) (fun _=>by show Und t (o b);rw [ha.sb.1];exact Und.self t) v') t;have hC:ArC (w1.setCell ⟨b,1,none⟩ v') (newO o w t) t b g B (m+1) v' (xs++[.int .i64 at_,.int .i64 n,.bool wr_]) :=
   ⟨ha.sz,hs1.set 1 v',hb1.set_ne ha.ne v',ha.ne,ownsRow_setCell_other hr1 (fun q=>(htt b q).2.1 rfl) v',htt,fun u hu=>by
    rcases List.mem_append.1 hu with hu|hu
    ·exact ha.one u hu
    ·simp at hu;rcases hu with rfl|rfl|rfl<;>rfl⟩
  replace hC:=HD hC;replace hF:=HD hF;clear hr1 hg1 hv1 hO1 hs1 hb1 hv2 htt h ha c0 c1;subst hv';go_wp2_with fail;go_ret
  exact⟨ad,_,_,m+1,rfl,hadC.out,Nat.le_refl _,hC.out,hF.out⟩
end
section
open Go.RowKit
theorem add_pl(g i j:Nat):(⟨g,i,none⟩:Addr).add j=⟨g,i+j,none⟩:=by unfold Addr.add;split<;>simp_all
def ArPost(w:World)(o:Nat→Tag)(t:Tag)(b:Nat)(v:Value)(B:List UInt8)(m:Nat)(e:Ending)(w':World):Prop:=e=.returned v∧ArAt w' (newO o w t) t b B m∧Fr (Und t) w o w' (newO o w t)
theorem arPost_same{w:World}{o:Nat→Tag}{t:Tag}{b:Nat}{v:Value}{B:List UInt8}{m m':Nat}(h:ArAt w o t b B m)(hm:m≤m'):ArPost w o t b v B m' (.returned v) w:=by
 obtain⟨g,k,v0,xs,hk,h⟩:=h;exact⟨rfl,⟨g,k,v0,xs,by omega,h.fr (S:=fun _=>False) (Fr.below' (Below.refl _ _) t) (fun q=>q)⟩,Fr.below' (Below.refl _ _) t⟩
def sub(B:List UInt8)(i n:Nat):List UInt8:=(B.drop i).take n
theorem sub_len{B:List UInt8}{i n:Nat}(h:i+n≤B.length):(sub B i n).length=n:=by unfold sub;simp;omega
theorem sub_get{B:List UInt8}{i n j:Nat}(h:j<n):(sub B i n)[j]? = B[i+j]?:=by
 unfold sub;rw [List.getElem?_take,if_pos h,List.getElem?_drop]
def rdV(B:List UInt8)(at_ n:Int):Value:=if hasE B.length at_ n=0 then .string ⟨(sub B at_.toNat n.toNat).toArray⟩ else .string ⟨#[]⟩
theorem arRead(b:Nat)(at_ n:Int)(w:World){o:Nat→Tag}{t:Tag}{B:List UInt8}{m:Nat}(h:ArAt w o t b B m)(hm:m≤1000000000) :
  Calls Tryz.prog 68 #[.pointer (some ⟨b,0,none⟩),.int .i64 at_,.int .i64 n] w (ArPost w o t b (.tuple #[rdV B at_ n,.int .i64 (hasE B.length at_ n)]) B (m+1)):=by
 have hh:=HD (arHas b at_ n w h);have hs:=HD (arPost_same (v:=.tuple #[.string ⟨#[]⟩,.int .i64 4]) h (Nat.le_succ m));unfold rdV;rcases has_or B.length at_ n with e|e
 ·obtain⟨h0,h1,h2,h3⟩:=has_iff.1 e
  obtain⟨i,rfl⟩:∃i:Nat,at_=i:=⟨at_.toNat,by omega⟩
  obtain⟨k,rfl⟩:∃k:Nat,n=k:=⟨n.toNat,by omega⟩
  rw [if_pos e,e,Int.toNat_natCast,Int.toNat_natCast];rw [e] at hh;obtain⟨g,k0,v0,xs,hk,hc⟩:=h;have ht:=HD (arTouch b g i k false w hc (by omega) (by omega));have hfit:i+k≤B.length:=by omega
  clear hc e;go_enter Tryz.func68,Tryz.ntmps68
  go_wp2_with fail;refine SM hh.out ?_;go_wp2_with fail;refine ht.out.mono ?_;rintro e w1 ⟨ad,v',xs',k1,rfl,had,hk1,hC,hF⟩;have hl:=sub_len hfit;have hconv:=run_convert_bytes_back (P:=Tryz.prog) w1 57 9 5 ad (B.length-i) (sub B i k) Tryz.underlying57 Tryz.underlying5 Tryz.underlying9 (fun j hj=>by
   rw [hl] at hj;rw [had (by omega)];have hcell:=hC.bb.cell (i+j);have hg:=sub_get (B:=B) (i:=i) hj;rw [List.getElem?_eq_getElem (by rw [hl];exact hj)] at hg;have:((arB B).toArray)[i+j]? = some (.int .u8 ((sub B i k)[j].toNat:Int)):=by unfold arB;simp [←hg]
   rw [this] at hcell;rw [add_pl];exact hcell)
  rw [hl] at hconv;replace hC:=HD hC;replace had:=HD had;replace hF:=HD hF;clear hl;generalize sub B i k=l at *;go_wp2_with fail;go_ret2
  exact⟨rfl,⟨g,k1,v',xs',by omega,hC.out⟩,hF.out⟩
 ·rw [if_neg (by omega),e]
  rw [e] at hh;clear h e;go_enter Tryz.func68,Tryz.ntmps68
  go_wp2_with fail;refine SM hh.out ?_;go_wp2_with fail;go_ret2
  exact hs.out
theorem ArC.stored{w:World}{o:Nat→Tag}{t:Tag}{b g:Nat}{B:List UInt8}{m:Nat}{v:Value}{xs:List Value}(h:ArC w o t b g B m v xs){i:Nat}{l:List UInt8}(hf:i+l.length≤B.length) :
  ArC (w.setCells g i (arB l)) o t b g (splice B i l) m v xs where
 sz:=by have:=h.sz;have e:(splice B i l).length=B.length:=(by unfold splice;simp;omega);rw [e];exact this
 sb:=by
  have e:(splice B i l).length=B.length:=(by unfold splice;simp;omega)
  rw [e];exact h.sb.setCells_ne (fun q=>h.ne q.symm)
 bb:=by
  have:=h.bb.setCells (off:=i) (vs:=arB l) (by rw [arB_len,arB_len];exact hf);have e:splice (arB B) i (arB l)=arB (splice B i l):=by unfold splice arB;simp
  rwa [e] at this
 ne:=h.ne
 tr:=by
  have hO:Only (· = g) w (w.setCells g i (arB l)):=setCells_only _ _ (Only.refl _ _) (fun _=>rfl);exact hO.owns h.tr (fun q hq e=>(h.tt q hq).2.2 e)
 tt:=h.tt
 one:=h.one
theorem Fr.stored{S:Tag→Prop}{w w1:World}{o o1:Nat→Tag}(f:Fr S w o w1 o1){g i:Nat}{vs:List Value}(hg:g<w.heap.size→S (o g)):Fr S w o (w1.setCells g i vs) o1:=⟨setCells_only vs _ f.only hg,f.ext⟩
theorem arOwn{w w1:World}{o:Nat→Tag}{t:Tag}{b g:Nat}{B:List UInt8}{m:Nat}{v:Value}{xs:List Value}(h:ArC w1 (newO o w t) t b g B m v xs)(hg:g<w.heap.size):Und t (o g):=by
 have:=h.bb.1;rw [newO_old hg] at this;rw [this];exact Und.self t
theorem arSome{w:World}{o:Nat→Tag}{t:Tag}{b g:Nat}{B:List UInt8}{m:Nat}{v:Value}{xs:List Value}(h:ArC w o t b g B m v xs){j:Nat}(hj:j<B.length):(w.cell? ⟨g,j,none⟩).isSome=true:=by
 rw [h.bb.cell j];unfold arB;simp [hj]
theorem zeroU8(w:World):(zeroValue 5).run Tryz.prog w=.ok (.int .u8 0) w:=by kernel_rfl
def zrB(B:List UInt8)(at_ n:Int):List UInt8:=if hasE B.length at_ n=0 then splice B at_.toNat (List.replicate n.toNat 0) else B
theorem arZero(b:Nat)(at_ n:Int)(w:World){o:Nat→Tag}{t:Tag}{B:List UInt8}{m:Nat}(h:ArAt w o t b B m)(hm:m≤1000000000) :
  Calls Tryz.prog 132 #[.pointer (some ⟨b,0,none⟩),.int .i64 at_,.int .i64 n] w (ArPost w o t b (.int .i64 (hasE B.length at_ n)) (zrB B at_ n) (m+1)):=by
 have hh:=HD (arHas b at_ n w h);have hs:=HD (arPost_same (v:=.int .i64 4) h (Nat.le_succ m));unfold zrB;rcases has_or B.length at_ n with e|e
 ·obtain⟨h0,h1,h2,h3⟩:=has_iff.1 e
  obtain⟨i,rfl⟩:∃i:Nat,at_=i:=⟨at_.toNat,by omega⟩
  obtain⟨k,rfl⟩:∃k:Nat,n=k:=⟨n.toNat,by omega⟩
  rw [if_pos e,e,Int.toNat_natCast,Int.toNat_natCast];rw [e] at hh;obtain⟨g,k0,v0,xs,hk,hc⟩:=h;have ht:=HD (arTouch b g i k true w hc (by omega) (by omega));have hgs:=hc.bb.lt;have hfit:i+k≤B.length:=by omega
  clear hc e;go_enter Tryz.func132,Tryz.ntmps132
  go_wp2_with fail;refine SM hh.out ?_;go_wp2_with fail;refine ht.out.mono ?_;rintro e w1 ⟨ad,v',xs',k1,rfl,had,hk1,hC,hF⟩;have hcl:∀ty,(Builtin.clear_ #[57] ty #[.slice (some ad) k (B.length-i)]).run Tryz.prog w1=.ok (.tuple #[]) (w1.setCells g i (arB (List.replicate k 0))):=by
   intro ty;by_cases hk0:k=0
   ·subst hk0
    simp [Builtin.clear_,run_underlying Tryz.underlying57,arB,World.setCells]
   ·rw [had (by omega)]
    have:=Lib.run_clear_slice (P:=Tryz.prog) w1 57 5 ty (.int .u8 0) Tryz.underlying57 zeroU8 rfl rfl g i k (B.length-i) (by omega) (fun j hj=>arSome hC (by omega)) (fun j hj=>hC.bb.free _);rw [this];unfold arB;simp
  have hC2:=HD (hC.stored (i:=i) (l:=List.replicate k 0) (by simpa using hfit));have hF2:=HD (hF.stored (g:=g) (i:=i) (vs:=arB (List.replicate k 0)) (fun _=>arOwn hC hgs));clear had hC hF;go_wp2_with fail;go_ret
  exact⟨rfl,⟨g,k1,v',xs',by omega,hC2.out⟩,hF2.out⟩
 ·rw [if_neg (by omega),e]
  rw [e] at hh;clear h e;go_enter Tryz.func132,Tryz.ntmps132
  go_wp2_with fail;refine SM hh.out ?_;go_wp2_with fail;go_ret
  exact hs.out
def wrB(B:List UInt8)(at_:Int)(s:ByteArray):List UInt8:=if hasE B.length at_ s.size=0 then splice B at_.toNat s.data.toList else B
theorem infoU8:(Tryz.prog.info? 5).map (·.size)=some 1:=by kernel_rfl
theorem sizeU8(w:World):(Go.sizeOf 5).run Tryz.prog w=.ok 1 w:=by
 have:=infoU8;cases hq:Tryz.prog.info? 5 with
 |none=>rw [hq] at this;cases this
 |some i=>rw [hq] at this;simp at this;simp [sizeOf,typeInfo,hq,this]
theorem arWrite(b:Nat)(at_:Int)(s:ByteArray)(w:World){o:Nat→Tag}{t:Tag}{B:List UInt8}{m:Nat}(h:ArAt w o t b B m)(hm:m≤1000000000)(hs:s.size≤maxLen) :
  Calls Tryz.prog 161 #[.pointer (some ⟨b,0,none⟩),.int .i64 at_,.string s] w (ArPost w o t b (.int .i64 (hasE B.length at_ s.size)) (wrB B at_ s) (m+1)):=by
 unfold maxLen at hs;have hh:=HD (arHas b at_ s.size w h);have hsm:=HD (arPost_same (v:=.int .i64 4) h (Nat.le_succ m));unfold wrB;rcases has_or B.length at_ s.size with e|e
 ·obtain⟨h0,h1,h2,h3⟩:=has_iff.1 e
  obtain⟨i,rfl⟩:∃i:Nat,at_=i:=⟨at_.toNat,by omega⟩
  rw [if_pos e,e,Int.toNat_natCast];rw [e] at hh;obtain⟨g,k0,v0,xs,hk,hc⟩:=h;have ht:=HD (arTouch b g i s.size true w hc (by omega) (by omega));have hgs:=hc.bb.lt;have hfit:i+s.size≤B.length:=by omega
  have hl:s.data.toList.length=s.size:=(Lib.size_eq s).symm;clear hc e;go_enter Tryz.func161,Tryz.ntmps161
  go_wp2_with fail;refine SM hh.out ?_;go_wp2_with fail;refine ht.out.mono ?_;rintro e w1 ⟨ad,v',xs',k1,rfl,had,hk1,hC,hF⟩;have hcp:∀ty,(Builtin.copy_ #[57,9] ty #[.slice (some ad) s.size (B.length-i),.string s]).run Tryz.prog w1=.ok (goInt s.size) (w1.setCells g i (arB s.data.toList)):=by
   intro ty;by_cases hk0:s.size=0
   ·rw [Lib.run_copy_empty_string (P:=Tryz.prog) w1 57 9 ty 5 (some ad) s.size (B.length-i) s Tryz.underlying57 (by rw [infoU8];rfl) hk0]
    have:s.data.toList=[]:=List.eq_nil_of_length_eq_zero (by rw [hl];exact hk0);rw [this,hk0];rfl
   ·rw [had (by omega)]
    exact run_copy_string (P:=Tryz.prog) w1 57 9 ty 5 g i s.size (B.length-i) s Tryz.underlying57 sizeU8 (Nat.le_refl _) (fun j hj=>arSome hC (by omega)) (fun j hj=>hC.bb.free _)
  have hC2:=HD (hC.stored (i:=i) (l:=s.data.toList) (by rw [hl];exact hfit));have hF2:=HD (hF.stored (g:=g) (i:=i) (vs:=arB s.data.toList) (fun _=>arOwn hC hgs));clear had hC hF hl;go_wp2_with fail;go_ret
  exact⟨rfl,⟨g,k1,v',xs',by omega,hC2.out⟩,hF2.out⟩
 ·rw [if_neg (by omega),e]
  rw [e] at hh;clear h e;go_enter Tryz.func161,Tryz.ntmps161
  go_wp2_with fail;refine SM hh.out ?_;go_wp2_with fail;go_ret
  exact hsm.out
end
section
open Go.RowKit
section
variable{P:Program}(w:World)
theorem run_append_two(base:Nat)(t ty e:TypeId)(i:TypeInfo)(z:Value)(size bytes:Nat)(ht:P.underlying t=some (.slice e))(hi:P.info? e=some i)(hz:i.zero=some z)
  (hsize:i.size=size) (hby:i.bytes=bytes) (hzs:z.cells.size=size) (hsz:0<size)
  (v:Value) (n:Nat) (xs:List Value) (hown:w.ownsRow base e size v n xs)
  (u:Value) (m:Nat) (news:List Value) (hu:w.ownsRow base e size u m news) (h1:∀x∈news,x.oneCell'=true)
  (h63:n+m≤maxLen) (hbytes:(n+m)*bytes≤140737488355328) (hbase:base≤w.heap.size) :
  ∃v' w',(Builtin.append_ #[t,t] ty #[v,u]).run P w=.ok v' w'∧w'.ownsRow base e size v' (n+m) (xs++news)∧w.grownBy w' v.ownBlock ∧
   (v'.ownBlock=v.ownBlock∨v'.ownBlock=some w.heap.size):=by
 rcases hu.2 with ⟨rfl,rfl⟩|⟨g,cap,cur,rfl,_⟩
 ·have hn:news=[]:=List.eq_nil_of_length_eq_zero (by simpa using hu.1)
  subst hn;exact⟨v,w,run_append_owned_none w base t ty e i size ht hi v n xs hown,by simpa using hown,⟨rfl,rfl,rfl,Nat.le_refl _,fun _ _ _=>rfl⟩,.inl rfl⟩
 ·obtain⟨v',w',hr,ho,hg,_,hb⟩:=run_append_own_at (P:=P) w base t ty e i z size bytes ht hi hz hsize hby hzs hsz v n xs hown ⟨g,0,none⟩ m cap news hu.1 (hu.cells rfl) h1 h63 hbytes hbase
  exact⟨v',w',hr,ho,hg,hb⟩
theorem wpList_append_two{ops:Array Oper}{rest:List Oper}{o:Oper}{a:Act}{Q:Exit→Act→World→Prop}(hgd:o.guard=none)(s x:Operand)(t:TypeId)
  (ho:o.op=.call {callee:=.builtin .append,args:=#[s,x],argTypes:=#[t,t]})
  (base:Nat) (e:TypeId) (i:TypeInfo) (z:Value) (size bytes:Nat) (ht:P.underlying t=some (.slice e)) (hi:P.info? e=some i) (hz:i.zero=some z)
  (hsize:i.size=size) (hby:i.bytes=bytes) (hzs:z.cells.size=size) (hsz:0<size)
  (v:Value) (n:Nat) (xs:List Value) (hs:a.eval s=v) (hown:w.ownsRow base e size v n xs)
  (u:Value) (m:Nat) (news:List Value) (hx:a.eval x=u) (hu:w.ownsRow base e size u m news) (h1:∀y∈news,y.oneCell'=true)
  (h63:n+m≤maxLen) (hbytes:(n+m)*bytes≤140737488355328) (hbase:base≤w.heap.size)
  (h:∀v' w',w'.ownsRow base e size v' (n+m) (xs++news)→w.grownBy w' v.ownBlock→(v'.ownBlock=v.ownBlock∨v'.ownBlock=some w.heap.size)→wpList P ops Q rest (a.put o.dst v') w'):wpList P ops Q (o :: rest) a w:=by
 refine wpList_plain hgd fun K hK=>?_
 obtain⟨v',w',hr,h2,h3,h4⟩:=run_append_two (P:=P) w base t o.type e i z size bytes ht hi hz hsize hby hzs hsz v n xs hown u m news hu h1 h63 hbytes hbase;unfold Oper.wp execOp;simp only [ho,resolve,invoke,builtin,Sem.run_bind,Sem.run_pure,Result.andThen_ok,List.map_toArray,List.map_cons,List.map_nil,hs,hx,hr];exact hK _ _ (h v' w' h2 h3 h4)
end
end
section
open Go.RowKit
theorem arForget(b:Nat)(w:World){o:Nat→Tag}{t:Tag}{B:List UInt8}{m:Nat}(h:ArAt w o t b B m) :
  Calls Tryz.prog 29 #[.pointer (some ⟨b,0,none⟩)] w (ArPost w o t b (.tuple #[]) B 0):=by
 obtain⟨g,k,v,xs,hk,h⟩:=h;have c1:w.cell? ⟨b,1,none⟩=some v:=h.sb.cell' (i:=1) rfl;have f1:=h.sb.free 1;have hC:ArC (w.setCell ⟨b,1,none⟩ (.slice none 0 0)) (newO o w t) t b g B 0 (.slice none 0 0) [] :=
  ⟨h.sz,(h.sb.newO (w0:=w) h.sb.lt).set 1 _,(h.bb.newO (w0:=w) h.bb.lt).set_ne h.ne _,h.ne,World.ownsRow_nil _ _ _ _,fun q hq=>(by cases hq),fun u hu=>(by cases hu)⟩
 have hF:Fr (Und t) w o (w.setCell ⟨b,1,none⟩ (.slice none 0 0)) (newO o w t):=Fr.of_new ((Only.refl _ _).setCell (p:=⟨b,1,none⟩) (fun _=>by show Und t (o b);rw [h.sb.1];exact Und.self t) _) t;replace hC:=HD hC;replace hF:=HD hF;clear h;go_enter Tryz.func29,Tryz.ntmps29
 go_wp2_with fail;exact bodyPost_end (results_none (by kernel_rfl) _ _ _) rfl ⟨rfl,⟨g,0,_,_,Nat.le_refl _,hC.out⟩,hF.out⟩
theorem arTouched(b:Nat)(w:World){o:Nat→Tag}{t:Tag}{B:List UInt8}{m:Nat}(h:ArAt w o t b B m)(hm:m≤1000000000) :
  Calls Tryz.prog 36 #[.pointer (some ⟨b,0,none⟩)] w fun e w'=>(∃a n c,e=.returned (.slice a n c))∧Below w.heap.size w w':=by
 obtain⟨g,k,v,xs,hk,h⟩:=h;have c1:w.cell? ⟨b,1,none⟩=some v:=h.sb.cell' (i:=1) rfl;obtain⟨i0,hi,hz0,hz1,hz2⟩:=info_parts infoSpan;have hr0:(w.alloc (.cells #[] 217)).ownsRow 0 217 3 (.slice (some ⟨w.heap.size,0,none⟩) 0 0) 0 []:=⟨rfl,.inr ⟨w.heap.size,0,#[],rfl,Nat.zero_le _,heap_alloc_new _ _,Nat.le_refl _,by unfold maxLen;omega,rfl,rfl⟩⟩
 have hr1:=h.tr.alloc (.cells #[] 217);have hone:=h.one;replace c1:=keep_alloc (o:=.cells #[] 217) c1;replace h:=HD h;go_enter Tryz.func36,Tryz.ntmps36
 go_wp2_with (at_builtin;(refine wpList_append_two _ rfl _ _ 74 rfl 0 217 i0 (.agg #[.int .i64 0,.int .i64 0,.bool false]) 3 24 Tryz.underlying74 hi hz0 hz1 hz2 rfl (by decide) _ _ _ rfl hr0 _ _ _ rfl hr1 hone ?c3 ?c4 (Nat.zero_le _) ?_))
 case c3=>unfold maxLen;omega
 case c4=>omega
 intro v' w' hr2 hg2 hv2;have hb:Below w.heap.size w w':=(below_alloc (Nat.le_refl _) (Below.refl _ _)).grown hg2 (by simp) (fun q hq=>by simp [Value.ownBlock] at hq;omega);have hv:∃a n c,v'=.slice a n c:=by
  rcases hr2.2 with ⟨e,_⟩|⟨g',c',_,e,_⟩
  ·exact⟨_,_,_,e⟩
  ·exact⟨_,_,_,e⟩
 obtain⟨a1,n1,c1',rfl⟩:=hv;clear hr2 hg2 hv2 hr0 hr1;replace hb:=HD hb;go_wp2_with fail;go_ret
 exact⟨⟨_,_,_,rfl⟩,hb.out⟩
theorem infoU8':(Tryz.prog.info? 5).map (fun i=>(i.zero,i.size,i.bytes))=some (some (.int .u8 0),1,1):=by kernel_rfl
def ArNew(w:World)(o:Nat→Tag)(t:Tag)(n:Nat)(e:Ending)(w':World):Prop:=∃b,e=.returned (.tuple #[.pointer (some ⟨b,0,none⟩),.int .i64 0])∧ArAt w' (newO o w t) t b (List.replicate n 0) 0∧Below w.heap.size w w'
theorem arNew(n:Nat)(w:World)(o:Nat→Tag)(t:Tag)(hn:n≤2097152) :
  Calls Tryz.prog 45 #[.int .i64 n] w (ArNew w o t n):=by
 obtain⟨i0,hi,hz0,hz1,hz2⟩:=info_parts infoU8';have hn1:(n:Int)≤2097152:=by omega
 have hB:Below w.heap.size w ((w.alloc (.cells (Array.replicate n (.int .u8 0)) 5)).alloc (.cells #[.slice (some ⟨w.heap.size,0,none⟩) n n,.slice none 0 0] 109)):=below_alloc (by simp) (below_alloc (Nat.le_refl _) (Below.refl _ _));have hC:ArC ((w.alloc (.cells (Array.replicate n (.int .u8 0)) 5)).alloc (.cells #[.slice (some ⟨w.heap.size,0,none⟩) n n,.slice none 0 0] 109)) (newO o w t) t (w.heap.size+1) w.heap.size (List.replicate n 0) 0 (.slice none 0 0) []:=by
  refine⟨by simpa using hn,?_,?_,by omega,World.ownsRow_nil _ _ _ _,fun q hq=>(by cases hq),fun u hu=>(by cases hu)⟩
  ·refine⟨newO_new (by omega),?_⟩
   have:=heap_alloc_new (w.alloc (.cells (Array.replicate n (.int .u8 0)) 5)) (.cells #[.slice (some ⟨w.heap.size,0,none⟩) n n,.slice none 0 0] 109);rw [World.size_alloc] at this;simpa using this
  ·refine⟨newO_new (Nat.le_refl _),?_⟩
   have h1:=heap_alloc_new w (.cells (Array.replicate n (.int .u8 0)) 5);have h2:=((Only.refl (fun _=>False) (w.alloc (.cells (Array.replicate n (.int .u8 0)) 5))).alloc (.cells #[.slice (some ⟨w.heap.size,0,none⟩) n n,.slice none 0 0] 109)).block w.heap.size (by simp) (fun q=>q);rw [h2,h1];unfold arB;simp
 replace hC:=HD hC;replace hB:=HD hB;go_enter Tryz.func45,Tryz.ntmps45
 go_wp2_with (at_make;refine wpList_make_eq _ rfl _ _ 57 rfl 5 i0 (.int .u8 0) Tryz.underlying57 hi hz0 hz1 rfl _ _ _ _ n rfl rfl (by omega) (by omega) (by rw [hz2];omega) (by omega) ?_)
 go_ret2
 exact⟨w.heap.size+1,rfl,⟨_,0,_,_,Nat.le_refl _,hC.out⟩,hB.out⟩
end
section
open Go.RowKit
theorem arPost_trans{w w1 w2:World}{o:Nat→Tag}{t:Tag}(f:Fr (Und t) w o w1 (newO o w t))(f1:Fr (Und t) w1 (newO o w t) w2 (newO (newO o w t) w1 t)):newO (newO o w t) w1 t=newO o w t:=by
 have hs:=f.size
 funext k
 unfold newO;by_cases h:w1.heap.size≤k
 ·rw [if_pos h,if_pos (by omega)]
 ·rw [if_neg h]
def cpE(l:Nat)(to_ from_ n:Int):Int:=if hasE l to_ n=0 then hasE l from_ n else hasE l to_ n
def cpB(B:List UInt8)(to_ from_ n:Int):List UInt8:=if hasE B.length to_ n=0∧hasE B.length from_ n=0 then splice B to_.toNat (sub B from_.toNat n.toNat) else B
theorem arCopy(b:Nat)(to_ from_ n:Int)(w:World){o:Nat→Tag}{t:Tag}{B:List UInt8}{m:Nat}(h:ArAt w o t b B m)(hm:m≤1000000) :
  Calls Tryz.prog 131 #[.pointer (some ⟨b,0,none⟩),.int .i64 to_,.int .i64 from_,.int .i64 n] w (ArPost w o t b (.int .i64 (cpE B.length to_ from_ n)) (cpB B to_ from_ n) (m+2)):=by
 have hh1:=HD (arHas b to_ n w h);have hh2:=HD (arHas b from_ n w h);have hs:=HD (arPost_same (v:=.int .i64 4) h (show m≤m+2 by omega));unfold cpE cpB;rcases has_or B.length to_ n with e|e
 ·rcases has_or B.length from_ n with e2|e2
  ·obtain⟨h0,h1,h2,h3⟩:=has_iff.1 e
   obtain⟨h0',_,h2',h3'⟩:=has_iff.1 e2;obtain⟨i,rfl⟩:∃i:Nat,to_=i:=⟨to_.toNat,by omega⟩
   obtain⟨j,rfl⟩:∃j:Nat,from_=j:=⟨from_.toNat,by omega⟩
   obtain⟨k,rfl⟩:∃k:Nat,n=k:=⟨n.toNat,by omega⟩
   rw [if_pos e,if_pos ⟨e,e2⟩,e2,Int.toNat_natCast,Int.toNat_natCast,Int.toNat_natCast];rw [e] at hh1;rw [e2] at hh2;obtain⟨g,k0,v0,xs,hk,hc⟩:=h;have hgs:=hc.bb.lt;have ht:=HD (arTouch b g j k false w hc (by omega) (by omega));have hfit:i+k≤B.length:=by omega
   have hfit2:j+k≤B.length:=by omega
   clear hc e e2;go_enter Tryz.func131,Tryz.ntmps131
   go_wp2_with fail;go_step3
   go_wp2_with fail;refine SM hh1.out ?_;go_wp2_with fail;refine SM hh2.out ?_;go_wp2_with fail;refine ht.out.mono ?_;rintro e w1 ⟨ad,v',xs',k1,rfl,had,hk1,hC,hF⟩;have ht2:=HD (arTouch b g i k true w1 hC (by omega) (by omega));replace had:=HD had;replace hC:=HD hC;replace hF:=HD hF;go_wp2_with fail;refine ht2.out.mono ?_;rintro e w2 ⟨ad2,v2,xs2,k2,rfl,had2,hk2,hC2,hF2⟩;have hoo:=arPost_trans hF.out hF2;rw [hoo] at hC2 hF2;have hF3:=hF.out.trans hF2;have hl:=sub_len hfit2;have hcp:∀ty,(Builtin.copy_ #[57,57] ty #[.slice (some ad2) k (B.length-i),.slice (some ad) k (B.length-j)]).run Tryz.prog w2=.ok (goInt k) (w2.setCells g i (arB (sub B j k))):=by
    intro ty;by_cases hk0:k=0
    ·subst hk0
     rw [run_copy_none (P:=Tryz.prog) w2 57 57 ty 5 (some ad2) (some ad) 0 (B.length-i) 0 (B.length-j) Tryz.underlying57 infoU8 rfl];have:sub B j 0=[]:=by unfold sub;simp
     rw [this];rfl
    ·rw [had.out (by omega),had2 (by omega)]
     have:=run_copy_cells (P:=Tryz.prog) w2 57 57 ty 5 g i k (B.length-i) ⟨g,j,none⟩ k (B.length-j) (arB (sub B j k)) Tryz.underlying57 infoU8 (by rw [arB_len,hl];simp) (fun q u hu=>by
      have hq:q<k:=by have:=(List.getElem?_eq_some_iff.1 hu).1;rwa [arB_len,hl] at this
      rw [add_pl,hC2.bb.cell (j+q),←hu];have hg:=sub_get (B:=B) (i:=j) hq;unfold arB;simp [hg]) (fun q hq=>by rw [arB_len,hl] at hq;exact arSome hC2 (by omega)) (fun q hq=>hC2.bb.free _) (fun u hu=>by
      unfold arB at hu;obtain⟨x,_,rfl⟩:=List.mem_map.1 hu;rfl)
     rw [arB_len,hl] at this;exact this
   have hC4:=HD (hC2.stored (i:=i) (l:=sub B j k) (by rw [hl];exact hfit));have hF4:=HD (hF3.stored (g:=g) (i:=i) (vs:=arB (sub B j k)) (fun _=>arOwn hC2 hgs));clear had had2 hC hF hl hC2 hF2 hF3 hoo;go_wp2_with fail;go_step3
   go_wp2_with fail;rw [Exit.noGoto_ret];go_ret
   exact⟨rfl,⟨g,k2,v2,xs2,by omega,hC4.out⟩,hF4.out⟩
  ·rw [if_pos e,if_neg (by omega),e2]
   rw [e] at hh1;rw [e2] at hh2;clear h e e2;go_enter Tryz.func131,Tryz.ntmps131
   go_wp2_with fail;refine wp_scope_jumps 0 (fun a' w'=>w'=w∧∃(u0 u1 u2 u3 u4 u5 u6 u7 u8 u9 u11 u12 u13 u14 u15 u16 u17 u18 u19 u20 u21 u22 u23 u24 u25 u26 u27 u28 u29 u30 u31 u32 u33:Value),a'={tmps:=#[u0,u1,u2,u3,u4,u5,u6,u7,u8,u9,.int .i64 4,u11,u12,u13,u14,u15,u16,u17,u18,u19,u20,u21,u22,u23,u24,u25,u26,u27,u28,u29,u30,u31,u32,u33],defers:=[]}) (fun _ _=>0) rfl ?_ ?_
   ·go_wp2_with fail
    refine SM hh1.out ?_;go_wp2_with fail;refine SM hh2.out ?_;go_wp2_with fail;go_step3
    exact⟨rfl,rfl,_,_,_,_,_,_,_,_,_,_,_,_,_,_,_,_,_,_,_,_,_,_,_,_,_,_,_,_,_,_,_,_,_,rfl⟩
   ·rintro a' w' ⟨rfl,u0,u1,u2,u3,u4,u5,u6,u7,u8,u9,u11,u12,u13,u14,u15,u16,u17,u18,u19,u20,u21,u22,u23,u24,u25,u26,u27,u28,u29,u30,u31,u32,u33,rfl⟩
    go_wp2_with fail;simp only [Exit.jump];go_ret
    exact hs.out
 ·rw [if_neg (by omega),if_neg (by omega),e]
  rw [e] at hh1;clear h e hh2;go_enter Tryz.func131,Tryz.ntmps131
  go_wp2_with fail;refine wp_scope_jumps 0 (fun a' w'=>w'=w∧∃(u0 u1 u2 u3 u4 u5 u6 u7 u8 u9 u11 u12 u13 u14 u15 u16 u17 u18 u19 u20 u21 u22 u23 u24 u25 u26 u27 u28 u29 u30 u31 u32 u33:Value),a'={tmps:=#[u0,u1,u2,u3,u4,u5,u6,u7,u8,u9,.int .i64 4,u11,u12,u13,u14,u15,u16,u17,u18,u19,u20,u21,u22,u23,u24,u25,u26,u27,u28,u29,u30,u31,u32,u33],defers:=[]}) (fun _ _=>0) rfl ?_ ?_
  ·go_wp2_with fail
   refine SM hh1.out ?_;go_wp2_with fail;go_step3
   exact⟨rfl,rfl,_,_,_,_,_,_,_,_,_,_,_,_,_,_,_,_,_,_,_,_,_,_,_,_,_,_,_,_,_,_,_,_,_,rfl⟩
  ·rintro a' w' ⟨rfl,u0,u1,u2,u3,u4,u5,u6,u7,u8,u9,u11,u12,u13,u14,u15,u16,u17,u18,u19,u20,u21,u22,u23,u24,u25,u26,u27,u28,u29,u30,u31,u32,u33,rfl⟩
   go_wp2_with fail;simp only [Exit.jump];go_ret
   exact hs.out
end
section
open Go.RowKit
def ldN(l:List UInt8):Nat→Nat
 |0=>0
 |j+1=>ldN l j+(l.getD j 0).toNat*2^(8*j)
theorem ldN_lt(l:List UInt8):∀j,ldN l j<2^(8*j)
 |0=>by simp [ldN]
 |j+1=>by
  have:=ldN_lt l j;have hb:=(l.getD j 0).toNat_lt;have e:2^(8*(j+1))=256*2^(8*j):=by rw [Nat.mul_add,Nat.pow_add];omega
  unfold ldN;rw [e];have h2:(l.getD j 0).toNat*2^(8*j)≤255*2^(8*j):=Nat.mul_le_mul_right _ (by omega);omega
theorem or_word{a x j:Nat}(ha:a<2^(8*j))(hx:x<2^8)(hj:j<8):bits BinOp.or IntKind.u64 (a:Int) (IntKind.u64.wrap ((x:Int)*2^(8*j)))=((a+x*2^(8*j):Nat):Int):=by
 have h1:a<2^64:=Nat.lt_of_lt_of_le ha (Nat.pow_le_pow_right (by omega) (by omega));have h2:x*2^(8*j)<2^64:=by
  have:x*2^(8*j)<2^8*2^(8*j):=Nat.mul_lt_mul_of_pos_right hx (Nat.pow_pos (by omega));rw [←Nat.pow_add] at this;exact Nat.lt_of_lt_of_le this (Nat.pow_le_pow_right (by omega) (by omega))
 have e:IntKind.u64.wrap ((x:Int)*2^(8*j))=((x*2^(8*j):Nat):Int):=by
  have e1:(x:Int)*2^(8*j)=((x*2^(8*j):Nat):Int):=by simp
  rw [e1,IntKind.wrap_u64];generalize x*2^(8*j)=z at *;omega
 rw [e,bits_or_u64_nat _ _ h1 h2];have h3:=Nat.two_pow_add_eq_or_of_lt ha x;rw [Nat.or_comm,Nat.mul_comm x,←h3,Nat.add_comm]
def ldV(B:List UInt8)(at_:Int):Nat:=if hasE B.length at_ 8=0 then ldN (sub B at_.toNat 8) 8 else 0
theorem arLoad(b:Nat)(at_:Int)(w:World){o:Nat→Tag}{t:Tag}{B:List UInt8}{m:Nat}(h:ArAt w o t b B m)(hm:m≤1000000) :
  Calls Tryz.prog 251 #[.pointer (some ⟨b,0,none⟩),.int .i64 at_] w (ArPost w o t b (.tuple #[.int .u64 (ldV B at_:Nat),.int .i64 (hasE B.length at_ 8)]) B (m+1)):=by
 have hh1:=HD (arHas b at_ 8 w h);have hs:=HD (arPost_same (v:=.tuple #[.int .u64 0,.int .i64 4]) h (Nat.le_succ m));unfold ldV;rcases has_or B.length at_ 8 with e|e
 ·obtain⟨h0,h1,h2,h3⟩:=has_iff.1 e
  obtain⟨i,rfl⟩:∃i:Nat,at_=i:=⟨at_.toNat,by omega⟩
  rw [if_pos e,e,Int.toNat_natCast];rw [e] at hh1;obtain⟨g,k0,v0,xs,hk,hc⟩:=h;have ht:=HD (arTouch b g i 8 false w hc (by omega) (by omega));have hfit:i+8≤B.length:=by omega
  clear hc e;go_enter Tryz.func251,Tryz.ntmps251
  go_wp2_with fail;go_step3
  go_wp2_with fail;refine SM hh1.out ?_;go_wp2_with fail;refine ht.out.mono ?_;rintro e w1 ⟨ad,v',xs',k1,rfl,had,hk1,hC,hF⟩;obtain rfl:=had (by omega);have hl:=sub_len hfit;have hcell:Hid (∀j,j<8→w1.cell? ⟨g,i+j,none⟩=some (.int .u8 (((sub B i 8).getD j 0).toNat:Int))):=HD (fun j hj=>by
   rw [hC.bb.cell (i+j)];have hg:=sub_get (B:=B) (i:=i) hj;rw [List.getD_eq_getElem?_getD,hg];have:i+j<B.length:=by omega
   unfold arB;simp [this])
  replace hC:=HD hC;replace hF:=HD hF;clear hl had;generalize sub B i 8=l at *;go_wp2_with fail;go_loopg [4,18] 8 (fun gh v i' wx=>w1=wx∧∃j:Nat,j≤8∧gh=8-j∧i'=.int .i64 j∧v=.int .u64 (ldN l j:Nat))
  case atStart=>exact⟨rfl,0,by omega,rfl,rfl,rfl⟩
  case round =>
   obtain⟨rfl,j,hj,rfl,rfl,rfl⟩:=hrel;by_cases hj8:j<8
   ·have d8:decide ((j:Int)<8)=true:=decide_eq_true (by omega)
    have hx:=hcell.out j hj8;have hlt:=ldN_lt l j;have hsucc:Hid (ldN l (j+1)=ldN l j+(l.getD j 0).toNat*2^(8*j)):=HD rfl;have hb:(l.getD j 0).toNat<2^8:=(l.getD j 0).toNat_lt;generalize (l.getD j 0).toNat=x at *;have h64:8*j≤56:=by omega
    have hjb:(j:Int)≤8:=by omega
    have hX:=or_word hlt hb hj8;rw [←hsucc.out] at hX;go_wp2_with fail;go_roundg (8-(j+1))
    case measure=>omega
    case rel=>exact⟨rfl,j+1,by omega,rfl,by go_num,rfl⟩
   ·obtain rfl:j=8:=by omega
    go_wp2_with fail;go_step3
    go_wp2_with fail;rw [Exit.noGoto_ret];go_ret2
    exact⟨rfl,⟨g,k1,v',xs',by omega,hC.out⟩,hF.out⟩
 ·rw [if_neg (by omega),e]
  rw [e] at hh1;clear h e;go_enter Tryz.func251,Tryz.ntmps251
  go_wp2_with fail;refine wp_scope_jumps 0 (fun a' w'=>w'=w∧∃(u0 u1 u2 u3 u6 u7 u8 u9 u10 u11 u12 u13 u14 u15 u16 u17 u18 u19 u20 u21 u22 u23 u24 u25 u26 u27 u28 u29 u30 u31 u32 u33:Value),a'={tmps:=#[u0,u1,u2,u3,.int .u64 0,.int .i64 4,u6,u7,u8,u9,u10,u11,u12,u13,u14,u15,u16,u17,u18,u19,u20,u21,u22,u23,u24,u25,u26,u27,u28,u29,u30,u31,u32,u33],defers:=[]}) (fun _ _=>0) rfl ?_ ?_
  ·go_wp2_with fail
   refine SM hh1.out ?_;go_wp2_with fail;go_step3
   exact⟨rfl,rfl,_,_,_,_,_,_,_,_,_,_,_,_,_,_,_,_,_,_,_,_,_,_,_,_,_,_,_,_,_,_,_,_,rfl⟩
  ·rintro a' w' ⟨rfl,u0,u1,u2,u3,u6,u7,u8,u9,u10,u11,u12,u13,u14,u15,u16,u17,u18,u19,u20,u21,u22,u23,u24,u25,u26,u27,u28,u29,u30,u31,u32,u33,rfl⟩
   go_wp2_with fail;simp only [Exit.jump];go_ret2
   exact hs.out
def wdB(v:Nat)(j:Nat):List UInt8:=(List.range j).map fun i=>UInt8.ofNat (v/2^(8*i))
theorem wdB_succ(v j:Nat):wdB v (j+1)=wdB v j++[UInt8.ofNat (v/2^(8*j))]:=by unfold wdB;rw [List.range_succ,List.map_append];rfl
theorem wdB_len(v j:Nat):(wdB v j).length=j:=by unfold wdB;simp
def stB(B:List UInt8)(at_:Int)(v:Nat):List UInt8:=if hasE B.length at_ 8=0 then splice B at_.toNat (wdB v 8) else B
theorem splice_snoc{B:List UInt8}{i:Nat}{l:List UInt8}{x:UInt8}(h:i+l.length<B.length):splice (splice B i l) (i+l.length) [x]=splice B i (l++[x]):=by
 unfold splice;have h1:(B.take i).length=i:=by simp;omega
 have t1:(B.take i++(l++B.drop (i+l.length))).take (i+l.length)=B.take i++l:=by
  rw [←List.append_assoc,List.take_left' (by rw [List.length_append,h1])]
 have t2:(B.take i++(l++B.drop (i+l.length))).drop (i+l.length + [x].length)=B.drop (i+(l++[x]).length):=by
  rw [←List.drop_drop,←List.append_assoc,List.drop_left' (by rw [List.length_append,h1]),List.drop_drop];simp [Nat.add_assoc]
 rw [t1,t2];simp
theorem arStore(b:Nat)(at_:Int)(v:Nat)(hv:v<18446744073709551616)(w:World){o:Nat→Tag}{t:Tag}{B:List UInt8}{m:Nat}(h:ArAt w o t b B m)(hm:m≤1000000) :
  Calls Tryz.prog 247 #[.pointer (some ⟨b,0,none⟩),.int .i64 at_,.int .u64 v] w (ArPost w o t b (.int .i64 (hasE B.length at_ 8)) (stB B at_ v) (m+1)):=by
 have hh1:=HD (arHas b at_ 8 w h);have hs:=HD (arPost_same (v:=.int .i64 4) h (Nat.le_succ m));unfold stB;rcases has_or B.length at_ 8 with e|e
 ·obtain⟨h0,h1,h2,h3⟩:=has_iff.1 e
  obtain⟨i,rfl⟩:∃i:Nat,at_=i:=⟨at_.toNat,by omega⟩
  rw [if_pos e,e,Int.toNat_natCast];rw [e] at hh1;obtain⟨g,k0,v0,xs,hk,hc⟩:=h;have hgs:=hc.bb.lt;have ht:=HD (arTouch b g i 8 true w hc (by omega) (by omega));have hfit:i+8≤B.length:=by omega
  clear hc e;go_enter Tryz.func247,Tryz.ntmps247
  go_wp2_with fail;go_step3
  go_wp2_with fail;refine SM hh1.out ?_;go_wp2_with fail;refine ht.out.mono ?_;rintro e w1 ⟨ad,v',xs',k1,rfl,had,hk1,hC,hF⟩;obtain rfl:=had (by omega);have hg:=HD (arOwn hC hgs);have hfit':=HD hfit;have hC0:Hid (ArC w1 (newO o w t) t b g (splice B i (wdB v 0)) k1 v' xs'):=HD (by
   have e:splice B i (wdB v 0)=B:=by unfold splice wdB;simp
   rw [e];exact hC)
  replace hF:=HD hF;have hsz:=hC.sz;clear had hC;go_wp2_with fail;go_loopg [20] 8 (fun gh i' wx=>∃j:Nat,j≤8∧gh=8-j∧i'=.int .i64 j∧ArC wx (newO o w t) t b g (splice B i (wdB v j)) k1 v' xs'∧Fr (Und t) w o wx (newO o w t))
  case atStart=>exact⟨0,by omega,rfl,rfl,hC0.out,hF.out⟩
  case round =>
   clear hC0 hF;obtain⟨j,hj,rfl,rfl,hC,hF⟩:=hrel;have hlen:(splice B i (wdB v j)).length=B.length:=by have:=hfit'.out;unfold splice;simp [wdB_len];omega
   by_cases hj8:j<8
   ·have d8:decide ((j:Int)<8)=true:=decide_eq_true (by omega)
    have c1:=hC.bb.cell (i+j);have c1':wr.cell? ⟨g,i+j,none⟩=some (.int .u8 (((splice B i (wdB v j)).getD (i+j) 0).toNat:Int)):=by
     rw [c1];have:i+j<(splice B i (wdB v j)).length:=by omega
     unfold arB;simp [List.getD_eq_getElem?_getD,this]
    have f1:=hC.bb.free (i+j);have hjb:(j:Int)≤8:=by omega
    have hX:IntKind.u8.wrap ((v:Int)/2^(8*j))=((UInt8.ofNat (v/2^(8*j))).toNat:Int):=by
     rw [show (v:Int)/2^(8*j)=((v/2^(8*j):Nat):Int) by simp];simp [IntKind.wrap,IntKind.signed,IntKind.bits,UInt8.toNat_ofNat']
    have hs2:splice (splice B i (wdB v j)) (i+j) [UInt8.ofNat (v/2^(8*j))]=splice B i (wdB v (j+1)):=by
     have:=splice_snoc (B:=B) (i:=i) (l:=wdB v j) (x:=UInt8.ofNat (v/2^(8*j))) (by rw [wdB_len];omega);rw [wdB_len] at this;rw [this,←wdB_succ]
    have hC2:Hid (ArC (wr.setCell ⟨g,i+j,none⟩ (.int .u8 ((UInt8.ofNat (v/2^(8*j))).toNat:Int))) (newO o w t) t b g (splice B i (wdB v (j+1))) k1 v' xs'):=HD (by
     have:=hC.stored (i:=i+j) (l:=[UInt8.ofNat (v/2^(8*j))]) (by simp;omega);rw [hs2] at this;exact this)
    have hF2:=HD (hF.set' (p:=⟨g,i+j,none⟩) (fun _=>hg.out) (.int .u8 ((UInt8.ofNat (v/2^(8*j))).toNat:Int)));generalize (UInt8.ofNat (v/2^(8*j))).toNat=x at *;generalize ((splice B i (wdB v j)).getD (i+j) 0).toNat=y at *;clear c1 hs2 hlen hC hF hs;go_wp2_with fail;go_roundg (8-(j+1))
    case measure=>omega
    case rel=>exact⟨j+1,by omega,rfl,by go_num,hC2.out,hF2.out⟩
   ·obtain rfl:j=8:=by omega
    replace hC:=HD hC;replace hF:=HD hF;clear hlen;go_wp2_with fail;go_step3
    go_wp2_with fail;rw [Exit.noGoto_ret];go_ret
    exact⟨rfl,⟨g,k1,v',xs',by omega,hC.out⟩,hF.out⟩
 ·rw [if_neg (by omega),e]
  rw [e] at hh1;clear h e;go_enter Tryz.func247,Tryz.ntmps247
  go_wp2_with fail;refine wp_scope_jumps 0 (fun a' w'=>w'=w∧∃(u0 u1 u2 u3 u4 u5 u6 u7 u9 u10 u11 u12 u13 u14 u15 u16 u17 u18 u19 u20 u21 u22 u23 u24 u25 u26 u27 u28 u29 u30 u31 u32:Value),a'={tmps:=#[u0,u1,u2,u3,u4,u5,u6,u7,.int .i64 4,u9,u10,u11,u12,u13,u14,u15,u16,u17,u18,u19,u20,u21,u22,u23,u24,u25,u26,u27,u28,u29,u30,u31,u32],defers:=[]}) (fun _ _=>0) rfl ?_ ?_
  ·go_wp2_with fail
   refine SM hh1.out ?_;go_wp2_with fail;go_step3
   exact⟨rfl,rfl,_,_,_,_,_,_,_,_,_,_,_,_,_,_,_,_,_,_,_,_,_,_,_,_,_,_,_,_,_,_,_,_,rfl⟩
  ·rintro a' w' ⟨rfl,u0,u1,u2,u3,u4,u5,u6,u7,u9,u10,u11,u12,u13,u14,u15,u16,u17,u18,u19,u20,u21,u22,u23,u24,u25,u26,u27,u28,u29,u30,u31,u32,rfl⟩
   go_wp2_with fail;simp only [Exit.jump];go_ret
   exact hs.out
end
end Go.Proofs.YtfliaggjkianpaaGreatDoor
