import Derived.Test.YtfliaggjkianpaaGreatDoorK18
set_option linter.unusedVariables false
set_option linter.unusedSimpArgs false
set_option maxRecDepth 100000
namespace Go.Proofs.YtfliaggjkianpaaGreatDoor
section
open Go.RowKit
structure PoS where
 sh:ShS
 W:Nat→List Int
def poL(bs:Nat)(vs:Nat→Value):List Value:=.pointer (some ⟨bs,0,none⟩) :: (List.range 8).map vs
def PoAt(w:World)(o:Nat→Tag)(t:Tag)(b:Nat)(p:PoS):Prop :=
 ∃bs vs,Blk w o t b (poL bs vs).toArray 147∧ShAt w o (t++[0]) bs p.sh∧∀i,i<8→IRow w o (t++[1,i]) (vs i) (p.W i)
section
variable{S:Tag→Prop}{w w':World}{o o':Nat→Tag}{t:Tag}{b:Nat}{p:PoS}
theorem PoAt.fr(h:PoAt w o t b p)(f:Fr S w o w' o')(hS:Off S t):PoAt w' o' t b p:=by
 obtain⟨bs,vs,h1,h2,h3⟩:=h;exact⟨bs,vs,h1.fr f hS.self,h2.fr f (hS.sub [0]),fun i hi=>(h3 i hi).fr f (hS.sub [1,i]).self⟩
theorem po_cell{bs:Nat}{vs:Nat→Value}{i:Nat}(h:i<8):(poL bs vs).toArray[1+i]? = some (vs i):=by
 unfold poL;rw [List.getElem?_toArray,Nat.add_comm 1 i,List.getElem?_cons_succ,List.getElem?_map,List.getElem?_range h];rfl
theorem po_set{bs:Nat}{vs:Nat→Value}{i:Nat}{v:Value}(h:i<8):(poL bs vs).toArray.setIfInBounds (1+i) v=(poL bs (up1 vs i v)).toArray:=by
 unfold poL;rw [List.setIfInBounds_toArray,Nat.add_comm 1 i,List.set_cons_succ,map_range_set]
theorem poReady(b:Nat)(i:Nat)(k:Int)(w:World)(hi:i<8)(hk:0≤k) :
  Calls Tryz.prog 80 #[.pointer (some ⟨b,0,none⟩),.int .i64 i,.int .i64 k] w fun e w'=>e=.returned (.int .i64 0)∧w'=w:=by
 have d1:decide ((i:Int)<0)=false:=decide_eq_false (by omega);have d2:decide (8≤(i:Int))=false:=decide_eq_false (by omega);have d3:decide (k<0)=false:=decide_eq_false (by omega);clear hi hk;go_enter Tryz.func80,Tryz.ntmps80
 go_wp2_with fail;go_ret
 exact⟨rfl,rfl⟩
theorem poNew(n:Nat)(w:World)(o:Nat→Tag)(t:Tag)(hT:Tab w o)(hn:1≤n∧n≤32) :
  Calls Tryz.prog 46 #[.int .i64 n] w fun e w'=>∃b o',e=.returned (.tuple #[.pointer (some ⟨b,0,none⟩),.int .i64 0])∧PoAt w' o' t b ⟨ShS.new n,fun _=>[]⟩∧Fr (fun _=>False) w o w' o':=by
 have h1:=HD (show Calls Tryz.prog 77 #[.int .i64 n] w (fun e w1=>∃bs,e=.returned (.tuple #[.pointer (some ⟨bs,0,none⟩),.int .i64 0])∧∃o',PoAt (w1.alloc (.cells #[.pointer (some ⟨bs,0,none⟩),.slice none 0 0,.slice none 0 0,.slice none 0 0,.slice none 0 0,.slice none 0 0,.slice none 0 0,.slice none 0 0,.slice none 0 0] 147)) o' t w1.heap.size ⟨ShS.new n,fun _=>[]⟩∧Fr (fun _=>False) w o (w1.alloc (.cells #[.pointer (some ⟨bs,0,none⟩),.slice none 0 0,.slice none 0 0,.slice none 0 0,.slice none 0 0,.slice none 0 0,.slice none 0 0,.slice none 0 0,.slice none 0 0] 147)) o') from by
  refine(shNew n w o (t++[0]) hT (by omega)).mono ?_;rintro e w1 ⟨bs,o1,rfl,g1,f1⟩;refine⟨bs,rfl,_,⟨bs,fun _=>.slice none 0 0,Blk.made w1 o1 t _ _,g1.fr (Fr.alloc (S:=fun _=>False) _ t) off_no,fun i hi=>IRow.nil _ _ _⟩,f1.trans (Fr.alloc _ t)⟩)
 have d1:decide ((n:Int)<1)=false:=decide_eq_false (by omega);have d2:decide (32<(n:Int))=false:=decide_eq_false (by omega);clear hT hn;go_enter Tryz.func46,Tryz.ntmps46
 go_wp2_with fail;refine h1.out.mono ?_;rintro e w1 ⟨bs,rfl,o1,g1,f1⟩;replace g1:=HD g1;replace f1:=HD f1;clear h1;go_wp2_with fail;go_ret2
 exact⟨_,_,rfl,g1.out,f1.out⟩
theorem poWindow(b:Nat)(i:Nat)(w:World)(h:PoAt w o t b p)(hi:i<8)(hl:(p.W i).length≤1000)(u:Tag) :
  Calls Tryz.prog 54 #[.pointer (some ⟨b,0,none⟩),.int .i64 i] w fun e w'=>∃v,e=.returned v∧IRow w' (newO o w u) u v (p.W i)∧Below w.heap.size w w':=by
 have hr:=HD (poReady b i 0 w hi (Int.le_refl _));obtain⟨bs,vs,h1,h2,h3⟩:=h;have c1:w.cell? ⟨b,1+i,none⟩=some (vs i):=h1.cell' (po_cell hi);have hcl:=HD (slClone (h3 i hi).ints u (by omega));have hidx:0≤(i:Int)∧(i:Int)<8:=by omega
 have hkk:((i:Int)).toNat=i:=by omega
 obtain⟨A,c,hv,_⟩:=(h3 i hi).ints;rw [hv] at c1 hcl;clear h1 h2 h3 hi hl hv;go_enter Tryz.func54,Tryz.ntmps54
 go_wp2_with fail;refine SM hr.out ?_;go_wp2_with fail;refine hcl.out.mono ?_;rintro e w1 ⟨v,rfl,r,hb⟩;replace r:=HD r;replace hb:=HD hb;go_wp2_with fail;go_ret
 exact⟨_,rfl,r.out,hb.out⟩
end
end
section
open Go.RowKit
def ShS.takes(s:ShS):Nat→List Int×ShS
 |0=>([],s)
 |n+1=>((s.takes n).1++[(s.takes n).2.tkV],(s.takes n).2.tk)
structure TksOk(s:ShS)(k:Nat)(l:List Int)(s':ShS):Prop where
 len:l.length=k
 nodup:l.Nodup
 mem:∀x∈l,∃c:Nat,x=c∧c<s.n∧s.f c=true
 n:s'.n=s.n
 f:∀c:Nat,s'.f c=(s.f c&&!decide ((c:Int)∈l))
 cnt:s'.cnt+k=s.cnt
theorem cnt_low{s:ShS}(h:0<s.cnt):∃k:Nat,s.lowI=k∧k<s.n∧s.f k=true:=by
 rcases low_cases s with ⟨e,_⟩|⟨k,e,_,h1,h2⟩
 ·have:=low_neg e;omega
 ·exact⟨k,e,h1,h2⟩
theorem takes_ok(s:ShS):∀k,k≤s.cnt→TksOk s k (s.takes k).1 (s.takes k).2
 |0,_=>⟨rfl,List.nodup_nil,fun x h=>(by cases h),rfl,fun c=>(by simp [ShS.takes]),rfl⟩
 |k+1,h=>by
  have ih:=takes_ok s k (by omega);have hc:=ih.cnt;obtain⟨j,e,h1,h2⟩:=cnt_low (s:=(s.takes k).2) (by omega);have e1:(s.takes k).2.tkV=j:=by unfold ShS.tkV;rw [if_neg (by omega),e]
  have e2:(s.takes k).2.tk=(s.takes k).2.flip j:=by unfold ShS.tk;rw [if_neg (by omega),e,Int.toNat_natCast]
  have hf:=ih.f j;rw [h2] at hf;have hf2:=Bool.and_eq_true_iff.1 hf.symm;have hj:(j:Int)∉(s.takes k).1:=by simpa using hf2.2
  have hn:=ih.n;have hcf:=cnt_flip (s.takes k).2 h1;rw [h2] at hcf;show TksOk s (k+1) ((s.takes k).1++[(s.takes k).2.tkV]) ((s.takes k).2.tk);rw [e1,e2];refine⟨by simp [ih.len],?_,fun x hx=>?_,hn,fun c=>?_,?_⟩
  ·rw [List.nodup_append]
   refine⟨ih.nodup,by simp,fun a ha b hb=>?_⟩;rw [List.mem_singleton] at hb;rintro rfl;exact hj (hb▸ha)
  ·rcases List.mem_append.1 hx with q|q
   ·exact ih.mem x q
   ·rw [List.mem_singleton] at q
    exact⟨j,q,by omega,hf2.1⟩
  ·rw [flip_f,ih.f c]
   by_cases q:c=j
   ·subst q
    rw [if_pos rfl,hf2.1];simp [hj]
   ·rw [if_neg q]
    have:((c:Int)∈(s.takes k).1++[(j:Int)])↔((c:Int)∈(s.takes k).1):=by
     simp only [List.mem_append,List.mem_singleton];exact⟨fun r=>r.resolve_right (by omega),.inl⟩
    simp only [this]
  ·simp only [if_true] at hcf
   omega
section
variable{P:Program}
theorem wpList_append_is(w:World){ops:Array Oper}{rest:List Oper}{o:Oper}{a:Act}{Q:Exit→Act→World→Prop}(hgd:o.guard=none)(s x:Operand)(t:TypeId)
  (ho:o.op=.call {callee:=.builtin .append,args:=#[s,x],argTypes:=#[t,t]}) {v y v':Value} {w':World} (hs:a.eval s=v) (hx:a.eval x=y) (hr:(Builtin.append_ #[t,t] o.type #[v,y]).run P w=.ok v' w')
  (h:wpList P ops Q rest (a.put o.dst v') w'):wpList P ops Q (o :: rest) a w:=by
 refine wpList_plain hgd fun K hK=>?_
 unfold Oper.wp;simp [execOp,ho,resolve,invoke,builtin,hs,hx,hr,Result.andThen]
 exact hK _ _ h
theorem step_append_is(w:World){ops:Array Oper}{o:Oper}{a:Act}{K:Act→World→Prop}{Q:Exit→Act→World→Prop}{E:Prop}(hgd:o.guard=none)(s x:Operand)(t:TypeId)
  (ho:o.op=.call {callee:=.builtin .append,args:=#[s,x],argTypes:=#[t,t]}) {v y v':Value} {w':World} (hs:a.eval s=v) (hx:a.eval x=y) (hr:(Builtin.append_ #[t,t] o.type #[v,y]).run P w=.ok v' w')
  (h:K (a.put o.dst v') w'):if Region.wanted o (yielded ops a.tmps)=true then Oper.wp P o a w K Q else E:=by
 have hw:Region.wanted o (yielded ops a.tmps)=true:=by simp [Region.wanted,hgd]
 rw [if_pos hw];unfold Oper.wp execOp;simp only [ho,resolve,invoke,builtin,Sem.run_bind,Sem.run_pure,Result.andThen_ok,List.map_toArray,List.map_cons,List.map_nil,hs,hx,hr];exact h
end
def PoS.grant(p:PoS)(i k:Nat):PoS:=⟨(p.sh.takes k).2,up1 p.W i (sorted (p.W i++(p.sh.takes k).1))⟩
section
variable{S:Tag→Prop}{w w':World}{o o':Nat→Tag}{t:Tag}{b:Nat}{p:PoS}
theorem ints_append{tx:Tag}{v x:Value}{xs ys:List Int}(h:IRow w o t v xs)(hx:IRow w o tx x ys)(hl:xs.length≤1000000)(hl2:ys.length≤1000000) :
  ∃v' w',(Builtin.append_ #[110,110] 110 #[v,x]).run Tryz.prog w=.ok v' w'∧IRow w' (newO o w t) t v' (xs++ys)∧Fr (· = t) w o w' (newO o w t):=by
 obtain⟨i0,hi,hz0,hz1,hz2⟩:=info_parts infoInt1;have hself:Fr (· = t) w o w (newO o w t):=⟨Only.refl _ _,fun k hk=>newO_old hk⟩
 rcases hx.cases with ⟨rfl,rfl⟩|⟨g,cap,cur,rfl,h1,h2,h3,h4,h5⟩
 ·refine⟨v,w,run_append_owned_none (P:=Tryz.prog) w 0 110 110 3 i0 1 Tryz.underlying110 hi v xs.length (xs.map eI) h.1,?_,hself⟩
  rw [List.append_nil];exact⟨h.1,fun g hg=>(newO_old (h.1.lt g hg).2).trans (h.2 g hg)⟩
 ·have hc:∀(j:Nat) u,(ys.map eI)[j]? = some u→w.cell? ((⟨g,0,none⟩:Addr).add j)=some u:=fun j u hu=>by
   rw [add_pl,Nat.zero_add];have hj:j<ys.length:=by
    have:=(List.getElem?_eq_some_iff.1 hu).1;simpa using this
   rw [List.getElem?_map,List.getElem?_eq_getElem hj] at hu;have:=Option.some.inj hu;rw [←this];exact h1.cell' (take_cell h5 j hj)
  have hrun:=run_append_own_at (P:=Tryz.prog) w 0 110 110 3 i0 (.int .i64 0) 1 8 Tryz.underlying110 hi hz0 hz1 hz2 rfl (by decide) v xs.length (xs.map eI) h.1 ⟨g,0,none⟩ ys.length cap (ys.map eI) (by simp) hc (fun u hu=>by obtain⟨a,_,rfl⟩:=List.mem_map.1 hu;rfl) (by unfold maxLen;omega) (by omega) (Nat.zero_le _);obtain⟨v',w',hr,q2,q3,_,q5⟩:=hrun;refine⟨v',w',hr,?_,?_⟩
  ·rw [←List.map_append] at q2
   refine⟨by rw [List.length_append];exact q2,fun k hk=>?_⟩;rcases q5 with q5|q5
   ·rw [q5] at hk
    exact(newO_old (h.1.lt k hk).2).trans (h.2 k hk)
   ·rw [q5] at hk
    obtain rfl:=Option.some.inj hk;exact newO_new (Nat.le_refl _)
  ·exact Fr.of_new (((Only.refl (fun k=>(o k)=t) w)).grown q3 (fun k hk _=>h.2 k hk)) t
end
end
section
open Go.RowKit
structure GrRel(w:World)(o:Nat→Tag)(t:Tag)(b:Nat)(p:PoS)(wx:World)(o1:Nat→Tag)(v:Value)(j:Nat):Prop where
 po:PoAt wx o1 t b ⟨(p.sh.takes j).2,p.W⟩
 row:IRow wx o1 (t++[2]) v (p.sh.takes j).1
 fr:Fr (Und t) w o wx o1
theorem takes_len(s:ShS):∀k,(s.takes k).1.length=k
 |0=>rfl
 |k+1=>by unfold ShS.takes;simp [takes_len s k]
section
variable{S:Tag→Prop}{w w':World}{o o':Nat→Tag}{t:Tag}{b:Nat}{p:PoS}
theorem GrRel.step{wx:World}{o1:Nat→Tag}{v:Value}{j:Nat}(h:GrRel w o t b p wx o1 v j)(h9:¬t <+: [9])(hj:j≤1000) :
  ∃bs,wx.cell? ⟨b,0,none⟩=some (.pointer (some ⟨bs,0,none⟩))∧Calls Tryz.prog 82 #[.pointer (some ⟨bs,0,none⟩)] wx (fun e w2=>∃c c2,e=.returned (.tuple #[.int .i64 c,.int .i64 c2]) ∧
   ∃v' w3,(Builtin.append_ #[110,110] 110 #[v,.slice (some ⟨w2.heap.size,0,none⟩) 1 1]).run Tryz.prog (w2.alloc (.cells #[.int .i64 c] 3))=.ok v' w3∧∃o3,GrRel w o t b p w3 o3 v' (j+1)):=by
 obtain⟨⟨bs,vs,h1,h2,h3⟩,hr,hf⟩:=h;refine⟨bs,h1.cell' (i:=0) rfl,(shTake bs wx h2 (fun q=>h9 (List.IsPrefix.trans (List.prefix_append t [0]) q))).mono ?_⟩;rintro e w2 ⟨rfl,g2,f2⟩;refine⟨_,_,rfl,?_⟩;have r2:=hr.fr f2 (off_one (r:=[]) (r':=[]) (by decide) h9).self;have fa:Fr (fun _=>False) w2 o1 (w2.alloc (.cells #[.int .i64 (p.sh.takes j).2.tkV] 3)) (setO o1 w2.heap.size (t++[2])):=Fr.alloc _ _;have ba:=Blk.made w2 o1 (t++[2]) #[.int .i64 (p.sh.takes j).2.tkV] 3;have rx:IRow (w2.alloc (.cells #[.int .i64 (p.sh.takes j).2.tkV] 3)) (setO o1 w2.heap.size (t++[2])) (t++[2]) (.slice (some ⟨w2.heap.size,0,none⟩) 1 1) [(p.sh.takes j).2.tkV]:=IRow.of (xs:=[(p.sh.takes j).2.tkV]) ba (Nat.le_refl _) (by unfold maxLen;omega) rfl rfl;obtain⟨v',w3,q1,q2,q3⟩:=ints_append (r2.fr fa (fun q=>q)) rx (by rw [takes_len];omega) (by simp);refine⟨v',w3,q1,_,⟨⟨bs,vs,?_,?_,fun i hi=>?_⟩,q2,?_⟩⟩
 ·exact((h1.fr f2 (not_und t 0 [])).fr fa (fun q=>q)).fr q3 (fun e=>by have:=congrArg List.length e;simp at this)
 ·refine(g2.fr fa off_no).fr q3 ⟨fun x hx e=>?_,fun e=>h9 (by rw [e];exact List.prefix_append _ _)⟩
  subst e;have:=(List.prefix_append_right_inj t).1 hx;simp at this
 ·refine(((h3 i hi).fr f2 (off_one (r:=[]) (r':=[i]) (by decide) h9).self).fr fa (fun q=>q)).fr q3 (fun e=>?_)
  have:=List.append_cancel_left e;simp at this
 ·exact(((hf.trans (f2.mono fun v q=>q.up)).trans (fa.mono fun v q=>q.elim)).trans (q3.mono fun v q=>by rw [q];exact Und.app t [2]))
set_option maxHeartbeats 1000000 in
theorem poGrant(b i k:Nat)(w:World)(h:PoAt w o t b p)(h9:¬t <+: [9])(hi:i<8)(hk:k≤p.sh.cnt)(hn:k≤1000)(hl:(p.W i).length≤1000) :
  Calls Tryz.prog 51 #[.pointer (some ⟨b,0,none⟩),.int .i64 i,.int .i64 k] w fun e w'=>∃v o',e=.returned (.tuple #[v,.int .i64 0])∧IRow w' o' (t++[2]) v (p.sh.takes k).1∧PoAt w' o' t b (p.grant i k)∧Fr (Und t) w o w' o':=by
 have hr:=HD (poReady b i k w hi (by omega));have h0:GrRel w o t b p w o (.slice none 0 0) 0:=⟨h,IRow.nil _ _ _,Fr.refl _ _ _⟩
 have hstep:=HD (fun wx o1 v j (q:GrRel w o t b p wx o1 v j) (hj:j<k)=>q.step h9 (by omega));have hfree:=HD (show ∃bs,w.cell? ⟨b,0,none⟩=some (.pointer (some ⟨bs,0,none⟩))∧Calls Tryz.prog 81 #[.pointer (some ⟨bs,0,none⟩)] w (fun e w'=>e=.returned (.int .i64 p.sh.cnt)∧w'=w) from by
  obtain⟨bs,vs,h1,h2,h3⟩:=h;exact⟨bs,h1.cell' (i:=0) rfl,shFree bs w h2⟩)
 have hend:=HD (show ∀wx o1 v,GrRel w o t b p wx o1 v k→∃A n c,wx.drew.cell? ⟨b,1+i,none⟩=some (.slice A n c) ∧
   Calls Tryz.prog 83 #[.slice A n c] wx.drew (fun e w1=>∃v1,e=.returned v1∧w1.cell? ⟨b,1+i,none⟩=some (.slice A n c) ∧
    ∃A2 n2 c2 w2,(Builtin.append_ #[110,110] 110 #[v1,v]).run Tryz.prog w1=.ok (.slice A2 n2 c2) w2∧w2.cell? ⟨b,1+i,none⟩=some (.slice A n c)∧w2.frozen? ⟨b,1+i,none⟩=false ∧
     (w2.setCell ⟨b,1+i,none⟩ (.slice A2 n2 c2)).cell? ⟨b,1+i,none⟩=some (.slice A2 n2 c2) ∧
     Calls Tryz.prog 84 #[.slice A2 n2 c2] (w2.setCell ⟨b,1+i,none⟩ (.slice A2 n2 c2)) (fun e w3=>e=.returned (.tuple #[])∧∃o',IRow w3 o' (t++[2]) v (p.sh.takes k).1∧PoAt w3 o' t b (p.grant i k)∧Fr (Und t) w o w3 o')) from fun wx o1 v q=>by
  obtain⟨⟨bs,vs,h1,h2,h3⟩,hrow,hf⟩:=q;replace h3:∀i,i<8→IRow wx o1 (t++[1,i]) (vs i) (p.W i):=h3;obtain⟨A,c,hv,_⟩:=(h3 i hi).ints;have c1:wx.cell? ⟨b,1+i,none⟩=some (vs i):=h1.cell' (po_cell hi);have hcl:=slClone (w:=wx.drew) ((h3 i hi).fr (Fr.drew (S:=fun _=>False)) (fun q=>q)).ints (t++[1,i]) (show (p.W i).length≤_ by omega);rw [hv] at c1 hcl;refine⟨A,_,c,c1,hcl.mono ?_⟩;rintro e w1 ⟨v1,rfl,r1,hb1⟩;have f1:Fr (fun _=>False) wx o1 w1 (newO o1 wx.drew (t++[1,i])):=(Fr.drew (o:=o1)).trans (Fr.below' hb1 _);have rm:=hrow.fr f1 (fun q=>q);obtain⟨v2,w2,q1,q2,q3⟩:=ints_append r1 rm (by omega) (by rw [takes_len];omega);obtain⟨A2,c2,rfl,_⟩:=q2.ints;have hne0:t≠t++[1,i]:=fun e=>by have:=congrArg List.length e;simp at this
  have hb1':=h1.fr f1 (fun q=>q);have hb2:=hb1'.fr q3 hne0;rw [←hv] at *;refine⟨v1,rfl,hb1'.cell' (po_cell hi),A2,_,c2,w2,q1,hb2.cell' (po_cell hi),hb2.free _,?_⟩;generalize hO:newO (newO o1 wx.drew (t++[1,i])) w1 (t++[1,i])=o2 at *;have fS:Fr (fun v=>v=t) w2 o2 (w2.setCell ⟨b,1+i,none⟩ (.slice A2 (p.W i++(p.sh.takes k).1).length c2)) o2:=Fr.setCell (fun _=>hb2.1) _;have hb3:=hb2.set (1+i) (.slice A2 (p.W i++(p.sh.takes k).1).length c2);rw [po_set hi] at hb3;have q4:=q2.fr fS (fun e=>hne0 e.symm);refine⟨hb3.cell' ((po_cell hi).trans (by rw [up1_same])),(slSort q4 (by rw [List.length_append,takes_len];omega)).mono ?_⟩;rintro e w3 ⟨rfl,r3,f3⟩;have hsub:∀(j:Nat),j≠i→t++[1,j]≠t++[1,i]:=fun j hj e=>by
   have:=List.append_cancel_left e;simp at this;exact hj this
  refine⟨rfl,o2,?_,⟨bs,up1 vs i (.slice A2 (p.W i++(p.sh.takes k).1).length c2),hb3.fr f3 hne0,?_,fun j hj=>?_⟩,?_⟩
  ·have e2:t++[2]≠t++[1,i]:=fun e=>by have:=List.append_cancel_left e;simp at this
   have e3:t++[2]≠t:=fun e=>by have:=congrArg List.length e;simp at this
   exact((rm.fr q3 e2).fr fS e3).fr f3 e2
  ·have o1':Off (fun v=>v=t++[1,i]) (t++[0]):=⟨fun x hx e=>by subst e;have:=(List.prefix_append_right_inj t).1 hx;simp at this,fun e=>h9 (by rw [e];exact List.prefix_append _ _)⟩
   exact(((h2.fr f1 off_no).fr q3 o1').fr fS (eq_off h9 0 [])).fr f3 o1'
  ·by_cases e:j=i
   ·subst e
    rw [up1_same];show IRow w3 o2 _ _ (up1 p.W j _ j);rw [up1_same];exact r3
   ·rw [up1_other e]
    show IRow w3 o2 _ _ (up1 p.W i _ j);rw [up1_other e];exact((((h3 j hj).fr f1 (fun q=>q)).fr q3 (hsub j e)).fr fS (fun e=>by have:=congrArg List.length e;simp at this)).fr f3 (hsub j e)
  ·exact(((hf.trans (f1.mono fun v q=>q.elim)).trans (q3.mono fun v q=>by rw [q];exact Und.app t _)).trans (fS.mono fun v q=>by rw [q];exact Und.self t)).trans (f3.mono fun v q=>by rw [q];exact Und.app t _))
 have hidx:0≤(i:Int)∧(i:Int)<8:=by omega
 have hkk:((i:Int)).toNat=i:=by omega
 have d1:decide ((p.sh.cnt:Int)<(k:Int))=false:=decide_eq_false (by omega);obtain⟨bs,c0,hfr⟩:=hfree.out;replace hfr:=HD hfr;replace h0:=HD h0;clear h hfree hi hk hl;generalize (p.sh.cnt:Int)=cn at *;go_enter Tryz.func51,Tryz.ntmps51
 go_wp2_with fail;refine SM hr.out ?_;go_wp2_with fail;refine SM hfr.out ?_;clear hr hfr c0;go_wp2_with fail;go_loopg [9,27] k (fun gh v i wx=>∃(j:Nat) (o1:Nat→Tag),j≤k∧gh=k-j∧i=.int .i64 j∧Hid (GrRel w o t b p wx o1 v j))
 case atStart=>exact⟨0,o,Nat.zero_le _,rfl,rfl,h0⟩
 case round =>
  clear h0;obtain⟨j,o1,hj,rfl,rfl,hR⟩:=hrel;by_cases hlt:j<k
  ·have d0:decide ((j:Int)<(k:Int))=true:=decide_eq_true (by omega)
   obtain⟨bs1,c0,htk⟩:=hstep.out _ _ _ _ hR.out hlt;replace htk:=HD htk;clear hstep hend hR;go_wp2_with fail;refine htk.out.mono ?_;rintro e w2 ⟨c,c2,rfl,v',w3,hap,o3,hR3⟩;replace hR3:=HD hR3;clear htk c0;go_wp2_with (at_builtin;refine wpList_append_is _ rfl _ _ 110 rfl rfl rfl hap ?_)
   clear hap;go_wp2_with fail;go_roundg (k-(j+1))
   case measure=>omega
   case rel=>exact⟨j+1,o3,by omega,rfl,by go_num,hR3⟩
  ·have d0:decide ((j:Int)<(k:Int))=false:=decide_eq_false (by omega)
   obtain rfl:j=k:=by omega
   obtain⟨A,n,c,hcc,hcl⟩:=hend.out _ _ _ hR.out;replace hcl:=HD hcl;clear hstep hend hR;go_wp2_with fail;refine wp_region_noPanic ?_;refine wp_region_T (S:=(fun W'=>W'.cell? ⟨b,1+i,none⟩=some (.slice A n c))) 14 (by kernel_rfl) ?_ (fun hHeld=>?_)
   ·(first|exact hcc|exact hc2|exact hc1)
   refine tkY 0 (h:=?_);refine tkY 1 (h:=?_);refine tkY 2 (h:=?_);refine tkY 3 (h:=?_);refine tkY 4 (h:=?_);refine tkY 5 (h:=?_);refine tkY 6 (h:=?_);refine tkT 7 (h:=?_);refine tkY 9 (h:=?_);refine tkY 11 (h:=?_);refine tkY 12 (h:=?_);refine onT 8 (h:=fun K hK=>?_);go_simp;refine hcl.out.mono ?_;rintro e w1 ⟨v1,rfl,hc1,A2,n2,c2,w2,hap,hc2,z1,z2,hso⟩;replace hso:=HD hso;go_wp2_with fail;refine hK.out _ _ ?_ (fun hHeld=>?_)
   ·(first|exact hcc|exact hc2|exact hc1)
   clear hK;refine nmT (h:=?_);refine onT 10 (h:=fun K hK=>?_);refine step_append_is _ rfl _ _ 110 rfl rfl rfl hap ?_;refine hK.out _ _ ?_ (fun hHeld=>?_)
   ·(first|exact hcc|exact hc2|exact hc1)
   clear hK;refine nmT (h:=?_);refine tkY 13 (h:=?_);refine laT (h:=fun K hK=>?_);go_simp;refine hK.out _ _ ?_;clear hK;refine NoPanic.normal ?_;clear hcc hcl hap;go_wp2_with fail;refine hso.out.mono ?_;rintro e w3 ⟨rfl,o',r1,r2,r3⟩;replace r1:=HD r1;replace r2:=HD r2;replace r3:=HD r3;go_wp2_with fail;go_ret2
   exact⟨_,_,rfl,r1.out,r2.out,r3.out⟩
end
end
section
open Go.RowKit
def PoS.shrink(p:PoS)(i k:Nat):PoS:=⟨((p.W i).drop k).foldl (fun s x=>s.give x) p.sh,up1 p.W i ((p.W i).take k)⟩
section
variable{S:Tag→Prop}{w w':World}{o o':Nat→Tag}{t:Tag}{b:Nat}{p:PoS}
theorem poGrant_no(b i k:Nat)(w:World)(h:PoAt w o t b p)(hi:i<8)(hk:p.sh.cnt<k) :
  Calls Tryz.prog 51 #[.pointer (some ⟨b,0,none⟩),.int .i64 i,.int .i64 k] w fun e w'=>e=.returned (.tuple #[.slice none 0 0,.int .i64 9])∧w'=w:=by
 have hr:=HD (poReady b i k w hi (by omega));have hfree:=HD (show ∃bs,w.cell? ⟨b,0,none⟩=some (.pointer (some ⟨bs,0,none⟩))∧Calls Tryz.prog 81 #[.pointer (some ⟨bs,0,none⟩)] w (fun e w'=>e=.returned (.int .i64 p.sh.cnt)∧w'=w) from by
  obtain⟨bs,vs,h1,h2,h3⟩:=h;exact⟨bs,h1.cell' (i:=0) rfl,shFree bs w h2⟩)
 have d1:decide ((p.sh.cnt:Int)<(k:Int))=true:=decide_eq_true (by omega);obtain⟨bs,c0,hfr⟩:=hfree.out;replace hfr:=HD hfr;clear h hfree hi hk;generalize (p.sh.cnt:Int)=cn at *;go_enter Tryz.func51,Tryz.ntmps51
 go_wp2_with fail;refine SM hr.out ?_;go_wp2_with fail;refine SM hfr.out ?_;go_wp2_with fail;go_ret2
 exact⟨rfl,rfl⟩
theorem IRow.dropI{g cap:Nat}{xs:List Int}{k:Nat}{ad:Addr}(h:IRow w o t (.slice (some ⟨g,0,none⟩) xs.length cap) xs)(hc:xs.length≤cap)(hk:k≤xs.length)(had:(if cap=k then some (⟨g,0,none⟩:Addr) else some ⟨g,k,none⟩)=some ad) :
  Ints w o t (.slice (some ad) (xs.length-k) (cap-k)) (xs.drop k):=by
 refine⟨some ad,cap-k,by rw [List.length_drop],fun hp=>?_⟩;rw [List.length_drop] at hp;rw [if_neg (by omega)] at had;obtain rfl:=Option.some.inj had;obtain⟨A,c,e,hh⟩:=h.ints;simp only [Value.slice.injEq] at e;obtain⟨rfl,_,rfl⟩:=e;obtain⟨g',off,e2,h1,h2,h3⟩:=hh (by omega);obtain rfl:g=g':=by have:=Option.some.inj e2;injection this
 obtain rfl:0=off:=by have:=Option.some.inj e2;injection this
 refine⟨g,k,rfl,h1,h2,fun i hi=>?_⟩;rw [List.length_drop] at hi;have:=h3 (k+i) (by omega);rw [Nat.zero_add] at this;rw [this,List.getElem_drop]
theorem IRow.takeI{g cap:Nat}{xs:List Int}{k:Nat}(h:IRow w o t (.slice (some ⟨g,0,none⟩) xs.length cap) xs)(hk:k≤xs.length):Ints w o t (.slice (some ⟨g,0,none⟩) k cap) (xs.take k):=by
 refine⟨some ⟨g,0,none⟩,cap,by rw [List.length_take,Nat.min_eq_left hk],fun hp=>?_⟩;rw [List.length_take,Nat.min_eq_left hk] at hp;obtain⟨A,c,e,hh⟩:=h.ints;simp only [Value.slice.injEq] at e;obtain⟨rfl,_,rfl⟩:=e;obtain⟨g',off,e2,h1,h2,h3⟩:=hh (by omega);refine⟨g',off,e2,h1,h2,fun i hi=>?_⟩;rw [List.length_take] at hi;rw [h3 i (by omega),List.getElem_take]
structure ShrRel(w:World)(o:Nat→Tag)(t:Tag)(b:Nat)(p:PoS)(L:List Int)(w1 wx:World)(o1:Nat→Tag)(j:Nat):Prop where
 po:PoAt wx o1 t b ⟨(L.take j).foldl (fun s x=>s.give x) p.sh,p.W⟩
 fr:Fr (Und t) w o wx o1
 f1:Fr (Und (t++[0])) w1 o1 wx o1
theorem ShrRel.step{L:List Int}{w1 wx:World}{o1:Nat→Tag}{j:Nat}(h:ShrRel w o t b p L w1 wx o1 j)(h9:¬t <+: [9])(hj:j<L.length) :
  ∃bs,wx.cell? ⟨b,0,none⟩=some (.pointer (some ⟨bs,0,none⟩))∧Calls Tryz.prog 93 #[.pointer (some ⟨bs,0,none⟩),.int .i64 L[j]] wx (fun e w2=>∃c,e=.returned (.int .i64 c)∧ShrRel w o t b p L w1 w2 o1 (j+1)):=by
 obtain⟨⟨bs,vs,h1,h2,h3⟩,hf,hf1⟩:=h;refine⟨bs,h1.cell' (i:=0) rfl,(shGive bs L[j] wx h2 (fun q=>h9 (List.IsPrefix.trans (List.prefix_append t [0]) q))).mono ?_⟩;rintro e w2 ⟨rfl,g2,f2⟩;refine⟨_,rfl,⟨bs,vs,h1.fr f2 (not_und t 0 []),?_,fun i hi=>(h3 i hi).fr f2 (off_one (r:=[]) (r':=[i]) (by decide) h9).self⟩,hf.trans (f2.mono fun v q=>q.up),hf1.trans f2⟩;rw [List.take_succ_eq_append_getElem hj,List.foldl_append];exact g2
set_option maxHeartbeats 1000000 in
theorem poShrink(b i k:Nat)(w:World)(h:PoAt w o t b p)(h9:¬t <+: [9])(hi:i<8)(hk:k≤(p.W i).length)(h1:1≤(p.W i).length)(hl:(p.W i).length≤1000) :
  Calls Tryz.prog 56 #[.pointer (some ⟨b,0,none⟩),.int .i64 i,.int .i64 k] w fun e w'=>∃v o',e=.returned (.tuple #[v,.int .i64 0])∧PoAt w' o' t b (p.shrink i k)∧Fr (Und t) w o w' o':=by
 have hr:=HD (poReady b i k w hi (by omega));have hL:((p.W i).drop k).length=(p.W i).length-k:=List.length_drop;have hst:=HD (show ∃g cap,(p.W i).length≤cap∧w.cell? ⟨b,1+i,none⟩=some (.slice (some ⟨g,0,none⟩) (p.W i).length cap) ∧
   (∀ad,(if cap=k then some (⟨g,0,none⟩:Addr) else some ⟨g,k,none⟩)=some ad→Calls Tryz.prog 83 #[.slice (some ad) ((p.W i).length-k) (cap-k)] w (fun e w1=>Below w.heap.size w w1∧∃A c,e=.returned (.slice A ((p.W i).length-k) c) ∧
    (∀j (hj:j<((p.W i).drop k).length),∃g off,A=some ⟨g,off,none⟩∧∀wx,Fr (Und (t++[0])) w1 (newO o w (t++[2])) wx (newO o w (t++[2]))→wx.cell? ⟨g,off+j,none⟩=some (.int .i64 ((p.W i).drop k)[j])) ∧
    ShrRel w o t b p ((p.W i).drop k) w1 w1 (newO o w (t++[2])) 0)) ∧
   ∀w1 wx,Below w.heap.size w w1→ShrRel w o t b p ((p.W i).drop k) w1 wx (newO o w (t++[2])) ((p.W i).drop k).length→wx.drew.cell? ⟨b,1+i,none⟩=some (.slice (some ⟨g,0,none⟩) (p.W i).length cap) ∧
    Calls Tryz.prog 83 #[.slice (some ⟨g,0,none⟩) k cap] wx.drew (fun e w2=>∃A2 n2 c2,e=.returned (.slice A2 n2 c2)∧w2.cell? ⟨b,1+i,none⟩=some (.slice (some ⟨g,0,none⟩) (p.W i).length cap)∧w2.frozen? ⟨b,1+i,none⟩=false ∧
     ∃o',PoAt (w2.setCell ⟨b,1+i,none⟩ (.slice A2 n2 c2)) o' t b (p.shrink i k)∧Fr (Und t) w o (w2.setCell ⟨b,1+i,none⟩ (.slice A2 n2 c2)) o') from by
  obtain⟨bs,vs,q1,q2,q3⟩:=h;have hrow:=q3 i hi;have hc:=hrow.cases;rcases hc with ⟨_,e⟩|⟨g,cap,cur,hv,_,hcap,_⟩
  ·rw [e] at h1;simp at h1
  have c1:=q1.cell' (po_cell hi);rw [hv] at c1 hrow;have e2:t++[2]≠t:=fun e=>by have:=congrArg List.length e;simp at this
  have e1i:∀j,t++[1,j]≠t:=fun j e=>by have:=congrArg List.length e;simp at this
  refine⟨g,cap,hcap,c1,fun ad had=>?_,fun w1 wx hb1 hR=>?_⟩
  ·refine(slClone (hrow.dropI hcap hk had) (t++[2]) (by rw [hL];omega)).mono ?_
   rintro e w1 ⟨v1,rfl,r1,hb⟩;have f1:Fr (fun _=>False) w o w1 (newO o w (t++[2])):=Fr.below' hb _;obtain⟨A,c,rfl,hA⟩:=r1.ints;refine⟨hb,A,c,by rw [hL],fun j hj=>?_,⟨bs,vs,q1.fr f1 (fun q=>q),q2.fr f1 off_no,fun j hj=>(q3 j hj).fr f1 (fun q=>q)⟩,f1.mono fun v q=>q.elim,Fr.refl _ _ _⟩;obtain⟨g1,off,rfl,a1,a2,a3⟩:=hA (by omega);refine⟨g1,off,rfl,fun wx f=>f.only.cell (a3 j hj) (by show ¬Und (t++[0]) (newO o w (t++[2]) g1);rw [a2];exact(off_one (r:=[]) (r':=[]) (by decide) h9).self)⟩
  ·obtain⟨⟨bs1,vs1,a1,a2,a3⟩,hf,hf1⟩:=hR
   have f1:Fr (fun _=>False) w o w1 (newO o w (t++[2])):=Fr.below' hb1 _;have fx:Fr (Und (t++[0])) w o wx (newO o w (t++[2])):=(f1.mono fun v q=>q.elim).trans hf1;have q1x:=(q1.fr fx (not_und t 0 []))
   have hrx:=(hrow.fr fx (off_one (r:=[]) (r':=[i]) (by decide) h9).self).fr (Fr.drew (S:=fun _=>False)) (fun q=>q);have c1x:=q1x.cell' (po_cell hi);rw [hv] at c1x;refine⟨c1x,(slClone (hrx.takeI hk) (t++[1,i]) (by rw [List.length_take];omega)).mono ?_⟩;rintro e w2 ⟨v2,rfl,r2,hb2⟩;have f2:Fr (fun _=>False) wx (newO o w (t++[2])) w2 (newO (newO o w (t++[2])) wx.drew (t++[1,i])):=(Fr.drew (o:=newO o w (t++[2]))).trans (Fr.below' hb2 _);obtain⟨A2,c2,rfl,_⟩:=r2.ints;have q1y:=q1x.fr f2 (fun q=>q);have c1y:=q1y.cell' (po_cell hi);rw [hv] at c1y;generalize hO:newO (newO o w (t++[2])) wx.drew (t++[1,i])=o2 at *;refine⟨A2,_,c2,rfl,c1y,q1y.free _,o2,?_,?_⟩
   ·have a1y:=a1.fr f2 (fun q=>q)
    have fS:Fr (fun v=>v=t) w2 o2 (w2.setCell ⟨b,1+i,none⟩ (.slice A2 ((p.W i).take k).length c2)) o2:=Fr.setCell (fun _=>a1y.1) _;have a1z:=a1y.set (1+i) (.slice A2 ((p.W i).take k).length c2);rw [po_set hi] at a1z;refine⟨bs1,up1 vs1 i (.slice A2 ((p.W i).take k).length c2),a1z,?_,fun j hj=>?_⟩
    ·have:=(a2.fr f2 off_no).fr fS (eq_off h9 0 [])
     rw [List.take_length] at this;exact this
    ·by_cases e:j=i
     ·subst e
      rw [up1_same];show IRow _ o2 _ _ (up1 p.W j _ j);rw [up1_same];exact r2.fr fS (e1i j)
     ·rw [up1_other e]
      show IRow _ o2 _ _ (up1 p.W i _ j);rw [up1_other e];exact((a3 j hj).fr f2 (fun q=>q)).fr fS (e1i j)
   ·exact(hf.trans (f2.mono fun v q=>q.elim)).trans ((Fr.setCell (S:=fun v=>v=t) (w:=w2) (p:=⟨b,1+i,none⟩) (fun _=>(a1.fr f2 (fun q=>q)).1) _).mono fun v q=>by rw [q];exact Und.self t))
 have hR:=HD (fun w1 wx j (q:ShrRel w o t b p ((p.W i).drop k) w1 wx (newO o w (t++[2])) j) (hj:j<((p.W i).drop k).length)=>q.step h9 hj);obtain⟨g,cap,hcap,c1,hcl,hend⟩:=hst.out;obtain⟨ad,had⟩:∃ad,(if cap=k then some (⟨g,0,none⟩:Addr) else some ⟨g,k,none⟩)=some ad:=by
  by_cases e:cap=k
  ·exact⟨_,if_pos e⟩
  ·exact⟨_,if_neg e⟩
 replace hcl:=HD (hcl ad had);replace hend:=HD hend;have hidx:0≤(i:Int)∧(i:Int)<8:=by omega
 have hkk:((i:Int)).toNat=i:=by omega
 have hkt:((k:Int)).toNat=k:=by omega
 have hkl:(k:Int)≤((p.W i).length:Int):=by omega
 have hkc:(k:Int)≤(cap:Int):=by omega
 have d1:decide (((p.W i).length:Int)<(k:Int))=false:=decide_eq_false (by omega);clear h hst h9 hi;generalize hLL:(p.W i).drop k=L at *;generalize hn:(p.W i).length=n at *;go_enter Tryz.func56,Tryz.ntmps56
 go_wp2_with fail;refine SM hr.out ?_;clear hr;go_wp2_with fail;refine hcl.out.mono ?_;rintro e w1 ⟨hb1,A,c,rfl,hcs,hR0⟩;replace hb1:=HD hb1;replace hcs:=HD hcs;replace hR0:=HD hR0;go_wp2_with fail;clear hcl c1 had;go_loopg [36] (n-k) (fun gh i wx=>∃(j:Nat),j≤n-k∧gh=n-k-j∧i=.int .i64 j∧Hid (ShrRel w o t b p L w1 wx (newO o w (t++[2])) j))
 case atStart=>exact⟨0,Nat.zero_le _,rfl,rfl,hR0⟩
 case round =>
  clear hR0;obtain⟨j,hj,rfl,rfl,hRR⟩:=hrel;by_cases hlt:j<n-k
  ·have d0:decide ((j:Int)<((n-k:Nat):Int))=true:=decide_eq_true (by omega)
   obtain⟨g1,off,rfl,hc⟩:=hcs.out j (by omega);have c2:=hc wr hRR.out.f1;obtain⟨bs1,c0,hgi⟩:=hR.out _ _ _ hRR.out (by omega);replace hgi:=HD hgi;clear hc hend hRR;generalize L[j]=x at *;go_wp2_with fail;refine hgi.out.mono ?_;rintro e w2 ⟨c3,rfl,hR2⟩;replace hR2:=HD hR2;clear hgi c0 c2;go_wp2_with fail;go_roundg (n-k-(j+1))
   case measure=>omega
   case rel=>exact⟨j+1,by omega,rfl,by go_num,hR2⟩
  ·have d0:decide ((j:Int)<((n-k:Nat):Int))=false:=decide_eq_false (by omega)
   obtain rfl:j=n-k:=by omega
   have hRe:=hRR.out;rw [←hL] at hRe;obtain⟨hcc,hcl⟩:=hend.out _ _ hb1.out hRe;replace hcl:=HD hcl;clear hR hcs hend hRR hRe;go_wp2_with fail;refine wp_region_noPanic ?_;refine wp_region_T (S:=(fun W'=>W'.cell? ⟨b,1+i,none⟩=some (.slice (some ⟨g,0,none⟩) n cap))) 9 (by kernel_rfl) ?_ (fun hHeld=>?_)
   ·(first|exact hcc|exact hc2)
   refine tkY 0 (h:=?_);refine tkY 1 (h:=?_);refine tkY 2 (h:=?_);refine tkY 3 (h:=?_);refine tkY 4 (h:=?_);refine tkY 6 (h:=?_);refine tkY 7 (h:=?_);refine onT 5 (h:=fun K hK=>?_);go_simp;refine hcl.out.mono ?_;rintro e w2 ⟨A2,n2,c2,rfl,hc2,z1,o',r1,r2⟩;replace r1:=HD r1;replace r2:=HD r2;go_wp2_with fail;refine hK.out _ _ ?_ (fun hHeld=>?_)
   ·(first|exact hcc|exact hc2)
   clear hK;refine nmT (h:=?_);refine tkY 8 (h:=?_);refine laT (h:=fun K hK=>?_);go_simp;refine hK.out _ _ ?_;clear hK;refine NoPanic.normal ?_;clear hcc hcl;go_wp2_with fail;go_ret2
   exact⟨_,_,rfl,r1.out,r2.out⟩
theorem poDrop(b i:Nat)(w:World)(h:PoAt w o t b p)(h9:¬t <+: [9])(hi:i<8)(h1:1≤(p.W i).length)(hl:(p.W i).length≤1000) :
  Calls Tryz.prog 59 #[.pointer (some ⟨b,0,none⟩),.int .i64 i] w fun e w'=>∃v o',e=.returned (.tuple #[v,.int .i64 0])∧PoAt w' o' t b (p.shrink i 0)∧Fr (Und t) w o w' o':=by
 have hs:=HD (poShrink b i 0 w h h9 hi (Nat.zero_le _) h1 hl);clear h h9 hi h1 hl;go_enter Tryz.func59,Tryz.ntmps59
 go_wp2_with fail;refine hs.out.mono ?_;rintro e w1 ⟨v,o',rfl,r1,r2⟩;replace r1:=HD r1;replace r2:=HD r2;go_wp2_with fail;go_ret2
 exact⟨_,_,rfl,r1.out,r2.out⟩
end
end
section
open Go.RowKit
def wsum(W:Nat→List Int):Nat:=((List.range 8).map fun i=>(W i).length).sum
structure PoOk(p:PoS)(C:Nat):Prop where
 n:p.sh.n=C
 nd:∀i,i<8→(p.W i).Nodup
 rg:∀i,i<8→∀x∈p.W i,0≤x∧x<C
 dj:∀i j,i<8→j<8→i≠j→∀x∈p.W i,x∉p.W j
 fr:∀c:Nat,c<C→(p.sh.f c=true↔∀i,i<8→(c:Int)∉p.W i)
 ct:p.sh.cnt+wsum p.W=C
theorem wsum_up{W:Nat→List Int}{i:Nat}(hi:i<8)(l:List Int):wsum (up1 W i l)+(W i).length=wsum W+l.length:=by
 have:=sum_change (f:=fun j=>(up1 W i l j).length) (g:=fun j=>(W j).length) (c:=i) (fun d hd=>by rw [up1_other hd]) 8;simp only [up1_same] at this;rw [if_pos hi,if_pos hi] at this;exact this
theorem PoOk.new{C:Nat}:PoOk ⟨ShS.new C,fun _=>[]⟩ C where
 n:=rfl
 nd i _:=List.nodup_nil
 rg i _ x hx:=by cases hx
 dj i j _ _ _ x hx:=by cases hx
 fr c hc:=⟨fun _ i _ h=>(by cases h),fun _=>(by show decide (c<C)=true;exact decide_eq_true hc)⟩
 ct:=by
  show (ShS.new C).cnt+_=C;rw [cnt_new];rfl
theorem PoOk.grant{p:PoS}{C:Nat}(h:PoOk p C){i k:Nat}(hi:i<8)(hk:k≤p.sh.cnt):PoOk (p.grant i k) C∧((p.grant i k).W i).length=(p.W i).length+k∧(∀x∈(p.sh.takes k).1,∀j,j<8→x∉p.W j)∧(p.sh.takes k).1.Nodup∧(∀x∈(p.sh.takes k).1,0≤x∧x<C):=by
 have T:=takes_ok p.sh k hk;have hfree:∀x∈(p.sh.takes k).1,∀j,j<8→x∉p.W j:=fun x hx j hj=>by
  obtain⟨c,rfl,c1,c2⟩:=T.mem x hx;exact(h.fr c (by have:=h.n;omega)).1 c2 j hj
 have hrg:∀x∈(p.sh.takes k).1,0≤x∧x<C:=fun x hx=>by
  obtain⟨c,rfl,c1,c2⟩:=T.mem x hx;have:=h.n;omega
 have hlen:((p.grant i k).W i).length=(p.W i).length+k:=by
  show (up1 p.W i _ i).length=_;rw [up1_same,sorted_len,List.length_append,T.len]
 have hW:∀j,(p.grant i k).W j=if j=i then sorted (p.W i++(p.sh.takes k).1) else p.W j:=fun j=>rfl
 refine⟨⟨T.n.trans h.n,fun j hj=>?_,fun j hj x hx=>?_,fun j l hj hl hne x hx hx2=>?_,fun c hc=>?_,?_⟩,hlen,hfree,T.nodup,hrg⟩
 ·rw [hW]
  by_cases e:j=i
  ·rw [if_pos e]
   refine(List.mergeSort_perm _ _).symm.nodup (List.nodup_append.2 ⟨h.nd i hi,T.nodup,fun a ha b hb=>?_⟩);rintro rfl;exact hfree a hb i hi ha
  ·rw [if_neg e];exact h.nd j hj
 ·rw [hW] at hx
  by_cases e:j=i
  ·rw [if_pos e,sorted_mem] at hx
   rcases List.mem_append.1 hx with q|q
   ·exact h.rg i hi x q
   ·exact hrg x q
  ·rw [if_neg e] at hx;exact h.rg j hj x hx
 ·rw [hW] at hx hx2
  by_cases e:j=i
  ·rw [if_neg (fun q=>hne (e.trans q.symm))] at hx2
   rw [if_pos e,sorted_mem] at hx;rcases List.mem_append.1 hx with q|q
   ·exact h.dj i l hi hl (fun q=>hne (e.trans q)) x q hx2
   ·exact hfree x q l hl hx2
  ·rw [if_neg e] at hx
   by_cases e2:l=i
   ·rw [if_pos e2,sorted_mem] at hx2
    rcases List.mem_append.1 hx2 with q|q
    ·exact h.dj j i hj hi e x hx q
    ·exact hfree x q j hj hx
   ·rw [if_neg e2] at hx2;exact h.dj j l hj hl hne x hx hx2
 ·show (p.sh.takes k).2.f c=true↔_
  rw [T.f c,Bool.and_eq_true,Bool.not_eq_true',decide_eq_false_iff_not,h.fr c hc];constructor
  ·rintro ⟨a,b⟩ j hj q
   rw [hW] at q;by_cases e:j=i
   ·rw [if_pos e,sorted_mem] at q
    rcases List.mem_append.1 q with q|q
    ·exact a i hi q
    ·exact b q
   ·rw [if_neg e] at q;exact a j hj q
  ·intro a
   have ai:=a i hi;rw [hW,if_pos rfl,sorted_mem] at ai;refine⟨fun j hj q=>?_,fun q=>ai (List.mem_append_right _ q)⟩;by_cases e:j=i
   ·subst e;exact ai (List.mem_append_left _ q)
   ·have:=a j hj;rw [hW,if_neg e] at this;exact this q
 ·have h1:=wsum_up (W:=p.W) hi (sorted (p.W i++(p.sh.takes k).1))
  rw [sorted_len,List.length_append,T.len] at h1;have h2:=T.cnt;have h3:=h.ct;show (p.sh.takes k).2.cnt+wsum (up1 p.W i _)=C;omega
theorem gives_ok:∀(L:List Int) (s:ShS),L.Nodup→(∀x∈L,∃c:Nat,x=c∧c<s.n∧s.f c=false) →
  (L.foldl (fun s x=>s.give x) s).n=s.n∧(∀c:Nat,(L.foldl (fun s x=>s.give x) s).f c=(s.f c||decide ((c:Int)∈L)))∧(L.foldl (fun s x=>s.give x) s).cnt=s.cnt+L.length
 |[],s,_,_=>⟨rfl,fun c=>by simp,by simp⟩
 |x :: L,s,hn,h=>by
  obtain⟨n1,n2⟩:=List.nodup_cons.1 hn;obtain⟨c,rfl,c1,c2⟩:=h x (List.mem_cons_self ..);have e:s.give (c:Int)=s.flip c:=(give_taken c1 c2).2;have hcf:=cnt_flip s c1;rw [c2] at hcf;simp only [List.foldl_cons];rw [e];obtain⟨a1,a2,a3⟩:=gives_ok L (s.flip c) n2 (fun y hy=>by
   obtain⟨d,rfl,d1,d2⟩:=h y (List.mem_cons_of_mem _ hy);refine⟨d,rfl,d1,?_⟩;rw [flip_f,if_neg (fun q=>n1 (by rw [←q];exact hy))];exact d2)
  refine⟨a1,fun d=>?_,?_⟩
  ·rw [a2 d,flip_f]
   by_cases q:d=c
   ·subst q
    rw [if_pos rfl,c2];simp
   ·rw [if_neg q]
    have:((d:Int)∈(c:Int) :: L)↔((d:Int)∈L):=by
     simp only [List.mem_cons];exact⟨fun r=>r.resolve_left (by omega),.inr⟩
    simp only [this]
  ·rw [a3,List.length_cons]
   simp only [Bool.false_eq_true,if_false] at hcf;omega
theorem PoOk.shrink{p:PoS}{C:Nat}(h:PoOk p C){i k:Nat}(hi:i<8)(hk:k≤(p.W i).length):PoOk (p.shrink i k) C:=by
 have hnd:=h.nd i hi;have hdk:((p.W i).drop k).Nodup:=hnd.sublist (List.drop_sublist _ _);have hmd:∀x∈(p.W i).drop k,x∈p.W i:=fun x hx=>List.mem_of_mem_drop hx
 have hmt:∀x∈(p.W i).take k,x∈p.W i:=fun x hx=>List.mem_of_mem_take hx
 have hsplit:∀x,x∈p.W i↔(x∈(p.W i).take k∨x∈(p.W i).drop k):=fun x=>by
  rw [←List.mem_append,List.take_append_drop]
 have happ:∀x∈(p.W i).take k,x∉(p.W i).drop k:=fun x hx hx2=>by
  have h2:=hnd;rw [←List.take_append_drop k (p.W i)] at h2;exact(List.nodup_append.1 h2).2.2 x hx x hx2 rfl
 obtain⟨g1,g2,g3⟩:=gives_ok ((p.W i).drop k) p.sh hdk (fun x hx=>by
  have hr:=h.rg i hi x (hmd x hx);refine⟨x.toNat,by omega,by have:=h.n;omega,?_⟩;cases e:p.sh.f x.toNat with
  |false=>rfl
  |true =>
   have:=(h.fr x.toNat (by omega)).1 e i hi;rw [show ((x.toNat:Nat):Int)=x by omega] at this;exact absurd (hmd x hx) this)
 have hW:∀j,(p.shrink i k).W j=if j=i then (p.W i).take k else p.W j:=fun j=>rfl
 have hsub:∀j x,x∈(p.shrink i k).W j→x∈p.W j:=fun j x hx=>by
  rw [hW] at hx;by_cases e:j=i
  ·rw [if_pos e] at hx;rw [e];exact hmt x hx
  ·rw [if_neg e] at hx;exact hx
 refine⟨g1.trans h.n,fun j hj=>?_,fun j hj x hx=>h.rg j hj x (hsub j x hx),fun j l hj hl hne x hx hx2=>h.dj j l hj hl hne x (hsub j x hx) (hsub l x hx2),fun c hc=>?_,?_⟩
 ·rw [hW]
  by_cases e:j=i
  ·rw [if_pos e];exact hnd.sublist (List.take_sublist _ _)
  ·rw [if_neg e];exact h.nd j hj
 ·show (((p.W i).drop k).foldl (fun s x=>s.give x) p.sh).f c=true↔_
  rw [g2 c,Bool.or_eq_true,decide_eq_true_eq,h.fr c hc];constructor
  ·rintro (a|a) j hj q
   ·exact a j hj (hsub j _ q)
   ·rw [hW] at q
    by_cases e:j=i
    ·rw [if_pos e] at q;exact happ _ q a
    ·rw [if_neg e] at q;exact h.dj i j hi hj (fun q=>e q.symm) _ (hmd _ a) q
  ·intro a
   by_cases q:(c:Int)∈(p.W i).drop k
   ·exact .inr q
   ·left
    intro j hj q2;have:=a j hj;rw [hW] at this;by_cases e:j=i
    ·rw [if_pos e] at this
     rw [e] at q2;rcases(hsplit _).1 q2 with r|r
     ·exact this r
     ·exact q r
    ·rw [if_neg e] at this;exact this q2
 ·have h1:=wsum_up (W:=p.W) hi ((p.W i).take k)
  rw [List.length_take,Nat.min_eq_left hk] at h1;have h3:=h.ct;rw [List.length_drop] at g3;show (((p.W i).drop k).foldl (fun s x=>s.give x) p.sh).cnt+wsum (up1 p.W i _)=C;omega
end
end Go.Proofs.YtfliaggjkianpaaGreatDoor
