import Derived.Test.YtfliaggjkianpaaGreatDoorK02
set_option linter.unusedVariables false
set_option linter.unusedSimpArgs false
set_option maxRecDepth 100000
namespace Go.Proofs.YtfliaggjkianpaaGreatDoor
section
open Go.RowKit
def IntsW(w:World)(v:Value)(xs:List Int):Prop:=∃A c,v=.slice A xs.length c∧(0<xs.length→∃g off,A=some ⟨g,off,none⟩∧∀i (h:i<xs.length),w.cell? ⟨g,off+i,none⟩=some (.int .i64 xs[i]))
theorem Ints.w{w:World}{o:Nat→Tag}{t:Tag}{v:Value}{xs:List Int}(h:Ints w o t v xs):IntsW w v xs:=by
 obtain⟨A,c,rfl,h⟩:=h;exact⟨A,c,rfl,fun hp=>by obtain⟨g,off,e,_,_,h3⟩:=h hp;exact⟨g,off,e,h3⟩⟩
def cfgB(P C:Int):Bool:=decide (1≤C)&&decide (C≤32)&&decide (1≤P)&&decide (P≤4096)&&decide (P%C=0)
theorem cfg_iff{P C:Int}:cfgB P C=true↔1≤C∧C≤32∧1≤P∧P≤4096∧P%C=0:=by
 unfold cfgB;simp [and_assoc]
theorem cmCheck(P C:Int)(w:World) :
  Calls Tryz.prog 76 #[.agg #[.int .i64 P,.int .i64 C]] w fun e w'=>e=.returned (.int .i64 (if cfgB P C then 0 else 12))∧Below w.heap.size w w':=by
 have fin:∀{w1:World},w1=w.alloc (.cells #[.int .i64 P,.int .i64 C] 23)→Below w.heap.size w w1:=fun e=>by rw [e];exact below_alloc (Nat.le_refl _) (Below.refl _ _)
 by_cases h1:1≤C
 ·by_cases h2:C≤32
  ·by_cases h3:1≤P
   ·by_cases h4:P≤4096
    ·by_cases h5:P%C=0
     ·rw [if_pos (cfg_iff.2 ⟨h1,h2,h3,h4,h5⟩)]
      go_enter Tryz.func76,Tryz.ntmps76
      go_wp2_with fail;go_ret
      exact⟨rfl,fin rfl⟩
     ·rw [if_neg (fun q=>h5 (cfg_iff.1 q).2.2.2.2)]
      have hb:(P%C != 0)=true:=by rw [bne_iff_ne];exact h5
      clear h5;go_enter Tryz.func76,Tryz.ntmps76
      go_wp2_with fail;go_ret
      exact⟨rfl,fin rfl⟩
    ·rw [if_neg (fun q=>h4 (cfg_iff.1 q).2.2.2.1)]
     go_enter Tryz.func76,Tryz.ntmps76
     go_wp2_with fail;go_ret
     exact⟨rfl,fin rfl⟩
   ·rw [if_neg (fun q=>h3 (cfg_iff.1 q).2.2.1)]
    go_enter Tryz.func76,Tryz.ntmps76
    go_wp2_with fail;go_ret
    exact⟨rfl,fin rfl⟩
  ·rw [if_neg (fun q=>h2 (cfg_iff.1 q).2.1)]
   go_enter Tryz.func76,Tryz.ntmps76
   go_wp2_with fail;go_ret
   exact⟨rfl,fin rfl⟩
 ·rw [if_neg (fun q=>h1 (cfg_iff.1 q).1)]
  go_enter Tryz.func76,Tryz.ntmps76
  go_wp2_with fail;go_ret
  exact⟨rfl,fin rfl⟩
def freS(s:CmS)(p:Nat→Bool):Nat→Nat
 |0=>0
 |k+1=>freS s p k+(if p k then (s.sh k).cnt else 0)
def CmS.fre(s:CmS)(xs:List Int):Nat:=freS s (fun c=>decide ((c:Int)∈xs)) s.C
theorem freS_same(s:CmS){p q:Nat→Bool}:∀k,(∀c,c<k→p c=q c)→freS s p k=freS s q k
 |0,_=>rfl
 |k+1,h=>by unfold freS;rw [freS_same s k (fun c hc=>h c (by omega)),h k (by omega)]
theorem freS_one(s:CmS){p q:Nat→Bool}{x:Nat}(hp:p x=false)(hq:q x=true)(h:∀c,c≠x→q c=p c):∀k,freS s q k=freS s p k+(if x<k then (s.sh x).cnt else 0)
 |0=>by simp [freS]
 |k+1=>by
  have ih:=freS_one s hp hq h k;unfold freS;rw [ih];by_cases e:k=x
  ·subst e
   rw [hp,hq,if_neg (Nat.lt_irrefl _),if_pos (Nat.lt_succ_self _)];simp
  ·rw [h k e]
   by_cases e2:x<k
   ·rw [if_pos e2,if_pos (show x<k+1 by omega)];omega
   ·rw [if_neg e2,if_neg (show ¬x<k+1 by omega)];omega
theorem freS_le(s:CmS)(p:Nat→Bool)(hn:∀c,c<s.C→(s.sh c).n≤4096):∀k,k≤s.C→freS s p k≤4096*k
 |0,_=>by simp [freS]
 |k+1,hk=>by
  have ih:=freS_le s p hn k (by omega);have:=cnt_le (s.sh k);have:=hn k (by omega);unfold freS
  split<;>omega
theorem fre_skip(s:CmS){l:List Int}{x:Int}(h:¬(0≤x∧x<s.C)∨x∈l):s.fre (l++[x])=s.fre l:=by
 unfold CmS.fre;refine freS_same s _ (fun c hc=>?_);rw [decide_eq_decide];simp only [List.mem_append,List.mem_singleton];constructor
 ·rintro (q|q)
  ·exact q
  ·rcases h with h|h
   ·exact absurd (by omega) h
   ·rw [q];exact h
 ·exact fun q=>.inl q
theorem fre_take(s:CmS){l:List Int}{c:Nat}(hc:c<s.C)(h:(c:Int)∉l):s.fre (l++[(c:Int)])=s.fre l+(s.sh c).cnt:=by
 unfold CmS.fre;have:=freS_one s (p:=fun c=>decide ((c:Int)∈l)) (q:=fun d=>decide ((d:Int)∈l++[(c:Int)])) (x:=c) (by simpa using h) (by simp) (fun d hd=>by
  rw [decide_eq_decide];simp only [List.mem_append,List.mem_singleton];constructor
  ·rintro (q|q)
   ·exact q
   ·exact absurd (by omega) hd
  ·exact fun q=>.inl q) s.C
 rw [this,if_pos hc]
theorem CmAt.ptr{w:World}{o:Nat→Tag}{t:Tag}{b:Nat}{s:CmS}(h:CmAt w o t b s):∃(g cap:Nat) (bs:Nat→Nat),w.cell? ⟨b,2,none⟩=some (.slice (some ⟨g,0,none⟩) s.C cap)∧∀c,c<s.C→w.cell? ⟨g,c,none⟩=some (.pointer (some ⟨bs c,0,none⟩))∧ShAt w o (t++[c]) (bs c) (s.sh c):=by
 obtain⟨_,g,cap,L,bs,h1,h2,h3,h4,h5⟩:=h;exact⟨g,cap,bs,h1.cell' (i:=2) rfl,fun c hc=>⟨h2.cell' (by simpa using h4 c hc),h5 c hc⟩⟩
theorem cmFree(b:Nat)(v:Value)(xs:List Int)(w:World){o:Nat→Tag}{t:Tag}{s:CmS}(h:CmAt w o t b s)(hv:IntsW w v xs)(hx:xs.length≤1000) :
  Calls Tryz.prog 128 #[.pointer (some ⟨b,0,none⟩),v] w fun e w'=>e=.returned (.int .i64 (s.fre xs))∧Below w.heap.size w w':=by
 obtain⟨A,cap,rfl,hcs⟩:=hv;have hC:=h.cells.2.2.2.1;have hE:∀c,c<s.C→(s.sh c).n≤4096:=fun c hc=>by rw [h.cells.2.2.2.2.2.2.2 c hc];exact Nat.le_trans (Nat.div_le_self _ _) h.cells.2.2.2.2.2.1
 have hle:=HD (fun (xs:List Int)=>freS_le s (fun c=>decide ((c:Int)∈xs)) hE s.C (Nat.le_refl _));replace h:=HD h;replace hcs:=HD hcs;clear hE;go_enter Tryz.func128,Tryz.ntmps128
 go_wp2_with fail;have hB0:Below w.heap.size w (w.alloc (.cells (Array.replicate 32 (.bool false)) 249)):=below_alloc (Nat.le_refl _) (Below.refl _ _);have hb0:=heap_alloc_new w (.cells (Array.replicate 32 (.bool false)) 249);replace hB0:=HD hB0;replace hb0:=HD hb0;go_loopg [5,14] xs.length (fun gh n i wx=>∃(j:Nat) (L:List Value),j≤xs.length∧gh=xs.length-j∧i=.int .i64 j∧n=.int .i64 (s.fre (xs.take j):Nat)∧Below w.heap.size w wx∧wx.heap[w.heap.size]? = some (.cells L.toArray 249 (0,0))∧L.length=32∧∀c,c<s.C→L[c]? = some (.bool (decide ((c:Int)∈xs.take j))))
 case atStart =>
  refine⟨0,List.replicate 32 (.bool false),Nat.zero_le _,rfl,rfl,?_,hB0.out,heap_alloc_new w _,by simp,fun c hc=>?_⟩
  ·have:s.fre (xs.take 0)=0:=by
    unfold CmS.fre;have:∀k,freS s (fun c=>decide ((c:Int)∈xs.take 0)) k=0:=by
     intro k;induction k with
     |zero=>rfl
     |succ k ih=>unfold freS;rw [ih];simp
    exact this _
   rw [this];rfl
  ·rw [List.getElem?_replicate,if_pos (by omega)];simp
 case round =>
  clear hB0 hb0;obtain⟨j,L,hj,rfl,rfl,rfl,hB,hL,hLl,hLs⟩:=hrel;have hh:=h.out.fr (S:=fun _=>False) (Fr.below hB) ⟨fun _ _ q=>q,fun q=>q⟩;have hfj:=hle.out (xs.take j);replace hfj:s.fre (xs.take j)≤4096*s.C:=hfj;by_cases hlt:j<xs.length
  ·have d8:decide ((j:Int)<(xs.length:Int))=true:=decide_eq_true (by omega)
   obtain⟨gw,ow,rfl,hc⟩:=hcs.out (by omega);have c0:=keep_b hB (hc j hlt);have htk:=List.take_succ_eq_append_getElem hlt;have hfj2:=hle.out (xs.take (j+1));replace hfj2:s.fre (xs.take (j+1))≤4096*s.C:=hfj2;generalize xs[j]=x at *;have hi:=HD (cmIs b x wr hh);by_cases hxc:0≤x∧x<s.C
   ·obtain⟨c,rfl⟩:∃c:Nat,x=c:=⟨x.toNat,by omega⟩
    have hcC:c<s.C:=by omega
    rw [decide_eq_true hxc] at hi;have c1:wr.cell? ⟨w.heap.size,c,none⟩=some (.bool (decide ((c:Int)∈xs.take j))):=by
     rw [cell_of_row wr w.heap.size c _ _ _ hL];simpa using hLs c hcC
    have hc32:(c:Int)<32:=by omega
    by_cases hm:(c:Int)∈xs.take j
    ·rw [decide_eq_true hm] at c1
     have hsame:=HD (fre_skip s (l:=xs.take j) (x:=c) (.inr hm));have hLs2:Hid (∀d,d<s.C→L[d]? = some (.bool (decide ((d:Int)∈xs.take (j+1))))):=HD (fun d hd=>by
      rw [hLs d hd,htk];have:((d:Int)∈xs.take j)↔((d:Int)∈xs.take j++[(c:Int)]):=by
       simp only [List.mem_append,List.mem_singleton];constructor
       ·exact fun q=>.inl q
       ·rintro (q|q)
        ·exact q
        ·rw [q];exact hm
      simp only [this])
     rw [←htk] at hsame;replace hL:=HD hL;replace hxc:=HD hxc;clear hLs hh hm htk hfj2;go_wp2_with fail;refine SM hi.out ?_;go_wp2_with fail;go_roundg (xs.length-(j+1))
     case measure=>omega
     case rel=>exact⟨j+1,L,by omega,rfl,by go_num,by rw [hsame.out],hB,hL.out,hLl,hLs2.out⟩
    ·rw [decide_eq_false hm] at c1
     have hadd:=HD (fre_take s hcC hm);rw [←htk] at hadd;obtain⟨g,cap,bs,p2,pc⟩:=hh.ptr;obtain⟨p3,p4⟩:=pc c hcC;have p2':=keep_set (q:=⟨w.heap.size,c,none⟩) (u:=.bool true) (by
      have h1:b<w.heap.size:=block_lt h.out.cells.1;exact addr_ne (by show w.heap.size≠b;omega)) p2
     have hgne:w.heap.size≠g:=fun e=>by
      have h2:=h.out.ptr;obtain⟨g',cap',bs',q2,qc⟩:=h2;have q2':=keep_b hB q2;rw [p2] at q2';simp at q2'
      have:=block_lt (qc c hcC).1;simp only at this;omega
     have p3':=keep_set (q:=⟨w.heap.size,c,none⟩) (u:=.bool true) (addr_ne (by show w.heap.size≠g;exact hgne)) p3;have f1:wr.frozen? ⟨w.heap.size,c,none⟩=false:=by simp [World.frozen?,hL]
     have hB2:Below w.heap.size w (wr.setCell ⟨w.heap.size,c,none⟩ (.bool true)):=hB.setCell (p:=⟨w.heap.size,c,none⟩) (Nat.le_refl _) _;have hh2:=h.out.fr (S:=fun _=>False) (Fr.below hB2) ⟨fun _ _ q=>q,fun q=>q⟩;obtain⟨g2,cap2,bs2,r2,rc⟩:=hh2.ptr;have hfr:Hid (Calls Tryz.prog 81 #[.pointer (some ⟨bs c,0,none⟩)] (wr.setCell ⟨w.heap.size,c,none⟩ (.bool true)) fun e w'=>e=.returned (.int .i64 (s.sh c).cnt)∧w'=wr.setCell ⟨w.heap.size,c,none⟩ (.bool true)):=HD (by
      obtain⟨r3,r4⟩:=rc c hcC;rw [p2'] at r2;simp at r2
      rw [←r2.1,p3'] at r3;simp at r3
      rw [r3];exact shFree _ _ r4)
     have hL2:Hid ((wr.setCell ⟨w.heap.size,c,none⟩ (.bool true)).heap[w.heap.size]? = some (.cells (L.set c (.bool true)).toArray 249 (0,0))):=HD (by simp [World.setCell,Array.getElem?_modify,hL]);have hLs2:Hid (∀d,d<s.C→(L.set c (.bool true))[d]? = some (.bool (decide ((d:Int)∈xs.take (j+1))))):=HD (fun d hd=>by
      rw [htk,List.getElem?_set];by_cases e:c=d
      ·subst e
       rw [if_pos rfl,if_pos (by omega)];simp
      ·rw [if_neg e,hLs d hd]
       have:((d:Int)∈xs.take j)↔((d:Int)∈xs.take j++[(c:Int)]):=by
        simp only [List.mem_append,List.mem_singleton];constructor
        ·exact fun q=>.inl q
        ·rintro (q|q)
         ·exact q
         ·exact absurd (by omega) e
       simp only [this])
     have hLl2:Hid ((L.set c (.bool true)).length=32):=HD (by rw [List.length_set];exact hLl);have hbd:(s.fre (xs.take j):Int)+((s.sh c).cnt:Int)≤131072:=by have:=hadd.out;omega
     generalize s.fre (xs.take j)=n at *;generalize (s.sh c).cnt=k at *;replace hxc:=HD hxc;clear hLs hh hh2 hm htk hfj2 hL rc r2 pc p4 p2 p3 hgne hLl;go_wp2_with fail;refine SM hi.out ?_;go_wp2_with fail;refine SM hfr.out ?_;go_wp2_with fail;go_roundg (xs.length-(j+1))
     case measure=>omega
     case rel=>exact⟨j+1,_,by omega,rfl,by go_num,by rw [hadd.out];simp,hB2,hL2.out,hLl2.out,hLs2.out⟩
   ·rw [decide_eq_false hxc] at hi
    have hsame:=HD (fre_skip s (l:=xs.take j) (x:=x) (.inl hxc));have hLs2:Hid (∀d,d<s.C→L[d]? = some (.bool (decide ((d:Int)∈xs.take (j+1))))):=HD (fun d hd=>by
     rw [hLs d hd,htk];have:((d:Int)∈xs.take j)↔((d:Int)∈xs.take j++[x]):=by
      simp only [List.mem_append,List.mem_singleton];constructor
      ·exact fun q=>.inl q
      ·rintro (q|q)
       ·exact q
       ·exact absurd (by omega) hxc
     simp only [this])
    rw [←htk] at hsame;replace hL:=HD hL;replace hxc:=HD hxc;clear hLs hh htk hfj2;go_wp2_with fail;refine SM hi.out ?_;go_wp2_with fail;go_roundg (xs.length-(j+1))
    case measure=>omega
    case rel=>exact⟨j+1,L,by omega,rfl,by go_num,by rw [hsame.out],hB,hL.out,hLl,hLs2.out⟩
  ·obtain rfl:j=xs.length:=by omega
   rw [List.take_length] at *;replace hL:=HD hL;replace hLs:=HD hLs;clear hh;go_wp2_with fail;go_ret
   exact⟨rfl,hB⟩
end
section
open Go.RowKit
def CmS.up(s:CmS)(c:Nat)(x:ShS):CmS:={s with sh:=fun d=>if d=c then x else s.sh d}
theorem not_child(t r:Tag)(c:Nat):¬Und (t++c :: r) t:=fun q=>by have:=List.IsPrefix.length_le q;simp at this;omega
theorem CmAt.step{w:World}{o:Nat→Tag}{t:Tag}{b:Nat}{s:CmS}(h:CmAt w o t b s)(h9:¬t <+: [9]) :
  ∃(g cap:Nat) (bs:Nat→Nat),w.cell? ⟨b,2,none⟩=some (.slice (some ⟨g,0,none⟩) s.C cap)∧∀c,c<s.C→w.cell? ⟨g,c,none⟩=some (.pointer (some ⟨bs c,0,none⟩))∧ShAt w o (t++[c]) (bs c) (s.sh c) ∧
   ∀w' x',x'.n=(s.sh c).n→ShAt w' o (t++[c]) (bs c) x'→Fr (Und (t++[c])) w o w' o→CmAt w' o t b (s.up c x')∧Fr (Und t) w o w' o∧∀(p:Addr) (u:Value),(p.block=b∨p.block=g)→w.cell? p=some u→w'.cell? p=some u:=by
 obtain⟨h0,g,cap,L,bs,h1,h2,h3,h4,h5⟩:=h;refine⟨g,cap,bs,h1.cell' (i:=2) rfl,fun c hc=>⟨h2.cell' (by simpa using h4 c hc),h5 c hc,fun w' x' hn hx f=>⟨⟨?_,g,cap,L,bs,?_,?_,h3,h4,fun d hd=>?_⟩,f.mono (fun _ q=>Und.up q),fun p u hp hu=>f.only.cell hu (fun q=>by
  rcases hp with e|e
  ·rw [e,h1.1] at q;exact not_child t [] c q
  ·rw [e,h2.1] at q;exact not_child t [] c q)⟩⟩⟩
 ·obtain⟨a1,a2,a3,a4,a5,a6⟩:=h0
  refine⟨a1,a2,a3,a4,a5,fun d hd=>?_⟩;show (if d=c then x' else s.sh d).n=_
  split
  ·rename_i e;subst e;rw [hn];exact a6 d hd
  ·exact a6 d hd
 ·exact h1.fr f (not_child t [] c)
 ·exact h2.fr f (not_child t [] c)
 ·show ShAt w' o (t++[d]) (bs d) (if d=c then x' else s.sh d)
  by_cases e:d=c
  ·subst e;rw [if_pos rfl];exact hx
  ·rw [if_neg e]
   exact(h5 d hd).fr f (off_one (fun q=>e q.symm) h9)
theorem take_n(s:ShS)(k:Int):(s.take k).n=s.n:=by unfold ShS.take ShS.flip;split<;>rfl
theorem give_n(s:ShS)(k:Int):(s.give k).n=s.n:=by unfold ShS.give ShS.flip;split<;>rfl
def CmS.giveE(s:CmS)(p:Int):Int:=if 0≤p∧p<s.P then (s.sh (p.toNat%s.C)).giveE (p.toNat/s.C:Nat) else 12
def CmS.give(s:CmS)(p:Int):CmS:=if 0≤p∧p<s.P then s.up (p.toNat%s.C) ((s.sh (p.toNat%s.C)).give (p.toNat/s.C:Nat)) else s
def CmPost(w:World)(o:Nat→Tag)(t:Tag)(b:Nat)(v:Value)(s:CmS)(e:Ending)(w':World):Prop:=e=.returned v∧CmAt w' o t b s∧Fr (Und t) w o w' o
theorem cmGive(b:Nat)(p:Int)(w:World){o:Nat→Tag}{t:Tag}{s:CmS}(h:CmAt w o t b s)(h9:¬t <+: [9]) :
  Calls Tryz.prog 133 #[.pointer (some ⟨b,0,none⟩),.int .i64 p] w (CmPost w o t b (.int .i64 (s.giveE p)) (s.give p)):=by
 have hw:=HD (cmWithin b p w h);unfold CmS.giveE CmS.give;by_cases hp:0≤p∧p<s.P
 ·obtain⟨n,rfl⟩:∃n:Nat,p=n:=⟨p.toNat,by omega⟩
  rw [if_pos hp,if_pos hp];rw [decide_eq_true hp] at hw;simp only [Int.toNat_natCast];obtain⟨c0,c1,h1,h2,h3,h4,_⟩:=h.cells;have hh:=h.fr (S:=fun _=>False) (Fr.drew (w:=w) (o:=o)) ⟨fun _ _ q=>q,fun q=>q⟩;obtain⟨g,cap,bs,p2,pc⟩:=hh.step h9;have hm:n%s.C<s.C:=Nat.mod_lt _ (by omega);obtain⟨p3,p4,p5⟩:=pc _ hm;have hg:=HD (shGive (bs (n%s.C)) (n/s.C:Nat) w.drew p4 (t:=t++[n%s.C]) (fun q=>h9 (List.IsPrefix.trans (List.prefix_append t _) q)));have hfin:=HD (p5 · ((s.sh (n%s.C)).give (n/s.C:Nat)) (give_n _ _));obtain⟨d0,d1,d2,d3,d4⟩:=cm_div (P:=n) h1 (by omega);have d5:(n:Int)%s.C=((n%s.C:Nat):Int):=by simp
  have d6:(0:Int)≤((n%s.C:Nat):Int):=by omega
  have d7:((n%s.C:Nat):Int)<s.C:=by omega
  have d8:(((n%s.C:Nat):Int)).toNat=n%s.C:=by omega
  replace p2:w.cell? ⟨b,2,none⟩=some (.slice (some ⟨g,0,none⟩) s.C cap):=p2;replace p3:w.cell? ⟨g,n%s.C,none⟩=some (.pointer (some ⟨bs (n%s.C),0,none⟩)):=p3;generalize bs (n%s.C)=bp at *;generalize (s.sh (n%s.C)).giveE (n/s.C:Nat)=E at *;generalize s.up (n%s.C) ((s.sh (n%s.C)).give (n/s.C:Nat))=s' at *;generalize (s.sh (n%s.C)).give (n/s.C:Nat)=x' at *;generalize t++[n%s.C]=tc at *;generalize n%s.C=q at *;generalize n/s.C=r at *;replace hp:=HD hp;clear pc p4 p5 h hh h2 h3 h4 d5;go_enter Tryz.func133,Tryz.ntmps133
  go_wp2_with fail;refine SM hw.out ?_;go_wp2_with fail;go_still_tail 20,(by kernel_rfl)
  change wpList _ _ _ _ _ w.drew;go_wp2_with fail;refine hg.out.mono ?_;rintro e w1 ⟨rfl,r1,r2⟩;have hf:=HD (hfin.out w1 r1 r2);clear r1 r2;go_wp2_with fail;go_ret
  exact⟨rfl,hf.out.1,Fr.drew.trans hf.out.2.1⟩
 ·rw [if_neg hp,if_neg hp]
  rw [decide_eq_false hp] at hw;replace h:=HD h;clear hp;go_enter Tryz.func133,Tryz.ntmps133
  go_wp2_with fail;refine SM hw.out ?_;go_wp2_with fail;go_ret
  exact⟨rfl,h.out,Fr.refl _ _ _⟩
def CmS.better(s:CmS)(best x:Int):Int:=if 0≤x∧x<s.C then (if 0≤(s.sh x.toNat).lowI∧(best<0∨(s.sh x.toNat).lowI*s.C+x<best) then (s.sh x.toNat).lowI*s.C+x else best) else best
def CmS.best(s:CmS)(xs:List Int):Int:=xs.foldl s.better (-1)
theorem best_snoc(s:CmS)(l:List Int)(x:Int):s.best (l++[x])=s.better (s.best l) x:=by unfold CmS.best;rw [List.foldl_append];rfl
theorem low_lt(s:ShS):-1≤s.lowI∧s.lowI<max 1 s.n:=by
 rcases low_cases s with ⟨e,_⟩|⟨k,e,_,hk,_⟩<;>omega
theorem better_le(s:CmS)(hC:s.C≤32)(hn:∀c,c<s.C→(s.sh c).n≤4096){b x:Int}(h:-1≤b∧b≤132000):-1≤s.better b x∧s.better b x≤132000:=by
 unfold CmS.better;by_cases h0:0≤x∧x<s.C
 ·rw [if_pos h0]
  by_cases h1:0≤(s.sh x.toNat).lowI∧(b<0∨(s.sh x.toNat).lowI*s.C+x<b)
  ·rw [if_pos h1]
   have:=hn x.toNat (by omega);have h2:=low_lt (s.sh x.toNat);have h3:(s.sh x.toNat).lowI*s.C≤4096*32:=by
    have a:(s.sh x.toNat).lowI≤4096:=by omega
    have b:(s.C:Int)≤32:=by omega
    have:=Int.mul_le_mul a b (by omega) (by omega);exact this
   have h4:0≤(s.sh x.toNat).lowI*s.C:=Int.mul_nonneg h1.1 (by omega);omega
  ·rw [if_neg h1];exact h
 ·rw [if_neg h0];exact h
theorem best_le(s:CmS)(hC:s.C≤32)(hn:∀c,c<s.C→(s.sh c).n≤4096):∀xs,-1≤s.best xs∧s.best xs≤132000:=by
 have:∀(xs:List Int) (b:Int),-1≤b∧b≤132000→-1≤xs.foldl s.better b∧xs.foldl s.better b≤132000:=by
  intro xs;induction xs with
  |nil=>intro b h;exact h
  |cons x xs ih=>intro b h;exact ih _ (better_le s hC hn h)
 exact fun xs=>this xs (-1) (by omega)
def CmS.tkV(s:CmS)(xs:List Int):Int:=if s.best xs<0 then 0 else s.best xs
def CmS.tkE(s:CmS)(xs:List Int):Int:=if s.best xs<0 then 13 else (s.sh ((s.best xs).toNat%s.C)).takeE ((s.best xs).toNat/s.C:Nat)
def CmS.tk(s:CmS)(xs:List Int):CmS:=if s.best xs<0 then s else s.up ((s.best xs).toNat%s.C) ((s.sh ((s.best xs).toNat%s.C)).take ((s.best xs).toNat/s.C:Nat))
set_option maxHeartbeats 2000000 in
theorem cmTake(b:Nat)(v:Value)(xs:List Int)(w:World){o:Nat→Tag}{t:Tag}{s:CmS}(h:CmAt w o t b s)(h9:¬t <+: [9])(hv:IntsW w v xs)(hx:xs.length≤1000) :
  Calls Tryz.prog 129 #[.pointer (some ⟨b,0,none⟩),v] w (CmPost w o t b (.tuple #[.int .i64 (s.tkV xs),.int .i64 (s.tkE xs)]) (s.tk xs)):=by
 obtain⟨A,cap0,rfl,hcs⟩:=hv;obtain⟨c0,c1,h1,h2,h3,h4,h5,h6⟩:=h.cells;have hE:∀c,c<s.C→(s.sh c).n≤4096:=fun c hc=>by rw [h6 c hc];exact Nat.le_trans (Nat.div_le_self _ _) h4
 have hbl:=HD (best_le s h2 hE);replace hE:=HD hE;have hhd:=h.fr (S:=fun _=>False) (Fr.drew (w:=w) (o:=o)) ⟨fun _ _ q=>q,fun q=>q⟩;have hstep:=HD (hhd.step h9);obtain⟨g,cap,bs,p2,pc⟩:=h.ptr;replace pc:=HD pc;replace hhd:=HD hhd;replace h:=HD h;replace hcs:=HD hcs;replace h6:=HD h6;have hC1:(1:Int)≤s.C:=by omega
 have hC32:(s.C:Int)≤32:=by omega
 go_enter Tryz.func129,Tryz.ntmps129
 go_wp2_with fail;go_loopg [6,14] xs.length (fun gh n i wx=>w=wx∧∃j:Nat,j≤xs.length∧gh=xs.length-j∧i=.int .i64 j∧n=.int .i64 (s.best (xs.take j)))
 case atStart=>exact⟨rfl,0,Nat.zero_le _,rfl,rfl,rfl⟩
 case round =>
  obtain⟨rfl,j,hj,rfl,rfl,rfl⟩:=hrel;have hbj:=hbl.out (xs.take j);by_cases hlt:j<xs.length
  ·have d8:decide ((j:Int)<(xs.length:Int))=true:=decide_eq_true (by omega)
   obtain⟨gw,ow,rfl,hc⟩:=hcs.out (by omega);have cx:=hc j hlt;have htk:=List.take_succ_eq_append_getElem hlt;have hsn:=best_snoc s (xs.take j) xs[j];rw [←htk] at hsn;generalize xs[j]=x at *;clear htk hc;have hi:=HD (cmIs b x w h.out);generalize s.best (xs.take j)=best at *;by_cases hxc:0≤x∧x<s.C
   ·obtain⟨c,rfl⟩:∃c:Nat,x=c:=⟨x.toNat,by omega⟩
    have hcC:c<s.C:=by omega
    rw [decide_eq_true hxc] at hi;obtain⟨p3,p4⟩:=pc.out c hcC;have hlo:=HD (shLowest (bs c) w p4);have hlb:=low_lt (s.sh c);have hnc:=hE.out c hcC;unfold CmS.better at hsn;rw [if_pos hxc,Int.toNat_natCast] at hsn;generalize hk:(s.sh c).lowI=k at *;have hmul:k*s.C≤131072:=by
     by_cases e:0≤k
     ·have a:k≤4096:=by omega
      exact Int.mul_le_mul a hC32 (by omega) (by omega)
     ·have:k=-1:=by omega
      rw [this];omega
    have hmul0:-32≤k*s.C:=by
     by_cases e:0≤k
     ·have:=Int.mul_nonneg e (show (0:Int)≤s.C by omega);omega
     ·have:k=-1:=by omega
      rw [this];omega
    replace hxc:=HD hxc;replace hk:=HD hk;by_cases hk0:0≤k
    ·by_cases hb0:best<0
     ·rw [if_pos ⟨hk0,.inl hb0⟩] at hsn
      replace hsn:=HD hsn;go_wp2_with fail;refine SM hi.out ?_;go_wp2_with fail;refine SM hlo.out ?_;go_wp2_with fail;go_roundg (xs.length-(j+1))
      case measure=>omega
      case rel=>exact⟨rfl,j+1,by omega,rfl,by go_num,by rw [hsn.out]⟩
     ·by_cases hlt2:k*s.C+c<best
      ·rw [if_pos ⟨hk0,.inr hlt2⟩] at hsn
       replace hsn:=HD hsn;go_wp2_with fail;refine SM hi.out ?_;go_wp2_with fail;refine SM hlo.out ?_;go_wp2_with fail;go_roundg (xs.length-(j+1))
       case measure=>omega
       case rel=>exact⟨rfl,j+1,by omega,rfl,by go_num,by rw [hsn.out]⟩
      ·rw [if_neg (fun q=>by rcases q.2 with q|q;exact hb0 q;exact hlt2 q)] at hsn
       replace hsn:=HD hsn;go_wp2_with fail;refine SM hi.out ?_;go_wp2_with fail;refine SM hlo.out ?_;go_wp2_with fail;go_roundg (xs.length-(j+1))
       case measure=>omega
       case rel=>exact⟨rfl,j+1,by omega,rfl,by go_num,by rw [hsn.out]⟩
    ·rw [if_neg (fun q=>hk0 q.1)] at hsn
     replace hsn:=HD hsn;go_wp2_with fail;refine SM hi.out ?_;go_wp2_with fail;refine SM hlo.out ?_;go_wp2_with fail;go_roundg (xs.length-(j+1))
     case measure=>omega
     case rel=>exact⟨rfl,j+1,by omega,rfl,by go_num,by rw [hsn.out]⟩
   ·rw [decide_eq_false hxc] at hi
    unfold CmS.better at hsn;rw [if_neg hxc] at hsn;replace hsn:=HD hsn;clear hxc;go_wp2_with fail;refine SM hi.out ?_;go_wp2_with fail;go_roundg (xs.length-(j+1))
    case measure=>omega
    case rel=>exact⟨rfl,j+1,by omega,rfl,by go_num,by rw [hsn.out]⟩
  ·obtain rfl:j=xs.length:=by omega
   rw [List.take_length] at *;by_cases hb0:s.best xs<0
   ·have hV:=HD (show s.tkV xs=0 by unfold CmS.tkV;rw [if_pos hb0])
    have hE':=HD (show s.tkE xs=13 by unfold CmS.tkE;rw [if_pos hb0]);have hS:=HD (show s.tk xs=s by unfold CmS.tk;rw [if_pos hb0]);generalize s.best xs=best at *;go_wp2_with fail;go_ret2
    rw [hV.out,hE'.out,hS.out];exact⟨rfl,h.out,Fr.refl _ _ _⟩
   ·have hV:=HD (show s.tkV xs=s.best xs by unfold CmS.tkV;rw [if_neg hb0])
    have hE':=HD (show s.tkE xs=(s.sh ((s.best xs).toNat%s.C)).takeE ((s.best xs).toNat/s.C:Nat) by unfold CmS.tkE;rw [if_neg hb0]);have hS:=HD (show s.tk xs=s.up ((s.best xs).toNat%s.C) ((s.sh ((s.best xs).toNat%s.C)).take ((s.best xs).toNat/s.C:Nat)) by unfold CmS.tk;rw [if_neg hb0]);obtain⟨n,hn⟩:∃n:Nat,s.best xs=n:=⟨(s.best xs).toNat,by omega⟩
    rw [hn] at hbj hb0 hV hE' hS ⊢;simp only [Int.toNat_natCast] at hE' hS;have hn':=HD hn;clear hn;obtain⟨g',cap',bs',q2,qc⟩:=hstep.out;have hm:n%s.C<s.C:=Nat.mod_lt _ (by omega);obtain⟨q3,q4,q5⟩:=qc _ hm;have hg:=HD (shTakeAt (bs' (n%s.C)) (n/s.C:Nat) w.drew q4 (t:=t++[n%s.C]) (fun q=>h9 (List.IsPrefix.trans (List.prefix_append t _) q)));have hfin:=HD (q5 · ((s.sh (n%s.C)).take (n/s.C:Nat)) (take_n _ _));obtain⟨d0,d1,d2,d3,d4⟩:=cm_div (P:=n) h1 (by omega);have d6:(0:Int)≤((n%s.C:Nat):Int):=by omega
    have d7:((n%s.C:Nat):Int)<s.C:=by omega
    have d8:(((n%s.C:Nat):Int)).toNat=n%s.C:=by omega
    replace q2:w.cell? ⟨b,2,none⟩=some (.slice (some ⟨g',0,none⟩) s.C cap'):=q2;replace q3:w.cell? ⟨g',n%s.C,none⟩=some (.pointer (some ⟨bs' (n%s.C),0,none⟩)):=q3;generalize bs' (n%s.C)=bp at *;generalize (s.sh (n%s.C)).takeE (n/s.C:Nat)=E at *;generalize s.up (n%s.C) ((s.sh (n%s.C)).take (n/s.C:Nat))=s' at *;generalize (s.sh (n%s.C)).take (n/s.C:Nat)=x' at *;generalize t++[n%s.C]=tc at *;generalize n%s.C=q at *;generalize n/s.C=r at *;clear qc q4 q5 pc hstep p2;go_wp2_with fail;refine wp_region_noPanic ?_;refine wp_region_held_drew (S:=(fun W=>W.cell? ⟨b,2,none⟩=some (.slice (some ⟨g',0,none⟩) s.C cap')∧W.cell? ⟨b,1,none⟩=some (.int .i64 s.C)∧W.cell? ⟨g',q,none⟩=some (.pointer (some ⟨bp,0,none⟩)))) (by kernel_rfl) ?_ (fun hHeld=>?_)
    ·((try dsimp only at *);go_split_ands;refine⟨?_,?_,?_⟩<;>(first|with_reducible assumption|with_reducible exact keep_drew q2|with_reducible exact keep_drew c1|with_reducible exact keep_drew q3|exact hcs'.1|exact hcs'.2.1|exact hcs'.2.2))
    refine tkH 0 (h:=?_);refine tkH 1 (h:=?_);refine tkH 2 (h:=?_);refine tkH 3 (h:=?_);refine tkH 4 (h:=?_);refine tkH 5 (h:=?_);refine tkH 6 (h:=?_);refine tkH 7 (h:=?_);refine tkH 8 (h:=?_);refine tkH 9 (h:=?_);refine tkH 10 (h:=?_);refine tkH 11 (h:=?_);refine tkH 12 (h:=?_);refine tkH 13 (h:=?_);refine tkH 14 (h:=?_);refine tkH 15 (h:=?_);refine tkH 16 (h:=?_);refine tkH 17 (h:=?_);refine tkH 18 (h:=?_);refine tkH 19 (h:=?_);refine tkH 20 (h:=?_);refine onH 21 (h:=fun K hK=>?_);go_simp;refine hg.out.mono ?_;rintro e w1 ⟨rfl,r1,r2⟩;have hf:=HD (hfin.out w1 r1 r2);have hcs':w1.cell? ⟨b,2,none⟩=some (.slice (some ⟨g',0,none⟩) s.C cap')∧w1.cell? ⟨b,1,none⟩=some (.int .i64 s.C)∧w1.cell? ⟨g',q,none⟩=some (.pointer (some ⟨bp,0,none⟩)):=⟨hf.out.2.2 _ _ (.inl rfl) q2,hf.out.2.2 _ _ (.inl rfl) c1,hf.out.2.2 _ _ (.inr rfl) q3⟩
    clear r1 r2;go_wp2_with fail;refine hK.out _ _ ?_ (fun hHeld=>?_)
    ·((try dsimp only at *);go_split_ands;refine⟨?_,?_,?_⟩<;>(first|with_reducible assumption|with_reducible exact keep_drew q2|with_reducible exact keep_drew c1|with_reducible exact keep_drew q3|exact hcs'.1|exact hcs'.2.1|exact hcs'.2.2))
    clear hK;refine nmH (h:=?_);refine tkH 22 (h:=?_);refine tkH 23 (h:=?_);refine wpAnyH_done (by kernel_rfl) ?_ _;refine NoPanic.normal ?_;go_wp2_with fail;go_ret2
    rw [hV.out,hE'.out,hS.out];exact⟨rfl,hf.out.1,Fr.drew.trans hf.out.2.1⟩
end
section
open Go.RowKit
theorem infoShp:(Tryz.prog.info? 142).map (fun i=>(i.zero,i.size,i.bytes))=some (some (.pointer none),1,8):=by kernel_rfl
def CmS.new(P C:Nat):CmS:=⟨P,C,fun _=>ShS.new (P/C)⟩
def CmNew(w:World)(o:Nat→Tag)(t:Tag)(P C:Nat)(e:Ending)(w':World):Prop:=∃(b:Nat) (o':Nat→Tag),e=.returned (.tuple #[.pointer (some ⟨b,0,none⟩),.int .i64 0])∧CmAt w' o' t b (CmS.new P C)∧Fr (fun _=>False) w o w' o'
def ptrs(bs:List Nat):List Value:=bs.map fun b=>.pointer (some ⟨b,0,none⟩)
structure CmRel(w:World)(o:Nat→Tag)(t:Tag)(P C bm:Nat)(wx:World)(o1:Nat→Tag)(v:Value)(j:Nat)(bs:List Nat):Prop where
 cfg:Blk wx o1 (0 :: t) w.heap.size #[.int .i64 P,.int .i64 C] 23
 st:Blk wx o1 t bm #[.int .i64 P,.int .i64 C,v] 141
 row:wx.ownsRow w.heap.size 142 1 v j (ptrs bs)
 ob:∀q,v.ownBlock=some q→o1 q=t∧q≠bm∧q≠w.heap.size
 len:bs.length=j
 sh:∀c (h:c<bs.length),ShAt wx o1 (t++[c]) bs[c] (ShS.new (P/C))
 fr:Fr (fun _=>False) w o wx o1
theorem cmNew_no(P C:Int)(w:World)(h:cfgB P C=false) :
  Calls Tryz.prog 44 #[.agg #[.int .i64 P,.int .i64 C]] w fun e w'=>e=.returned (.tuple #[.pointer none,.int .i64 12])∧Below w.heap.size w w':=by
 have hc:=HD (cmCheck P C (w.alloc (.cells #[.int .i64 P,.int .i64 C] 23)));rw [h] at hc;have hB:Hid (Below w.heap.size w (w.alloc (.cells #[.int .i64 P,.int .i64 C] 23))):=HD (below_alloc (Nat.le_refl _) (Below.refl _ _));clear h;go_enter Tryz.func44,Tryz.ntmps44
 go_wp2_with fail;refine hc.out.mono ?_;rintro e w1 ⟨rfl,hb⟩;have hb':=HD hb;clear hb;go_wp2_with fail;go_ret2
 exact⟨rfl,below_s hB.out hb'.out⟩
theorem cmNew_yes(P C:Nat)(w:World)(o:Nat→Tag)(t:Tag)(hT:Tab w o)(h9:¬t <+: [9])(h:cfgB P C=true) :
  Calls Tryz.prog 44 #[.agg #[.int .i64 P,.int .i64 C]] w (CmNew w o t P C):=by
 obtain⟨i0,hi,hz0,hz1,hz2⟩:=info_parts infoShp;have hc:=HD (cmCheck P C (w.alloc (.cells #[.int .i64 P,.int .i64 C] 23)));rw [h] at hc;obtain⟨h1,h2,h3,h4,h5⟩:=cfg_iff.1 h;clear h;go_enter Tryz.func44,Tryz.ntmps44
 go_wp2_with fail;refine hc.out.mono ?_;rintro e w1 ⟨rfl,hb⟩;have b0:=Blk.made w o (0 :: t) #[.int .i64 P,.int .i64 C] 23;have b1:=b0.fr (S:=fun _=>False) (Fr.below hb) (fun q=>q);have f1:=((Fr.alloc (S:=fun _=>False) (w:=w) (o:=o) (.cells #[.int .i64 P,.int .i64 C] 23) (0 :: t)).trans (Fr.below hb)).al' (.cells #[.int .i64 P,.int .i64 C,.slice none 0 0] 141) t;have b2:=(b1.setO (k:=w1.heap.size) (u:=t) (Nat.le_refl _)).alloc (.cells #[.int .i64 P,.int .i64 C,.slice none 0 0] 141);have s2:=Blk.made w1 (setO o w.heap.size (0 :: t)) t #[.int .i64 P,.int .i64 C,.slice none 0 0] 141;have hR:CmRel w o t P C w1.heap.size (w1.alloc (.cells #[.int .i64 P,.int .i64 C,.slice none 0 0] 141)) (setO (setO o w.heap.size (0 :: t)) w1.heap.size t) (.slice none 0 0) 0 [] :=
  ⟨b2,s2,World.ownsRow_nil _ _ _ _,fun q hq=>(by cases hq),rfl,fun c hc=>absurd hc (by simp),f1⟩
 have d0:=keep_alloc (o:=.cells #[.int .i64 P,.int .i64 C,.slice none 0 0] 141) (b1.cell' (i:=0) rfl);have d1:=keep_alloc (o:=.cells #[.int .i64 P,.int .i64 C,.slice none 0 0] 141) (b1.cell' (i:=1) rfl);have a0:w1.cell? ⟨w.heap.size,0,none⟩=some (.int .i64 P):=b1.cell' (i:=0) rfl;have a1:w1.cell? ⟨w.heap.size,1,none⟩=some (.int .i64 C):=b1.cell' (i:=1) rfl;have hbm:w.heap.size<w1.heap.size:=b1.lt;clear b0 b1 f1 b2 s2 hb;replace hR:=HD hR;generalize hbmE:w1.heap.size=bm at *;go_wp2_with fail;go_loopg [18] C (fun gh i wx=>∃(j:Nat) (o1:Nat→Tag) (v:Value) (bs:List Nat),j≤C∧gh=C-j∧i=.int .i64 j∧CmRel w o t P C bm wx o1 v j bs)
 case atStart=>exact⟨0,_,_,_,Nat.zero_le _,rfl,rfl,hR.out⟩
 case round =>
  clear hR;obtain⟨j,o1,v,bs,hj,rfl,rfl,hR⟩:=hrel;by_cases hlt:j<C
  ·have d8:decide ((j:Int)<(C:Int))=true:=decide_eq_true (by omega)
   have c0:wr.cell? ⟨w.heap.size,0,none⟩=some (.int .i64 P):=hR.cfg.cell' (i:=0) rfl;have c1:wr.cell? ⟨w.heap.size,1,none⟩=some (.int .i64 C):=hR.cfg.cell' (i:=1) rfl;obtain⟨e0,e1,_,e3,_⟩:=cm_div (P:=P) (C:=C) (by omega) (by omega);have hdl:=Nat.div_le_self P C;have hn:=HD (shNew (P/C) wr o1 (t++[j]) (hT.fr hR.fr (fun q=>q)) (by omega));have hq:(P:Int)/C=((P/C:Nat):Int):=by simp
   replace hR:=HD hR;generalize hEE:P/C=E at hn e1 e3 hdl hq ⊢;have hE':=HD hEE;clear hEE;go_wp2_with fail;refine hn.out.mono ?_;rintro e w2 ⟨b',o2,rfl,hs,hf⟩;have hR1:=hR.out;have hst:=hR1.st.fr hf (fun q=>q);have hcf:=hR1.cfg.fr hf (fun q=>q);have hrow:=hf.only.owns hR1.row (fun _ _ q=>q);have g2:w2.cell? ⟨bm,2,none⟩=some v:=hst.cell' (i:=2) rfl;have g2':=keep_alloc (o:=.cells #[.pointer (some ⟨b',0,none⟩)] 142) g2;have hjb:(j:Int)≤32:=by omega
   replace hs:=HD hs;replace hf:=HD hf;go_wp2_with (at_builtin;refine wpList_append_lies _ rfl _ _ 139 rfl w.heap.size 142 i0 (.pointer none) 1 8 Tryz.underlying139 hi hz0 hz1 hz2 rfl (by decide) _ _ _ rfl (hrow.alloc _) _ 1 1 [.pointer (some ⟨b',0,none⟩)] rfl rfl ?c1 ?c2 (by decide) ?c3 ?c4 ?c5 (w2.heap.size+1) (by simp) ?_)
   case c1 =>
    intro q u hq;match q,hq with
    |0,hq=>simp at hq;subst hq;simp [Addr.add]
   case c2=>intro u hu;simp at hu;rw [hu];rfl
   case c3=>unfold maxLen;omega
   case c4=>omega
   case c5=>have h1:=hR1.fr.size;have h2:=hf.out.size;simp;omega
   intro q1 cap1 w3 hr1 hg1 hv1 _;have hO3:Only (fun k=>v.ownBlock=some k) w2 w3:=((Only.refl _ _).alloc _).grown hg1 (fun k hk _=>hk);have hbl:=hst.lt;have hcl:=hcf.lt;have hob:=hR1.ob;have hext:=hf.out.ext;have hrl:=hR1.row.lt;have hst3:Blk w3 (newO o2 w2 t) t bm #[.int .i64 P,.int .i64 C,v] 141:=⟨(newO_old hbl).trans hst.1,(hO3.block bm hbl (fun q=>(hob bm q).2.1 rfl)).trans hst.2⟩
   have hcf3:Blk w3 (newO o2 w2 t) (0 :: t) w.heap.size #[.int .i64 P,.int .i64 C] 23:=⟨(newO_old hcl).trans hcf.1,(hO3.block w.heap.size hcl (fun q=>(hob _ q).2.2 rfl)).trans hcf.2⟩
   have hv2:(Value.slice (some ⟨q1,0,none⟩) (j+1) cap1).ownBlock=v.ownBlock∨(Value.slice (some ⟨q1,0,none⟩) (j+1) cap1).ownBlock=some (w2.heap.size+1):=hv1.imp (fun e=>e.symm) (fun e=>by rw [←e];rfl);have hb3:∀q,(Value.slice (some ⟨q1,0,none⟩) (j+1) cap1).ownBlock=some q→newO o2 w2 t q=t∧q≠bm∧q≠w.heap.size:=by
    intro q hq;rcases hv2 with e|e
    ·rw [e] at hq
     have hlt':=(hrl q hq).2;exact⟨(newO_old (Nat.lt_of_lt_of_le hlt' hf.out.size)).trans ((hext q hlt').trans (hob q hq).1),(hob q hq).2⟩
    ·rw [e] at hq;injection hq with hq
     exact⟨newO_new (by omega),by omega,by omega⟩
   have hFs:Fr (fun u=>u=t) w2 o2 (w3.setCell ⟨bm,2,none⟩ (.slice (some ⟨q1,0,none⟩) (j+1) cap1)) (newO o2 w2 t) :=
    Fr.of_new ((hO3.mono (fun k hk q=>by
     have hlt':=(hrl k q).2;exact(hext k hlt').trans (hob k q).1)).setCell (p:=⟨bm,2,none⟩) (fun _=>hst.1) _) t
   have hFw:Fr (fun _=>False) w o (w3.setCell ⟨bm,2,none⟩ (.slice (some ⟨q1,0,none⟩) (j+1) cap1)) (newO o2 w2 t):=by
    have h12:=hR1.fr.trans hf.out;refine⟨?_,fun k hk=>(newO_old (Nat.lt_of_lt_of_le hk h12.size)).trans (h12.ext k hk)⟩;have h3:Only (fun k=>v.ownBlock=some k∨k=bm) w2 (w3.setCell ⟨bm,2,none⟩ (.slice (some ⟨q1,0,none⟩) (j+1) cap1)):=(hO3.mono (fun k _ q=>.inl q)).setCell (p:=⟨bm,2,none⟩) (fun _=>.inr rfl) _;exact h12.only.seq h3 (fun i hi q=>by
     rcases q with q|q
     ·have:=(hrl i q).1;omega
     ·omega)
   have hR3:CmRel w o t P C bm (w3.setCell ⟨bm,2,none⟩ (.slice (some ⟨q1,0,none⟩) (j+1) cap1)) (newO o2 w2 t) (.slice (some ⟨q1,0,none⟩) (j+1) cap1) (j+1) (bs++[b']):=by
    refine⟨hcf3.set_ne (by show bm≠w.heap.size;omega) _,hst3.set 2 _,?_,hb3,by rw [List.length_append,hR1.len];rfl,fun c hc=>?_,hFw⟩
    ·have:ptrs (bs++[b'])=ptrs bs++[.pointer (some ⟨b',0,none⟩)]:=by unfold ptrs;simp
     rw [this];exact ownsRow_setCell_other hr1 (fun q=>(hb3 bm q).2.1 rfl) _
    ·have hoff:∀c,Off (fun u=>u=t) (t++[c]):=fun c=>⟨fun u hu e=>not_child t [] c (by rw [e] at hu;exact hu),fun e=>h9 (by rw [e];exact List.prefix_refl _)⟩
     by_cases hcb:c<bs.length
     ·have h1:=((hR1.sh c hcb).fr hf.out ⟨fun _ _ q=>q,fun q=>q⟩).fr hFs (hoff c)
      rw [hE'.out] at h1;rw [List.getElem_append_left hcb,hE'.out];exact h1
     ·have hcj:c=bs.length:=by simp at hc;omega
      subst hcj;rw [List.getElem_append_right (Nat.le_refl _),hE'.out];have h1:=hs.out.fr hFs (hoff j);have e:t++[j]=t++[bs.length]:=by rw [hR1.len]
      rw [e] at h1;simpa using h1
   replace hR3:=HD hR3;have e2:=hst3.cell' (i:=2) rfl;have f2:=hst3.free 2;clear hr1 hg1 hv1 hO3 hst3 hcf3 hv2 hb3 hFs hFw hR1 hst hcf hrow g2 g2' hob hext hrl;go_wp2_with fail;go_roundg (C-(j+1))
   case measure=>omega
   case rel=>exact⟨j+1,_,_,_,by omega,rfl,by go_num,hR3.out⟩
  ·obtain rfl:j=C:=by omega
   have hR1:=HD hR;obtain⟨q1,cap1,rfl,hqb,hql⟩:=hR.row.form (by omega);have hrc:=hR.row.2;have hlen:=hR.len;have hptr:Hid (∃L:List Value,Blk wr o1 t q1 L.toArray 142∧∀c (h:c<bs.length),L[c]? = some (.pointer (some ⟨bs[c],0,none⟩))):=HD (by
    rcases hrc with ⟨e,_⟩|⟨g',cap',cur,e,_,hh,hle,_,hsz,htk⟩
    ·cases e
    ·simp only [Value.slice.injEq,Option.some.injEq,Addr.mk.injEq] at e
     obtain⟨⟨rfl,_⟩,_,rfl⟩:=e;refine⟨cur.toList,⟨(hR.ob q1 rfl).1,by simpa using hh⟩,fun c hc=>?_⟩;have:(cur.toList.take (j*1))[c]? = (ptrs bs)[c]?:=by rw [htk]
     rw [List.getElem?_take,if_pos (by omega)] at this;rw [this];unfold ptrs;simp [hc])
   replace hR:=HD hR;clear hrc;go_wp2_with fail;go_ret2
   obtain⟨L,hL,hLp⟩:=hptr.out;have hr:=hR.out;refine⟨bm,o1,rfl,⟨⟨by show 1≤j;omega,by show j≤32;omega,by show 1≤P;omega,by show P≤4096;omega,by show P%j=0;omega,fun c _=>rfl⟩,q1,cap1,L,fun c=>bs.getD c 0,hr.st,hL,?_,fun c hc=>?_,fun c hc=>?_⟩,hr.fr⟩
   ·exact fun e=>(hr.ob q1 rfl).2.1 e.symm
   ·have hc':c<bs.length:=by rw [hlen];exact hc
    show L[c]? = some (.pointer (some ⟨bs.getD c 0,0,none⟩));rw [hLp c hc',List.getD_eq_getElem?_getD,List.getElem?_eq_getElem hc'];rfl
   ·have hc':c<bs.length:=by rw [hlen];exact hc
    have:=hr.sh c hc';show ShAt wr o1 (t++[c]) (bs.getD c 0) (ShS.new (P/j));rw [List.getD_eq_getElem?_getD,List.getElem?_eq_getElem hc'];exact this
end
end Go.Proofs.YtfliaggjkianpaaGreatDoor
