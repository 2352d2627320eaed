import Derived.Test.YtfliaggjkianpaaGreatDoorK03
set_option linter.unusedVariables false
set_option linter.unusedSimpArgs false
set_option maxRecDepth 100000
namespace Go.Proofs.YtfliaggjkianpaaGreatDoor
section
open Go.RowKit
theorem pgPost_after{w w1 w2:World}{o:Nat→Tag}{t u:Tag}{b a:Nat}{v:Value}{p:PgS}{B:List UInt8}{m:Nat}{e:Ending}(f:Fr (Und t) w o w1 o)(h:PgPost w1 o t u b a v p B m e w2):PgPost w o t u b a v p B m e w2:=by
 obtain⟨h1,o',h2,h3,h4⟩:=h;exact⟨h1,o',h2,h3,(f.mono fun v q=>.inl q).trans h4⟩
theorem pgAlloc_pop(b a:Nat)(w:World){o:Nat→Tag}{t u:Tag}{p:PgS}{B:List UInt8}{m k:Nat}{l:List Nat}(h:PgAt w o t b a p)(ha:ArAt w o u a B m)(hm:m<1000000)(hq:PgOk B p)(htu:Apart t u)(hr:p.pre.ready=k :: l) :
  Calls Tryz.prog 198 #[.pointer (some ⟨b,0,none⟩)] w (PgPost w o t u b a (.tuple #[.int .i64 k,.int .i64 0]) ⟨p.base,p.kind,p.fresh,p.had.flip k,l,p.pre.waiting⟩ (stB B (p.at k) 0) (m+2)):=by
 have hqq:PgOk B p.pre:=by
  unfold PgS.pre
  split
  ·rename_i e
   refine coll_ok hq ?_;cases hr:p.ready with
   |nil=>rfl
   |cons a l=>rw [hr] at e;simp at e
  ·exact hq
 have hstep:=HD (show ∀w1,PgAt w1 o t b a p.pre→ArAt w1 o u a B m→Fr (Und t) w o w1 o→∃br bs,w1.cell? ⟨b,0,none⟩=some (.pointer (some ⟨br,0,none⟩)) ∧
   Calls Tryz.prog 230 #[.pointer (some ⟨br,0,none⟩)] w1 (fun e w'=>e=.returned (.bool false)∧w'=w1) ∧
   Calls Tryz.prog 231 #[.pointer (some ⟨br,0,none⟩)] w1 (fun e w2=>e=.returned (.tuple #[.int .i64 k,.int .i64 0])∧w2.cell? ⟨b,6,none⟩=some (.pointer (some ⟨bs,0,none⟩)) ∧
    Calls Tryz.prog 185 #[.pointer (some ⟨bs,0,none⟩),.int .i64 k] w2 (fun e w3=>e=.returned (.int .i64 0) ∧
     PgPost w o t u b a (.tuple #[.int .i64 k,.int .i64 0]) ⟨p.base,p.kind,p.fresh,p.had.flip k,l,p.pre.waiting⟩ (stB B (p.at k) 0) (m+2) (.returned (.tuple #[.int .i64 k,.int .i64 0])) w3)) from fun w1 g1 g2 g3=>by
  obtain⟨br,bs,c0,he,hp⟩:=al_pop g1 g2 hm hqq hr htu;refine⟨br,bs,c0,he,hp.mono ?_⟩;rintro e w2 ⟨rfl,c6,ht⟩;refine⟨rfl,c6,ht.mono ?_⟩;rintro e w3 ⟨rfl,r⟩;refine⟨rfl,?_⟩;have e1:p.pre.base=p.base∧p.pre.kind=p.kind∧p.pre.fresh=p.fresh∧p.pre.had=p.had∧p.pre.at k=p.at k:=by unfold PgS.pre;split<;>exact⟨rfl,rfl,rfl,rfl,rfl⟩
  obtain⟨e1,e2,e3,e4,e5⟩:=e1;rw [e1,e2,e3,e4,e5] at r;exact pgPost_after g3 r)
 have hs0:=h;obtain⟨br,bw,bs,h1,h2,h3,h4⟩:=h;have c0:w.cell? ⟨b,0,none⟩=some (.pointer (some ⟨br,0,none⟩)):=h1.cell' (i:=0) rfl;have hem:=HD (cnEmpty br a w h2);have e:decide ((p.cn p.ready).head<0)=p.ready.isEmpty:=hd_neg;rw [e] at hem;clear e;cases hpr:p.ready.isEmpty
 ·have hpp:p.pre=p:=by unfold PgS.pre;rw [hpr];rfl
  have h0:=HD (show PgAt w o t b a p.pre∧ArAt w o u a B m∧Fr (Und t) w o w o from⟨by rw [hpp];exact hs0,ha,Fr.refl _ _ _⟩);clear h1 h2 h3 h4 hs0 ha hq hqq c0 hem hpp hpr;go_enter Tryz.func198,Tryz.ntmps198
  go_wp2_with fail;refine wp_scope_round 0 (fun a' w'=>Hid (PgAt w' o t b a p.pre∧ArAt w' o u a B m∧Fr (Und t) w o w' o)∧∃(u1 u2 u3 u4 u5 u6 u7 u8 u9 u10 u11 u12 u13 u14 u15 u16 u17 u18 u19 u20 u21 u22 u23 u24 u25 u26 u27 u28 u29 u30 u31 u32 u33 u34 u35 u36 u37 u38 u39 u40 u41 u42 u43 u44 u45 u46 u47 u48 u49 u50 u51 u52 u53 u54 u55 u56 u57 u58 u59 u60 u61 u62 u63 u64 u65 u66 u67 u68 u69:Value),a'={tmps:=#[.pointer (some ⟨b,0,none⟩),u1,u2,u3,u4,u5,u6,u7,u8,u9,u10,u11,u12,u13,u14,u15,u16,u17,u18,u19,u20,u21,u22,u23,u24,u25,u26,u27,u28,u29,u30,u31,u32,u33,u34,u35,u36,u37,u38,u39,u40,u41,u42,u43,u44,u45,u46,u47,u48,u49,u50,u51,u52,u53,u54,u55,u56,u57,u58,u59,u60,u61,u62,u63,u64,u65,u66,u67,u68,u69],defers:=[]}) (fun _ _=>0) rfl ?_ ?_
  ·rintro a' w1 ⟨hg,u1,u2,u3,u4,u5,u6,u7,u8,u9,u10,u11,u12,u13,u14,u15,u16,u17,u18,u19,u20,u21,u22,u23,u24,u25,u26,u27,u28,u29,u30,u31,u32,u33,u34,u35,u36,u37,u38,u39,u40,u41,u42,u43,u44,u45,u46,u47,u48,u49,u50,u51,u52,u53,u54,u55,u56,u57,u58,u59,u60,u61,u62,u63,u64,u65,u66,u67,u68,u69,rfl⟩
   obtain⟨br,bs,d0,d1,d2⟩:=hstep.out w1 hg.out.1 hg.out.2.1 hg.out.2.2;replace d1:=HD d1;replace d2:=HD d2;clear h0 hg hstep;go_wp2_with fail;refine d1.out.mono ?_;rintro e w2 ⟨rfl,rfl⟩;go_wp2_with fail;refine d2.out.mono ?_;rintro e w2 ⟨rfl,c6,d3⟩;replace d3:=HD d3;go_wp2_with fail;refine d3.out.mono ?_;rintro e w3 ⟨rfl,r⟩;replace r:=HD r;go_wp2_with fail;simp only [Exit.jump];go_ret2
   exact r.out
  ·intro H
   go_wp2_with fail;go_step3
   rename_i K hK;exact hK _ _ <| H _ _ ⟨h0,_,_,_,_,_,_,_,_,_,_,_,_,_,_,_,_,_,_,_,_,_,_,_,_,_,_,_,_,_,_,_,_,_,_,_,_,_,_,_,_,_,_,_,_,_,_,_,_,_,_,_,_,_,_,_,_,_,_,_,_,_,_,_,_,_,_,_,_,_,rfl⟩
 ·have hpr':p.ready=[]:=by simpa using hpr
  rw [hpr] at hem;have hco:=HD (pgCollect b a w hs0 htu.t9 hpr');cases hpw:p.waiting.isEmpty
  ·have hpp:p.pre=p.coll:=by unfold PgS.pre;rw [hpr,hpw];rfl
   have h0:=HD (show ∀w',PgAt w' o t b a (if p.waiting.isEmpty=true then p else p.coll)→Fr (Und t) w o w' o→PgAt w' o t b a p.pre∧ArAt w' o u a B m∧Fr (Und t) w o w' o from fun w' r1 r2=>by
    rw [hpw] at r1;rw [hpp];exact⟨r1,ha.fr r2 htu.off,r2⟩)
   rw [hpw] at h0 hco;clear h1 h2 h3 h4 hs0 ha hq hqq hpp hpr hpr' hpw;go_enter Tryz.func198,Tryz.ntmps198
   go_wp2_with fail;refine wp_scope_round 0 (fun a' w'=>Hid (PgAt w' o t b a p.pre∧ArAt w' o u a B m∧Fr (Und t) w o w' o)∧∃(u1 u2 u3 u4 u5 u6 u7 u8 u9 u10 u11 u12 u13 u14 u15 u16 u17 u18 u19 u20 u21 u22 u23 u24 u25 u26 u27 u28 u29 u30 u31 u32 u33 u34 u35 u36 u37 u38 u39 u40 u41 u42 u43 u44 u45 u46 u47 u48 u49 u50 u51 u52 u53 u54 u55 u56 u57 u58 u59 u60 u61 u62 u63 u64 u65 u66 u67 u68 u69:Value),a'={tmps:=#[.pointer (some ⟨b,0,none⟩),u1,u2,u3,u4,u5,u6,u7,u8,u9,u10,u11,u12,u13,u14,u15,u16,u17,u18,u19,u20,u21,u22,u23,u24,u25,u26,u27,u28,u29,u30,u31,u32,u33,u34,u35,u36,u37,u38,u39,u40,u41,u42,u43,u44,u45,u46,u47,u48,u49,u50,u51,u52,u53,u54,u55,u56,u57,u58,u59,u60,u61,u62,u63,u64,u65,u66,u67,u68,u69],defers:=[]}) (fun _ _=>0) rfl ?_ ?_
   ·rintro a' w1 ⟨hg,u1,u2,u3,u4,u5,u6,u7,u8,u9,u10,u11,u12,u13,u14,u15,u16,u17,u18,u19,u20,u21,u22,u23,u24,u25,u26,u27,u28,u29,u30,u31,u32,u33,u34,u35,u36,u37,u38,u39,u40,u41,u42,u43,u44,u45,u46,u47,u48,u49,u50,u51,u52,u53,u54,u55,u56,u57,u58,u59,u60,u61,u62,u63,u64,u65,u66,u67,u68,u69,rfl⟩
    obtain⟨br,bs,d0,d1,d2⟩:=hstep.out w1 hg.out.1 hg.out.2.1 hg.out.2.2;replace d1:=HD d1;replace d2:=HD d2;clear h0 hg hstep hem hco c0;go_wp2_with fail;refine d1.out.mono ?_;rintro e w2 ⟨rfl,rfl⟩;go_wp2_with fail;refine d2.out.mono ?_;rintro e w2 ⟨rfl,c6,d3⟩;replace d3:=HD d3;go_wp2_with fail;refine d3.out.mono ?_;rintro e w3 ⟨rfl,r⟩;replace r:=HD r;go_wp2_with fail;simp only [Exit.jump];go_ret2
    exact r.out
   ·intro H
    clear H;go_wp2_with fail;go_step3
    rename_i K hK;refine hK _ _ ?_;go_wp2_with fail;refine hem.out.mono ?_;rintro e w2 ⟨rfl,rfl⟩;go_wp2_with fail;refine hco.out.mono ?_;rintro e w2 ⟨rfl,r1,r2⟩;have hg:=HD (h0.out _ r1 r2);clear r1 r2;go_wp2_with fail;go_step3
    exact⟨rfl,hg,_,_,_,_,_,_,_,_,_,_,_,_,_,_,_,_,_,_,_,_,_,_,_,_,_,_,_,_,_,_,_,_,_,_,_,_,_,_,_,_,_,_,_,_,_,_,_,_,_,_,_,_,_,_,_,_,_,_,_,_,_,_,_,_,_,_,_,_,_,rfl⟩
  ·exfalso
   have hpw':p.waiting=[]:=by simpa using hpw
   have:p.pre=p:=by unfold PgS.pre;rw [hpr,hpw];rfl
   rw [this,hpr'] at hr;cases hr
end
section
open Go.RowKit
theorem pre_nil{p:PgS}(h:p.pre.ready=[]):p.ready=[]∧p.waiting=[]:=by
 unfold PgS.pre at h;cases hr:p.ready with
 |nil =>
  refine⟨rfl,?_⟩;cases hw:p.waiting with
  |nil=>rfl
  |cons a l=>rw [hr,hw] at h;simp [PgS.coll] at h;rw [hw] at h;cases h
 |cons a l=>rw [hr] at h;simp at h;rw [hr] at h;cases h
theorem pgAlloc_new(b a:Nat)(w:World){o:Nat→Tag}{t u:Tag}{p:PgS}{B:List UInt8}{m:Nat}(h:PgAt w o t b a p)(ha:ArAt w o u a B m)(hq:PgOk B p)(htu:Apart t u)(hr:p.pre.ready=[]) :
  Calls Tryz.prog 198 #[.pointer (some ⟨b,0,none⟩)] w (PgPost w o t u b a (.tuple #[.int .i64 (p.alF B).1,.int .i64 (p.alF B).2.1]) (p.alF B).2.2.1 (p.alF B).2.2.2 m):=by
 obtain⟨hr,hw⟩:=pre_nil hr;have hpp:p.pre.ready=[]:=by unfold PgS.pre;rw [hr,hw];exact hr
 have hco:=HD (pgCollect b a w h htu.t9 hr);have e0:p.waiting.isEmpty=true:=by rw [hw];rfl
 rw [e0,if_pos rfl] at hco;have hfr:=hq.fresh;have hp:p.had.n<65537:=by obtain⟨_,_,_,_,_,_,h4⟩:=h;have:=h4.2.1;omega
 have hcom:=HD (show ∀w1,PgAt w1 o t b a p→Fr (Und t) w o w1 o→∃bs,w1.drew.cell? ⟨b,6,none⟩=some (.pointer (some ⟨bs,0,none⟩))∧w1.drew.cell? ⟨b,5,none⟩=some (.int .i64 p.fresh)∧w1.drew.frozen? ⟨b,5,none⟩=false ∧
   Calls Tryz.prog 233 #[.pointer (some ⟨bs,0,none⟩)] w1.drew (fun e w'=>e=.returned (.int .i64 p.had.n)∧w'=w1.drew) ∧
   (p.fresh<p.had.n→((w1.drew.setCell ⟨b,5,none⟩ (.int .i64 (p.fresh+1:Int))).drew.cell? ⟨b,5,none⟩=some (.int .i64 (p.fresh+1:Int))∧(w1.drew.setCell ⟨b,5,none⟩ (.int .i64 (p.fresh+1:Int))).drew.cell? ⟨b,6,none⟩=some (.pointer (some ⟨bs,0,none⟩))) ∧
    Calls Tryz.prog 185 #[.pointer (some ⟨bs,0,none⟩),.int .i64 p.fresh] (w1.drew.setCell ⟨b,5,none⟩ (.int .i64 (p.fresh+1:Int))).drew (fun e w2=>e=.returned (.int .i64 0) ∧
     (w2.cell? ⟨b,5,none⟩=some (.int .i64 (p.fresh+1:Int))∧w2.cell? ⟨b,6,none⟩=some (.pointer (some ⟨bs,0,none⟩))) ∧
     PgPost w o t u b a (.tuple #[.int .i64 p.fresh,.int .i64 0]) (p.alF B).2.2.1 (p.alF B).2.2.2 m (.returned (.tuple #[.int .i64 p.fresh,.int .i64 0])) w2)) from fun w1 r1 r2=>by
  obtain⟨br,bw,bs,g1,g2,g3,g4⟩:=r1;refine⟨bs,g1.cell' (i:=6) rfl,g1.cell' (i:=5) rfl,g1.free 5,shSize bs w1.drew g4.drew,fun hf=>?_⟩;have f1:Fr (· = t) w1 o (w1.drew.setCell ⟨b,5,none⟩ (.int .i64 (p.fresh+1:Int))).drew o:=(Fr.drew.trans (Fr.setCell (fun _=>g1.1) _)).drew';have q1:Blk (w1.drew.setCell ⟨b,5,none⟩ (.int .i64 (p.fresh+1:Int))).drew o t b #[.pointer (some ⟨br,0,none⟩),.pointer (some ⟨bw,0,none⟩),.pointer (some ⟨a,0,none⟩),.int .i64 p.base,.int .i64 p.kind,.int .i64 (p.fresh+1:Int),.pointer (some ⟨bs,0,none⟩)] 255:=g1.drew.set 5 _;have q4:=g4.fr f1 ⟨fun v hv q=>by subst q;have:=List.IsPrefix.length_le hv;simp at this;omega,fun q=>htu.t9 (by rw [←q];exact List.prefix_refl _)⟩;refine⟨⟨q1.cell' (i:=5) rfl,q1.cell' (i:=6) rfl⟩,(shTakeAt bs p.fresh _ q4 (not_nine htu.t9 _)).mono ?_⟩;rintro e w2 ⟨rfl,k1,k2⟩;have hkf:=hq.rest p.fresh (Nat.le_refl _) hf;have e0:p.had.takeE p.fresh=0:=by unfold ShS.takeE;rw [if_pos (by omega)];simp [hkf]
  have e1:p.had.take p.fresh=p.had.flip p.fresh:=by unfold ShS.take;rw [if_pos ⟨by omega,by simpa using hkf⟩];simp
  rw [e1] at k1;have q5:=q1.fr k2 (not_sub t 2);refine⟨by rw [e0],⟨q5.cell' (i:=5) rfl,q5.cell' (i:=6) rfl⟩,?_⟩;have e:p.alF B=((p.fresh:Int),0,⟨p.base,p.kind,p.fresh+1,p.had.flip p.fresh,[],[]⟩,B):=by unfold PgS.alF;rw [hpp];exact if_neg (by omega)
  rw [e];refine⟨rfl,o,⟨br,bw,bs,q5,?_,?_,k1⟩,((ha.fr r2 htu.off).fr f1 ⟨fun v hv q=>htu.ne v (by rw [q];exact Und.self t) hv,fun q=>htu.t9 (by rw [←q];exact List.prefix_refl _)⟩).fr k2 (htu.sub [2]).off,(r2.mono fun v q=>.inl q).trans ((f1.mono fun v q=>.inl (by rw [q];exact Und.self t)).trans (k2.mono fun v q=>.inl q.up))⟩
  ·rw [hr] at g2
   exact(g2.fr f1 (fun q=>by simp at q)).fr k2 (fun q=>by have:=(List.prefix_append_right_inj t).1 q;revert this;decide)
  ·rw [hw] at g3
   exact(g3.fr f1 (fun q=>by simp at q)).fr k2 (fun q=>by have:=(List.prefix_append_right_inj t).1 q;revert this;decide))
 have hs0:=h;obtain⟨br,bw,bs0,h1,h2,h3,h4⟩:=h;have c0:w.cell? ⟨b,0,none⟩=some (.pointer (some ⟨br,0,none⟩)):=h1.cell' (i:=0) rfl;have hem:=HD (cnEmpty br a w h2);rw [show decide ((p.cn p.ready).head<0)=true by rw [hr];rfl] at hem;by_cases hf:p.fresh=p.had.n
 ·have hfin:=HD (show ∀w1,PgAt w1 o t b a p→Fr (Und t) w o w1 o→PgPost w o t u b a (.tuple #[.int .i64 (p.alF B).1,.int .i64 (p.alF B).2.1]) (p.alF B).2.2.1 (p.alF B).2.2.2 m (.returned (.tuple #[.int .i64 0,.int .i64 10])) w1.drew from fun w1 r1 r2=>by
   have e:p.alF B=(0,10,p,B):=by unfold PgS.alF;rw [hpp];exact if_pos hf
   rw [e];exact⟨rfl,o,r1.drew,(ha.fr r2 htu.off).drew,(r2.mono fun v q=>.inl q).drew'⟩)
  clear h1 h2 h3 h4 ha hq hpp e0 hr hw hfr hs0;go_enter Tryz.func198,Tryz.ntmps198
  go_wp2_with fail;go_step3
  go_wp2_with fail;go_step3
  rename_i K hK;refine hK _ _ ?_;go_wp2_with fail;refine hem.out.mono ?_;rintro e w2 ⟨rfl,rfl⟩;go_wp2_with fail;refine hco.out.mono ?_;rintro e w2 ⟨rfl,r1,r2⟩;obtain⟨bs,z6,z4,zf,hsz,_⟩:=hcom.out _ r1 r2;have hend:=HD (hfin.out _ r1 r2);replace hsz:=HD hsz;rw [←hf] at hsz hp;clear r1 r2 hcom hfin hK hf;generalize p.fresh=f at *;go_wp2_with fail;refine wp_region_still_lit (by kernel_rfl) (by kernel_rfl) ?_;repeat still_step
  still_call hsz.out
  repeat still_step
  refine wpStill_nil ?_;change Exit.then _ _ _ _ w2.drew;go_wp2_with fail;rw [Exit.noGoto_ret];go_ret2
  exact hend.out
 ·have hlt:p.fresh<p.had.n:=by omega
  have hne:((p.fresh:Int)==(p.had.n:Int))=false:=by rw [beq_eq_false_iff_ne];omega
  have e:(p.alF B).1=p.fresh∧(p.alF B).2.1=0:=by
   have:p.alF B=((p.fresh:Int),0,⟨p.base,p.kind,p.fresh+1,p.had.flip p.fresh,[],[]⟩,B):=by unfold PgS.alF;rw [hpp];exact if_neg (by omega)
   rw [this];exact⟨rfl,rfl⟩
  rw [e.1,e.2];have u1:=IntWalk.i64_in ((p.fresh:Int)+1) (by omega);have u2:(p.fresh:Int)+1-1=p.fresh:=by omega
  have u3:=IntWalk.i64_in (p.fresh:Int) (by omega);clear h1 h2 h3 h4 ha hq hpp e0 hr hw hfr hs0 e hf;go_enter Tryz.func198,Tryz.ntmps198
  go_wp2_with fail;go_step3
  go_wp2_with fail;go_step3
  rename_i K hK;refine hK _ _ ?_;go_wp2_with fail;refine hem.out.mono ?_;rintro e w2 ⟨rfl,rfl⟩;go_wp2_with fail;refine hco.out.mono ?_;rintro e w2 ⟨rfl,r1,r2⟩;obtain⟨bs,z6',z4',zf,hsz,hrest⟩:=hcom.out _ r1 r2;obtain⟨⟨z4,z6⟩,htk⟩:=hrest hlt;replace hsz:=HD hsz;replace htk:=HD htk;clear r1 r2 hcom hK hlt hrest;go_wp2_with fail;refine wp_region_still_lit (by kernel_rfl) (by kernel_rfl) ?_;repeat still_step
  still_call hsz.out
  repeat still_step
  refine wpStill_nil ?_;change Exit.then _ _ _ _ w2.drew;go_wp2_with fail;refine wp_region_noPanic ?_;refine wp_region_held_drew (S:=(fun W=>W.cell? ⟨b,5,none⟩=some (.int .i64 (p.fresh+1:Int))∧W.cell? ⟨b,6,none⟩=some (.pointer (some ⟨bs,0,none⟩)))) (by kernel_rfl) ?_ (fun hHeld=>?_)
  ·(first|exact⟨z4,z6⟩|exact hcs)
  refine tkH 0 (h:=?_);refine tkH 1 (h:=?_);refine tkH 2 (h:=?_);refine tkH 3 (h:=?_);refine tkH 4 (h:=?_);refine tkH 5 (h:=?_);refine tkH 6 (h:=?_);refine tkH 7 (h:=?_);refine tkH 8 (h:=?_);refine tkH 9 (h:=?_);refine tkH 10 (h:=?_);refine tkH 11 (h:=?_);refine tkH 12 (h:=?_);refine tkH 13 (h:=?_);refine onH 14 (h:=fun K hK=>?_);go_simp;refine htk.out.mono ?_;rintro e w3 ⟨rfl,hcs,hf⟩;replace hf:=HD hf;go_wp2_with fail;refine hK.out _ _ ?_ (fun hHeld=>?_)
  ·(first|exact⟨z4,z6⟩|exact hcs)
  clear hK;refine nmH (h:=?_);refine tkH 15 (h:=?_);refine tkH 16 (h:=?_);refine wpAnyH_done (by kernel_rfl) ?_ _;refine NoPanic.normal ?_;go_wp2_with fail;rw [Exit.noGoto_ret];go_ret2
  exact hf.out
end
section
open Go.RowKit
theorem splice_len{α:Type}{L vs:List α}{off:Nat}(h:off+vs.length≤L.length):(splice L off vs).length=L.length:=by
 unfold splice;simp;omega
theorem stB_len(B:List UInt8)(at_:Int)(v:Nat):(stB B at_ v).length=B.length:=by
 unfold stB
 split
 ·rename_i h
  have:=has_iff.1 h;exact splice_len (by rw [wdB_len];omega)
 ·rfl
theorem zrB_len(B:List UInt8)(at_ n:Int):(zrB B at_ n).length=B.length:=by
 unfold zrB
 split
 ·rename_i h
  have:=has_iff.1 h;exact splice_len (by simp;omega)
 ·rfl
def PgS.fr(p:PgS)(k:Nat):PgS:=⟨p.base,p.kind,p.fresh,p.had.flip k,p.ready,k :: p.waiting⟩
def PgS.frB(p:PgS)(k:Nat)(B:List UInt8):List UInt8:=stB (zrB B (p.at k) p.unit) (p.at k) (hd p.waiting+1).toNat
theorem pgAlloc(b a:Nat)(w:World){o:Nat→Tag}{t u:Tag}{p:PgS}{B:List UInt8}{m:Nat}(h:PgAt w o t b a p)(ha:ArAt w o u a B m)(hm:m<1000000)(hq:PgOk B p)(htu:Apart t u) :
  Calls Tryz.prog 198 #[.pointer (some ⟨b,0,none⟩)] w (PgPost w o t u b a (.tuple #[.int .i64 (p.alF B).1,.int .i64 (p.alF B).2.1]) (p.alF B).2.2.1 (p.alF B).2.2.2 (m+2)):=by
 cases hr:p.pre.ready with
 |nil =>
  refine(pgAlloc_new b a w h ha hq htu hr).mono ?_;rintro e w' ⟨h1,o',h2,h3,h4⟩;exact⟨h1,o',h2,h3.mono (by omega),h4⟩
 |cons k l =>
  have e:p.alF B=((k:Int),0,⟨p.base,p.kind,p.fresh,p.had.flip k,l,p.pre.waiting⟩,stB B (p.at k) 0):=by unfold PgS.alF;rw [hr]
  rw [e];exact pgAlloc_pop b a w h ha hm hq htu hr
theorem pgFree(b a k:Nat)(w:World){o:Nat→Tag}{t u:Tag}{p:PgS}{B:List UInt8}{m:Nat}(h:PgAt w o t b a p)(ha:ArAt w o u a B m)(hm:m<1000000)(hq:PgOk B p)(htu:Apart t u)(hk:k<p.had.n)(hf:p.had.f k=false) :
  Calls Tryz.prog 205 #[.pointer (some ⟨b,0,none⟩),.int .i64 k] w (PgPost w o t u b a (.int .i64 0) (p.fr k) (p.frB k B) (m+2)):=by
 have hb:=blk_in (k:=(k:Int)) hq.kind (by omega) (by have:=hq.n;unfold PgS.per at this;omega);have hbase:=hq.base;have hsz:=ha.sz;have hnp:=hq.n;have hkind:=hq.kind;have hhd:=hq.hd_le (l:=p.waiting) (fun x hx=>by simp [hx]);have e0:p.had.giveE k=0:=by unfold ShS.giveE;rw [if_pos (by omega)];simp [hf]
 have e1:p.had.give k=p.had.flip k:=by unfold ShS.give;rw [if_pos ⟨by omega,by simpa using hf⟩];simp
 have hz0:hasE B.length (p.at k) p.unit=0:=by unfold PgS.at PgS.unit;exact if_pos (by omega)
 obtain⟨br,bw,bs,h1,h2,h3,h4⟩:=h;have c6:w.cell? ⟨b,6,none⟩=some (.pointer (some ⟨bs,0,none⟩)):=h1.cell' (i:=6) rfl;have hgv:=HD (shGive bs k w h4 (not_nine htu.t9 _));rw [e0,e1] at hgv;have huni:=HD fun w=>unit_any p.kind w
 have hall:=HD (show ∀w1,ShAt w1 o (t++[2]) bs (p.had.flip k)→Fr (Und (t++[2])) w o w1 o→w1.cell? ⟨b,4,none⟩=some (.int .i64 p.kind)∧w1.drew.cell? ⟨b,2,none⟩=some (.pointer (some ⟨a,0,none⟩))∧w1.drew.cell? ⟨b,3,none⟩=some (.int .i64 p.base) ∧
   Calls Tryz.prog 132 #[.pointer (some ⟨a,0,none⟩),.int .i64 (p.base+(k:Int)*unitT p.kind),.int .i64 (unitT p.kind)] w1.drew (fun e w2=>e=.returned (.int .i64 0) ∧
    (w2.cell? ⟨b,2,none⟩=some (.pointer (some ⟨a,0,none⟩))∧w2.cell? ⟨b,3,none⟩=some (.int .i64 p.base))∧w2.cell? ⟨b,1,none⟩=some (.pointer (some ⟨bw,0,none⟩)) ∧
    Calls Tryz.prog 237 #[.pointer (some ⟨bw,0,none⟩),.int .i64 k] w2 (PgPost w o t u b a (.int .i64 0) (p.fr k) (p.frB k B) (m+2))) from fun w1 r1 r2=>by
  have q1:=h1.fr r2 (not_sub t 2);have q2:=h2.fr r2 (fun q=>by have:=(List.prefix_append_right_inj t).1 q;revert this;decide);have q3:=h3.fr r2 (fun q=>by have:=(List.prefix_append_right_inj t).1 q;revert this;decide);have qa:=ha.fr r2 (htu.sub [2]).off;refine⟨q1.cell' (i:=4) rfl,q1.cell' (i:=2) rfl,q1.cell' (i:=3) rfl,?_⟩;have hz:=arZero a (p.at k) p.unit w1.drew qa.drew (by omega);rw [hz0] at hz;refine hz.mono ?_;rintro e w2 ⟨rfl,k1,k2⟩;have f2:Fr (Und u) w1 o w2 (newO o w1.drew u):=Fr.drew.trans k2;have s1:=q1.fr f2 (htu.ne t (Und.self t));have s2:=q2.fr f2 (htu.ne _ (Und.app t [0]));have s3:=q3.fr f2 (htu.ne _ (Und.app t [1]));have s4:=r1.fr f2 (htu.off_sub [2]);refine⟨rfl,⟨s1.cell' (i:=2) rfl,s1.cell' (i:=3) rfl⟩,s1.cell' (i:=1) rfl,?_⟩;have hp:=cnPush bw a k w2 s3 k1 (by omega) ⟨by omega,show (k:Int)<p.per by omega⟩ (by rw [zrB_len];exact hq.has8 hk) (htu.ne _ (Und.app t [1])) (ne_nine htu.t9 _);refine hp.mono ?_;rintro e w3 ⟨rfl,g1,g2,g3⟩;have hS:∀r:Tag,r≠[1]→r.length=1→∀v,t++r <+: v→¬(v=t++[1]∨Und u v):=fun r hr0 hr1 v hv q=>by
   rcases q with rfl|q
   ·have e:=(List.prefix_append_right_inj t).1 hv
    match r,hr1 with
    |[x],_=>exact hr0 (by simpa using e)
   ·exact htu.ne v (List.IsPrefix.trans (List.prefix_append t r) hv) q
  refine⟨rfl,_,⟨br,bw,bs,s1.fr g3 (fun q=>?_),s2.fr g3 (hS [0] (by decide) rfl _ (List.prefix_refl _)),g1,s4.fr g3 ⟨hS [2] (by decide) rfl,fun q=>?_⟩⟩,g2,((r2.mono fun v q=>.inl q.up).trans (f2.mono fun v q=>.inr q)).trans (g3.mono fun v q=>?_)⟩
  ·rcases q with q|q
   ·simp at q
   ·exact htu.ne t (Und.self t) q
  ·rcases q with q|q
   ·exact ne_nine htu.t9 _ q.symm
   ·exact htu.u9 q
  ·rcases q with rfl|q
   ·exact .inl (Und.app t [1])
   ·exact .inr q)
 have u1:=IntWalk.i64_in ((k:Int)*unitT p.kind) (by omega);have u2:=IntWalk.i64_in (p.base+(k:Int)*unitT p.kind) (by omega);clear h1 h2 h3 h4 ha hq hb hbase hnp hhd hz0 hkind hf e0 e1;generalize unitT p.kind=y at *;go_enter Tryz.func205,Tryz.ntmps205
 go_wp2_with fail;refine hgv.out.mono ?_;rintro e w1 ⟨rfl,r1,r2⟩;obtain⟨z4,z2,z3,hzr⟩:=hall.out w1 r1 r2;replace hzr:=HD hzr;clear r1 r2;go_wp2_with fail;refine(huni.out _).mono ?_;rintro e w2 ⟨rfl,rfl⟩;go_wp2_with fail;refine wp_region_noPanic ?_;refine wp_region_held_drew (S:=(fun W=>W.cell? ⟨b,2,none⟩=some (.pointer (some ⟨a,0,none⟩))∧W.cell? ⟨b,3,none⟩=some (.int .i64 p.base))) (by kernel_rfl) ?_ (fun hHeld=>?_)
 ·(first|exact⟨z2,z3⟩|exact hcs)
 refine tkH 0 (h:=?_);refine tkH 1 (h:=?_);refine tkH 2 (h:=?_);refine tkH 3 (h:=?_);refine tkH 4 (h:=?_);refine tkH 5 (h:=?_);refine tkH 6 (h:=?_);refine tkH 7 (h:=?_);refine tkH 8 (h:=?_);refine tkH 9 (h:=?_);refine tkH 10 (h:=?_);refine tkH 11 (h:=?_);refine tkH 12 (h:=?_);refine onH 13 (h:=fun K hK=>?_);go_simp;refine hzr.out.mono ?_;rintro e w2 ⟨rfl,hcs,hnx⟩;replace hnx:=HD hnx;go_wp2_with fail;refine hK.out _ _ ?_ (fun hHeld=>?_)
 ·(first|exact⟨z2,z3⟩|exact hcs)
 clear hK;refine nmH (h:=?_);refine tkH 14 (h:=?_);refine wpAnyH_done (by kernel_rfl) ?_ _;refine NoPanic.normal ?_;have d1:=hnx.out.1;replace hnx:=HD hnx.out.2;go_wp2_with fail;refine hnx.out.mono ?_;rintro e w3 r;have hv:=r.1;replace r:=HD r;subst hv;go_wp2_with fail;go_ret
 exact r.out
end
section
open Go.RowKit
def byt(B:List UInt8)(i:Nat):UInt8:=B.getD i 0
theorem byt_splice{B l:List UInt8}{i:Nat}(h:i+l.length≤B.length)(j:Nat):byt (splice B i l) j=if i≤j∧j<i+l.length then l.getD (j-i) 0 else byt B j:=by
 have hi:(B.take i).length=i:=by rw [List.length_take];omega
 unfold byt splice;simp only [List.getD_eq_getElem?_getD];by_cases h1:j<i
 ·rw [if_neg (by omega),List.getElem?_append_left (by omega),List.getElem?_take,if_pos h1]
 ·rw [List.getElem?_append_right (by omega),hi]
  by_cases h2:j<i+l.length
  ·rw [if_pos ⟨by omega,h2⟩,List.getElem?_append_left (by omega)]
  ·rw [if_neg (by omega),List.getElem?_append_right (by omega),List.getElem?_drop]
   congr 2;omega
theorem byt_zr{B:List UInt8}{a n:Int}(h:hasE B.length a n=0)(j:Nat):byt (zrB B a n) j=if a≤j∧(j:Int)<a+n then 0 else byt B j:=by
 have q:=has_iff.1 h;unfold zrB;rw [if_pos h,byt_splice (by simp;omega)];simp only [List.length_replicate];by_cases c:a≤j∧(j:Int)<a+n
 ·rw [if_pos c,if_pos (by omega)]
  simp only [List.getD_eq_getElem?_getD,List.getElem?_replicate]
  split<;>rfl
 ·rw [if_neg c,if_neg (by omega)]
theorem wdB_get(v n i:Nat)(h:i<n):(wdB v n).getD i 0=UInt8.ofNat (v/2^(8*i)):=by
 unfold wdB;simp [List.getD_eq_getElem?_getD,h]
theorem byt_st{B:List UInt8}{a:Int}{v:Nat}(h:hasE B.length a 8=0)(hv:v<256)(j:Nat):byt (stB B a v) j=if a≤j∧(j:Int)<a+8 then (if (j:Int)=a then UInt8.ofNat v else 0) else byt B j:=by
 have q:=has_iff.1 h;unfold stB;rw [if_pos h,byt_splice (by rw [wdB_len];omega),wdB_len];by_cases c:a≤j∧(j:Int)<a+8
 ·rw [if_pos c,if_pos (by omega),wdB_get _ _ _ (by omega)]
  by_cases e:(j:Int)=a
  ·rw [if_pos e,show j-a.toNat=0 by omega];simp
  ·rw [if_neg e]
   have:v/2^(8*(j-a.toNat))=0:=Nat.div_eq_of_lt (Nat.lt_of_lt_of_le hv (Nat.pow_le_pow_right (n:=2) (by omega) (show 8≤8*(j-a.toNat) by omega)));rw [this];rfl
 ·rw [if_neg c,if_neg (by omega)]
theorem byt_wr{B:List UInt8}{a:Int}{s:ByteArray}(h:hasE B.length a s.size=0)(j:Nat):byt (wrB B a s) j=if a≤j∧(j:Int)<a+s.size then s.data.toList.getD (j-a.toNat) 0 else byt B j:=by
 have q:=has_iff.1 h;have e:s.data.toList.length=s.size:=(Lib.size_eq s).symm;unfold wrB;rw [if_pos h,byt_splice (by omega),e];by_cases c:a≤j∧(j:Int)<a+s.size
 ·rw [if_pos c,if_pos (by omega)]
 ·rw [if_neg c,if_neg (by omega)]
theorem sub_byt{B:List UInt8}{i n j:Nat}(h:j<n):(sub B i n).getD j 0=byt B (i+j):=by
 unfold byt;simp only [List.getD_eq_getElem?_getD];rw [sub_get h]
theorem byt_cp{B:List UInt8}{a f n:Int}(h:hasE B.length a n=0)(h2:hasE B.length f n=0)(j:Nat):byt (cpB B a f n) j=if a≤j∧(j:Int)<a+n then byt B (f.toNat+(j-a.toNat)) else byt B j:=by
 have q:=has_iff.1 h;have q2:=has_iff.1 h2;have e:(sub B f.toNat n.toNat).length=n.toNat:=sub_len (by omega);unfold cpB;rw [if_pos ⟨h,h2⟩,byt_splice (by omega),e];by_cases c:a≤j∧(j:Int)<a+n
 ·rw [if_pos c,if_pos (by omega),sub_byt (by omega)]
 ·rw [if_neg c,if_neg (by omega)]
theorem wrB_len(B:List UInt8)(a:Int)(s:ByteArray):(wrB B a s).length=B.length:=by
 have e:s.data.toList.length=s.size:=(Lib.size_eq s).symm;unfold wrB
 split
 ·rename_i h;have:=has_iff.1 h;exact splice_len (by omega)
 ·rfl
theorem cpB_len(B:List UInt8)(a f n:Int):(cpB B a f n).length=B.length:=by
 unfold cpB
 split
 ·rename_i h
  have:=has_iff.1 h.1;have:=has_iff.1 h.2;exact splice_len (by rw [sub_len (by omega)];omega)
 ·rfl
def nx:List Nat→Nat→Nat
 |[],_=>0
 |a :: l,k=>if a=k then (hd l+1).toNat else nx l k
theorem nx_none{l:List Nat}{k:Nat}(h:k∉l):nx l k=0:=by
 induction l with
 |nil=>rfl
 |cons a l ih =>
  simp at h
  unfold nx;rw [if_neg (fun e=>h.1 e.symm),ih h.2]
theorem hd_bound{l:List Nat}{n:Nat}(h:∀k∈l,k<n):(hd l+1).toNat≤n:=by
 cases l with
 |nil=>simp [hd]
 |cons a l=>have:=h a (by simp);simp only [hd];omega
theorem nx_le{l:List Nat}{n:Nat}(h:∀k∈l,k<n)(k:Nat):nx l k≤n:=by
 induction l with
 |nil=>simp [nx]
 |cons a l ih =>
  unfold nx
  split
  ·exact hd_bound (fun k hk=>h k (by simp [hk]))
  ·exact ih (fun k hk=>h k (by simp [hk]))
theorem ld_first{B:List UInt8}{a:Int}{v:Nat}(h:hasE B.length a 8=0)(hv:v<256)(hb:∀i,i<8→byt B (a.toNat+i)=if i=0 then UInt8.ofNat v else 0):ldV B a=v:=by
 unfold ldV;rw [if_pos h];have g:∀i,i<8→((sub B a.toNat 8).getD i 0).toNat=if i=0 then v else 0:=fun i hi=>by
  rw [sub_byt hi,hb i hi];by_cases e:i=0
  ·rw [if_pos e,if_pos e];simp [UInt8.toNat_ofNat];omega
  ·rw [if_neg e,if_neg e];rfl
 simp only [ldN,g 0 (by omega),g 1 (by omega),g 2 (by omega),g 3 (by omega),g 4 (by omega),g 5 (by omega),g 6 (by omega),g 7 (by omega)];simp
end
section
open Go.RowKit
def PgS.on(p:PgS)(base:Int):PgS:=⟨base,p.kind,p.fresh,p.had,p.ready,p.waiting⟩
structure PaOk(p:PgS):Prop where
 kind:0≤p.kind∧p.kind≤7
 n:(p.had.n:Int)=p.per
 fresh:p.fresh≤p.had.n
 nodup:(p.ready++p.waiting).Nodup
 lists:∀k,k∈p.ready++p.waiting↔k<p.fresh∧p.had.f k=true
 rest:∀k,p.fresh≤k→k<p.had.n→p.had.f k=true
def PgS.lnk(p:PgS)(k:Nat):Nat:=nx p.ready k+nx p.waiting k
def PgZ(B:List UInt8)(q:Nat)(p:PgS):Prop:=∀k,k<p.had.n→p.had.f k=true→∀i,i<p.unit.toNat→byt B (q+k*p.unit.toNat+i)=if i=0 then UInt8.ofNat (p.lnk k) else 0
theorem PaOk.mem{p:PgS}(h:PaOk p){k:Nat}(hk:k∈p.ready++p.waiting):k<p.had.n:=Nat.lt_of_lt_of_le ((h.lists k).1 hk).1 h.fresh
theorem PaOk.n32{p:PgS}(h:PaOk p):2≤p.had.n∧p.had.n≤32:=by
 have h1:=per_cases h.kind.1 h.kind.2;have h2:=h.n;unfold PgS.per at h2;omega
theorem PaOk.unit{p:PgS}(h:PaOk p):16≤p.unit∧p.unit≤256∧(p.had.n:Int)*p.unit≤512:=by
 have h2:=h.n;have h3:=blk_in h.kind (k:=(p.had.n:Int)-1) (by have:=h.n32;omega) (by unfold PgS.per at h2;omega);have h4:=blk_in h.kind (k:=1) (by omega) (by have:=h.n32;unfold PgS.per at h2;omega);unfold PgS.unit;rw [Int.sub_mul] at h3;omega
theorem PaOk.lnk_lt{p:PgS}(h:PaOk p)(k:Nat):p.lnk k<256:=by
 have h1:=nx_le (l:=p.ready) (fun j hj=>h.mem (k:=j) (by simp [hj])) k;have h2:=nx_le (l:=p.waiting) (fun j hj=>h.mem (k:=j) (by simp [hj])) k;have:=h.n32;unfold PgS.lnk;omega
theorem blk_at{p:PgS}(h:PaOk p){k:Nat}(hk:k<p.had.n):k*p.unit.toNat+p.unit.toNat≤512∧(k:Int)*p.unit=(k*p.unit.toNat:Nat):=by
 have h2:=h.n;have h3:=blk_in h.kind (k:=(k:Int)) (by omega) (by unfold PgS.per at h2;omega);have e:(k:Int)*p.unit=(k*p.unit.toNat:Nat):=by
  rw [Int.natCast_mul];congr 1;have:=h.unit;omega
 have:=h.unit;refine⟨?_,e⟩;unfold PgS.unit at e this ⊢;omega
theorem linked_of{B:List UInt8}{at_:Int→Int}:∀{l:List Nat},l.Nodup→(∀k∈l,ldV B (at_ k)=nx l k)→Linked B at_ l
 |[],_,_=>trivial
 |k :: l,hn,h=>by
  rw [List.nodup_cons] at hn;refine⟨(h k (by simp)).trans (by simp [nx]),linked_of hn.2 (fun j hj=>?_)⟩;rw [h j (by simp [hj]),nx,if_neg (fun e=>hn.1 (by rw [e];exact hj))]
theorem PaOk.pgOk{p:PgS}(h:PaOk p){B:List UInt8}{q:Nat}(hq:q%512=0∧q+512≤B.length)(hz:PgZ B q p):PgOk B (p.on q):=by
 have hsplit:=List.nodup_append.1 h.nodup;have hat:∀k:Nat,k∈p.ready++p.waiting→ldV B ((p.on q).at k)=p.lnk k:=fun k hk=>by
  have hl:=h.mem hk;have hb:=blk_at h hl;have hu:=h.unit;have e:(p.on q).at k=((q+k*p.unit.toNat:Nat):Int):=by
   show (q:Int)+(k:Int)*p.unit=_;rw [hb.2];omega
  rw [e];refine ld_first (if_pos ⟨by omega,by omega,by omega,by omega⟩) (h.lnk_lt k) (fun i hi=>?_);rw [Int.toNat_natCast];exact hz k hl ((h.lists k).1 hk).2 i (by omega)
 refine⟨h.kind,⟨by show (0:Int)≤(q:Int);omega,by show (q:Int)%512=0;omega,by show (q:Int)+512≤_;omega⟩,h.n,h.fresh,h.nodup,h.lists,h.rest,linked_of hsplit.1 (fun k hk=>?_),linked_of hsplit.2.1 (fun k hk=>?_)⟩
 ·show ldV B ((p.on q).at k)=nx p.ready k
  have hk':k∈p.ready:=hk;rw [hat k (by simp [hk'])];unfold PgS.lnk;rw [nx_none (l:=p.waiting) (fun hw=>hsplit.2.2 k hk' k hw rfl)];omega
 ·show ldV B ((p.on q).at k)=nx p.waiting k
  have hk':k∈p.waiting:=hk;rw [hat k (by simp [hk'])];unfold PgS.lnk;rw [nx_none (l:=p.ready) (fun hw=>hsplit.2.2 k hw k hk' rfl)];omega
theorem PaOk.new{kind:Int}(hk:0≤kind∧kind≤7):PaOk (PgS.new 0 kind) where
 kind:=hk
 n:=by
  have:=per_cases hk.1 hk.2;show ((perT kind).toNat:Int)=perT kind;omega
 fresh:=Nat.zero_le _
 nodup:=by simp [PgS.new]
 lists k:=by simp [PgS.new]
 rest k _ h:=by show decide (k<(perT kind).toNat)=true;exact decide_eq_true h
theorem PgZ.new{B:List UInt8}{q:Nat}{kind:Int}(hk:0≤kind∧kind≤7)(h:∀i,i<512→byt B (q+i)=0):PgZ B q (PgS.new 0 kind):=by
 intro k hkn _ i hi;have hb:=blk_at (PaOk.new hk) hkn;rw [Nat.add_assoc,h _ (by omega)];have:(PgS.new 0 kind).lnk k=0:=rfl;rw [this]
 split<;>rfl
theorem cnt_ex{s:ShS}(h:0<s.cnt):∃k,k<s.n∧s.f k=true:=by
 unfold ShS.cnt at h;obtain⟨k,hk,hf⟩:=List.countP_pos_iff.1 h;exact⟨k,List.mem_range.1 hk,hf⟩
theorem pre_same(p:PgS):p.pre.kind=p.kind∧p.pre.fresh=p.fresh∧p.pre.had=p.had∧(∀k,p.pre.lnk k=p.lnk k):=by
 unfold PgS.pre
 split
 ·rename_i h
  refine⟨rfl,rfl,rfl,fun k=>?_⟩;have hr:p.ready=[]:=by simp at h;exact h.1
  unfold PgS.lnk PgS.coll;rw [hr];simp [nx]
 ·exact⟨rfl,rfl,rfl,fun _=>rfl⟩
theorem PaOk.pre{p:PgS}(h:PaOk p):PaOk p.pre:=by
 unfold PgS.pre
 split
 ·rename_i hc
  have hr:p.ready=[]:=by simp at hc;exact hc.1
  have h1:=h.nodup;have h2:=h.lists;rw [hr] at h1 h2;exact⟨h.kind,h.n,h.fresh,by show (p.waiting++[]).Nodup;simpa using h1,fun k=>by show k∈p.waiting++[]↔_;simpa [PgS.coll] using h2 k,h.rest⟩
 ·exact h
def PgS.alK(p:PgS):Nat:=match p.pre.ready with
 |k :: _=>k
 |[]=>p.fresh
def PgS.alP(p:PgS):PgS:=match p.pre.ready with
 |k :: l=>⟨p.base,p.kind,p.fresh,p.had.flip k,l,p.pre.waiting⟩
 |[]=>⟨p.base,p.kind,p.fresh+1,p.had.flip p.fresh,[],[]⟩
def PgS.alB(p:PgS)(q:Nat)(B:List UInt8):List UInt8:=match p.pre.ready with
 |k :: _=>stB B ((p.on q).at k) 0
 |[]=>B
theorem pre_on(p:PgS)(q:Int):(p.on q).pre=p.pre.on q:=by
 unfold PgS.pre PgS.on PgS.coll;simp only
 split<;>rfl
theorem fresh_lt{p:PgS}(h:PaOk p)(hc:0<p.had.cnt)(hr:p.pre.ready=[]):p.fresh<p.had.n:=by
 obtain⟨k,hk,hf⟩:=cnt_ex hc;obtain⟨e1,e2⟩:=pre_nil hr;by_cases hkf:k<p.fresh
 ·have:=(h.lists k).2 ⟨hkf,hf⟩
  rw [e1,e2] at this;simp at this
 ·omega
theorem alF_eq{p:PgS}(h:PaOk p)(hc:0<p.had.cnt)(q:Nat)(B:List UInt8):(p.on q).alF B=((p.alK:Int),0,p.alP.on q,p.alB q B):=by
 unfold PgS.alF PgS.alK PgS.alP PgS.alB;rw [pre_on];cases hr:p.pre.ready with
 |nil =>
  have:=fresh_lt h hc hr;have e:(p.pre.on q).ready=[]:=hr;rw [e];exact if_neg (show ¬p.fresh=p.had.n by omega)
 |cons k l =>
  have e:(p.pre.on q).ready=k :: l:=hr;rw [e];rfl
theorem alK_free{p:PgS}(h:PaOk p)(hc:0<p.had.cnt):p.alK<p.had.n∧p.had.f p.alK=true:=by
 unfold PgS.alK;cases hr:p.pre.ready with
 |nil =>
  have:=fresh_lt h hc hr;exact⟨this,h.rest _ (Nat.le_refl _) this⟩
 |cons k l =>
  have h':=h.pre;obtain⟨_,e2,e3,_⟩:=pre_same p;have hk:k∈p.pre.ready++p.pre.waiting:=by rw [hr];simp
  have:=h'.mem hk;rw [e3] at this;have g:=(h'.lists k).1 hk;rw [e3] at g;exact⟨this,g.2⟩
theorem flip_f(s:ShS)(k j:Nat):(s.flip k).f j=if j=k then !s.f j else s.f j:=rfl
theorem flip_n(s:ShS)(k:Nat):(s.flip k).n=s.n:=rfl
theorem al_had{p:PgS}:p.alP.had=p.had.flip p.alK∧p.alP.kind=p.kind∧p.alP.base=p.base:=by
 unfold PgS.alP PgS.alK;cases hr:p.pre.ready<;>exact⟨rfl,rfl,rfl⟩
theorem PaOk.al{p:PgS}(h:PaOk p)(hc:0<p.had.cnt):PaOk p.alP:=by
 unfold PgS.alP;cases hr:p.pre.ready with
 |nil =>
  have hf:=fresh_lt h hc hr;obtain⟨e1,e2⟩:=pre_nil hr;refine⟨h.kind,h.n,by show p.fresh+1≤p.had.n;omega,by simp,fun k=>?_,fun k hk hkn=>?_⟩
  ·show k∈[]++[]↔k<p.fresh+1∧(p.had.flip p.fresh).f k=true
   rw [flip_f];have:=h.lists k;rw [e1,e2] at this;have g:=h.rest p.fresh (Nat.le_refl _) hf;by_cases e:k=p.fresh
   ·subst e;simp [g]
   ·rw [if_neg e];simp at this ⊢;intro hk;exact this (by omega)
  ·show (p.had.flip p.fresh).f k=true
   have hk':p.fresh+1≤k:=hk;rw [flip_f,if_neg (by omega)];exact h.rest k (by omega) hkn
 |cons k l =>
  have h':=h.pre;obtain⟨e1,e2,e3,_⟩:=pre_same p;have hl:=h'.lists;have hd:=h'.nodup;rw [hr,e2,e3] at hl;rw [hr] at hd;have hd':=List.nodup_cons.1 hd;have hkf:=(hl k).1 (by simp);refine⟨h.kind,h.n,h.fresh,hd'.2,fun j=>?_,fun j hj hjn=>?_⟩
  ·show j∈l++p.pre.waiting↔j<p.fresh∧(p.had.flip k).f j=true
   rw [flip_f];by_cases e:j=k
   ·subst e
    rw [if_pos rfl,hkf.2];exact⟨fun q=>absurd q hd'.1,fun q=>absurd q.2 (by decide)⟩
   ·rw [if_neg e,←hl j];simp [e]
  ·show (p.had.flip k).f j=true
   have hj':p.fresh≤j:=hj;rw [flip_f,if_neg (by omega)];exact h.rest j hj' hjn
theorem al_len{p:PgS}{q:Nat}{B:List UInt8}:(p.alB q B).length=B.length:=by
 unfold PgS.alB
 split
 ·exact stB_len _ _ _
 ·rfl
theorem al_byt{p:PgS}(h:PaOk p)(hc:0<p.had.cnt){q:Nat}{B:List UInt8}(hq:q+512≤B.length)(hz:PgZ B q p) :
  (∀i,i<p.unit.toNat→byt (p.alB q B) (q+p.alK*p.unit.toNat+i)=0)∧(∀j,¬(q+p.alK*p.unit.toNat≤j∧j<q+p.alK*p.unit.toNat+p.unit.toNat)→byt (p.alB q B) j=byt B j):=by
 obtain⟨hk,hf⟩:=alK_free h hc;have hb:=blk_at h hk;have hu:=h.unit;have hz':=hz p.alK hk hf;cases hr:p.pre.ready with
 |nil =>
  have ek:p.alK=p.fresh:=by unfold PgS.alK;rw [hr]
  have eB:p.alB q B=B:=by unfold PgS.alB;rw [hr]
  rw [ek] at hk hf hb hz' ⊢;rw [eB];refine⟨fun i hi=>?_,fun j _=>rfl⟩;rw [hz' i hi];obtain⟨e1,e2⟩:=pre_nil hr;have:p.lnk p.fresh=0:=by unfold PgS.lnk;rw [e1,e2];rfl
  rw [this];split<;>rfl
 |cons k l =>
  have ek:p.alK=k:=by unfold PgS.alK;rw [hr]
  have eB:p.alB q B=stB B ((p.on q).at k) 0:=by unfold PgS.alB;rw [hr]
  rw [ek] at hk hf hb hz' ⊢;rw [eB];have e:(p.on q).at k=((q+k*p.unit.toNat:Nat):Int):=by
   show (q:Int)+(k:Int)*p.unit=_;rw [hb.2];omega
  have hh:hasE B.length ((p.on q).at k) 8=0:=by rw [e];exact if_pos ⟨by omega,by omega,by omega,by omega⟩
  refine⟨fun i hi=>?_,fun j hj=>?_⟩
  ·rw [byt_st hh (by decide),e]
   by_cases c:i<8
   ·rw [if_pos (by omega)];split<;>rfl
   ·rw [if_neg (by omega),hz' i hi,if_neg (by omega)]
  ·rw [byt_st hh (by decide),e,if_neg (by omega)]
theorem mul_sep{a b u i j:Nat}(h:a≠b)(hi:i<u)(hj:j<u):a*u+i≠b*u+j:=by
 intro e;rcases Nat.lt_or_gt_of_ne h with c|c
 ·have:(a+1)*u≤b*u:=Nat.mul_le_mul_right u c
  rw [Nat.add_mul] at this;omega
 ·have:(b+1)*u≤a*u:=Nat.mul_le_mul_right u c
  rw [Nat.add_mul] at this;omega
theorem PgZ.al{p:PgS}(h:PaOk p)(hc:0<p.had.cnt){q:Nat}{B:List UInt8}(hq:q+512≤B.length)(hz:PgZ B q p):PgZ (p.alB q B) q p.alP:=by
 obtain⟨e1,e2,_⟩:=al_had (p:=p);have eu:p.alP.unit=p.unit:=by unfold PgS.unit;rw [e2]
 obtain⟨hb1,hb2⟩:=al_byt h hc hq hz;intro k hk hf i hi;rw [e1,flip_f] at hf;rw [e1,flip_n] at hk;rw [eu] at hi ⊢;by_cases e:k=p.alK
 ·rw [if_pos e,e,(alK_free h hc).2] at hf;exact absurd hf (by decide)
 ·rw [if_neg e] at hf
  rw [hb2 _ (fun c=>by
   have hlt:q+k*p.unit.toNat+i-(q+p.alK*p.unit.toNat)<p.unit.toNat:=by omega
   exact mul_sep e hi hlt (by omega)),hz k hk hf i hi]
  have:p.alP.lnk k=p.lnk k:=by
   rw [←(pre_same p).2.2.2 k];unfold PgS.alP PgS.alK at *;cases hr:p.pre.ready with
   |nil =>
    obtain⟨a1,a2⟩:=pre_nil hr;rw [(pre_same p).2.2.2 k];unfold PgS.lnk;simp only;rw [a1,a2]
   |cons a l =>
    simp only [hr] at e ⊢;unfold PgS.lnk;rw [hr];simp only [nx];rw [if_neg (fun q=>e q.symm)]
  rw [this]
theorem had_fresh{p:PgS}(h:PaOk p){k:Nat}(hk:k<p.had.n)(hf:p.had.f k=false):k<p.fresh:=by
 by_cases c:k<p.fresh
 ·exact c
 ·rw [h.rest k (by omega) hk] at hf;cases hf
theorem PaOk.fr{p:PgS}(h:PaOk p){k:Nat}(hk:k<p.had.n)(hf:p.had.f k=false):PaOk (p.fr k):=by
 have hlt:=had_fresh h hk hf;have hn:k∉p.ready++p.waiting:=fun q=>by have:=((h.lists k).1 q).2;rw [hf] at this;cases this
 refine⟨h.kind,h.n,h.fresh,?_,fun j=>?_,fun j hj hjn=>?_⟩
 ·show (p.ready++k :: p.waiting).Nodup
  have h1:=List.nodup_append.1 h.nodup;have hn':=hn;rw [List.mem_append,not_or] at hn';refine List.nodup_append.2 ⟨h1.1,List.nodup_cons.2 ⟨hn'.2,h1.2.1⟩,fun x hx y hy e=>?_⟩;rcases List.mem_cons.1 hy with q|q
  ·exact hn'.1 (by rw [←q,←e];exact hx)
  ·exact h1.2.2 x hx y q e
 ·show j∈p.ready++k :: p.waiting↔j<p.fresh∧(p.had.flip k).f j=true
  rw [flip_f];by_cases e:j=k
  ·subst e;simp [hf,hlt]
  ·rw [if_neg e,←h.lists j];simp [e]
 ·show (p.had.flip k).f j=true
  have hj':p.fresh≤j:=hj;rw [flip_f,if_neg (by omega)];exact h.rest j hj' hjn
theorem frB_len(p:PgS)(k:Nat)(B:List UInt8):(p.frB k B).length=B.length:=by unfold PgS.frB;rw [stB_len,zrB_len]
theorem fr_byt{p:PgS}(h:PaOk p){k:Nat}(hk:k<p.had.n){q:Nat}{B:List UInt8}(hq:q+512≤B.length) :
  (∀i,i<p.unit.toNat→byt ((p.on q).frB k B) (q+k*p.unit.toNat+i)=if i=0 then UInt8.ofNat (hd p.waiting+1).toNat else 0)∧(∀j,¬(q+k*p.unit.toNat≤j∧j<q+k*p.unit.toNat+p.unit.toNat)→byt ((p.on q).frB k B) j=byt B j):=by
 have hb:=blk_at h hk;have hu:=h.unit;have e:(p.on q).at k=((q+k*p.unit.toNat:Nat):Int):=by
  show (q:Int)+(k:Int)*p.unit=_;rw [hb.2];omega
 have h1:hasE B.length ((p.on q).at k) p.unit=0:=by rw [e];exact if_pos ⟨by omega,by omega,by omega,by omega⟩
 have h2:hasE (zrB B ((p.on q).at k) p.unit).length ((p.on q).at k) 8=0:=by rw [zrB_len,e];exact if_pos ⟨by omega,by omega,by omega,by omega⟩
 have hv:(hd p.waiting+1).toNat<256:=by
  have:=hd_bound (l:=p.waiting) (n:=p.had.n) (fun k hk=>h.mem (by simp [hk]));have:=h.n32;omega
 unfold PgS.frB;have eu:(p.on q).unit=p.unit:=rfl;have ew:(p.on q).waiting=p.waiting:=rfl;rw [eu,ew];refine⟨fun i hi=>?_,fun j hj=>?_⟩
 ·rw [byt_st h2 hv,byt_zr h1,e]
  by_cases c:i<8
  ·rw [if_pos (by omega)]
   by_cases c2:i=0
   ·rw [if_pos c2,if_pos (by omega)]
   ·rw [if_neg c2,if_neg (by omega)]
  ·rw [if_neg (by omega),if_pos (by omega),if_neg (by omega)]
 ·rw [byt_st h2 hv,byt_zr h1,e,if_neg (by omega),if_neg (by omega)]
theorem PgZ.fr{p:PgS}(h:PaOk p){k:Nat}(hk:k<p.had.n)(hf:p.had.f k=false){q:Nat}{B:List UInt8}(hq:q+512≤B.length)(hz:PgZ B q p):PgZ ((p.on q).frB k B) q (p.fr k):=by
 obtain⟨hb1,hb2⟩:=fr_byt h hk hq;have hn:k∉p.ready++p.waiting:=fun q=>by have:=((h.lists k).1 q).2;rw [hf] at this;cases this
 have eu:(p.fr k).unit=p.unit:=rfl;intro j hj hjf i hi;have hj':j<p.had.n:=hj;replace hjf:(p.had.flip k).f j=true:=hjf;rw [flip_f] at hjf;rw [eu] at hi ⊢;have hl:(p.fr k).lnk j=nx p.ready j+nx (k :: p.waiting) j:=rfl;by_cases e:j=k
 ·subst e
  rw [hb1 i hi,hl,nx_none (l:=p.ready) (fun q=>hn (by simp [q]))];simp [nx]
 ·rw [if_neg e] at hjf
  rw [hb2 _ (fun c=>by
   have hlt:q+j*p.unit.toNat+i-(q+k*p.unit.toNat)<p.unit.toNat:=by omega
   exact mul_sep e hi hlt (by omega)),hz j hj' hjf i hi,hl]
  have e2:nx (k :: p.waiting) j=nx p.waiting j:=by rw [nx,if_neg (fun q=>e q.symm)]
  rw [e2];rfl
end
end Go.Proofs.YtfliaggjkianpaaGreatDoor
