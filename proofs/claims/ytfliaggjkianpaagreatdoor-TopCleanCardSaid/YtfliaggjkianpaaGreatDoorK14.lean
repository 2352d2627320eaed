import Derived.Test.YtfliaggjkianpaaGreatDoorK13
set_option linter.unusedVariables false
set_option linter.unusedSimpArgs false
set_option maxRecDepth 100000
namespace Go.Proofs.YtfliaggjkianpaaGreatDoor
section
open Go.RowKit
section
variable{o:Nat→Tag}{t u z:Tag}{x:HpX}{B:List UInt8}{m:Nat}{cm:CmS}{win:List Int}{tb:TbS}{al:AlS}
theorem hpFree_run(b a c k s j:Nat)(w:World)(h:HpW w o t u z b a c x B m cm win tb al)(hp:HpOk B cm win tb al)(hx:x.is tb al)(ap:Ap3 t u z)(hm:m≤800000)(hk:8≤k)(hh:Had al k s j) :
  Calls Tryz.prog 148 #[.pointer (some ⟨b,0,none⟩),.int .i64 (posT k s j)] w fun e w'=>e=.returned (.int .i64 0)∧FrePost w o t u z b a c x B (m+20) cm win tb al k s j w':=by
 have hb:=HD (hpBlock b a c k s j w h.hp hh (hp.al.n k hh.there.1));have hj0:j=0:=by
  have:=there_iff.1 hh.1;have hr:roomT k=1:=room_one (by rw [per_out (by omega)];omega);omega
 subst hj0;have hrel:=HD (show ∀n,Calls Tryz.prog 204 #[.pointer (some ⟨b,0,none⟩),.int .i64 k,.int .i64 s] (w.drewN n) (fun e w'=>e=.returned (.tuple #[])∧FrePost w o t u z b a c x B (m+20) cm win tb al k s 0 w') from fun n=>by
  refine(hpRelease b a c k s (w.drewN n) (h.still (fr_drewN n)) ap (by omega) (relPre_of hp rfl hh.there.1 (had_n hp.al hh) hh.2.1)).mono ?_;rintro e w7 ⟨rfl,o7,B7,cm7,tb7,h7,R7,f7⟩;have e:al.fre k s 0=⟨up1 al.sl k ((al.sl k).flip s),al.ln,al.sm⟩:=if_neg (by omega);refine⟨rfl,o7,B7,cm7,tb7,by rw [e];exact h7.mono (by omega),fun y p hy=>?_,fre_run hp hk hh R7,((fr_drewN n).mono fun y q=>q.elim).trans f7⟩;rw [e] at hy;replace hy:mGet al.sm y=some p:=hy;rw [hx y p hy];have hy1:=(hp.al.pg y p hy).1;have hD:¬(vOf k s≤y∧y<vOf k s+pagesT k):=by
   have hs:=slot_in hh.there.1 hh.there.2.1;unfold vOf;omega
  unfold pgOf lookV;rw [R7.stay y hD])
 have d2:decide ((8:Int)≤(k:Int))=true:=decide_eq_true (by omega);clear h hp hx hh;generalize posT k s 0=ad at *;go_enter Tryz.func148,Tryz.ntmps148
 go_wp2_with fail;refine hb.out.mono ?_;rintro e w1 ⟨rfl,n,rfl⟩;go_wp2_with fail;refine(hrel.out n).mono ?_;rintro e w2 ⟨rfl,r⟩;replace r:=HD r;clear hrel hb;go_wp2_with fail;go_ret
 exact⟨rfl,r.out⟩
theorem hpFree_small(b a c k s j:Nat)(w:World)(h:HpW w o t u z b a c x B m cm win tb al)(hp:HpOk B cm win tb al)(hx:x.is tb al)(ap:Ap3 t u z)(hm:m≤800000)(hk:k<8)(hh:Had al k s j) :
  Calls Tryz.prog 148 #[.pointer (some ⟨b,0,none⟩),.int .i64 (posT k s j)] w fun e w'=>e=.returned (.int .i64 0)∧FrePost w o t u z b a c x B (m+20) cm win tb al k s j w':=by
 have hb:=HD (hpBlock b a c k s j w h.hp hh (hp.al.n k hh.there.1));obtain⟨p,hg,e2,e3⟩:=hh.2.2 hk;have hlo:=HD (fun w=>hpLocal k s w (by omega) hh.there.2.1);have hsm:∀n,(w.drewN n).cell? ⟨b,36,none⟩=some (.map (some x.gm))∧(Instr.lookup 199 (.map (some x.gm)) (.int .i64 (vOf k s)) false).run Tryz.prog (w.drewN n)=.ok (.pointer (some ⟨x.bp (vOf k s),0,none⟩)) (w.drewN n):=fun n=>⟨(h.hp.drewN n).cm,(h.hp.drewN n).look hg⟩
 have hfu:=HD (show ∀n,Calls Tryz.prog 199 #[.pointer (some ⟨x.bp (vOf k s),0,none⟩)] (w.drewN n) (fun e w'=>e=.returned (.bool (decide (p.had.cnt=0)))∧w'=w.drewN n) from fun n=>by
  have:=pgFull (x.bp (vOf k s)) a (w.drewN n) (p:=p.on (x.pf (vOf k s)*512:Nat)) ((h.hp.drewN n).pg _ p hg);exact this)
 have hkd:kdV (vOf k s)=k:=by have:=hh.there.2.1;unfold kdV vOf;rw [(pages_lt8 hk).1,(pages_lt8 hk).2] at *;omega
 have hstay:=HD (show ¬p.had.cnt=0→∀n,FreC w o t u z b a c x B (m+20) cm win tb al k s j (p.fr j).had.tkn (w.drewN n) from fun hne n=>by
  refine freC b a c k s j w hp hx ap hm hk hh hg (w2:=w.drewN n) (o2:=o) ?_ ((fr_drewN n).mono fun y q=>q.elim)
  have e:up1 al.ln k (al.backL k (vOf k s))=al.ln:=by unfold AlS.backL;rw [pgAt_some hg,if_neg hne,up1_eq]
  rw [e];exact h.still (fr_drewN n))
 have hpush:=HD (show p.had.cnt=0→∀n,(w.drewN n).cell? ⟨b,28+k,none⟩=some (.pointer (some ⟨x.bl k,0,none⟩))∧Calls Tryz.prog 203 #[.pointer (some ⟨x.bl k,0,none⟩),.int .i64 (vOf k s)] (w.drewN n) (fun e w2=>e=.returned (.int .i64 0)∧FreC w o t u z b a c x B (m+20) cm win tb al k s j (p.fr j).had.tkn w2) from fun hz n=>by
  have hd:=h.still (fr_drewN n);refine⟨hd.hp.cl hk,?_⟩;obtain⟨ls,hls,hli⟩:=hd.hp.ln k hk;have hnot:vOf k s∉al.ln k:=fun q=>by
   obtain⟨p',f1,_,f2⟩:=((hp.al.ln k hk).2 _).1 q;rw [hg] at f1;obtain rfl:=Option.some.inj f1;omega
  have hvr:=(hp.al.pg _ p hg).1;have hpu:=hli.push (k:=vOf k s) (by omega) hnot;have hlen2:ls.m.length<900000:=by
   rw [hli.len];have:(al.ln k).length≤2304:=nodup_len 2304 _ (hp.al.ln k hk).1 (fun y hy=>by
    obtain⟨p',f1,_⟩:=((hp.al.ln k hk).2 y).1 hy;have:=(hp.al.pg y p' f1).1;omega)
   omega
  have hpc:=lnPush (x.bl k) (vOf k s) (w.drewN n) hls hlen2;rw [hpu.1] at hpc;refine hpc.mono ?_;rintro e w4 ⟨rfl,q4,f4⟩;refine⟨rfl,freC b a c k s j w hp hx ap hm hk hh hg (w2:=w4) ?_ (((fr_drewN n).mono fun y q=>q.elim).trans (f4.mono fun y q=>.inl (by rw [q];exact Und.app t [3,k])))⟩;have e:al.backL k (vOf k s)=al.ln k++[vOf k s]:=by unfold AlS.backL;rw [pgAt_some hg,if_pos hz]
  rw [e];exact hd.inLn ap hk f4 q4 hpu.2)
 have d2:decide ((8:Int)≤(k:Int))=false:=decide_eq_false (by omega);have hidx:0≤(k:Int)∧(k:Int)<8:=by omega
 have hkk:((k:Int)).toNat=k:=by omega
 replace hsm:=HD hsm;clear h hp hx hh hg e2 e3 hkd;generalize posT k s j=ad at *;generalize (p.fr j).had.tkn=us at *;by_cases hz:p.had.cnt=0
 ·have hpush':=HD (hpush.out hz)
  rw [decide_eq_true hz] at hfu;by_cases hu:us=0
  ·have hd0:((us:Int)==0)=true:=by rw [hu];rfl
   clear hpush hstay hz;go_enter Tryz.func148,Tryz.ntmps148
   go_wp2_with fail;refine hb.out.mono ?_;rintro e w1 ⟨rfl,n,rfl⟩;obtain⟨c6,hlk⟩:=hsm.out n;obtain⟨cl,hpu⟩:=hpush'.out n;replace hpu:=HD hpu;clear hpush' hsm hb;go_wp2_with fail;refine SM (hlo.out _) ?_;go_wp2_with fail;refine SM (hfu.out _) ?_;go_wp2_with fail;refine hpu.out.mono ?_;rintro e w2 ⟨rfl,hC⟩;unfold FreC at hC;replace hC:=HD hC;clear hpu hfu;go_wp2_with fail;refine hC.out.mono ?_;rintro e w3 ⟨rfl,hus,hno,hyes⟩;obtain⟨cl3,hrm⟩:=hyes (by omega);replace hus:=HD hus;replace hrm:=HD hrm;clear hC hno hyes;go_wp2_with fail;refine hus.out.mono ?_;rintro e w4 ⟨rfl,rfl⟩;clear hus;go_wp2_with fail;refine hrm.out.mono ?_;rintro e w5 ⟨rfl,c65,w6,hdl,hrl⟩;replace hrl:=HD hrl;clear hrm;go_wp2_with fail;refine hrl.out.mono ?_;rintro e w7 ⟨rfl,r⟩;replace r:=HD r;clear hrl;go_wp2_with fail;go_ret
   exact⟨rfl,r.out⟩
  ·have hd0:((us:Int)==0)=false:=by rw [beq_eq_false_iff_ne];omega
   clear hpush hstay hz;go_enter Tryz.func148,Tryz.ntmps148
   go_wp2_with fail;refine hb.out.mono ?_;rintro e w1 ⟨rfl,n,rfl⟩;obtain⟨c6,hlk⟩:=hsm.out n;obtain⟨cl,hpu⟩:=hpush'.out n;replace hpu:=HD hpu;clear hpush' hsm hb;go_wp2_with fail;refine SM (hlo.out _) ?_;go_wp2_with fail;refine SM (hfu.out _) ?_;go_wp2_with fail;refine hpu.out.mono ?_;rintro e w2 ⟨rfl,hC⟩;unfold FreC at hC;replace hC:=HD hC;clear hpu hfu;go_wp2_with fail;refine hC.out.mono ?_;rintro e w3 ⟨rfl,hus,hno,hyes⟩;have r:=HD (hno (by omega));replace hus:=HD hus;clear hC hno hyes;go_wp2_with fail;refine hus.out.mono ?_;rintro e w4 ⟨rfl,rfl⟩;clear hus;go_wp2_with fail;go_ret
   exact⟨rfl,r.out⟩
 ·have hstay':=HD (hstay.out hz)
  rw [decide_eq_false hz] at hfu;by_cases hu:us=0
  ·have hd0:((us:Int)==0)=true:=by rw [hu];rfl
   clear hpush hstay hz;go_enter Tryz.func148,Tryz.ntmps148
   go_wp2_with fail;refine hb.out.mono ?_;rintro e w1 ⟨rfl,n,rfl⟩;obtain⟨c6,hlk⟩:=hsm.out n;have hC:=hstay'.out n;unfold FreC at hC;replace hC:=HD hC;clear hstay' hsm hb;go_wp2_with fail;refine SM (hlo.out _) ?_;go_wp2_with fail;refine SM (hfu.out _) ?_;clear hfu;go_wp2_with fail;refine hC.out.mono ?_;rintro e w3 ⟨rfl,hus,hno,hyes⟩;obtain⟨cl3,hrm⟩:=hyes (by omega);replace hus:=HD hus;replace hrm:=HD hrm;clear hC hno hyes;go_wp2_with fail;refine hus.out.mono ?_;rintro e w4 ⟨rfl,rfl⟩;clear hus;go_wp2_with fail;refine hrm.out.mono ?_;rintro e w5 ⟨rfl,c65,w6,hdl,hrl⟩;replace hrl:=HD hrl;clear hrm;go_wp2_with fail;refine hrl.out.mono ?_;rintro e w7 ⟨rfl,r⟩;replace r:=HD r;clear hrl;go_wp2_with fail;go_ret
   exact⟨rfl,r.out⟩
  ·have hd0:((us:Int)==0)=false:=by rw [beq_eq_false_iff_ne];omega
   clear hpush hstay hz;go_enter Tryz.func148,Tryz.ntmps148
   go_wp2_with fail;refine hb.out.mono ?_;rintro e w1 ⟨rfl,n,rfl⟩;obtain⟨c6,hlk⟩:=hsm.out n;have hC:=hstay'.out n;unfold FreC at hC;replace hC:=HD hC;clear hstay' hsm hb;go_wp2_with fail;refine SM (hlo.out _) ?_;go_wp2_with fail;refine SM (hfu.out _) ?_;clear hfu;go_wp2_with fail;refine hC.out.mono ?_;rintro e w3 ⟨rfl,hus,hno,hyes⟩;have r:=HD (hno (by omega));replace hus:=HD hus;clear hC hno hyes;go_wp2_with fail;refine hus.out.mono ?_;rintro e w4 ⟨rfl,rfl⟩;clear hus;go_wp2_with fail;go_ret
   exact⟨rfl,r.out⟩
end
end
section
open Go.RowKit
theorem map_range_set{α:Type}(f:Nat→α)(n j:Nat)(v:α):((List.range n).map f).set j v=(List.range n).map (up1 f j v):=by
 apply List.ext_getElem
 ·simp
 ·intro i h1 h2
  simp only [List.getElem_set,List.getElem_map,List.getElem_range];unfold up1;by_cases e:j=i
  ·rw [if_pos e,if_pos e.symm]
  ·rw [if_neg e,if_neg (fun q=>e q.symm)]
section
variable{a c:Nat}{wv:Value}{bt:Nat}{sv lv:Nat→Value}{mv v:Value}
theorem hp_set_slot{j:Nat}(h:j<24):(hpL a c wv bt sv lv mv).toArray.setIfInBounds (4+j) v=(hpL a c wv bt (up1 sv j v) lv mv).toArray:=by
 rw [List.setIfInBounds_toArray]
 congr 1
 unfold hpL;rw [List.set_append_right _ _ (by simp),List.set_append_left _ _ (by simp;omega)];simp only [List.length_cons,List.length_nil];rw [show 4+j-(0+1+1+1+1)=j by omega,map_range_set]
theorem hp_set_line{j:Nat}(h:j<8):(hpL a c wv bt sv lv mv).toArray.setIfInBounds (28+j) v=(hpL a c wv bt sv (up1 lv j v) mv).toArray:=by
 rw [List.setIfInBounds_toArray]
 congr 1
 unfold hpL;rw [List.set_append_right _ _ (by simp;omega),List.set_append_right _ _ (by simp;omega),List.set_append_left _ _ (by simp;omega)];simp only [List.length_cons,List.length_nil,List.length_map,List.length_range];rw [show 28+j-(0+1+1+1+1)-24=j by omega,map_range_set]
theorem hp_set_map:(hpL a c wv bt sv lv mv).toArray.setIfInBounds 36 v=(hpL a c wv bt sv lv v).toArray:=by
 rw [List.setIfInBounds_toArray]
 congr 1
end
structure EmpRel(w:World)(o:Nat→Tag)(t:Tag)(b a c:Nat)(wv:Value)(bt gm:Nat)(w':World)(o':Nat→Tag)(sv lv:Nat→Value)(bs bl gl:Nat→Nat)(j i:Nat):Prop where
 blk:Blk w' o' t b (hpL a c wv bt sv lv (.map (some gm))).toArray 201
 mp:MpAt w' o' (t++[4]) gm .i64 eP []
 tab:Tab w' o'
 sl:∀k,k<j→sv k=eP (bs k)∧ShAt w' o' (t++[2,k]) (bs k) (ShS.new (slotsT k).toNat)
 ln:∀k,k<i→lv k=eP (bl k)∧LnG w' o' (t++[3,k]) (bl k) (gl k) LnS.new
 fr:Fr (fun y=>y=t) w o w' o'
theorem EmpRel.fr_{w:World}{o:Nat→Tag}{t:Tag}{b a c:Nat}{wv:Value}{bt gm:Nat}{w':World}{o':Nat→Tag}{sv lv:Nat→Value}{bs bl gl:Nat→Nat}{j i:Nat}(h:EmpRel w o t b a c wv bt gm w' o' sv lv bs bl gl j i){w2:World}{o2:Nat→Tag}(f:Fr (fun _=>False) w' o' w2 o2):EmpRel w o t b a c wv bt gm w2 o2 sv lv bs bl gl j i :=
 ⟨h.blk.fr f (fun q=>q),h.mp.fr f (fun q=>q),h.tab.fr f (fun q=>q),fun k hk=>⟨(h.sl k hk).1,(h.sl k hk).2.fr f off_no⟩,fun k hk=>⟨(h.ln k hk).1,(h.ln k hk).2.fr f (fun q=>q)⟩,h.fr.trans (f.mono fun y q=>q.elim)⟩
theorem eq_off{t:Tag}(h9:¬t <+: [9])(n:Nat)(r:Tag):Off (fun y=>y=t) (t++n :: r):=⟨fun y hy e=>not_und t n r (by have q:=hy;rwa [e] at q),fun e=>h9 (by rw [←e];exact List.prefix_refl _)⟩
theorem EmpRel.slot{w:World}{o:Nat→Tag}{t:Tag}{b a c:Nat}{wv:Value}{bt gm:Nat}{w':World}{o':Nat→Tag}{sv lv:Nat→Value}{bs bl gl:Nat→Nat}{j i:Nat}(h:EmpRel w o t b a c wv bt gm w' o' sv lv bs bl gl j i)(h9:¬t <+: [9])(hj:j<24){w2:World}{o2:Nat→Tag}{bn:Nat}(f:Fr (fun _=>False) w' o' w2 o2)(q:ShAt w2 o2 (t++[2,j]) bn (ShS.new (slotsT j).toNat)) :
  EmpRel w o t b a c wv bt gm (w2.setCell ⟨b,4+j,none⟩ (eP bn)) o2 (up1 sv j (eP bn)) lv (up1 bs j bn) bl gl (j+1) i:=by
 have h2:=h.fr_ f;have fs:Fr (fun y=>y=t) w2 o2 (w2.setCell ⟨b,4+j,none⟩ (eP bn)) o2:=Fr.setCell (fun _=>h2.blk.1) _;refine⟨by have:=h2.blk.set (4+j) (eP bn);rwa [hp_set_slot hj] at this,h2.mp.fr fs (eq_off h9 4 []).self,h2.tab.fr fs (fun e=>h9 (by rw [←e];exact List.prefix_refl _)),fun k hk=>?_,fun k hk=>⟨(h2.ln k hk).1,(h2.ln k hk).2.fr fs (eq_off h9 3 [k]).self⟩,h2.fr.trans fs⟩;by_cases e:k=j
 ·subst e;rw [up1_same,up1_same];exact⟨rfl,q.fr fs (eq_off h9 2 [k])⟩
 ·rw [up1_other e,up1_other e]
  have:=h2.sl k (by omega);exact⟨this.1,this.2.fr fs (eq_off h9 2 [k])⟩
theorem EmpRel.line{w:World}{o:Nat→Tag}{t:Tag}{b a c:Nat}{wv:Value}{bt gm:Nat}{w':World}{o':Nat→Tag}{sv lv:Nat→Value}{bs bl gl:Nat→Nat}{j i:Nat}(h:EmpRel w o t b a c wv bt gm w' o' sv lv bs bl gl j i)(h9:¬t <+: [9])(hi:i<8){w2:World}{o2:Nat→Tag}{bn gn:Nat}(f:Fr (fun _=>False) w' o' w2 o2)(q:LnG w2 o2 (t++[3,i]) bn gn LnS.new) :
  EmpRel w o t b a c wv bt gm (w2.setCell ⟨b,28+i,none⟩ (eP bn)) o2 sv (up1 lv i (eP bn)) bs (up1 bl i bn) (up1 gl i gn) j (i+1):=by
 have h2:=h.fr_ f;have fs:Fr (fun y=>y=t) w2 o2 (w2.setCell ⟨b,28+i,none⟩ (eP bn)) o2:=Fr.setCell (fun _=>h2.blk.1) _;refine⟨by have:=h2.blk.set (28+i) (eP bn);rwa [hp_set_line hi] at this,h2.mp.fr fs (eq_off h9 4 []).self,h2.tab.fr fs (fun e=>h9 (by rw [←e];exact List.prefix_refl _)),fun k hk=>⟨(h2.sl k hk).1,(h2.sl k hk).2.fr fs (eq_off h9 2 [k])⟩,fun k hk=>?_,h2.fr.trans fs⟩;by_cases e:k=i
 ·subst e;rw [up1_same,up1_same,up1_same];exact⟨rfl,q.fr fs (eq_off h9 3 [k]).self⟩
 ·rw [up1_other e,up1_other e,up1_other e]
  have:=h2.ln k (by omega);exact⟨this.1,this.2.fr fs (eq_off h9 3 [k]).self⟩
theorem hpEmpty(b a c:Nat)(w:World){o:Nat→Tag}{t:Tag}{wv:Value}{bt:Nat}{sv lv:Nat→Value}{mv:Value}(h:Blk w o t b (hpL a c wv bt sv lv mv).toArray 201)(hT:Tab w o)(h9:¬t <+: [9]) :
  Calls Tryz.prog 126 #[.pointer (some ⟨b,0,none⟩)] w fun e w'=>e=.returned (.tuple #[])∧∃gm o' sv' lv' bs bl gl,EmpRel w o t b a c wv bt gm w' o' sv' lv' bs bl gl 24 8:=by
 have hmk:∀w,(Instr.makeMap 199 none).run Tryz.prog w=.ok (.map (some w.heap.size)) (w.alloc (.map #[] 0)):=fun w=>run_makeMap _ w
 have ha:=Fr.alloc (S:=fun y=>y=t) (w:=w) (o:=o) (.map #[] 0) (t++[4]);have hba:=(h.setO (k:=w.heap.size) (u:=t++[4]) (Nat.le_refl _)).alloc (.map #[] 0);have fs:Fr (fun y=>y=t) (w.alloc (.map #[] 0)) (setO o w.heap.size (t++[4])) ((w.alloc (.map #[] 0)).setCell ⟨b,36,none⟩ (.map (some w.heap.size))) (setO o w.heap.size (t++[4])):=Fr.setCell (fun _=>hba.1) _;have c36:(w.alloc (.map #[] 0)).cell? ⟨b,36,none⟩=some mv:=hba.cell' (i:=36) rfl;have f36:=hba.free 36;have hR0:Hid (EmpRel w o t b a c wv bt w.heap.size ((w.alloc (.map #[] 0)).setCell ⟨b,36,none⟩ (.map (some w.heap.size))) (setO o w.heap.size (t++[4])) sv lv (fun _=>0) (fun _=>0) (fun _=>0) 0 0):=Lib.hid
  ⟨by have:=hba.set 36 (.map (some w.heap.size));rwa [hp_set_map] at this,(MpAt.made w o (t++[4]) .i64 eP).fr fs (eq_off h9 4 []).self,(hT.fr ha (fun e=>h9 (by rw [←e];exact List.prefix_refl _))).fr fs (fun e=>h9 (by rw [←e];exact List.prefix_refl _)),fun k hk=>by omega,fun k hk=>by omega,ha.trans fs⟩
 have hsl:=HD (fun c w=>slots_any c w);clear ha hba fs h hT;generalize hgm:w.heap.size=gm at *;go_enter Tryz.func126,Tryz.ntmps126
 go_wp2_with fail;go_loopg [8] 24 (fun gh i wx=>∃(j:Nat) (o':Nat→Tag) (sv':Nat→Value) (bs:Nat→Nat),j≤24∧gh=24-j∧i=.int .i64 j∧Hid (EmpRel w o t b a c wv bt gm wx o' sv' lv bs (fun _=>0) (fun _=>0) j 0))
 case atStart=>exact⟨0,_,_,_,Nat.zero_le _,rfl,rfl,hR0⟩
 case round =>
  clear hR0;obtain⟨j,o',sv',bs,hj,rfl,rfl,hR⟩:=hrel;by_cases hlt:j<24
  ·have d0:decide ((j:Int)<24)=true:=decide_eq_true (by omega)
   have hidx:0≤(j:Int)∧(j:Int)<24:=by omega
   have hjj:((j:Int)).toNat=j:=by omega
   have hcd:Blk wr.drew o' t b (hpL a c wv bt sv' lv (.map (some gm))).toArray 201:=hR.out.blk;have hc0:wr.drew.cell? ⟨b,4+j,none⟩=some (sv' j)∧wr.drew.frozen? ⟨b,4+j,none⟩=false:=⟨hcd.cell' (hp_slot hlt),hcd.free _⟩
   have hkf:=kind_facts (c:=(j:Int)) (by omega) (by omega);have hnw:=HD (show ∀v:Int,v=slotsT j→Calls Tryz.prog 77 #[.int .i64 v] wr.drew (ShNew wr.drew o' (t++[2,j]) (slotsT j).toNat) from fun v e=>by
    have:=shNew (slotsT j).toNat wr.drew o' (t++[2,j]) (hR.out.tab.fr (S:=fun _=>False) Fr.drew (fun q=>q)) (by omega)
    rwa [show (((slotsT j).toNat:Nat):Int)=v by omega] at this)
   have hfin:=HD (show ∀w3 bn o3,ShAt w3 o3 (t++[2,j]) bn (ShS.new (slotsT j).toNat)→Fr (fun _=>False) wr.drew o' w3 o3→(w3.cell? ⟨b,4+j,none⟩=some (sv' j)∧w3.frozen? ⟨b,4+j,none⟩=false) ∧
     ((w3.setCell ⟨b,4+j,none⟩ (eP bn)).cell? ⟨b,4+j,none⟩=some (eP bn)∧(w3.setCell ⟨b,4+j,none⟩ (eP bn)).frozen? ⟨b,4+j,none⟩=false)∧EmpRel w o t b a c wv bt gm (w3.setCell ⟨b,4+j,none⟩ (eP bn)) o3 (up1 sv' j (eP bn)) lv (up1 bs j bn) (fun _=>0) (fun _=>0) (j+1) 0 from fun w3 bn o3 q3 f3=>by
    have h3:=hcd.fr f3 (fun q=>q);have hs:=(hR.out.fr_ (Fr.drew (S:=fun _=>False))).slot h9 hlt f3 q3;exact⟨⟨h3.cell' (hp_slot hlt),h3.free _⟩,⟨by have:=hs.blk.cell' (hp_slot hlt);rwa [up1_same] at this,hs.blk.free _⟩,hs⟩)
   clear hR hcd hkf;go_wp2_with fail;refine wp_region_noPanic ?_;refine wp_region_held_drew (S:=(fun W=>W.frozen? ⟨b,4+j,none⟩=false)) (by kernel_rfl) ?_ (fun hHeld=>?_)
   ·(first|exact hc0.2|exact hcs|exact hcs3)
   refine tkH 0 (h:=?_);refine tkH 1 (h:=?_);refine tkH 2 (h:=?_);refine tkH 8 (h:=?_);refine tkH 9 (h:=?_);refine onH 3 (h:=fun K hK=>?_);go_simp;refine(hsl.out _ _).mono ?_;rintro e w2 ⟨rfl,rfl⟩;have hcs:=hc0.2;go_wp2_with fail;refine hK.out _ _ ?_ (fun hHeld=>?_)
   ·(first|exact hc0.2|exact hcs|exact hcs3)
   clear hK;refine nmH (h:=?_);refine onH 4 (h:=fun K hK=>?_);go_simp;refine(hnw.out _ rfl).mono ?_;rintro e w3 ⟨bn,o3,rfl,q3,f3⟩;have hnx:=HD (hfin.out w3 bn o3 q3 f3);have hcs:=hnx.out.1.2;have hce:=hnx.out.1.1;have hcs3:=hnx.out.2.1.2;clear q3 f3;go_wp2_with fail;refine hK.out _ _ ?_ (fun hHeld=>?_)
   ·(first|exact hc0.2|exact hcs|exact hcs3)
   clear hK;refine nmH (h:=?_);refine tkH 5 (h:=?_);refine tkH 6 (h:=?_);refine tkH 7 (h:=?_);refine tkH 10 (h:=?_);refine onH 11 (h:=fun K hK=>?_);go_simp;refine hK.out _ _ ?_ (fun hHeld=>?_)
   ·(first|exact hc0.2|exact hcs|exact hcs3)
   clear hK;refine nmH (h:=?_);refine wpAnyH_done (by kernel_rfl) ?_ _;refine NoPanic.normal ?_;replace hnx:=HD hnx.out.2.2;clear hcs hcs3 hce hfin hnw hc0;go_wp2_with fail;go_roundg (24-(j+1))
   case measure=>omega
   case rel=>exact⟨j+1,_,_,_,by omega,rfl,by go_num,hnx⟩
  ·obtain rfl:j=24:=by omega
   have hR1:=HD hR.out;clear hR;go_wp2_with fail;go_loopg [23] 8 (fun gh i wx=>∃(j:Nat) (o':Nat→Tag) (lv':Nat→Value) (bl gl:Nat→Nat),j≤8∧gh=8-j∧i=.int .i64 j∧Hid (EmpRel w o t b a c wv bt gm wx o' sv' lv' bs bl gl 24 j))
   case atStart=>exact⟨0,_,_,_,_,Nat.zero_le _,rfl,rfl,hR1⟩
   case round =>
    clear hR1;obtain⟨j,o1,lv',bl,gl,hj,rfl,rfl,hR⟩:=hrel;by_cases hlt:j<8
    ·have d0:decide ((j:Int)<8)=true:=decide_eq_true (by omega)
     have hidx:0≤(j:Int)∧(j:Int)<8:=by omega
     have hjj:((j:Int)).toNat=j:=by omega
     have hcd:Blk wr.drew o1 t b (hpL a c wv bt sv' lv' (.map (some gm))).toArray 201:=hR.out.blk;have hc0:wr.drew.cell? ⟨b,28+j,none⟩=some (lv' j)∧wr.drew.frozen? ⟨b,28+j,none⟩=false:=⟨hcd.cell' (hp_line hlt),hcd.free _⟩
     have hnw:=HD (lnNew wr.drew o1 (t++[3,j]));have hfin:=HD (show ∀w3 bn,LnAt w3 (newO o1 wr.drew (t++[3,j])) (t++[3,j]) bn LnS.new→Below wr.drew.heap.size wr.drew w3→(w3.cell? ⟨b,28+j,none⟩=some (lv' j)∧w3.frozen? ⟨b,28+j,none⟩=false) ∧
       ((w3.setCell ⟨b,28+j,none⟩ (eP bn)).cell? ⟨b,28+j,none⟩=some (eP bn)∧(w3.setCell ⟨b,28+j,none⟩ (eP bn)).frozen? ⟨b,28+j,none⟩=false)∧∃gn,EmpRel w o t b a c wv bt gm (w3.setCell ⟨b,28+j,none⟩ (eP bn)) (newO o1 wr.drew (t++[3,j])) sv' (up1 lv' j (eP bn)) bs (up1 bl j bn) (up1 gl j gn) 24 (j+1) from fun w3 bn q3 f3=>by
      have ff:Fr (fun _=>False) wr.drew o1 w3 (newO o1 wr.drew (t++[3,j])):=Fr.below' f3 _;have h3:=hcd.fr ff (fun q=>q);obtain⟨gn,q3⟩:=q3;have hs:=(hR.out.fr_ (Fr.drew (S:=fun _=>False))).line h9 hlt (gn:=gn) ff q3;exact⟨⟨h3.cell' (hp_line hlt),h3.free _⟩,⟨by have:=hs.blk.cell' (hp_line hlt);rwa [up1_same] at this,hs.blk.free _⟩,gn,hs⟩)
     clear hR hcd;go_wp2_with fail;refine wp_region_noPanic ?_;refine wp_region_held_drew (S:=(fun W=>W.frozen? ⟨b,28+j,none⟩=false)) (by kernel_rfl) ?_ (fun hHeld=>?_)
     ·(first|exact hc0.2|exact hcs|exact hcs3)
     refine tkH 0 (h:=?_);refine tkH 1 (h:=?_);refine tkH 3 (h:=?_);refine tkH 4 (h:=?_);refine onH 2 (h:=fun K hK=>?_);go_simp;refine hnw.out.mono ?_;rintro e w3 ⟨⟨bn,rfl,q3⟩,f3⟩;have hnx:=HD (hfin.out w3 bn q3 f3);have hcs:=hnx.out.1.2;have hce:=hnx.out.1.1;have hcs3:=hnx.out.2.1.2;clear q3 f3;go_wp2_with fail;refine hK.out _ _ ?_ (fun hHeld=>?_)
     ·(first|exact hc0.2|exact hcs|exact hcs3)
     clear hK;refine nmH (h:=?_);refine tkH 5 (h:=?_);refine onH 6 (h:=fun K hK=>?_);go_simp;refine hK.out _ _ ?_ (fun hHeld=>?_)
     ·(first|exact hc0.2|exact hcs|exact hcs3)
     clear hK;refine nmH (h:=?_);refine wpAnyH_done (by kernel_rfl) ?_ _;refine NoPanic.normal ?_;obtain⟨gn,hnx⟩:=hnx.out.2.2;replace hnx:=HD hnx;clear hcs hcs3 hce hfin hnw hc0;go_wp2_with fail;go_roundg (8-(j+1))
     case measure=>omega
     case rel=>exact⟨j+1,_,_,_,_,by omega,rfl,by go_num,hnx⟩
    ·obtain rfl:j=8:=by omega
     go_wp2_with fail;exact bodyPost_end (results_none (by kernel_rfl) _ _ _) rfl ⟨rfl,gm,o1,sv',lv',bs,bl,gl,hR.out⟩
end
section
open Go.RowKit
theorem EmpRel.hp{w:World}{o:Nat→Tag}{t:Tag}{b a c:Nat}{wv:Value}{bt gm:Nat}{w':World}{o':Nat→Tag}{sv lv:Nat→Value}{bs bl gl:Nat→Nat}(h:EmpRel w o t b a c wv bt gm w' o' sv lv bs bl gl 24 8){win:List Int}{tb:TbS}(hw:IRow w' o' (t++[0]) wv win)(ht:TbAt w' o' (t++[1]) bt tb) :
  HpG w' o' t b a c ⟨bt,gm,wv,bs,bl,gl,fun _=>0,fun _=>0⟩ win tb AlS.new:=by
 refine⟨?_,hw,ht,fun k hk=>(h.sl k hk).2,fun k hk=>⟨LnS.new,(h.ln k hk).2,LnIs.new⟩,h.mp,fun v p hp=>by cases hp⟩;have e:(hpL a c wv bt sv lv (.map (some gm)))=hpL a c wv bt (fun k=>eP (bs k)) (fun k=>eP (bl k)) (.map (some gm)):=by
  unfold hpL;have e1:(List.range 24).map sv=(List.range 24).map fun k=>eP (bs k):=List.map_congr_left fun k hk=>(h.sl k (List.mem_range.1 hk)).1
  have e2:(List.range 8).map lv=(List.range 8).map fun k=>eP (bl k):=List.map_congr_left fun k hk=>(h.ln k (List.mem_range.1 hk)).1
  rw [e1,e2]
 have:=h.blk;rw [e] at this;exact this
theorem hpNew(a c:Nat)(v:Value)(win:List Int)(w:World)(o:Nat→Tag)(t tw:Tag)(hv:Ints w o tw v win)(hl:win.length≤1000)(hT:Tab w o)(h9:¬t <+: [9]) :
  Calls Tryz.prog 87 #[.pointer (some ⟨a,0,none⟩),.pointer (some ⟨c,0,none⟩),v] w fun e w'=>∃b x o',e=.returned (.tuple #[.pointer (some ⟨b,0,none⟩),.int .i64 0])∧HpG w' o' t b a c x win ⟨[],[]⟩ AlS.new∧Fr (Und t) w o w' o':=by
 have hcl:=HD (slClone hv (t++[0]) (by omega));clear hv;go_enter Tryz.func87,Tryz.ntmps87
 go_wp2_with fail;refine hcl.out.mono ?_;rintro e w1 ⟨v1,rfl,r1,hb1⟩;obtain⟨A1,c1,rfl,_⟩:=r1.ints;have ff1:Fr (fun _=>False) w o w1 (newO o w (t++[0])):=Fr.below' hb1 _;have htn:=HD (tbNew w1 (newO o w (t++[0])) (t++[1]));have hT1:=hT.fr ff1 (fun q=>q);have r1':=HD r1;have ff1':=HD ff1;clear r1 ff1 hb1 hT hcl;go_wp2_with fail;refine htn.out.mono ?_;rintro e w2 ⟨⟨bt,rfl,q2⟩,hb2⟩;have ff2:Fr (fun _=>False) w1 (newO o w (t++[0])) w2 (newO (newO o w (t++[0])) w1 (t++[1])):=Fr.below' hb2 _;have hT2:=hT1.fr ff2 (fun q=>q);have r2':=HD (r1'.out.fr ff2 (fun q=>q));have q2':=HD q2;have ff2':=HD (ff1'.out.trans ff2);clear q2 hb2 ff2 hT1 r1' ff1' htn;have ecells:(hpL a c (.slice A1 win.length c1) bt (fun _=>.pointer none) (fun _=>.pointer none) (.map none)).toArray=#[.pointer (some ⟨a,0,none⟩),.pointer (some ⟨c,0,none⟩),(.slice A1 win.length c1),.pointer (some ⟨bt,0,none⟩),.pointer none,.pointer none,.pointer none,.pointer none,.pointer none,.pointer none,.pointer none,.pointer none,.pointer none,.pointer none,.pointer none,.pointer none,.pointer none,.pointer none,.pointer none,.pointer none,.pointer none,.pointer none,.pointer none,.pointer none,.pointer none,.pointer none,.pointer none,.pointer none,.pointer none,.pointer none,.pointer none,.pointer none,.pointer none,.pointer none,.pointer none,.pointer none,.map none]:=rfl;have hem:=HD (show Calls Tryz.prog 126 #[.pointer (some ⟨w2.heap.size,0,none⟩)] (w2.alloc (.cells #[.pointer (some ⟨a,0,none⟩),.pointer (some ⟨c,0,none⟩),(.slice A1 win.length c1),.pointer (some ⟨bt,0,none⟩),.pointer none,.pointer none,.pointer none,.pointer none,.pointer none,.pointer none,.pointer none,.pointer none,.pointer none,.pointer none,.pointer none,.pointer none,.pointer none,.pointer none,.pointer none,.pointer none,.pointer none,.pointer none,.pointer none,.pointer none,.pointer none,.pointer none,.pointer none,.pointer none,.pointer none,.pointer none,.pointer none,.pointer none,.pointer none,.pointer none,.pointer none,.pointer none,.map none] 201)) (fun e w'=>e=.returned (.tuple #[])∧∃x o',HpG w' o' t w2.heap.size a c x win ⟨[],[]⟩ AlS.new∧Fr (Und t) w o w' o') from by
  have hbk:=Blk.made w2 (newO (newO o w (t++[0])) w1 (t++[1])) t (hpL a c (.slice A1 win.length c1) bt (fun _=>.pointer none) (fun _=>.pointer none) (.map none)).toArray 201;have fa:=Fr.alloc (S:=fun _=>False) (w:=w2) (o:=newO (newO o w (t++[0])) w1 (t++[1])) (.cells (hpL a c (.slice A1 win.length c1) bt (fun _=>.pointer none) (fun _=>.pointer none) (.map none)).toArray 201) t;rw [ecells] at hbk fa;rw [←ecells] at hbk;have he:=hpEmpty w2.heap.size a c _ hbk (hT2.fr fa (fun q=>q)) h9;refine he.mono ?_;rintro e w' ⟨rfl,gm,o',sv',lv',bs,bl,gl,h⟩;have hfr:=h.fr;have r3:=((r2'.out.fr fa (fun q=>q)).fr hfr (fun e=>by simp at e))
  have q3:=((q2'.out.fr fa off_no).fr hfr (eq_off h9 1 []))
  refine⟨rfl,_,o',h.hp r3 q3,?_⟩;exact((ff2'.out.trans fa).mono fun y q=>q.elim).trans (hfr.mono fun y q=>by rw [q];exact Und.self t))
 clear hT2 r2' q2' ff2' ecells;go_wp2_with fail;refine hem.out.mono ?_;rintro e w3 ⟨rfl,x,o3,r⟩;replace r:=HD r;clear hem;go_wp2_with fail;go_ret2
 exact⟨_,_,_,rfl,r.out⟩
end
section
open Go.RowKit
def outB(cm:CmS)(tb:TbS)(win:List Int)(v:Int):Bool:=!win.contains (cm.col (lookV tb.pg v))
theorem infoInt1:(Tryz.prog.info? 3).map (fun i=>(i.zero,i.size,i.bytes))=some (some (.int .i64 0),1,8):=by kernel_rfl
theorem hpOutside(b a c:Nat)(wv:Value)(win':List Int)(w:World){o:Nat→Tag}{t u tw ou:Tag}{x:HpX}{cm:CmS}{win:List Int}{tb:TbS}{al:AlS}(h:HpG w o t b a c x win tb al)(hcm:CmAt w o u c cm)(hw:Ints w o tw wv win')(hwl:win'.length≤1000) :
  Calls Tryz.prog 127 #[.pointer (some ⟨b,0,none⟩),wv] w fun e w'=>∃v,e=.returned v∧IRow w' (newO o w ou) ou v ((tb.pg.map (·.1)).filter (outB cm tb win'))∧Below w.heap.size w w':=by
 obtain⟨i0,hi,hz0,hz1,hz2⟩:=info_parts infoInt1;have c3:w.cell? ⟨b,3,none⟩=some (.pointer (some ⟨x.bt,0,none⟩)):=h.c3;have hall:=HD (tbAll x.bt w h.ta ou);have hr1:tb.pg.length≤6400:=by
  obtain⟨h0,g,l,_,h2,_⟩:=h.ta;have:=rise_len h2.2.1 256 6400 (by omega) h0.1;omega
 have h':=HD h;have hcm':=HD hcm;have hw':=HD hw;clear h hcm hw;generalize hks:tb.pg.map (·.1)=ks at *;have hksl:ks.length≤6400:=by rw [←hks,List.length_map];exact hr1
 clear hks hr1;go_enter Tryz.func127,Tryz.ntmps127
 go_wp2_with fail;refine hall.out.mono ?_;rintro e w1 ⟨v1,rfl,r1,hb1⟩;obtain⟨A1,c1',rfl,hc1⟩:=r1.ints;replace hc1:=HD hc1;have hb1':=HD hb1;clear r1 hall c3 hb1;go_wp2_with fail;go_loopg [4,13] ks.length (fun gh v i wx=>∃(j:Nat) (A:List Int),j≤ks.length∧gh=ks.length-j∧i=.int .i64 j∧A.length≤j∧Hid (A=(ks.take j).filter (outB cm tb win'))∧Hid (wx.ownsRow w1.heap.size 3 1 v A.length (A.map eI))∧Hid (Below w1.heap.size w1 wx))
 case atStart=>exact⟨0,[],Nat.zero_le _,rfl,rfl,Nat.le_refl _,HD rfl,HD ⟨rfl,.inl ⟨rfl,rfl⟩⟩,HD (Below.refl _ _)⟩
 case round =>
  obtain⟨j,A,hj,rfl,rfl,hAl,hA,hS,hB⟩:=hrel;by_cases hlt:j<ks.length
  ·have d0:decide ((j:Int)<(ks.length:Int))=true:=decide_eq_true (by omega)
   obtain⟨g,off,rfl,gl,go,hc⟩:=hc1.out (by omega);have hcell:=(hc j hlt)
   have c0:wr.cell? ⟨g,off+j,none⟩=some (.int .i64 ks[j]):=(hB.out.cell (p:=⟨g,off+j,none⟩) gl).trans hcell;have hBw:Below w.heap.size w wr:=hb1'.out.trans (hB.out.mono hb1'.out.size);have hd:=(h'.out.fr (Fr.below (S:=fun _=>False) hBw) off_no).drew;have hcd:=cm_drew (hcm'.out.fr (Fr.below (S:=fun _=>False) hBw) off_no);have c1:=hd.c1;have c3:=hd.c3;have hfi:=HD (tbFind x.bt ks[j] wr.drew hd.ta);have hco:=HD (cmColour c (lookV tb.pg ks[j]) wr.drew hcd);have hct:=HD (slContains (((hw'.out.fr (Fr.below (S:=fun _=>False) hBw) (fun q=>q)).fr (Fr.drew (S:=fun _=>False)) (fun q=>q))) (cm.col (lookV tb.pg ks[j])) (by omega));have htk:=List.take_succ_eq_append_getElem hlt;have hbs:=HD hB.out.size;generalize ks[j]=k at *;clear hcell hc hd hcd hBw hc1;by_cases hout:outB cm tb win' k=true
   ·have hct2:win'.contains (cm.col (lookV tb.pg k))=false:=by unfold outB at hout;simpa using hout
    rw [hct2] at hct;have hA2:Hid (A++[k]=(ks.take (j+1)).filter (outB cm tb win')):=HD (by rw [htk,List.filter_append,←hA.out];simp [hout]);have hB2:=HD (((hB.out.drew).alloc (o:=.cells #[.int .i64 k] 3) (by show w1.heap.size≤wr.heap.size;exact hB.out.size)));clear htk hA hout hct2;go_wp2_with fail;refine wp_region_noPanic ?_;refine wp_region_held_drew (S:=(fun W=>W.cell? ⟨b,1,none⟩=some (.pointer (some ⟨c,0,none⟩))∧W.cell? ⟨b,3,none⟩=some (.pointer (some ⟨x.bt,0,none⟩)))) (by kernel_rfl) ?_ (fun hHeld=>?_)
    ·(first|exact⟨c1,c3⟩|exact hcs)
    refine tkH 0 (h:=?_);refine tkH 1 (h:=?_);refine tkH 2 (h:=?_);refine tkH 3 (h:=?_);refine tkH 4 (h:=?_);refine tkH 5 (h:=?_);refine tkH 6 (h:=?_);refine tkH 7 (h:=?_);refine tkH 8 (h:=?_);refine tkH 9 (h:=?_);refine onH 10 (h:=fun K hK=>?_);go_simp;refine hfi.out.mono ?_;rintro e w2 ⟨rfl,rfl⟩;have hcs:wr.drew.cell? ⟨b,1,none⟩=some (.pointer (some ⟨c,0,none⟩))∧wr.drew.cell? ⟨b,3,none⟩=some (.pointer (some ⟨x.bt,0,none⟩)):=⟨c1,c3⟩
    go_wp2_with fail;refine hK.out _ _ ?_ (fun hHeld=>?_)
    ·(first|exact⟨c1,c3⟩|exact hcs)
    clear hK;refine nmH (h:=?_);refine onH 11 (h:=fun K hK=>?_);go_simp;refine hco.out.mono ?_;rintro e w2 ⟨rfl,rfl⟩;have hcs:wr.drew.cell? ⟨b,1,none⟩=some (.pointer (some ⟨c,0,none⟩))∧wr.drew.cell? ⟨b,3,none⟩=some (.pointer (some ⟨x.bt,0,none⟩)):=⟨c1,c3⟩
    go_wp2_with fail;refine hK.out _ _ ?_ (fun hHeld=>?_)
    ·(first|exact⟨c1,c3⟩|exact hcs)
    clear hK;refine nmH (h:=?_);refine onH 12 (h:=fun K hK=>?_);go_simp;refine hct.out.mono ?_;rintro e w2 ⟨rfl,rfl⟩;have hcs:wr.drew.cell? ⟨b,1,none⟩=some (.pointer (some ⟨c,0,none⟩))∧wr.drew.cell? ⟨b,3,none⟩=some (.pointer (some ⟨x.bt,0,none⟩)):=⟨c1,c3⟩
    go_wp2_with fail;refine hK.out _ _ ?_ (fun hHeld=>?_)
    ·(first|exact⟨c1,c3⟩|exact hcs)
    clear hK;refine nmH (h:=?_);refine tkH 13 (h:=?_);refine wpAnyH_done (by kernel_rfl) ?_ _;refine NoPanic.normal ?_;go_wp2_with (at_builtin;refine wpList_append_own _ rfl _ _ 110 rfl w1.heap.size 3 i0 (.int .i64 0) 1 8 Tryz.underlying110 hi hz0 hz1 hz2 rfl (by decide) _ _ _ rfl ((show wr.drew.ownsRow w1.heap.size 3 1 _ A.length (A.map eI) from hS.out).alloc _) _ 1 1 [.int .i64 k] rfl rfl ?c1 ?c2 ?c3 ?c4 ?c5 ?_)
    case c1 =>
     intro q u hq;match q,hq with
     |0,hq=>simp at hq;subst hq;simp [Addr.add]
    case c2=>intro u hu;simp at hu;rw [hu];rfl
    case c3=>unfold maxLen;omega
    case c4=>omega
    case c5=>simp;have:=hbs.out;omega
    intro v2 w2 hr2 hg2 _;have hr3:w2.ownsRow w1.heap.size 3 1 v2 (A++[k]).length ((A++[k]).map eI):=by
     rw [List.length_append,List.map_append];exact hr2
    have hB3:Below w1.heap.size w1 w2:=hB2.out.grown hg2 (by simp;have:=hbs.out;omega) (fun q hq=>(hS.out.lt q hq).1);have hlen:(A++[k]).length≤j+1:=by simp;omega
    generalize A++[k]=A2 at *;replace hr3:=HD hr3;replace hB3:=HD hB3;clear hr2 hg2 hB2;go_wp2_with fail;go_roundg (ks.length-(j+1))
    case measure=>omega
    case rel=>exact⟨j+1,A2,by omega,rfl,by go_num,hlen,hA2,hr3,hB3⟩
   ·have hct2:win'.contains (cm.col (lookV tb.pg k))=true:=by unfold outB at hout;simpa using hout
    rw [hct2] at hct;have hA2:Hid (A=(ks.take (j+1)).filter (outB cm tb win')):=HD (by rw [htk,List.filter_append,←hA.out];simp [hout]);have hB2:Hid (Below w1.heap.size w1 wr.drew):=HD hB.out.drew;have hS2:=HD (fun v (q:wr.ownsRow w1.heap.size 3 1 v A.length (A.map eI))=>(show wr.drew.ownsRow w1.heap.size 3 1 v A.length (A.map eI) from q));clear htk hA hout hct2;go_wp2_with fail;refine wp_region_noPanic ?_;refine wp_region_held_drew (S:=(fun W=>W.cell? ⟨b,1,none⟩=some (.pointer (some ⟨c,0,none⟩))∧W.cell? ⟨b,3,none⟩=some (.pointer (some ⟨x.bt,0,none⟩)))) (by kernel_rfl) ?_ (fun hHeld=>?_)
    ·(first|exact⟨c1,c3⟩|exact hcs)
    refine tkH 0 (h:=?_);refine tkH 1 (h:=?_);refine tkH 2 (h:=?_);refine tkH 3 (h:=?_);refine tkH 4 (h:=?_);refine tkH 5 (h:=?_);refine tkH 6 (h:=?_);refine tkH 7 (h:=?_);refine tkH 8 (h:=?_);refine tkH 9 (h:=?_);refine onH 10 (h:=fun K hK=>?_);go_simp;refine hfi.out.mono ?_;rintro e w2 ⟨rfl,rfl⟩;have hcs:wr.drew.cell? ⟨b,1,none⟩=some (.pointer (some ⟨c,0,none⟩))∧wr.drew.cell? ⟨b,3,none⟩=some (.pointer (some ⟨x.bt,0,none⟩)):=⟨c1,c3⟩
    go_wp2_with fail;refine hK.out _ _ ?_ (fun hHeld=>?_)
    ·(first|exact⟨c1,c3⟩|exact hcs)
    clear hK;refine nmH (h:=?_);refine onH 11 (h:=fun K hK=>?_);go_simp;refine hco.out.mono ?_;rintro e w2 ⟨rfl,rfl⟩;have hcs:wr.drew.cell? ⟨b,1,none⟩=some (.pointer (some ⟨c,0,none⟩))∧wr.drew.cell? ⟨b,3,none⟩=some (.pointer (some ⟨x.bt,0,none⟩)):=⟨c1,c3⟩
    go_wp2_with fail;refine hK.out _ _ ?_ (fun hHeld=>?_)
    ·(first|exact⟨c1,c3⟩|exact hcs)
    clear hK;refine nmH (h:=?_);refine onH 12 (h:=fun K hK=>?_);go_simp;refine hct.out.mono ?_;rintro e w2 ⟨rfl,rfl⟩;have hcs:wr.drew.cell? ⟨b,1,none⟩=some (.pointer (some ⟨c,0,none⟩))∧wr.drew.cell? ⟨b,3,none⟩=some (.pointer (some ⟨x.bt,0,none⟩)):=⟨c1,c3⟩
    go_wp2_with fail;refine hK.out _ _ ?_ (fun hHeld=>?_)
    ·(first|exact⟨c1,c3⟩|exact hcs)
    clear hK;refine nmH (h:=?_);refine tkH 13 (h:=?_);refine wpAnyH_done (by kernel_rfl) ?_ _;refine NoPanic.normal ?_;go_wp2_with fail;go_roundg (ks.length-(j+1))
    case measure=>omega
    case rel=>exact⟨j+1,A,by omega,rfl,by go_num,by omega,hA2,HD (hS2.out _ hS.out),hB2⟩
  ·obtain rfl:j=ks.length:=by omega
   go_wp2_with fail;go_ret
   have hA':=hA.out;rw [List.take_length] at hA';rw [←hA'];exact⟨_,rfl,IRow.made (ownsRow_base_a hS.out hb1'.out.size),hb1'.out.trans (hB.out.mono hb1'.out.size)⟩
end
section
open Go.RowKit
theorem TbOk.congr{cm cm':CmS}{win:List Int}{tb:TbS}(h:TbOk cm win tb)(hP:cm'.P=cm.P)(hC:cm'.C=cm.C)(hf:∀p,cm'.free p=cm.free p)(hc:∀c,(cm'.sh c).cnt=(cm.sh c).cnt):TbOk cm' win tb :=
 ⟨h.rise,h.inv,fun v p hg=>by rw [hP,hC,hf];exact h.rng v p hg,by rw [hC];exact h.wok,fun c hcw=>by rw [hc,hP,hC];exact h.cov c hcw⟩
theorem fl_free2(s:CmS)(p q r:Nat)(hC:1≤s.C):((s.fl p).fl q).free r=if r=q then !(if r=p then !s.free r else s.free r) else (if r=p then !s.free r else s.free r):=by
 rw [fl_free (s.fl p) q r hC,fl_free s p r hC]
theorem fl_two{s:CmS}(h:s.ok){p q:Nat}(hp:p<s.P)(hq:q<s.P)(hne:p≠q):(∀r,((s.fl p).fl q).free r=((s.fl q).fl p).free r)∧∀c,(((s.fl p).fl q).sh c).cnt=(((s.fl q).fl p).sh c).cnt:=by
 have o1:=h.1;refine⟨fun r=>?_,fun c=>?_⟩
 ·rw [fl_free2 _ _ _ _ o1,fl_free2 _ _ _ _ o1]
  by_cases a:r=p
  ·subst a;simp [hne]
  ·by_cases b:r=q
   ·subst b;simp [a]
   ·simp [a,b]
 ·have a1:=fl_cnt h hp c
  have a2:=fl_cnt h hq c;have a3:=fl_cnt (h.fl p) (p:=q) hq c;have a4:=fl_cnt (h.fl q) (p:=p) hp c;have eC:(s.fl p).C=s.C:=rfl;have eC':(s.fl q).C=s.C:=rfl;rw [fl_free _ _ _ o1,if_neg (Ne.symm hne),eC] at a3;rw [fl_free _ _ _ o1,if_neg hne,eC'] at a4;omega
theorem TbOk.sub{cm:CmS}{U W:List Int}{tb:TbS}(h:TbOk cm U tb)(hW:∀x∈W,x∈U)(hn:W.Nodup)(hin:∀v p,mGet tb.pg v=some p→((p.toNat%cm.C:Nat):Int)∈W):TbOk cm W tb :=
 ⟨h.rise,h.inv,fun v p hg=>by obtain⟨a,b,_,d⟩:=h.rng v p hg;exact⟨a,b,hin v p hg,d⟩,⟨hn,fun x hx=>h.wok.2 x (hW x hx)⟩,fun c hc=>h.cov c (hW _ hc)⟩
theorem sum_countP_in{α:Type}{win:List Int}(hn:win.Nodup)(h0:∀c∈win,0≤c)(f:α→Nat):∀(l:List α),(win.map fun c=>l.countP (fun x=>decide (f x=c.toNat))).sum=l.countP (fun x=>decide (((f x:Nat):Int)∈win))
 |[]=>by
  simp only [List.countP_nil];exact sum_zero win
 |x :: l=>by
  have ih:=sum_countP_in hn h0 f l;rw [List.countP_cons];by_cases hx:((f x:Nat):Int)∈win
  ·have h1:=sum_one hn hx (fun c=>l.countP (fun x=>decide (f x=c.toNat)))
   rw [ih] at h1;rw [if_pos (by simpa using hx),←h1];refine congrArg List.sum (List.map_congr_left fun c hc=>?_);have:=h0 c hc;rw [List.countP_cons]
   congr 1
   by_cases e:f x=c.toNat
   ·rw [if_pos (by simpa using e),if_pos (by omega)]
   ·rw [if_neg (by simpa using e),if_neg (by omega)]
  ·rw [if_neg (by simpa using hx),Nat.add_zero,←ih]
   refine congrArg List.sum (List.map_congr_left fun c hc=>?_);have:=h0 c hc;rw [List.countP_cons,if_neg,Nat.add_zero];simp only [decide_eq_true_eq];intro e;exact hx (by rw [e,show ((c.toNat:Nat):Int)=c by omega];exact hc)
theorem TbOk.freIn{cm:CmS}{U W:List Int}{tb:TbS}(h:TbOk cm U tb)(hW:∀x∈W,x∈U)(hn:W.Nodup):cm.fre W+tb.pg.countP (fun x=>decide (((x.2.toNat%cm.C:Nat):Int)∈W))=W.length*(cm.P/cm.C):=by
 rw [fre_map cm W hn (fun x hx=>h.wok.2 x (hW x hx))];have hs:=sum_countP_in hn (fun c hc=>(h.wok.2 c (hW c hc)).1) (fun x:Int×Int=>x.2.toNat%cm.C) tb.pg;rw [←hs];have main:∀l:List Int,(∀c∈l,c∈W)→(l.map fun c=>(cm.sh c.toNat).cnt).sum+(l.map fun c=>tb.pg.countP (fun x=>decide (x.2.toNat%cm.C=c.toNat))).sum=l.length*(cm.P/cm.C):=by
  intro l;induction l with
  |nil=>intro _;simp
  |cons a l ih =>
   intro hl;have h1:=ih (fun c hc=>hl c (by simp [hc]));have ha:=h.wok.2 a (hW a (hl a (by simp)));have h2:=h.cov a.toNat (by rw [show ((a.toNat:Nat):Int)=a by omega];exact hW a (hl a (by simp)));simp only [List.map_cons,List.sum_cons,List.length_cons,Nat.add_mul,Nat.one_mul];omega
 exact main W (fun c hc=>hc)
structure MvRel(B:List UInt8)(cm:CmS)(U W:List Int)(tb:TbS)(B':List UInt8)(cm':CmS)(tb':TbS)(D:Int→Prop):Prop where
 ton:TbOk cm' U tb'
 ok:cm'.ok
 dom:∀v,(mGet tb'.pg v).isSome=(mGet tb.pg v).isSome
 len:tb'.pg.length=tb.pg.length
 bys:∀v p p',mGet tb.pg v=some p→mGet tb'.pg v=some p'→∀i,i<512→byt B' (p'.toNat*512+i)=byt B (p.toNat*512+i)
 un:∀v,¬D v→mGet tb'.pg v=mGet tb.pg v
 ins:∀v p,D v→mGet tb'.pg v=some p→((p.toNat%cm.C:Nat):Int)∈W
 z:FreeZ B' cm'
 keep:Keep U B cm B' cm'
theorem MvRel.zero{B:List UInt8}{cm:CmS}{U W:List Int}{tb:TbS}(h:TbOk cm U tb)(ok:cm.ok)(z:FreeZ B cm):MvRel B cm U W tb B cm tb (fun _=>False) :=
 ⟨h,ok,fun _=>rfl,rfl,fun v p p' h1 h2 i _=>by rw [h1] at h2;obtain rfl:=Option.some.inj h2;rfl,fun _ _=>rfl,fun _ _ q=>q.elim,z,Keep.refl _ _ _⟩
theorem MvRel.step{B:List UInt8}{cm:CmS}{U W:List Int}{tb:TbS}{B':List UInt8}{cm':CmS}{tb':TbS}{D:Int→Prop}(h:MvRel B cm U W tb B' cm' tb' D)(hB:B.length=cm.P*512)(hW:∀x∈W,x∈U)(hn:W.Nodup)(hroom:tb.pg.length≤W.length*(cm.P/cm.C)){v old:Int}(hg:mGet tb.pg v=some old)(hD:¬D v)(hout:((old.toNat%cm.C:Nat):Int)∉W) :
  ∃p:Nat,p<cm.P∧(0≤old∧old<cm.P)∧cm'.tkV W=p∧cm'.tkE W=0∧tb'.swE v p=0∧tb'.swV v p=old∧cpE B'.length ((p:Int)*512) (old*512) 512=0∧hasE (cpB B' ((p:Int)*512) (old*512) 512).length (old*512) 512=0∧(cm'.tk W).giveE old=0∧tb'.sw v p=⟨mIns v p tb'.pg,(tb'.sw v p).lc⟩ ∧
   MvRel B cm U W tb (zrB (cpB B' ((p:Int)*512) (old*512) 512) (old*512) 512) ((cm'.tk W).give old) (tb'.sw v p) (fun u=>D u∨u=v):=by
 have hg':mGet tb'.pg v=some old:=(h.un v hD).trans hg;have hC:cm'.C=cm.C:=h.keep.C;have hP:cm'.P=cm.P:=h.keep.P;have o1:=h.ok.1;have o4:=h.ok.2.2.2.1;have hl:B'.length=cm.P*512:=h.keep.len.trans hB;have hfre:=h.ton.freIn hW hn;rw [hC,hP] at hfre;have hcnt:tb'.pg.countP (fun x=>decide (((x.2.toNat%cm.C:Nat):Int)∈W))<tb'.pg.length:=by
  have hle:=List.countP_le_length (p:=fun x:Int×Int=>decide (((x.2.toNat%cm.C:Nat):Int)∈W)) (l:=tb'.pg);rcases Nat.lt_or_ge (tb'.pg.countP (fun x=>decide (((x.2.toNat%cm.C:Nat):Int)∈W))) tb'.pg.length with q|q
  ·exact q
  ·exfalso
   have:=List.countP_eq_length.1 (Nat.le_antisymm hle q) _ (mGet_mem hg');simp at this
   exact hout (by simpa using this)
 have hlen:=h.len;obtain⟨p,p1,p2,p3,p4,p5,p6⟩:=h.ton.pick h.ok hW hn (by omega);rw [hC] at p2;rw [hP] at p1;obtain⟨q,rfl,q1,q2,q3,q4,q5,q6,q7,q8,q9⟩:=h.ton.drop h.ok hg';rw [hP] at q1;have hne:p≠q:=by rintro rfl;rw [p3] at q3;cases q3
 have hlc:=h.ton.lcNone p3;have hsE:tb'.swE v p=0:=by
  unfold TbS.swE;rw [if_neg (by omega),lookV_some hg',if_neg (by omega),lookV_none hlc,if_neg (by omega)]
 have hsw:tb'.sw v p=⟨mIns v p tb'.pg,mIns p v (mDel q tb'.lc)⟩:=by unfold TbS.sw;rw [if_pos hsE,lookV_some hg']
 have ha:hasE B'.length ((p:Int)*512) 512=0:=by rw [hl];exact if_pos ⟨by omega,by omega,by omega,by omega⟩
 have hb:hasE B'.length ((q:Int)*512) 512=0:=by rw [hl];exact if_pos ⟨by omega,by omega,by omega,by omega⟩
 have hc:hasE (cpB B' ((p:Int)*512) ((q:Int)*512) 512).length ((q:Int)*512) 512=0:=by rw [cpB_len];exact hb
 have hfq:(cm'.fl p).free q=false:=by rw [fl_free _ _ _ o1,if_neg (Ne.symm hne)];exact q3
 have hdv:=(h.ok.fl p).div (p:=q) (by show q<cm'.P;omega);have hgv:=give_taken hdv.2.2 hfq;have hgE:(cm'.fl p).giveE q=0:=by
  unfold CmS.giveE;have:(0:Int)≤(q:Nat)∧((q:Nat):Int)<((cm'.fl p).P:Nat):=⟨by omega,by show ((q:Nat):Int)<(cm'.P:Nat);omega⟩
  rw [if_pos this,Int.toNat_natCast];exact hgv.1
 have hgF:(cm'.fl p).give q=(cm'.fl p).fl q:=by
  unfold CmS.give;have:(0:Int)≤(q:Nat)∧((q:Nat):Int)<((cm'.fl p).P:Nat):=⟨by omega,by show ((q:Nat):Int)<(cm'.P:Nat);omega⟩
  rw [if_pos this,Int.toNat_natCast,hgv.2];rfl
 refine⟨p,p1,⟨by omega,by omega⟩,p4,p5,hsE,by unfold TbS.swV;rw [if_pos hsE,lookV_some hg'],by unfold cpE;rw [if_pos ha,hb],hc,by rw [p6];exact hgE,by rw [hsw],?_⟩;rw [p6,hgF,hsw];have hfp:(cm'.fl q).free p=true:=by rw [fl_free _ _ _ o1,if_neg hne];exact p3
 have hnv:mGet (mDel v tb'.pg) v=none:=mGet_del_same h.ton.rise.1 _;have hv:=(h.ton.rng v q hg').1;have hput:=q9.put (h.ok.fl q) (p:=p) (by show p<cm'.P;omega) (by show (((p%cm'.C:Nat)):Int)∈U;rw [hC];exact hW _ p2) hfp hv hnv;have emi:mIns v (p:Int) (mDel v tb'.pg)=mIns v (p:Int) tb'.pg:=by
  obtain⟨A,Bb,h1,h2,h3⟩:=mAt h.ton.rise.1 (mGet_mem hg');have hA:∀x∈A,x.1<v:=fun x hx=>by
   have:=h.ton.rise.1;rw [h1] at this;exact(List.pairwise_append.1 this).2.2 x hx (v,(q:Int)) (by simp)
  have hBb:∀x∈Bb,v<x.1:=fun x hx=>by
   have:=h.ton.rise.1;rw [h1] at this;exact(List.pairwise_cons.1 (List.pairwise_append.1 this).2.1).1 x hx
  rw [h2,h3];clear h1 h2 h3 hput hnv;induction A with
  |nil =>
   cases Bb with
   |nil=>rfl
   |cons y Bb =>
    have:=hBb y (by simp);obtain⟨y1,y2⟩:=y;simp only at this;show mIns v (p:Int) ((y1,y2) :: Bb)=_;rw [mIns,if_pos this];rfl
  |cons y A ih =>
   have:=hA y (by simp);obtain⟨y1,y2⟩:=y;simp only at this;show mIns v (p:Int) ((y1,y2) :: (A++Bb))=_;rw [mIns,if_neg (by omega),if_neg (by omega),ih (fun x hx=>hA x (by simp [hx]))];rfl
 rw [emi] at hput;obtain⟨t1,t2⟩:=fl_two h.ok (p:=p) (q:=q) (by omega) (by omega) hne;have hton:TbOk ((cm'.fl p).fl q) U ⟨mIns v p tb'.pg,mIns p v (mDel q tb'.lc)⟩:=hput.congr rfl rfl t1 t2;have hz:∀r i,i<512→byt (zrB (cpB B' ((p:Int)*512) ((q:Int)*512) 512) ((q:Int)*512) 512) (r*512+i)=if r=q then 0 else if r=p then byt B' (q*512+i) else byt B' (r*512+i):=fun r i hi=>by
  rw [byt_zr hc];by_cases e:r=q
  ·rw [if_pos e,if_pos (by subst e;omega)]
  ·rw [if_neg e,if_neg (by omega),byt_cp ha hb]
   by_cases e2:r=p
   ·rw [if_pos e2,if_pos (by subst e2;omega)]
    congr 1
    subst e2;omega
   ·rw [if_neg e2,if_neg (by omega)]
 refine⟨hton,(h.ok.fl p).fl q,fun u=>?_,?_,fun u r r' hu hu' i hi=>?_,fun u hu=>?_,fun u r hu hur=>?_,fun r hr hrf i hi=>?_,?_⟩
 ·show (mGet (mIns v (p:Int) tb'.pg) u).isSome=_
  by_cases e:u=v
  ·subst e;rw [mGet_ins_same h.ton.rise.1,hg];rfl
  ·rw [mGet_ins_other e];exact h.dom u
 ·show (mIns v (p:Int) tb'.pg).length=_
  rw [len_ins_some h.ton.rise.1 hg'];exact h.len
 ·replace hu':mGet (mIns v (p:Int) tb'.pg) u=some r':=hu'
  by_cases e:u=v
  ·subst e
   rw [mGet_ins_same h.ton.rise.1] at hu';obtain rfl:=Option.some.inj hu';rw [hg] at hu;obtain rfl:=Option.some.inj hu;rw [Int.toNat_natCast,Int.toNat_natCast,hz _ _ hi,if_neg hne,if_pos rfl];have:=h.bys u q q hg hg' i hi
   rwa [Int.toNat_natCast] at this
  ·rw [mGet_ins_other e] at hu'
   have hr:=h.ton.rng u r' hu';have e1:r'.toNat≠q:=by
    intro x;have hx:r'=q:=by omega
    subst hx;have:=(h.ton.inv u q).1 hu';rw [(h.ton.inv v q).1 hg'] at this;exact e (Option.some.inj this).symm
   have e2:r'.toNat≠p:=by
    intro x;have:=hr.2.2.2;rw [x,p3] at this;cases this
   rw [hz _ _ hi,if_neg e1,if_neg e2];exact h.bys u r r' hu hu' i hi
 ·show mGet (mIns v (p:Int) tb'.pg) u=_
  rw [mGet_ins_other (fun e=>hu (.inr e))];exact h.un u (fun e=>hu (.inl e))
 ·replace hur:mGet (mIns v (p:Int) tb'.pg) u=some r:=hur
  by_cases e:u=v
  ·subst e
   rw [mGet_ins_same h.ton.rise.1] at hur;obtain rfl:=Option.some.inj hur;rw [Int.toNat_natCast];exact p2
  ·rw [mGet_ins_other e] at hur
   exact h.ins u r (hu.resolve_right e) hur
 ·rw [hz _ _ hi]
  rw [fl_free2 _ _ _ _ o1] at hrf;by_cases e:r=q
  ·rw [if_pos e]
  ·rw [if_neg e] at hrf ⊢
   by_cases e2:r=p
   ·rw [if_pos e2,e2,p3] at hrf;cases hrf
   ·rw [if_neg e2] at hrf ⊢
    exact h.z r hr hrf i hi
 ·have hqU:((q%cm.C:Nat):Int)∈U:=by rw [←hC];exact q2
  have hpU:((p%cm.C:Nat):Int)∈U:=hW _ p2;refine⟨by rw [zrB_len,cpB_len];exact h.keep.len,hP,hC,fun d hd=>?_,fun r hr hc' i hi=>?_⟩
  ·rw [fl_sh _ _ _ (by show d≠q%cm'.C;rw [hC];rintro rfl;exact hd hqU),fl_sh _ _ _ (by rw [hC];rintro rfl;exact hd hpU)]
   exact h.keep.sh d hd
  ·rw [hz _ _ hi,if_neg (by rintro rfl;exact hc' hqU),if_neg (by rintro rfl;exact hc' hpU)]
   exact h.keep.by_ r hr hc' i hi
theorem MvRel.done{B:List UInt8}{cm:CmS}{win U W:List Int}{tb:TbS}{al:AlS}(h0:HpOk B cm win tb al){B':List UInt8}{cm':CmS}{tb':TbS}{D:Int→Prop}(h:MvRel B cm U W tb B' cm' tb' D)(hW:∀x∈W,x∈U)(hn:W.Nodup)(hD:∀v p,mGet tb.pg v=some p→¬D v→((p.toNat%cm.C:Nat):Int)∈W) :
  HpOk B' cm' W tb' al∧(∀c s k,Had al c s k→∀i,0≤i→i<unitT c→lb tb' B' (posT c s k+i)=lb tb B (posT c s k+i)):=by
 have hC:cm'.C=cm.C:=h.keep.C;have hin:∀v p,mGet tb'.pg v=some p→((p.toNat%cm'.C:Nat):Int)∈W:=fun v p hg=>by
  rw [hC];by_cases e:D v
  ·exact h.ins v p e hg
  ·rw [h.un v e] at hg;exact hD v p hg e
 have hpg:∀v q,mGet tb.pg v=some q→∃q',mGet tb'.pg v=some q':=fun v q hq=>Option.isSome_iff_exists.1 (by rw [h.dom,hq];rfl)
 refine⟨⟨h0.al,h.ok,by rw [h.keep.len,h.keep.P];exact h0.len,h.ton.sub hW hn hin,fun v=>by rw [h.dom];exact h0.dom v,by rw [h.len];exact h0.cnt,h.z,fun v p q hp hq=>?_⟩,fun c s k hh i i0 i1=>?_⟩
 ·obtain⟨q0,hq0⟩:=Option.isSome_iff_exists.1 ((h0.dom v).2 (sm_mapped h0.al hp))
  have hz:=h0.c v p q0 hp hq0;have hok:=(h0.al.pg v p hp).2.2.2.1;intro k hk hkf i hi;have hb:=blk_at hok hk;have:=h.bys v q0 q hq0 hq (k*p.unit.toNat+i) (by omega);rw [←Nat.add_assoc,←Nat.add_assoc] at this;rw [this];exact hz k hk hkf i hi
 ·obtain⟨q,hq⟩:=had_mapped h0 hh (blk_page hh.1 i0 i1)
  obtain⟨q',hq'⟩:=hpg _ q hq;unfold lb;rw [pgOf_some hq,pgOf_some hq'];exact h.bys _ q q' hq hq' _ (by omega)
end
section
open Go.RowKit
section
variable{w w':World}{o o':Nat→Tag}{t u z:Tag}{b a c:Nat}{x:HpX}{B:List UInt8}{m:Nat}{cm:CmS}{win:List Int}{tb:TbS}{al:AlS}
theorem HpW.mvPg(h:HpW w o t u z b a c x B m cm win tb al)(ap:Ap3 t u z)(hok:AlOk al){v:Int}{p:PgS}(hv:mGet al.sm v=some p){pn:Nat}
  (f:Fr (Und (t++[5,v.toNat])) w o w' o) (q:PgAt w' o (t++[5,v.toNat]) (x.bp v) a (p.on (pn*512:Nat))) :
  HpW w' o t u z b a c {x with pf:=updI x.pf v pn} B m cm win tb al:=by
 have h9:=ap.tu.t9;have of:∀{n:Nat} {r:Tag},n≠5→Off (Und (t++[5,v.toNat])) (t++n :: r):=fun hn=>off_one (Ne.symm hn) h9
 have hvk:=(hok.pg v p hv).1;refine⟨⟨h.hp.blk.fr f (not_und t 5 [v.toNat]),h.hp.win.fr f (of (by decide)).self,h.hp.ta.fr f (of (by decide)),fun k hk=>(h.hp.sl k hk).fr f (of (by decide)),fun k hk=>?_,h.hp.mp.fr f (of (by decide)).self,fun y p' hp=>?_⟩,h.cma.fr f (ap.tu.sub _).off,h.ar.fr f (ap.tz.sub _).off⟩
 ·obtain⟨s,h1,h2⟩:=h.hp.ln k hk
  exact⟨s,h1.fr f (of (by decide)).self,h2⟩
 ·show PgAt w' o _ (x.bp y) a (p'.on (updI x.pf v pn y*512:Nat))
  by_cases e:y=v
  ·subst e
   rw [hv] at hp;obtain rfl:=Option.some.inj hp;rw [updI_same];exact q
  ·rw [updI_other e]
   have hyk:=(hok.pg y p' hp).1;exact(h.hp.pg y p' hp).fr f (off_two (by omega) h9)
theorem HpG.lookNone(h:HpG w o t b a c x win tb al){v:Int}(hp:mGet al.sm v=none):(Instr.lookup 199 (.map (some x.gm)) (.int .i64 v) false).run Tryz.prog w=.ok (.pointer none) w:=by
 have:=mp_lookup h.mp (P:=Tryz.prog) Tryz.underlying199 Tryz.underlying3 zeroPg v false;rw [this,mGet_map (fun v _=>x.bp v),hp];rfl
end
structure MvPre(B:List UInt8)(cm:CmS)(win U W:List Int)(tb:TbS)(al:AlS):Prop where
 hp:HpOk B cm win tb al
 ton:TbOk cm U tb
 sub:∀x∈W,x∈U
 nodup:W.Nodup
 room:tb.pg.length≤W.length*(cm.P/cm.C)
def mvL(cm:CmS)(tb:TbS)(W:List Int):List Int:=(tb.pg.map (·.1)).filter (outB cm tb W)
structure MvAt(w:World)(o:Nat→Tag)(t u z:Tag)(b a c:Nat)(B:List UInt8)(m:Nat)(cm:CmS)(U W:List Int)(tb:TbS)(al:AlS)(wx:World)(x:HpX)(o':Nat→Tag)(B':List UInt8)(cm':CmS)(tb':TbS)(j:Nat):Prop where
 hw:HpW wx o' t u z b a c x B' (m+3*j) cm' W tb' al
 is_:x.is tb' al
 mv:MvRel B cm U W tb B' cm' tb' (fun v=>v∈(mvL cm tb W).take j)
 fr:Fr (S3 t u z) w o wx o'
theorem col_in{cm:CmS}{p:Int}(h:0≤p∧p<cm.P):cm.col p=((p.toNat%cm.C:Nat):Int):=by
 unfold CmS.col;rw [if_pos h,Int.natCast_emod,show ((p.toNat:Nat):Int)=p by omega]
theorem mvL_mem{B:List UInt8}{cm:CmS}{win U W:List Int}{tb:TbS}{al:AlS}(h:MvPre B cm win U W tb al)(v:Int):v∈mvL cm tb W↔∃old,mGet tb.pg v=some old∧((old.toNat%cm.C:Nat):Int)∉W:=by
 unfold mvL;rw [List.mem_filter];constructor
 ·rintro ⟨h1,h2⟩
  obtain⟨y,hy,rfl⟩:=List.mem_map.1 h1;have hg:mGet tb.pg y.1=some y.2:=mGet_of h.ton.rise.1 hy;refine⟨y.2,hg,fun q=>?_⟩;unfold outB at h2;rw [lookV_some hg,col_in (h.ton.rng _ _ hg).2.1] at h2;simp at h2
  exact h2 (by simpa using q)
 ·rintro ⟨old,hg,hn⟩
  refine⟨List.mem_map.2 ⟨(v,old),mGet_mem hg,rfl⟩,?_⟩;unfold outB;rw [lookV_some hg,col_in (h.ton.rng _ _ hg).2.1];simpa using hn
theorem mvL_nodup{B:List UInt8}{cm:CmS}{win U W:List Int}{tb:TbS}{al:AlS}(h:MvPre B cm win U W tb al):(mvL cm tb W).Nodup:=by
 unfold mvL;have hr:(tb.pg.map (·.1)).Pairwise (· < ·):=List.pairwise_map.2 h.ton.rise.1;have hn:(tb.pg.map (·.1)).Pairwise (·≠·):=hr.imp (fun h=>by omega);exact hn.filter _
theorem mvL_len{B:List UInt8}{cm:CmS}{win U W:List Int}{tb:TbS}{al:AlS}(h:MvPre B cm win U W tb al):(mvL cm tb W).length≤cm.fre W∧(mvL cm tb W).length≤6400:=by
 have h1:=h.ton.freIn h.sub h.nodup;have h2:(mvL cm tb W).length+tb.pg.countP (fun x=>decide (((x.2.toNat%cm.C:Nat):Int)∈W))=tb.pg.length:=by
  unfold mvL;rw [←List.countP_eq_length_filter,List.countP_map];have:tb.pg.countP (outB cm tb W∘fun x=>x.1)=tb.pg.countP (fun x=>!decide (((x.2.toNat%cm.C:Nat):Int)∈W)):=by
   refine List.countP_congr fun x hx=>?_
   have hg:mGet tb.pg x.1=some x.2:=mGet_of h.ton.rise.1 hx;show outB cm tb W x.1=true↔_;unfold outB;rw [lookV_some hg,col_in (h.ton.rng _ _ hg).2.1];simp
  rw [this];have:=List.length_eq_countP_add_countP (fun x:Int×Int=>decide (((x.2.toNat%cm.C:Nat):Int)∈W)) (l:=tb.pg);have e:(fun x:Int×Int=>decide ¬(decide (((x.2.toNat%cm.C:Nat):Int)∈W))=true)=fun x=>!decide (((x.2.toNat%cm.C:Nat):Int)∈W):=by
   funext x;simp
  rw [e] at this;omega
 have h3:=h.room;have h4:=rise_len h.ton.rise.1 256 6400 (by omega) (fun y hy=>(h.ton.rng y.1 y.2 (mGet_of h.ton.rise.1 hy)).1);omega
theorem MvAt.step{w:World}{o:Nat→Tag}{t u z:Tag}{b a c:Nat}{B:List UInt8}{m:Nat}{cm:CmS}{win U W:List Int}{tb:TbS}{al:AlS}{wx:World}{x:HpX}{o':Nat→Tag}{B':List UInt8}{cm':CmS}{tb':TbS}{j:Nat}(hpre:MvPre B cm win U W tb al)
  (h:MvAt w o t u z b a c B m cm U W tb al wx x o' B' cm' tb' j) (ap:Ap3 t u z) (hm:m≤800000) {v:Int} (hj:(mvL cm tb W)[j]? = some v) :
  ∃p old:Int,((0≤p∧p<4096)∧(0≤old∧old<4096))∧(wx.drew.cell? ⟨b,1,none⟩=some (.pointer (some ⟨c,0,none⟩))∧wx.drew.cell? ⟨b,2,none⟩=some x.wv) ∧
   Calls Tryz.prog 129 #[.pointer (some ⟨c,0,none⟩),x.wv] wx.drew (fun e w2=>e=.returned (.tuple #[.int .i64 p,.int .i64 0])∧(w2.cell? ⟨b,1,none⟩=some (.pointer (some ⟨c,0,none⟩))∧w2.cell? ⟨b,2,none⟩=some x.wv)∧w2.cell? ⟨b,3,none⟩=some (.pointer (some ⟨x.bt,0,none⟩)) ∧
    Calls Tryz.prog 130 #[.pointer (some ⟨x.bt,0,none⟩),.int .i64 v,.int .i64 p] w2 (fun e w3=>e=.returned (.tuple #[.int .i64 old,.int .i64 0])∧w3.cell? ⟨b,0,none⟩=some (.pointer (some ⟨a,0,none⟩)) ∧
     Calls Tryz.prog 131 #[.pointer (some ⟨a,0,none⟩),.int .i64 (p*512),.int .i64 (old*512),.int .i64 512] w3 (fun e w4=>e=.returned (.int .i64 0)∧w4.cell? ⟨b,0,none⟩=some (.pointer (some ⟨a,0,none⟩)) ∧
      Calls Tryz.prog 132 #[.pointer (some ⟨a,0,none⟩),.int .i64 (old*512),.int .i64 512] w4 (fun e w5=>e=.returned (.int .i64 0)∧w5.cell? ⟨b,1,none⟩=some (.pointer (some ⟨c,0,none⟩)) ∧
       Calls Tryz.prog 133 #[.pointer (some ⟨c,0,none⟩),.int .i64 old] w5 (fun e w6=>e=.returned (.int .i64 0)∧w6.cell? ⟨b,36,none⟩=some (.map (some x.gm)) ∧
        ((mGet al.sm v).isSome=true→(Instr.lookup 199 (.map (some x.gm)) (.int .i64 v) false).run Tryz.prog w6=.ok (.pointer (some ⟨x.bp v,0,none⟩)) w6 ∧
         Calls Tryz.prog 134 #[.pointer (some ⟨x.bp v,0,none⟩),.int .i64 (p*512)] w6 (fun e w7=>e=.returned (.int .i64 0)∧∃x7 o7 B7 cm7 tb7,MvAt w o t u z b a c B m cm U W tb al w7 x7 o7 B7 cm7 tb7 (j+1))) ∧
        ((mGet al.sm v).isSome=false→(Instr.lookup 199 (.map (some x.gm)) (.int .i64 v) false).run Tryz.prog w6=.ok (.pointer none) w6∧∃x7 o7 B7 cm7 tb7,MvAt w o t u z b a c B m cm U W tb al w6 x7 o7 B7 cm7 tb7 (j+1))))))):=by
 obtain⟨hjl,hjv⟩:=List.getElem?_eq_some_iff.1 hj;have hvm:v∈mvL cm tb W:=by rw [←hjv];exact List.getElem_mem hjl
 obtain⟨old,hg,hout⟩:=(mvL_mem hpre v).1 hvm;have hnd:=mvL_nodup hpre;have hlen:=mvL_len hpre;have htk:=List.take_succ_eq_append_getElem hjl;rw [hjv] at htk;have hD:v∉(mvL cm tb W).take j:=by
  have:((mvL cm tb W).take (j+1)).Nodup:=hnd.sublist (List.take_sublist _ _);rw [htk] at this;intro q;exact(List.nodup_append.1 this).2.2 v q v (by simp) rfl
 obtain⟨p,p1,p2,p3,p4,p5,p6,p7,p8,p9,p10,hmv⟩:=h.mv.step hpre.hp.len hpre.sub hpre.nodup hpre.room hg hD hout;have hP:=hpre.hp.cmo.2.2.2.1;have hPl:=hpre.hp.len;have hd:=h.hw.drew;have hWl:W.length≤1000:=by
  have:=nodup_len cm.C W hpre.nodup (fun y hy=>hpre.ton.wok.2 y (hpre.sub y hy));have:=hpre.hp.cmo.2.1;omega
 have hmv':MvRel B cm U W tb (zrB (cpB B' ((p:Int)*512) (old*512) 512) (old*512) 512) ((cm'.tk W).give old) (tb'.sw v p) (fun u=>u∈(mvL cm tb W).take (j+1)):=by
  have e:(fun u=>u∈(mvL cm tb W).take j∨u=v)=fun u=>u∈(mvL cm tb W).take (j+1):=by
   funext y;rw [htk];simp
  rw [←e];exact hmv
 refine⟨p,old,⟨⟨by omega,by omega⟩,by omega⟩,⟨hd.hp.c1,hd.hp.c2⟩,?_⟩;have hta:=cmTake c x.wv W wx.drew hd.cma ap.tu.u9 hd.hp.win.w' hWl;rw [p3,p4] at hta;refine hta.mono ?_;rintro e w2 ⟨rfl,q2,f2⟩;have h2:=hd.inCm ap f2 q2;refine⟨rfl,⟨h2.hp.c1,h2.hp.c2⟩,h2.hp.c3,?_⟩;have hsw:=tbSwap x.bt v p w2 h2.hp.ta;rw [p5,p6] at hsw;refine hsw.mono ?_;rintro e w3 ⟨rfl,q3,f3⟩;have h3:=h2.inTb ap f3 q3;refine⟨rfl,h3.hp.c0,?_⟩;have hcp:=arCopy a ((p:Int)*512) (old*512) 512 w3 h3.ar (by omega);rw [p7] at hcp;refine hcp.mono ?_;rintro e w4 ⟨rfl,q4,f4⟩;have h4:=h3.inAr ap f4 q4;refine⟨rfl,h4.hp.c0,?_⟩;have hze:=arZero a (old*512) 512 w4 h4.ar (by omega);rw [p8] at hze;refine hze.mono ?_;rintro e w5 ⟨rfl,q5,f5⟩;have h5:=h4.inAr ap f5 q5;refine⟨rfl,h5.hp.c1,?_⟩;have hgv:=cmGive c old w5 h5.cma ap.tu.u9;rw [p9] at hgv;refine hgv.mono ?_;rintro e w6 ⟨rfl,q6,f6⟩;have h6:=h5.inCm ap f6 q6;have hS6:=((((h.fr.trans (Fr.drew.trans (f2.mono fun y q=>Or.inr (Or.inl q)))).trans (f3.mono fun y q=>Or.inl q.up)).trans (f4.mono fun y q=>Or.inr (Or.inr q))).trans (f5.mono fun y q=>Or.inr (Or.inr q))).trans (f6.mono fun y q=>Or.inr (Or.inl q));have hm6:m+3*j+2+1=m+3*(j+1):=by omega
 rw [hm6] at h6;have hpgv:pgOf (tb'.sw v p) v=p:=by
  rw [p10];have:mGet (mIns v (p:Int) tb'.pg) v=some (p:Int):=mGet_ins_same h.mv.ton.rise.1 _ _;unfold pgOf;show (lookV (mIns v (p:Int) tb'.pg) v).toNat=p;rw [lookV_some this];omega
 have hpgu:∀y,y≠v→pgOf (tb'.sw v p) y=pgOf tb' y:=fun y e=>by
  rw [p10];unfold pgOf lookV;show ((mGet (mIns v (p:Int) tb'.pg) y).getD (-1)).toNat=_;rw [mGet_ins_other e]
 refine⟨rfl,h6.hp.cm,fun hs=>?_,fun hs=>?_⟩
 ·obtain⟨pg,hpg⟩:=Option.isSome_iff_exists.1 hs
  obtain⟨g1,g2,g3,g4,g5⟩:=hpre.hp.al.pg v pg hpg;refine⟨h6.hp.look hpg,?_⟩;have hmo:=pgMove (x.bp v) a ((p:Int)*512) w6 (h6.hp.pg v pg hpg) h6.ar (ap.tz.sub [5,v.toNat]).off (not_nine ap.tu.t9 _) g4.kind (by rw [zrB_len,cpB_len,h.mv.keep.len,hPl];omega);refine hmo.mono ?_;rintro e w7 ⟨rfl,q7,f7⟩;have e7:((pg.on (x.pf v*512:Nat)).mv ((p:Int)*512))=pg.on (p*512:Nat):=by
   show pg.on ((p:Int)*512)=pg.on ((p*512:Nat):Int);rw [Int.natCast_mul];rfl
  have q7':=q7;rw [e7] at q7';refine⟨rfl,_,_,_,_,_,h6.mvPg ap hpre.hp.al hpg f7 q7',fun y p' hy=>?_,hmv',hS6.trans (f7.mono fun y q=>.inl q.up)⟩;show updI x.pf v p y=_;by_cases e:y=v
  ·rw [e,updI_same,hpgv]
  ·rw [updI_other e,hpgu y e];exact h.is_ y p' hy
 ·have hno:mGet al.sm v=none:=by
   cases e:mGet al.sm v with
   |none=>rfl
   |some y=>rw [e] at hs;cases hs
  refine⟨h6.hp.lookNone hno,_,_,_,_,_,h6,fun y p' hy=>?_,hmv',hS6⟩;have e:y≠v:=by rintro rfl;rw [hno] at hy;cases hy
  rw [hpgu y e];exact h.is_ y p' hy
end
end Go.Proofs.YtfliaggjkianpaaGreatDoor
