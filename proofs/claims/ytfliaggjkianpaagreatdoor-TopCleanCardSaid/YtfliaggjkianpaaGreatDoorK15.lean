import Derived.Test.YtfliaggjkianpaaGreatDoorK14
import Derived.Shelf.Strings.BuilderK
import Derived.Lib.OthersKept
set_option linter.unusedVariables false
set_option linter.unusedSimpArgs false
set_option maxRecDepth 100000
namespace Go.Proofs.YtfliaggjkianpaaGreatDoor
section
open Go.RowKit
theorem hp_set_win{a c:Nat}{wv:Value}{bt:Nat}{sv lv:Nat→Value}{mv v:Value}:(hpL a c wv bt sv lv mv).toArray.setIfInBounds 2 v=(hpL a c v bt sv lv mv).toArray:=by
 rw [List.setIfInBounds_toArray]
 congr 1
section
variable{w w':World}{o o':Nat→Tag}{t u z:Tag}{b a c:Nat}{x:HpX}{B:List UInt8}{m:Nat}{cm:CmS}{win:List Int}{tb:TbS}{al:AlS}
theorem HpW.setWin(h:HpW w o t u z b a c x B m cm win tb al)(ap:Ap3 t u z){v:Value}{W:List Int}(q:IRow w o (t++[0]) v W) :
  HpW (w.setCell ⟨b,2,none⟩ v) o t u z b a c {x with wv:=v} B m cm W tb al∧Fr (fun y=>y=t) w o (w.setCell ⟨b,2,none⟩ v) o:=by
 have h9:=ap.tu.t9;have fs:Fr (fun y=>y=t) w o (w.setCell ⟨b,2,none⟩ v) o:=Fr.setCell (fun _=>h.hp.blk.1) _;refine⟨⟨⟨by have:=h.hp.blk.set 2 v;rwa [hp_set_win] at this,q.fr fs (eq_off h9 0 []).self,h.hp.ta.fr fs (eq_off h9 1 []),fun k hk=>(h.hp.sl k hk).fr fs (eq_off h9 2 [k]),fun k hk=>?_,h.hp.mp.fr fs (eq_off h9 4 []).self,fun y p hp=>(h.hp.pg y p hp).fr fs (eq_off h9 5 [y.toNat])⟩,h.cma.fr fs ⟨fun y hy e=>ap.tu.ne y (by rw [e];exact Und.self t) hy,fun e=>h9 (by rw [←e];exact List.prefix_refl _)⟩,h.ar.fr fs ⟨fun y hy e=>ap.tz.ne y (by rw [e];exact Und.self t) hy,fun e=>h9 (by rw [←e];exact List.prefix_refl _)⟩⟩,fs⟩;obtain⟨s,h1,h2⟩:=h.hp.ln k hk;exact⟨s,h1.fr fs (eq_off h9 3 [k]).self,h2⟩
end
theorem s3_nine{t u z:Tag}(ap:Ap3 t u z):¬S3 t u z [9]:=fun q=>q.elim ap.tu.t9 (fun q=>q.elim ap.tu.u9 ap.tz.u9)
def MvPost(w:World)(o:Nat→Tag)(t u z:Tag)(b a c:Nat)(B:List UInt8)(m:Nat)(cm:CmS)(U W:List Int)(tb:TbS)(al:AlS)(w':World):Prop :=
 ∃x7 o7 B7 cm7 tb7,HpW w' o7 t u z b a c x7 B7 m cm7 W tb7 al∧x7.is tb7 al∧MvRel B cm U W tb B7 cm7 tb7 (fun v=>v∈mvL cm tb W)∧Fr (S3 t u z) w o w' o7
theorem hpMove(b a c:Nat)(wv:Value)(w:World){o:Nat→Tag}{t u z tw:Tag}{x:HpX}{B:List UInt8}{m:Nat}{cm:CmS}{win U W:List Int}{tb:TbS}{al:AlS}(h:HpW w o t u z b a c x B m cm win tb al)(hx:x.is tb al)(ap:Ap3 t u z)(hm:m≤700000)(hpre:MvPre B cm win U W tb al)(hw:Ints w o tw wv W) :
  Calls Tryz.prog 91 #[.pointer (some ⟨b,0,none⟩),wv] w fun e w'=>e=.returned (.int .i64 0)∧MvPost w o t u z b a c B (m+20000) cm U W tb al w':=by
 have hWl:W.length≤32:=by
  have:=nodup_len cm.C W hpre.nodup (fun y hy=>hpre.ton.wok.2 y (hpre.sub y hy));have:=hpre.hp.cmo.2.1;omega
 have hll:=mvL_len hpre;have hcm32:cm.fre W≤131072:=by
  have:=freS_le cm (fun c=>decide ((c:Int)∈W)) (fun c hc=>by rw [hpre.hp.cmo.2.2.2.2.2 c hc];exact Nat.le_trans (Nat.div_le_self _ _) hpre.hp.cmo.2.2.2.1) cm.C (Nat.le_refl _);have:=hpre.hp.cmo.2.1;unfold CmS.fre;omega
 have hou:=HD (hpOutside b a c wv W w (ou:=[9]) h.hp h.cma hw (by omega));change Hid (Calls _ _ _ w (fun e w'=>∃v,e=.returned v∧IRow w' (newO o w [9]) [9] v (mvL cm tb W)∧Below w.heap.size w w')) at hou;have hstep:=HD (fun w0 o0 wx x1 o1 B1 cm1 tb1 j v (q:MvAt w0 o0 t u z b a c B m cm U W tb al wx x1 o1 B1 cm1 tb1 j) (hj:(mvL cm tb W)[j]? = some v)=>q.step hpre ap (by omega) hj);have hst:=HD (show ∀w1,Below w.heap.size w w1→(w1.cell? ⟨b,1,none⟩=some (.pointer (some ⟨c,0,none⟩))∧Calls Tryz.prog 128 #[.pointer (some ⟨c,0,none⟩),wv] w1 (fun e w'=>e=.returned (.int .i64 (cm.fre W))∧Below w1.heap.size w1 w')) ∧
   ∀w1',Below w1.heap.size w1 w1'→Calls Tryz.prog 83 #[wv] w1' (fun e w'=>∃A' c',e=.returned (.slice A' W.length c')∧(w'.cell? ⟨b,2,none⟩=some x.wv∧w'.frozen? ⟨b,2,none⟩=false)∧MvAt w1 (newO o w [9]) t u z b a c B m cm U W tb al (w'.setCell ⟨b,2,none⟩ (.slice A' W.length c')) {x with wv:=.slice A' W.length c'} (newO (newO o w [9]) w1' (t++[0])) B cm tb 0) from fun w1 hb=>by
  have ff:Fr (fun _=>False) w o w1 (newO o w [9]):=Fr.below' hb [9];have g1:=h.still ff;have hw1:=hw.fr ff (fun q=>q);refine⟨⟨g1.hp.c1,cmFree c wv W w1 g1.cma hw1.w (by omega)⟩,fun w1' hb'=>?_⟩;have fb:Fr (fun _=>False) w1 (newO o w [9]) w1' (newO o w [9]):=Fr.below hb';refine(slClone (hw1.fr fb (fun q=>q)) (t++[0]) (by omega)).mono ?_;rintro e w2 ⟨v',rfl,r2,hb2⟩;obtain⟨A',c',rfl,_⟩:=r2.ints;have ff2:Fr (fun _=>False) w1' (newO o w [9]) w2 (newO (newO o w [9]) w1' (t++[0])):=Fr.below' hb2 _;have g2:=(g1.still fb).still ff2;obtain⟨g3,f3⟩:=g2.setWin ap r2;refine⟨A',c',rfl,⟨g2.hp.c2,g2.hp.blk.free 2⟩,g3,fun y p hy=>hx y p hy,?_,((fb.trans ff2).mono fun y q=>q.elim).trans (f3.mono fun y q=>.inl (by rw [q];exact Und.self t))⟩;have e:(fun v=>v∈(mvL cm tb W).take 0)=fun _=>False:=by funext y;simp
  rw [e];exact MvRel.zero hpre.ton hpre.hp.cmo hpre.hp.z)
 have hend:=HD (show ∀w1 wx x1 o1 B1 cm1 tb1,Below w.heap.size w w1→MvAt w1 (newO o w [9]) t u z b a c B m cm U W tb al wx x1 o1 B1 cm1 tb1 (mvL cm tb W).length→MvPost w o t u z b a c B (m+20000) cm U W tb al wx from fun w1 wx x1 o1 B1 cm1 tb1 hb q=>by
  refine⟨x1,o1,B1,cm1,tb1,q.hw.mono (by omega),q.is_,?_,((Fr.below' hb [9]:Fr (fun _=>False) w o w1 (newO o w [9])).mono fun y q=>q.elim).trans q.fr⟩;have:=q.mv;rw [List.take_length] at this;exact this)
 clear h hx hpre hw;generalize hL:mvL cm tb W=L at *;clear hL;go_enter Tryz.func91,Tryz.ntmps91
 go_wp2_with fail;refine hou.out.mono ?_;rintro e w1 ⟨v1,rfl,r1,hb1⟩;obtain⟨⟨c1,hfre⟩,hcl⟩:=hst.out w1 hb1;obtain⟨A1,cap1,rfl,_⟩:=r1.ints;have hb1':=HD hb1;have r1':=HD r1;replace hfre:=HD hfre;replace hcl:=HD hcl;have hfd:decide (cm.fre W<L.length)=false:=decide_eq_false (by omega);clear r1 hb1 hst hou;go_wp2_with fail;refine hfre.out.mono ?_;rintro e w2 ⟨rfl,hb2⟩;have hcl2:=HD (hcl.out w2 hb2);clear hfre hcl hb2;go_wp2_with fail;refine hcl2.out.mono ?_;rintro e w3 ⟨A3,cap3,rfl,⟨c2,fz2⟩,hR⟩;replace hR:=HD hR;clear hcl2;go_wp2_with fail;go_loopg [34] L.length (fun gh i wx=>∃(j:Nat) (x1:HpX) (o1:Nat→Tag) (B1:List UInt8) (cm1:CmS) (tb1:TbS),j≤L.length∧gh=L.length-j∧i=.int .i64 j∧Hid (MvAt w1 (newO o w [9]) t u z b a c B m cm U W tb al wx x1 o1 B1 cm1 tb1 j))
 case atStart=>exact⟨0,_,_,_,_,_,Nat.zero_le _,rfl,rfl,hR⟩
 case round =>
  clear hR c2 fz2 c1;obtain⟨j,x1,o1,B1,cm1,tb1,hj,rfl,rfl,hR⟩:=hrel;by_cases hlt:j<L.length
  ·have d0:decide ((j:Int)<(L.length:Int))=true:=decide_eq_true (by omega)
   have hx:L[j]? = some L[j]:=List.getElem?_eq_getElem hlt;have hrow:=(r1'.out.fr hR.out.fr (s3_nine ap)).ints;obtain⟨A2,c2,e2,hc2⟩:=hrow;obtain⟨g,off,rfl,gl,go,hc⟩:=hc2 (by omega);simp only [Value.slice.injEq] at e2;obtain⟨rfl,_,rfl⟩:=e2;have c0:wr.cell? ⟨g,off+j,none⟩=some (.int .i64 L[j]):=hc j hlt;obtain⟨p,old,⟨⟨pp1,pp2⟩,pp3,pp4⟩,hcc,htk⟩:=hstep.out _ _ wr x1 o1 B1 cm1 tb1 j _ hR.out hx;replace htk:=HD htk;have u1:=IntWalk.i64_in (p*512) (by omega);have u2:=IntWalk.i64_in (old*512) (by omega);obtain⟨wv1,hwv1⟩:∃v,v=x1.wv:=⟨_,rfl⟩
   rw [←hwv1] at hcc htk;clear hwv1 hc2 hc hR hstep hx hend r1';generalize L[j]=v at *;by_cases hsm:(mGet al.sm v).isSome=true
   ·replace hsm:=HD hsm
    go_wp2_with fail;refine wp_region_noPanic ?_;refine wp_region_held_drew (S:=(fun W'=>W'.cell? ⟨b,1,none⟩=some (.pointer (some ⟨c,0,none⟩))∧W'.cell? ⟨b,2,none⟩=some wv1)) (by kernel_rfl) ?_ (fun hHeld=>?_)
    ·(first|exact hcc|exact hcs)
    refine tkH 0 (h:=?_);refine tkH 1 (h:=?_);refine tkH 2 (h:=?_);refine tkH 3 (h:=?_);refine tkH 4 (h:=?_);refine tkH 5 (h:=?_);refine tkH 6 (h:=?_);refine tkH 7 (h:=?_);refine onH 8 (h:=fun K hK=>?_);go_simp;refine htk.out.mono ?_;rintro e w2 ⟨rfl,hcs,c3,hsw⟩;replace hsw:=HD hsw;go_wp2_with fail;refine hK.out _ _ ?_ (fun hHeld=>?_)
    ·(first|exact hcc|exact hcs)
    clear hK;refine nmH (h:=?_);refine tkH 9 (h:=?_);refine tkH 10 (h:=?_);refine tkH 11 (h:=?_);refine tkH 12 (h:=?_);refine tkH 13 (h:=?_);refine wpAnyH_done (by kernel_rfl) ?_ _;refine NoPanic.normal ?_;clear hcs hcc htk;go_wp2_with fail;refine hsw.out.mono ?_;rintro e w3 ⟨rfl,d0',hcp⟩;replace hcp:=HD hcp;clear hsw;go_wp2_with fail;refine hcp.out.mono ?_;rintro e w4 ⟨rfl,d4,hze⟩;replace hze:=HD hze;clear hcp;go_wp2_with fail;refine hze.out.mono ?_;rintro e w5 ⟨rfl,d5,hgv⟩;replace hgv:=HD hgv;clear hze;go_wp2_with fail;refine hgv.out.mono ?_;rintro e w6 ⟨rfl,d6,hyes,hno⟩;obtain⟨hlk,hmo⟩:=hyes hsm.out;replace hmo:=HD hmo;clear hgv hyes hno;go_wp2_with fail;refine hmo.out.mono ?_;rintro e w7 ⟨rfl,x7,o7,B7,cm7,tb7,hRn⟩;replace hRn:=HD hRn;clear hmo;go_wp2_with fail;go_roundg (L.length-(j+1))
    case measure=>omega
    case rel=>exact⟨j+1,_,_,_,_,_,by omega,rfl,by go_num,hRn⟩
   ·have hsm:(mGet al.sm v).isSome=false:=by simpa using hsm
    replace hsm:=HD hsm;go_wp2_with fail;refine wp_region_noPanic ?_;refine wp_region_held_drew (S:=(fun W'=>W'.cell? ⟨b,1,none⟩=some (.pointer (some ⟨c,0,none⟩))∧W'.cell? ⟨b,2,none⟩=some wv1)) (by kernel_rfl) ?_ (fun hHeld=>?_)
    ·(first|exact hcc|exact hcs)
    refine tkH 0 (h:=?_);refine tkH 1 (h:=?_);refine tkH 2 (h:=?_);refine tkH 3 (h:=?_);refine tkH 4 (h:=?_);refine tkH 5 (h:=?_);refine tkH 6 (h:=?_);refine tkH 7 (h:=?_);refine onH 8 (h:=fun K hK=>?_);go_simp;refine htk.out.mono ?_;rintro e w2 ⟨rfl,hcs,c3,hsw⟩;replace hsw:=HD hsw;go_wp2_with fail;refine hK.out _ _ ?_ (fun hHeld=>?_)
    ·(first|exact hcc|exact hcs)
    clear hK;refine nmH (h:=?_);refine tkH 9 (h:=?_);refine tkH 10 (h:=?_);refine tkH 11 (h:=?_);refine tkH 12 (h:=?_);refine tkH 13 (h:=?_);refine wpAnyH_done (by kernel_rfl) ?_ _;refine NoPanic.normal ?_;clear hcs hcc htk;go_wp2_with fail;refine hsw.out.mono ?_;rintro e w3 ⟨rfl,d0',hcp⟩;replace hcp:=HD hcp;clear hsw;go_wp2_with fail;refine hcp.out.mono ?_;rintro e w4 ⟨rfl,d4,hze⟩;replace hze:=HD hze;clear hcp;go_wp2_with fail;refine hze.out.mono ?_;rintro e w5 ⟨rfl,d5,hgv⟩;replace hgv:=HD hgv;clear hze;go_wp2_with fail;refine hgv.out.mono ?_;rintro e w6 ⟨rfl,d6,hyes,hno⟩;obtain⟨hlk,x7,o7,B7,cm7,tb7,hRn⟩:=hno hsm.out;replace hRn:=HD hRn;clear hgv hyes hno;go_wp2_with fail;go_roundg (L.length-(j+1))
    case measure=>omega
    case rel=>exact⟨j+1,_,_,_,_,_,by omega,rfl,by go_num,hRn⟩
  ·obtain rfl:j=L.length:=by omega
   go_wp2_with fail;go_ret
   exact⟨rfl,hend.out _ _ _ _ _ _ _ hb1'.out hR.out⟩
end
section
open Go.RowKit
theorem mGet_nil{α:Type}{M:List (Int×α)}(h:∀k,mGet M k=none):M=[]:=by
 cases M with
 |nil=>rfl
 |cons y M =>
  obtain⟨a,v⟩:=y;have:=h a;rw [mGet,if_pos rfl] at this;cases this
theorem HpOk.new{B:List UInt8}{cm:CmS}{win:List Int}(hok:cm.ok)(hl:B.length=cm.P*512)(h:TbOk cm win ⟨[],[]⟩)(hz:FreeZ B cm):HpOk B cm win ⟨[],[]⟩ AlS.new where
 al:=AlOk.new
 cmo:=hok
 len:=hl
 ton:=h
 dom v:=by
  constructor
  ·intro q;cases q
  ·rintro ⟨h1,h2,h3⟩
   replace h3:decide ((stV v).toNat<(slotsT ((kdV v).toNat:Nat)).toNat)=false:=h3;have hk:((kdV v).toNat:Int)=kdV v:=by unfold kdV;omega
   rw [hk] at h3;have h0:0≤stV v:=by
    have:=kind_facts (c:=kdV v) (by unfold kdV;omega) (by unfold kdV;omega);exact Int.ediv_nonneg (by omega) (by omega)
   rw [decide_eq_true (by omega)] at h3;cases h3
 cnt:=by rw [pgsum_new];rfl
 z:=hz
 c v p q hp:=by cases hp
theorem new_used:AlS.new.Used:=fun v p h=>by cases h
structure DrRel(w:World)(o:Nat→Tag)(t u z:Tag)(b a c:Nat)(x:HpX)(B:List UInt8)(m:Nat)(cm:CmS)(win:List Int)(tb:TbS)(al:AlS)(wx:World)(o':Nat→Tag)(B':List UInt8)(cm':CmS)(tb':TbS)(j:Nat):Prop where
 hw:HpW wx o' t u z b a c x B' (m+j) cm' win tb' al
 rel:Rel B cm win tb B' cm' tb' (fun v=>v∈(tb.pg.map (·.1)).take j) j
 fr:Fr (S3 t u z) w o wx o'
def DrPost(w:World)(o:Nat→Tag)(t u z:Tag)(b a c:Nat)(B:List UInt8)(m:Nat)(cm:CmS)(win:List Int)(w':World):Prop :=
 ∃x o' B' cm',HpW w' o' t u z b a c x B' m cm' win ⟨[],[]⟩ AlS.new∧HpOk B' cm' win ⟨[],[]⟩ AlS.new∧Keep win B cm B' cm'∧Fr (S3 t u z) w o w' o'
theorem hpDrop(b a c:Nat)(w:World){o:Nat→Tag}{t u z:Tag}{x:HpX}{B:List UInt8}{m:Nat}{cm:CmS}{win:List Int}{tb:TbS}{al:AlS}(h:HpW w o t u z b a c x B m cm win tb al)(ap:Ap3 t u z)(hm:m≤700000)(hp:HpOk B cm win tb al) :
  Calls Tryz.prog 95 #[.pointer (some ⟨b,0,none⟩)] w fun e w'=>e=.returned (.tuple #[])∧DrPost w o t u z b a c B (m+7000) cm win w':=by
 have c3:w.cell? ⟨b,3,none⟩=some (.pointer (some ⟨x.bt,0,none⟩)):=h.hp.c3;have hall:=HD (tbAll x.bt w h.hp.ta [9]);have hkl:(tb.pg.map (·.1)).length≤6400:=by
  rw [List.length_map];have:=rise_len hp.ton.rise.1 256 6400 (by omega) (fun y hy=>(hp.ton.rng y.1 y.2 (mGet_of hp.ton.rise.1 hy)).1);omega
 have h0:=HD (fun w1 (hb:Below w.heap.size w w1)=>(show DrRel w1 (newO o w [9]) t u z b a c x B m cm win tb al w1 (newO o w [9]) B cm tb 0 from
  ⟨h.still (Fr.below' hb [9]),(Rel.zero hp.ton hp.cmo hp.z).cong (fun v=>by simp),Fr.refl _ _ _⟩))
 have hstep:=HD (show ∀w1 o1 wx o' B' cm' tb' j v,DrRel w1 o1 t u z b a c x B m cm win tb al wx o' B' cm' tb' j→(tb.pg.map (·.1))[j]? = some v→Calls Tryz.prog 140 #[.pointer (some ⟨b,0,none⟩),.int .i64 v] wx (fun e w2=>e=.returned (.tuple #[])∧∃o2 B2 cm2 tb2,DrRel w1 o1 t u z b a c x B m cm win tb al w2 o2 B2 cm2 tb2 (j+1)) from fun w1 o1 wx o' B' cm' tb' j v hR hj=>by
  obtain⟨hjl,hjv⟩:=List.getElem?_eq_some_iff.1 hj;have hvm:v∈tb.pg.map (·.1):=by rw [←hjv];exact List.getElem_mem hjl
  obtain⟨y,hy,hyv⟩:=List.mem_map.1 hvm;have hg:mGet tb.pg v=some y.2:=by rw [←hyv];exact mGet_of hp.ton.rise.1 hy
  have hnd:(tb.pg.map (·.1)).Nodup:=by
   have hr:(tb.pg.map (·.1)).Pairwise (· < ·):=List.pairwise_map.2 hp.ton.rise.1;have hn:(tb.pg.map (·.1)).Pairwise (·≠·):=hr.imp (fun h=>by omega);exact hn
  have htk:=List.take_succ_eq_append_getElem hjl;rw [hjv] at htk;have hD:v∉(tb.pg.map (·.1)).take j:=by
   have:((tb.pg.map (·.1)).take (j+1)).Nodup:=hnd.sublist (List.take_sublist _ _);rw [htk] at this;intro q;exact(List.nodup_append.1 this).2.2 v q v (by simp) rfl
  obtain⟨e1,e2,e3,e4,e5,e6⟩:=hR.rel.step hp.len hg hD;have hP:=hp.cmo.2.2.2.1;refine(hpLet b a c v y.2 wx hR.hw ap (by omega) e1 e2 (by omega) e4 e5).mono ?_;rintro e w2 ⟨rfl,o2,q1,f1⟩;refine⟨rfl,o2,_,_,_,q1,e6.cong (fun u=>?_),hR.fr.trans f1⟩;rw [htk];simp)
 have hemp:=HD (show ∀w1 wx o' B' cm' tb',Below w.heap.size w w1→DrRel w1 (newO o w [9]) t u z b a c x B m cm win tb al wx o' B' cm' tb' (tb.pg.map (·.1)).length→Calls Tryz.prog 126 #[.pointer (some ⟨b,0,none⟩)] wx (fun e w2=>e=.returned (.tuple #[])∧DrPost w o t u z b a c B (m+7000) cm win w2) from fun w1 wx o' B' cm' tb' hb hR=>by
  have hlen:=hR.rel.len;rw [List.length_map] at hlen;have hpg:tb'.pg=[]:=List.eq_nil_of_length_eq_zero (by omega);have hlc:tb'.lc=[]:=mGet_nil fun p=>by
   cases e:mGet tb'.lc p with
   |none=>rfl
   |some v =>
    have:=(hR.rel.ton.inv v p).2 e;rw [hpg] at this;cases this
  have htb:tb'=⟨[],[]⟩:=by
   cases tb' with
   |mk pg lc=>simp only at hpg hlc;rw [hpg,hlc]
  subst htb;refine(hpEmpty b a c wx hR.hw.hp.blk (hR.hw.hp.sl 0 (by omega)).1 ap.tu.t9).mono ?_;rintro e w2 ⟨rfl,gm,o2,sv',lv',bs,bl,gl,hE⟩;have hfr:=hE.fr;have hoff:=fun {n:Nat} {r:Tag}=>eq_off (t:=t) ap.tu.t9 n r
  refine⟨rfl,_,o2,B',cm',⟨hE.hp (hR.hw.hp.win.fr hfr hoff.self) (hR.hw.hp.ta.fr hfr hoff),hR.hw.cma.fr hfr ⟨fun y hy e=>ap.tu.ne y (by rw [e];exact Und.self t) hy,fun e=>ap.tu.t9 (by rw [←e];exact List.prefix_refl _)⟩,(hR.hw.ar.fr hfr ⟨fun y hy e=>ap.tz.ne y (by rw [e];exact Und.self t) hy,fun e=>ap.tu.t9 (by rw [←e];exact List.prefix_refl _)⟩).mono (by omega)⟩,HpOk.new hR.rel.ok (by rw [hR.rel.keep.len,hR.rel.keep.P];exact hp.len) hR.rel.ton hR.rel.z,hR.rel.keep,((Fr.below' hb [9]:Fr (fun _=>False) w o w1 (newO o w [9])).mono fun y q=>q.elim).trans (hR.fr.trans (hfr.mono fun y q=>.inl (by rw [q];exact Und.self t)))⟩)
 clear h hp;generalize hks:tb.pg.map (·.1)=ks at *;clear hks;go_enter Tryz.func95,Tryz.ntmps95
 go_wp2_with fail;refine hall.out.mono ?_;rintro e w1 ⟨v1,rfl,r1,hb1⟩;obtain⟨A1,cap1,rfl,_⟩:=r1.ints;have hb1':=HD hb1;have r1':=HD r1;have hR:=HD (h0.out w1 hb1);clear r1 hb1 hall h0;go_wp2_with fail;go_loopg [12] ks.length (fun gh i wx=>∃(j:Nat) (o1:Nat→Tag) (B1:List UInt8) (cm1:CmS) (tb1:TbS),j≤ks.length∧gh=ks.length-j∧i=.int .i64 j∧Hid (DrRel w1 (newO o w [9]) t u z b a c x B m cm win tb al wx o1 B1 cm1 tb1 j))
 case atStart=>exact⟨0,_,_,_,_,Nat.zero_le _,rfl,rfl,hR⟩
 case round =>
  clear hR c3;obtain⟨j,o1,B1,cm1,tb1,hj,rfl,rfl,hR⟩:=hrel;by_cases hlt:j<ks.length
  ·have d0:decide ((j:Int)<(ks.length:Int))=true:=decide_eq_true (by omega)
   have hx:ks[j]? = some ks[j]:=List.getElem?_eq_getElem hlt;have hrow:=(r1'.out.fr hR.out.fr (s3_nine ap)).ints;obtain⟨A2,c2,e2,hc2⟩:=hrow;obtain⟨g,off,rfl,gl,go,hc⟩:=hc2 (by omega);simp only [Value.slice.injEq] at e2;obtain⟨rfl,_,rfl⟩:=e2;have c0:wr.cell? ⟨g,off+j,none⟩=some (.int .i64 ks[j]):=hc j hlt;have hlet:=HD (hstep.out _ _ wr o1 B1 cm1 tb1 j _ hR.out hx);clear hc2 hc hR hstep hx hemp r1';generalize ks[j]=v at *;go_wp2_with fail;refine hlet.out.mono ?_;rintro e w2 ⟨rfl,o2,B2,cm2,tb2,hRn⟩;replace hRn:=HD hRn;clear hlet;go_wp2_with fail;go_roundg (ks.length-(j+1))
   case measure=>omega
   case rel=>exact⟨j+1,_,_,_,_,by omega,rfl,by go_num,hRn⟩
  ·obtain rfl:j=ks.length:=by omega
   have hem:=HD (hemp.out w1 wr o1 B1 cm1 tb1 hb1'.out hR.out);clear hemp hR hstep;go_wp2_with fail;refine hem.out.mono ?_;rintro e w2 ⟨rfl,r⟩;replace r:=HD r;clear hem;go_wp2_with fail;exact bodyPost_end (results_none (by kernel_rfl) _ _ _) rfl ⟨rfl,r.out⟩
end
section
open Go.RowKit
def locs(T:List (Int×Int)):List Nat:=T.flatMap fun x=>(List.range x.2.toNat).map fun j=>x.1.toNat+j
def loc(pg:List (Int×Int))(x:Int):Nat:=(lookV pg (x/512)).toNat*512+(x%512).toNat
theorem lb_loc(tb:TbS)(B:List UInt8)(x:Int):lb tb B x=byt B (loc tb.pg x):=rfl
structure PcT(pg:List (Int×Int))(L:Nat)(a n:Int)(T:List (Int×Int)):Prop where
 sp:∀x∈T,0≤x.1∧1≤x.2∧x.2≤512∧x.1+x.2≤L
 lo:locs T=(List.range n.toNat).map fun (i:Nat)=>loc pg (a+i)
 len:T.length≤n.toNat
 sum:(T.map (·.2)).sum=n
theorem range_split(f:Nat→Nat)(s n:Nat)(h:s≤n):(List.range n).map f=(List.range s).map f++(List.range (n-s)).map fun i=>f (s+i):=by
 have:n=s+(n-s):=by omega
 rw [this,List.range_add];simp [Function.comp_def]
theorem pcL_ok{pg:List (Int×Int)}{P:Nat}:∀(f:Nat) (a n:Int),n.toNat≤f→0≤a→0≤n→(∀i,0≤i→i<n→∃q,mGet pg ((a+i)/512)=some q∧0≤q∧q<P)→∃T,pcL pg f a n=some T∧PcT pg (P*512) a n T
 |0,a,n,hf,ha,hn,h=>by
  obtain rfl:n=0:=by omega
  exact⟨[],rfl,⟨fun x hx=>(by cases hx),rfl,Nat.le_refl _,rfl⟩⟩
 |f+1,a,n,hf,ha,hn,h=>by
  by_cases h0:n≤0
  ·obtain rfl:n=0:=by omega
   exact⟨[],by unfold pcL;rw [if_pos h0],⟨fun x hx=>(by cases hx),rfl,Nat.zero_le _,rfl⟩⟩
  ·obtain⟨q,hq,q0,q1⟩:=h 0 (by omega) (by omega)
   rw [Int.add_zero] at hq;have hs:1≤min n (512-a%512)∧min n (512-a%512)≤n∧min n (512-a%512)≤512-a%512:=by omega
   generalize hsm:min n (512-a%512)=s at *;obtain⟨T,hT,g1,g2,g3,g4⟩:=pcL_ok f (a+s) (n-s) (by omega) (by omega) (by omega) (fun i i0 i1=>by
    have:=h (s+i) (by omega) (by omega)
    rwa [show a+(s+i)=a+s+i by omega] at this)
   have hl:=lookV_some hq;refine⟨(q*512+a%512,s) :: T,?_,fun x hx=>?_,?_,?_,?_⟩
   ·unfold pcL
    rw [if_neg h0,hl,if_neg (by omega),hsm,hT];rfl
   ·rcases List.mem_cons.1 hx with rfl|hx
    ·refine⟨by show (0:Int)≤q*512+a%512;omega,by show (1:Int)≤s;omega,by show s≤512;omega,?_⟩
     show q*512+a%512+s≤((P*512:Nat):Int);omega
    ·exact g1 x hx
   ·show (List.range s.toNat).map (fun j=>(q*512+a%512).toNat+j)++locs T=_
    rw [g2,range_split _ s.toNat n.toNat (by omega)];refine congr (congrArg _ ?_) ?_
    ·refine List.map_congr_left fun j hj=>?_
     have hj':=List.mem_range.1 hj;unfold loc;rw [show (a+(j:Int))/512=a/512 by omega,hl];omega
    ·rw [show (n-s).toNat=n.toNat-s.toNat by omega]
     refine List.map_congr_left fun j hj=>?_
     congr 1
     omega
   ·simp only [List.length_cons];omega
   ·simp only [List.map_cons,List.sum_cons,g4];omega
theorem sub_map{B:List UInt8}{i n:Nat}(h:i+n≤B.length):sub B i n=(List.range n).map fun j=>byt B (i+j):=by
 apply List.ext_getElem?
 intro j;by_cases hj:j<n
 ·rw [sub_get hj,List.getElem?_map,List.getElem?_range hj]
  unfold byt;simp only [Option.map_some,List.getD_eq_getElem?_getD];rw [List.getElem?_eq_getElem (show i+j<B.length by omega)];rfl
 ·rw [List.getElem?_eq_none (by rw [sub_len h];omega),List.getElem?_eq_none (by simp;omega)]
theorem locs_take{T:List (Int×Int)}{i:Nat}{x:Int×Int}(h:T[i]? = some x):locs (T.take (i+1))=locs (T.take i)++(List.range x.2.toNat).map (fun j=>x.1.toNat+j):=by
 obtain⟨hi,e⟩:=List.getElem?_eq_some_iff.1 h;rw [List.take_succ_eq_append_getElem hi,e];unfold locs;simp
theorem locs_len{T:List (Int×Int)}(h:∀x∈T,0≤x.2):((locs T).length:Int)=(T.map (·.2)).sum:=by
 induction T with
 |nil=>rfl
 |cons x T ih =>
  have:=h x (by simp);have:=ih (fun y hy=>h y (by simp [hy]));unfold locs at *;simp only [List.flatMap_cons,List.length_append,List.length_map,List.length_range,List.map_cons,List.sum_cons];omega
theorem dones_len{T:List (Int×Int)}(h:∀x∈T,0≤x.2)(i:Nat):dones T i=(locs (T.take i)).length:=by
 unfold dones;rw [locs_len (fun x hx=>h x (List.mem_of_mem_take hx))]
theorem dones_bound{T:List (Int×Int)}(h:∀x∈T,0≤x.2){n:Int}(hs:(T.map (·.2)).sum=n)(i:Nat):0≤dones T i∧dones T i≤n:=by
 have h1:=dones_len h i;have h2:dones T i+((T.drop i).map (·.2)).sum=n:=by
  unfold dones;rw [←hs];conv=>rhs;rw [←List.take_append_drop i T]
  rw [List.map_append,List.sum_append]
 have h3:=locs_len (T:=T.drop i) (fun x hx=>h x (List.mem_of_mem_drop hx));omega
structure WrI(B:List UInt8)(T:List (Int×Int))(g:Nat→UInt8)(i:Nat)(B':List UInt8):Prop where
 len:B'.length=B.length
 in_:∀k,(h:k<(locs (T.take i)).length)→byt B' (locs (T.take i))[k]=g k
 out:∀p,p∉locs (T.take i)→byt B' p=byt B p
theorem WrI.zero(B:List UInt8)(T:List (Int×Int))(g:Nat→UInt8):WrI B T g 0 B:=⟨rfl,fun k h=>by simp [locs] at h,fun _ _=>rfl⟩
theorem WrI.step{B:List UInt8}{T:List (Int×Int)}{g:Nat→UInt8}{i:Nat}{B' B2:List UInt8}{x:Int×Int}(h:WrI B T g i B')(hx:T[i]? = some x)(hx0:0≤x.1∧0≤x.2)(hn:(locs T).Nodup)(hl:B2.length=B'.length)
  (hb:∀p:Nat,byt B2 p=if x.1≤p∧(p:Int)<x.1+x.2 then g ((locs (T.take i)).length+(p-x.1.toNat)) else byt B' p):WrI B T g (i+1) B2:=by
 have ht:=locs_take hx;have hsub:(locs (T.take (i+1))).Nodup:=by
  have e:locs T=locs (T.take (i+1))++locs (T.drop (i+1)):=by
   unfold locs;rw [←List.flatMap_append,List.take_append_drop]
  rw [e] at hn;exact(List.nodup_append.1 hn).1
 rw [ht] at hsub;have hd:=(List.nodup_append.1 hsub).2.2;refine⟨hl.trans h.len,fun k hk=>?_,fun p hp=>?_⟩
 ·simp only [ht]
  rw [hb];by_cases c:k<(locs (T.take i)).length
  ·rw [List.getElem_append_left c,if_neg,h.in_ k c]
   intro q;refine hd _ (List.getElem_mem c) _ ?_ rfl;rw [List.mem_map];exact⟨(locs (T.take i))[k]-x.1.toNat,List.mem_range.2 (by omega),by omega⟩
  ·rw [List.getElem_append_right (by omega)]
   have hk2:k-(locs (T.take i)).length<x.2.toNat:=by
    rw [ht] at hk;simp at hk
    omega
   simp only [List.getElem_map,List.getElem_range];rw [if_pos (by omega)]
   congr 1
   omega
 ·rw [ht,List.mem_append,not_or] at hp
  rw [hb,if_neg,h.out p hp.1];intro q;exact hp.2 (List.mem_map.2 ⟨p-x.1.toNat,List.mem_range.2 (by omega),by omega⟩)
end
section
open Go.RowKit
theorem spn_cell{w:World}{base:Nat}{v:Value}{T:List (Int×Int)}(h:Spn w base v T):∃p c,v=.slice p T.length c∧(T≠[]→∃g,p=some ⟨g,0,none⟩∧base≤g∧g<w.heap.size∧∀(j:Nat) (x:Int×Int),T[j]? = some x→w.cell? ⟨g,j*3,none⟩=some (.int .i64 x.1)∧w.cell? ⟨g,j*3+1,none⟩=some (.int .i64 x.2)∧w.cell? ⟨g,j*3+2,none⟩=some (.bool false)):=by
 have hlen:=h.1;rcases h.2 with ⟨rfl,h0⟩|⟨g,cap,cur,rfl,hb,hg,hle,hcap,hsz,htk⟩
 ·exact⟨none,0,by rw [h0],fun q=>absurd (List.eq_nil_of_length_eq_zero h0) q⟩
 ·refine⟨some ⟨g,0,none⟩,cap,rfl,fun _=>⟨g,rfl,hb,(Array.getElem?_eq_some_iff.1 hg).1,fun j x hx=>?_⟩⟩
  obtain⟨hj,e⟩:=List.getElem?_eq_some_iff.1 hx;have hspan:∀(T:List (Int×Int)) (j:Nat) (x:Int×Int),T[j]? = some x→(spans T)[j*3]? = some (.int .i64 x.1)∧(spans T)[j*3+1]? = some (.int .i64 x.2)∧(spans T)[j*3+2]? = some (.bool false):=by
   intro T;induction T with
   |nil=>intro j x h;simp at h
   |cons y T ih =>
    intro j x h;have e:spans (y :: T)=[.int .i64 y.1,.int .i64 y.2,.bool false]++spans T:=rfl;rw [e];cases j with
    |zero=>simp at h;subst h;exact⟨rfl,rfl,rfl⟩
    |succ j =>
     have:=ih j x (by simpa using h);refine⟨?_,?_,?_⟩<;>rw [List.getElem?_append_right (by simp;omega)]
     ·rw [show (j+1)*3 - [Value.int .i64 y.1,.int .i64 y.2,.bool false].length=j*3 by simp;omega];exact this.1
     ·rw [show (j+1)*3+1 - [Value.int .i64 y.1,.int .i64 y.2,.bool false].length=j*3+1 by simp;omega];exact this.2.1
     ·rw [show (j+1)*3+2 - [Value.int .i64 y.1,.int .i64 y.2,.bool false].length=j*3+2 by simp;omega];exact this.2.2
  have hs:=hspan T j x hx;have hget:∀i v,i<T.length*3→(spans T)[i]? = some v→w.cell? ⟨g,i,none⟩=some v:=fun i v hi hv=>by
   rw [cell_of_row w g i cur _ _ hg];have:(cur.toList.take (T.length*3))[i]? = some v:=by rw [htk];exact hv
   rw [List.getElem?_take,if_pos hi] at this;simpa using this
  exact⟨hget _ _ (by omega) hs.1,hget _ _ (by omega) hs.2.1,hget _ _ (by omega) hs.2.2⟩
structure VwPre(tb:TbS)(B:List UInt8)(a n:Int)(T:List (Int×Int)):Prop where
 ins:insideB a n=true
 pc:pcL tb.pg n.toNat a n=some T
 pt:PcT tb.pg B.length a n T
 vals:∀p∈tb.pg,0≤p.2∧p.2<1048577
 n8:n≤8192
theorem vwPieces(a bt:Nat)(ad n:Int)(w:World){o:Nat→Tag}{z tt:Tag}{B:List UInt8}{m:Nat}{tb:TbS}{T:List (Int×Int)}(ha:ArAt w o z a B m)(ht:TbAt w o tt bt tb)(hp:VwPre tb B ad n T) :
  Calls Tryz.prog 154 #[.pointer (some ⟨a,0,none⟩),.pointer (some ⟨bt,0,none⟩),.int .i64 ad,.int .i64 n] w fun e w'=>∃v,e=.returned (.tuple #[v,.int .i64 0])∧Spn w' w.heap.size v T∧Below w.heap.size w w':=by
 have hpc:=tbPieces bt ad n w ht hp.vals;have hE:tb.pcE ad n=0:=by unfold TbS.pcE;rw [if_pos hp.ins,hp.pc];rfl
 have hL:tb.pcs ad n=T:=by unfold TbS.pcs;rw [if_pos hp.ins,hp.pc];rfl
 rw [hE,hL] at hpc;replace hpc:=HD hpc;have hBl:=ha.sz;have hsz:=HD (fun w1 (hb:Below w.heap.size w w1)=>arSize a w1 (ha.fr (S:=fun _=>False) (Fr.below hb) off_no));have hsp:=HD hp.pt.sp;have hTl:T.length≤8192:=by have:=hp.pt.len;have:=hp.n8;omega
 clear ha ht hp hE hL;generalize B.length=L at *;go_enter Tryz.func154,Tryz.ntmps154
 go_wp2_with fail;refine hpc.out.mono ?_;rintro e w1 ⟨v,rfl,hs,hb⟩;obtain⟨p,cp,rfl,hcell⟩:=spn_cell hs;have hs':=HD hs;have hb':=HD hb;replace hcell:=HD hcell;clear hs hb hpc;go_wp2_with fail;go_loopg [29] T.length (fun gh i wx=>∃(j:Nat),j≤T.length∧gh=T.length-j∧i=.int .i64 j∧Hid (Below w1.heap.size w1 wx))
 case atStart=>exact⟨0,Nat.zero_le _,rfl,rfl,HD (Below.refl _ _)⟩
 case round =>
  obtain⟨j,hj,rfl,rfl,hB⟩:=hrel;by_cases hlt:j<T.length
  ·have d0:decide ((j:Int)<(T.length:Int))=true:=decide_eq_true (by omega)
   obtain⟨g,rfl,g0,g1,hc⟩:=hcell.out (fun e=>by rw [e] at hlt;simp at hlt);have hx:=hc j T[j] (List.getElem?_eq_getElem hlt);have hxs:=hsp.out T[j] (List.getElem_mem hlt);obtain⟨e1,e2,e3⟩:=hx;have a1:wr.cell? ⟨g,j*3,none⟩=some (.int .i64 T[j].1):=(hB.out.cell (p:=⟨g,j*3,none⟩) g1).trans e1;have a2:wr.cell? ⟨g,j*3+1,none⟩=some (.int .i64 T[j].2):=(hB.out.cell (p:=⟨g,j*3+1,none⟩) g1).trans e2;have a3:wr.cell? ⟨g,j*3+2,none⟩=some (.bool false):=(hB.out.cell (p:=⟨g,j*3+2,none⟩) g1).trans e3;clear e1 e2 e3 hc;generalize T[j]=x at *;obtain⟨x1,x2⟩:=x;simp only at hxs a1 a2 a3;obtain⟨y1,y2,y3,y4⟩:=hxs;have hbz:=HD (show Below w.heap.size w (wr.alloc (.cells #[.int .i64 x1,.int .i64 x2,.bool false] 217)).drew from(hb'.out.trans (((hB.out).alloc (o:=.cells #[.int .i64 x1,.int .i64 x2,.bool false] 217) hB.out.size).drew.mono hb'.out.size)));have hB2:=HD (show Below w1.heap.size w1 (wr.alloc (.cells #[.int .i64 x1,.int .i64 x2,.bool false] 217)).drew from((hB.out).alloc (o:=.cells #[.int .i64 x1,.int .i64 x2,.bool false] 217) hB.out.size).drew);have hblk:(wr.alloc (.cells #[.int .i64 x1,.int .i64 x2,.bool false] 217)).heap[wr.heap.size]? = some (.cells #[.int .i64 x1,.int .i64 x2,.bool false] 217 (0,0)):=heap_alloc_new wr _;have hs2:(wr.alloc (.cells #[.int .i64 x1,.int .i64 x2,.bool false] 217)).drew.cell? ⟨wr.heap.size,0,none⟩=some (.int .i64 x1)∧(wr.alloc (.cells #[.int .i64 x1,.int .i64 x2,.bool false] 217)).drew.cell? ⟨wr.heap.size,1,none⟩=some (.int .i64 x2) :=
    ⟨cell_of_row _ wr.heap.size 0 _ _ _ hblk,cell_of_row _ wr.heap.size 1 _ _ _ hblk⟩
   have d1:decide ((L:Int)<x1)=false:=decide_eq_false (by omega);have d2:decide ((L:Int)-x1<x2)=false:=decide_eq_false (by omega);have u1:=IntWalk.i64_in ((L:Int)-x1) (by omega);clear hblk hB;go_wp2_with fail;refine wp_region_noPanic ?_;refine wp_region_held_drew (S:=(fun W=>W.cell? ⟨wr.heap.size,0,none⟩=some (.int .i64 x1)∧W.cell? ⟨wr.heap.size,1,none⟩=some (.int .i64 x2))) (by kernel_rfl) ?_ (fun hHeld=>?_)
   ·(first|exact hs2|exact hcs)
   refine tkH 0 (h:=?_);refine tkH 1 (h:=?_);refine tkH 2 (h:=?_);refine onH 3 (h:=fun K hK=>?_);go_simp;refine(hsz.out _ hbz.out).mono ?_;rintro e w2 ⟨rfl,rfl⟩;have hcs:=hs2;go_wp2_with fail;refine hK.out _ _ ?_ (fun hHeld=>?_)
   ·(first|exact hs2|exact hcs)
   clear hK;refine nmH (h:=?_);refine tkH 4 (h:=?_);refine tkH 5 (h:=?_);refine tkH 6 (h:=?_);refine tkH 7 (h:=?_);refine tkH 8 (h:=?_);refine tkH 10 (h:=?_);refine tkH 11 (h:=?_);refine onH 9 (h:=fun K hK=>?_);go_simp;refine(hsz.out _ hbz.out).mono ?_;rintro e w2 ⟨rfl,rfl⟩;have hcs:=hs2;go_wp2_with fail;refine hK.out _ _ ?_ (fun hHeld=>?_)
   ·(first|exact hs2|exact hcs)
   clear hK;refine nmH (h:=?_);refine tkH 12 (h:=?_);refine tkH 13 (h:=?_);refine tkH 14 (h:=?_);refine wpAnyH_done (by kernel_rfl) ?_ _;refine NoPanic.normal ?_;go_wp2_with fail;go_roundg (T.length-(j+1))
   case measure=>omega
   case rel=>exact⟨j+1,by omega,rfl,by go_num,hB2⟩
  ·obtain rfl:j=T.length:=by omega
   go_wp2_with fail;go_ret2
   refine⟨_,rfl,?_,hb'.out.trans (hB.out.mono hb'.out.size)⟩;exact(Only.of_below hB.out).owns hs'.out (fun q hq e=>by have:=(hs'.out.lt q hq).2;omega)
end
section
open Go.RowKit
theorem vwZero1(a k0:Nat)(x:Int×Int)(d:Int)(w:World){o:Nat→Tag}{z:Tag}{B:List UInt8}{m:Nat}(ha:ArAt w o z a B m)(hm:m≤1000000)(hk:w.cell? ⟨k0,0,none⟩=some (.pointer (some ⟨a,0,none⟩)))(hx:hasE B.length x.1 x.2=0) :
  Calls Tryz.prog 156 #[spanV x,.int .i64 d,.pointer (some ⟨k0,0,none⟩)] w fun e w'=>e=.returned (.tuple #[])∧∃o',ArAt w' o' z a (zrB B x.1 x.2) (m+1)∧Fr (Und z) w o w' o':=by
 obtain⟨x1,x2⟩:=x;simp only at hx;have fa:Fr (fun _=>False) w o (w.alloc (.cells #[.int .i64 x1,.int .i64 x2,.bool false] 217)) o:=Fr.alloc' _;have hz:=arZero a x1 x2 _ (ha.fr fa off_no) (by omega);rw [hx] at hz;have hfin:=HD (fun w' (f:Fr (Und z) (w.alloc (.cells #[.int .i64 x1,.int .i64 x2,.bool false] 217)) o w' (newO o (w.alloc (.cells #[.int .i64 x1,.int .i64 x2,.bool false] 217)) z))=>(fa.mono (S':=Und z) fun y q=>q.elim).trans f);have hka:=keep_alloc (o:=.cells #[.int .i64 x1,.int .i64 x2,.bool false] 217) hk;have hblk:(w.alloc (.cells #[.int .i64 x1,.int .i64 x2,.bool false] 217)).heap[w.heap.size]? = some (.cells #[.int .i64 x1,.int .i64 x2,.bool false] 217 (0,0)):=heap_alloc_new w _;replace hz:=HD hz;clear ha fa hk hx;unfold spanV;go_enter Tryz.func156,Tryz.ntmps156
 go_wp2_with fail;refine hz.out.mono ?_;rintro e w2 ⟨rfl,q,f⟩;have hf:=hfin.out w2 f;replace q:=HD q;replace hf:=HD hf;clear hz hfin f;go_wp2_with fail;exact bodyPost_end (results_none (by kernel_rfl) _ _ _) rfl ⟨rfl,_,q.out,hf.out⟩
theorem vw_each{w w0:World}{o:Nat→Tag}{z:Tag}{p:Option Addr}{c base:Nat}{T:List (Int×Int)}(ap9:¬z <+: [9])(hb:Below w.heap.size w w0)(hs:Spn w0 base (.slice p T.length c) T)(hbase:w.heap.size≤base) :
  ∃g,(T≠[]→p=some ⟨g,0,none⟩)∧∀wx o1,Fr (Und z) w0 (newO o w [9]) wx o1→∀(j:Nat) (x:Int×Int),T[j]? = some x→wx.cell? ⟨g,j*3,none⟩=some (.int .i64 x.1)∧wx.cell? ⟨g,j*3+1,none⟩=some (.int .i64 x.2)∧wx.cell? ⟨g,j*3+2,none⟩=some (.bool false):=by
 obtain⟨p',c',e,h⟩:=spn_cell hs;simp only [Value.slice.injEq] at e;obtain⟨rfl,_,rfl⟩:=e;by_cases hT:T=[]
 ·subst hT
  exact⟨0,fun q=>absurd rfl q,fun wx o1 f j x hx=>by simp at hx⟩
 ·obtain⟨g,rfl,g0,g1,hc⟩:=h hT
  refine⟨g,fun _=>rfl,fun wx o1 f j x hx=>?_⟩;obtain⟨h1,h2,h3⟩:=hc j x hx;have hblk:=f.only.block g g1 (show ¬Und z (newO o w [9] g) by rw [newO_new (by omega)];exact ap9);exact⟨(World.cell?_of_block (w:=w0) hblk).trans h1,(World.cell?_of_block (w:=w0) hblk).trans h2,(World.cell?_of_block (w:=w0) hblk).trans h3⟩
theorem vwZero(a bt:Nat)(ad n:Int)(w:World){o:Nat→Tag}{z tt:Tag}{B:List UInt8}{m:Nat}{tb:TbS}{T:List (Int×Int)}(ha:ArAt w o z a B m)(hm:m≤900000)(ht:TbAt w o tt bt tb)(hp:VwPre tb B ad n T)(hnd:(locs T).Nodup)(h9:¬z <+: [9]) :
  Calls Tryz.prog 105 #[.pointer (some ⟨a,0,none⟩),.pointer (some ⟨bt,0,none⟩),.int .i64 ad,.int .i64 n] w fun e w'=>e=.returned (.int .i64 0)∧∃o' B',ArAt w' o' z a B' (m+8192)∧WrI B T (fun _=>0) T.length B'∧Fr (Und z) w o w' o':=by
 have hTl:T.length≤8192:=by have:=hp.pt.len;have:=hp.n8;omega
 have hdb:=dones_bound (T:=T) (fun x hx=>by have:=hp.pt.sp x hx;omega) hp.pt.sum;have hn8:=hp.n8;have fa:Fr (fun _=>False) w o (w.alloc (.cells #[.pointer (some ⟨a,0,none⟩)] 80)) o:=Fr.alloc' _;have hpc:=HD (vwPieces a bt ad n _ (ha.fr fa off_no) (ht.fr fa off_no) hp);have hka:(w.alloc (.cells #[.pointer (some ⟨a,0,none⟩)] 80)).heap[w.heap.size]? = some (.cells #[.pointer (some ⟨a,0,none⟩)] 80 (0,0)):=heap_alloc_new w _;have hk0:(w.alloc (.cells #[.pointer (some ⟨a,0,none⟩)] 80)).cell? ⟨w.heap.size,0,none⟩=some (.pointer (some ⟨a,0,none⟩)):=cell_of_row _ w.heap.size 0 _ _ _ hka;have hea:=HD (show ∀v w0,Spn w0 (w.alloc (.cells #[.pointer (some ⟨a,0,none⟩)] 80)).heap.size v T→Below (w.alloc (.cells #[.pointer (some ⟨a,0,none⟩)] 80)).heap.size (w.alloc (.cells #[.pointer (some ⟨a,0,none⟩)] 80)) w0 →
   Calls Tryz.prog 155 #[v,.func (.func 156) #[] #[.pointer (some ⟨w.heap.size,0,none⟩)]] w0 (fun e w'=>e=.returned (.tuple #[])∧∃o' B',ArAt w' o' z a B' (m+8192)∧WrI B T (fun _=>0) T.length B'∧Fr (Und z) w o w' o') from fun v w0 hs hb=>by
  obtain⟨p,c,rfl,_⟩:=spn_cell hs;have hbw:Below w.heap.size w w0:=(Below.refl _ _).alloc (Nat.le_refl _) _ |>.trans (hb.mono (by simp))
  have ff:Fr (fun _=>False) w o w0 (newO o w [9]):=Fr.below' hbw [9];obtain⟨g,hg1,hg2⟩:=vw_each (o:=o) (z:=z) h9 hbw hs (by simp);have hkw:∀wx o1,Fr (Und z) w0 (newO o w [9]) wx o1→wx.cell? ⟨w.heap.size,0,none⟩=some (.pointer (some ⟨a,0,none⟩)):=fun wx o1 f=>by
   have h1:w0.heap[w.heap.size]? = some (.cells #[.pointer (some ⟨a,0,none⟩)] 80 (0,0)):=(hb.block _ (by simp)).trans hka;have h2:=f.only.block w.heap.size (Array.getElem?_eq_some_iff.1 h1).1 (show ¬Und z (newO o w [9] w.heap.size) by rw [newO_new (Nat.le_refl _)];exact h9);exact cell_of_row _ w.heap.size 0 _ _ _ (h2.trans h1)
  refine(each_any 156 (enters_of Tryz.func156 (by kernel_rfl) rfl) #[.pointer (some ⟨w.heap.size,0,none⟩)] g c p T (fun i wx=>∃o1 B1,ArAt wx o1 z a B1 (m+i)∧WrI B T (fun _=>0) i B1∧Fr (Und z) w0 (newO o w [9]) wx o1) w0 hg1 (by omega) (fun i _=>by have:=hdb i;omega) (fun i w1 ⟨o1,B1,_,_,f⟩=>hg2 w1 o1 f) (fun i w1 x hx ⟨o1,B1,q1,q2,f⟩=>?_) ⟨newO o w [9],B,ha.fr ff off_no,WrI.zero _ _ _,Fr.refl _ _ _⟩).mono ?_
  ·have hxs:=hp.pt.sp x (List.mem_of_getElem? hx)
   have hi:=(List.getElem?_eq_some_iff.1 hx).1;have hE:hasE B1.length x.1 x.2=0:=by rw [q2.len];exact if_pos ⟨by omega,by omega,by omega,by omega⟩
   refine(vwZero1 a w.heap.size x (dones T i) w1 q1 (by omega) (hkw w1 o1 f) hE).mono ?_;rintro e w2 ⟨rfl,o2,r1,r2⟩;refine⟨rfl,o2,_,r1,q2.step hx ⟨by omega,by omega⟩ hnd (zrB_len _ _ _) (fun p=>?_),f.trans r2⟩;rw [byt_zr hE]
  ·rintro e w' ⟨rfl,o1,B1,r1,r2,r3⟩
   exact⟨rfl,o1,B1,r1.mono (by omega),r2,(ff.mono fun y q=>q.elim).trans r3⟩)
 clear ha ht hp hdb hka fa;go_enter Tryz.func105,Tryz.ntmps105
 go_wp2_with fail;refine hpc.out.mono ?_;rintro e w0 ⟨v,rfl,hs,hb⟩;have he:=HD (hea.out v w0 hs hb);obtain⟨p,c,rfl,_⟩:=spn_cell hs;clear hs hb hea hpc;go_wp2_with fail;refine he.out.mono ?_;rintro e w' ⟨rfl,r⟩;replace r:=HD r;clear he;go_wp2_with fail;go_ret
 exact⟨rfl,r.out⟩
end
section
open Go.RowKit
theorem vwWrite1(a k0 k1:Nat)(x:Int×Int)(d:Int)(s:ByteArray)(w:World){o:Nat→Tag}{z:Tag}{B:List UInt8}{m:Nat}(ha:ArAt w o z a B m)(hm:m≤1000000)(hk:w.cell? ⟨k0,0,none⟩=some (.pointer (some ⟨a,0,none⟩)))(hk1:w.cell? ⟨k1,0,none⟩=some (.string s))
  (z0:¬Und z (o k0)) (z1:¬Und z (o k1)) (hx:hasE B.length x.1 x.2=0) (hd:0≤d∧d+x.2≤s.size) (hs:s.size≤1000000) (h9:¬z <+: [9]) :
  Calls Tryz.prog 160 #[spanV x,.int .i64 d,.pointer (some ⟨k0,0,none⟩),.pointer (some ⟨k1,0,none⟩)] w fun e w'=>e=.returned (.tuple #[])∧∃o',ArAt w' o' z a (wrB B x.1 (s.extract d.toNat (d+x.2).toNat)) (m+1)∧Fr (Und z) w o w' o':=by
 obtain⟨x1,x2⟩:=x;simp only at hx hd;have hx2:=has_iff.1 hx;have fa:Fr (fun _=>False) w o (w.alloc (.cells #[.int .i64 x1,.int .i64 x2,.bool false] 217)) (setO o w.heap.size [9]):=Fr.alloc _ _;have hka:=keep_alloc (o:=.cells #[.int .i64 x1,.int .i64 x2,.bool false] 217) hk;have hka1:=keep_alloc (o:=.cells #[.int .i64 x1,.int .i64 x2,.bool false] 217) hk1;have hblk:(w.alloc (.cells #[.int .i64 x1,.int .i64 x2,.bool false] 217)).heap[w.heap.size]? = some (.cells #[.int .i64 x1,.int .i64 x2,.bool false] 217 (0,0)):=heap_alloc_new w _;have hcs:(w.alloc (.cells #[.int .i64 x1,.int .i64 x2,.bool false] 217)).drew.cell? ⟨k0,0,none⟩=some (.pointer (some ⟨a,0,none⟩))∧(w.alloc (.cells #[.int .i64 x1,.int .i64 x2,.bool false] 217)).drew.cell? ⟨k1,0,none⟩=some (.string s)∧(w.alloc (.cells #[.int .i64 x1,.int .i64 x2,.bool false] 217)).drew.cell? ⟨w.heap.size,0,none⟩=some (.int .i64 x1)∧(w.alloc (.cells #[.int .i64 x1,.int .i64 x2,.bool false] 217)).drew.cell? ⟨w.heap.size,1,none⟩=some (.int .i64 x2) :=
  ⟨hka,hka1,cell_of_row _ w.heap.size 0 _ _ _ hblk,cell_of_row _ w.heap.size 1 _ _ _ hblk⟩
 have hsz:(s.extract d.toNat (d+x2).toNat).size=x2.toNat:=by rw [ByteArray.size_extract];omega
 have hz:=arWrite a x1 (s.extract d.toNat (d+x2).toNat) _ ((ha.fr fa off_no).fr (Fr.drew (S:=fun _=>False)) off_no) (by omega) (by unfold maxLen;omega);rw [hsz,show ((x2.toNat:Nat):Int)=x2 by omega,hx] at hz;have hl0:=block_lt hk;have hl1:=block_lt hk1;simp only at hl0 hl1;have hzz:=HD (hz.mono (R':=fun e w2=>e=.returned (.int .i64 0)∧ArAt w2 _ z a _ (m+1)∧Fr (Und z) w o w2 _∧(w2.cell? ⟨k0,0,none⟩=some (.pointer (some ⟨a,0,none⟩))∧w2.cell? ⟨k1,0,none⟩=some (.string s)∧w2.cell? ⟨w.heap.size,0,none⟩=some (.int .i64 x1)∧w2.cell? ⟨w.heap.size,1,none⟩=some (.int .i64 x2))) (by
  rintro e w2 ⟨rfl,q,f⟩;refine⟨rfl,q,(fa.mono (S':=Und z) fun y q=>q.elim).trans (Fr.drew.trans f),?_⟩;have hkeep:∀k,k<(w.alloc (.cells #[.int .i64 x1,.int .i64 x2,.bool false] 217)).heap.size→¬Und z (setO o w.heap.size [9] k)→∀i v,(w.alloc (.cells #[.int .i64 x1,.int .i64 x2,.bool false] 217)).drew.cell? ⟨k,i,none⟩=some v→w2.cell? ⟨k,i,none⟩=some v:=fun k hk hn i v hv=>(World.cell?_of_block (f.only.block k hk hn)).trans hv
  exact⟨hkeep k0 (by simp;omega) (by rw [setO_other (by omega)];exact z0) _ _ hcs.1,hkeep k1 (by simp;omega) (by rw [setO_other (by omega)];exact z1) _ _ hcs.2.1,hkeep _ (by simp) (by rw [setO_same];exact h9) _ _ hcs.2.2.1,hkeep _ (by simp) (by rw [setO_same];exact h9) _ _ hcs.2.2.2⟩))
 replace hz:=hzz;have u1:=IntWalk.i64_in (d+x2) (by omega);have b1:0≤d∧d≤d+x2∧d+x2≤(s.size:Int):=by omega
 obtain⟨b2,b3,b4⟩:=b1;clear ha fa hzz hsz hblk hx;unfold spanV;go_enter Tryz.func160,Tryz.ntmps160
 go_wp2_with fail;refine wp_region_noPanic ?_;refine wp_region_held_drew (S:=(fun W=>W.cell? ⟨k0,0,none⟩=some (.pointer (some ⟨a,0,none⟩))∧W.cell? ⟨k1,0,none⟩=some (.string s)∧W.cell? ⟨w.heap.size,0,none⟩=some (.int .i64 x1)∧W.cell? ⟨w.heap.size,1,none⟩=some (.int .i64 x2))) (by kernel_rfl) ?_ (fun hHeld=>?_)
 ·(first|exact hcs|exact hcs2)
 refine tkH 0 (h:=?_);refine tkH 1 (h:=?_);refine tkH 2 (h:=?_);refine tkH 3 (h:=?_);refine tkH 4 (h:=?_);refine tkH 5 (h:=?_);refine tkH 6 (h:=?_);refine tkH 7 (h:=?_);refine tkH 8 (h:=?_);refine tkH 9 (h:=?_);refine onH 10 (h:=fun K hK=>?_);go_simp;refine hz.out.mono ?_;rintro e w2 ⟨rfl,q,f,hcs2⟩;replace q:=HD q;replace f:=HD f;go_wp2_with fail;refine hK.out _ _ ?_ (fun hHeld=>?_)
 ·(first|exact hcs|exact hcs2)
 clear hK;refine nmH (h:=?_);refine wpAnyH_done (by kernel_rfl) ?_ _;refine NoPanic.normal ?_;exact bodyPost_end (results_none (by kernel_rfl) _ _ _) rfl ⟨rfl,_,q.out,f.out⟩
end
section
open Go.RowKit
theorem toNat_ext(s:ByteArray)(d x:Nat)(k:Nat)(h:k<x)(hd:d+x≤s.size):(s.extract d (d+x)).data.toList.getD k 0=s.data.toList.getD (d+k) 0:=by
 have e:(s.extract d (d+x)).data=s.data.extract d (d+x):=ByteArray.data_extract;rw [e];have hs:s.data.size=s.size:=rfl;simp only [List.getD_eq_getElem?_getD]
 congr 1
 simp only [Array.getElem?_toList];rw [Array.getElem?_extract];rw [if_pos (by omega)]
theorem vwWrite(a bt:Nat)(ad:Int)(s:ByteArray)(w:World){o:Nat→Tag}{z tt:Tag}{B:List UInt8}{m:Nat}{tb:TbS}{T:List (Int×Int)}(ha:ArAt w o z a B m)(hm:m≤900000)(ht:TbAt w o tt bt tb)(hp:VwPre tb B ad s.size T)(hnd:(locs T).Nodup)(h9:¬z <+: [9]) :
  Calls Tryz.prog 110 #[.pointer (some ⟨a,0,none⟩),.pointer (some ⟨bt,0,none⟩),.int .i64 ad,.string s] w fun e w'=>e=.returned (.int .i64 0)∧∃o' B',ArAt w' o' z a B' (m+8192)∧WrI B T (fun k=>s.data.toList.getD k 0) T.length B'∧Fr (Und z) w o w' o':=by
 have hTl:T.length≤8192:=by have:=hp.pt.len;have:=hp.n8;omega
 have hdb:=dones_bound (T:=T) (fun x hx=>by have:=hp.pt.sp x hx;omega) hp.pt.sum;have hn8:=hp.n8;generalize hW2:(w.alloc (.cells #[.pointer (some ⟨a,0,none⟩)] 80)).alloc (.cells #[.string s] 9)=W2 at *;have fa:Fr (fun _=>False) w o W2 o:=by rw [←hW2];exact(Fr.alloc' _).trans (Fr.alloc' _)
 have hpc:=HD (vwPieces a bt ad s.size W2 (ha.fr fa off_no) (ht.fr fa off_no) hp);have hka:W2.heap[w.heap.size]? = some (.cells #[.pointer (some ⟨a,0,none⟩)] 80 (0,0)):=by
  rw [←hW2,heap_alloc_old _ _ (by simp)];exact heap_alloc_new w _
 have hkb:W2.heap[w.heap.size+1]? = some (.cells #[.string s] 9 (0,0)):=by
  rw [←hW2];have:=heap_alloc_new (w.alloc (.cells #[.pointer (some ⟨a,0,none⟩)] 80)) (.cells #[.string s] 9)
  rwa [World.size_alloc] at this
 have hsz2:W2.heap.size=w.heap.size+2:=by rw [←hW2];simp
 have hbel:Below w.heap.size w W2:=by rw [←hW2];exact((Below.refl _ _).alloc (Nat.le_refl _) _).alloc (by simp) _
 have hk0:W2.cell? ⟨w.heap.size,0,none⟩=some (.pointer (some ⟨a,0,none⟩)):=cell_of_row _ w.heap.size 0 _ _ _ hka;have hk1:W2.cell? ⟨w.heap.size+1,0,none⟩=some (.string s):=cell_of_row _ (w.heap.size+1) 0 _ _ _ hkb;have hea:=HD (show ∀v w0,Spn w0 W2.heap.size v T→Below W2.heap.size W2 w0 →
   Calls Tryz.prog 155 #[v,.func (.func 160) #[] #[.pointer (some ⟨w.heap.size,0,none⟩),.pointer (some ⟨w.heap.size+1,0,none⟩)]] w0 (fun e w'=>e=.returned (.tuple #[])∧∃o' B',ArAt w' o' z a B' (m+8192)∧WrI B T (fun k=>s.data.toList.getD k 0) T.length B'∧Fr (Und z) w o w' o') from fun v w0 hs hb=>by
  obtain⟨p,c,rfl,_⟩:=spn_cell hs;have hbw:Below w.heap.size w w0:=hbel.trans (hb.mono (by omega));have ff:Fr (fun _=>False) w o w0 (newO o w [9]):=Fr.below' hbw [9];obtain⟨g,hg1,hg2⟩:=vw_each (o:=o) (z:=z) h9 hbw hs (by omega);have hkw:∀wx o1,Fr (Und z) w0 (newO o w [9]) wx o1→(wx.cell? ⟨w.heap.size,0,none⟩=some (.pointer (some ⟨a,0,none⟩))∧wx.cell? ⟨w.heap.size+1,0,none⟩=some (.string s))∧¬Und z (o1 w.heap.size)∧¬Und z (o1 (w.heap.size+1)):=fun wx o1 f=>by
   have h1:w0.heap[w.heap.size]? = some (.cells #[.pointer (some ⟨a,0,none⟩)] 80 (0,0)):=(hb.block _ (by omega)).trans hka;have h2:=f.only.block w.heap.size (Array.getElem?_eq_some_iff.1 h1).1 (show ¬Und z (newO o w [9] w.heap.size) by rw [newO_new (Nat.le_refl _)];exact h9);have h3:w0.heap[w.heap.size+1]? = some (.cells #[.string s] 9 (0,0)):=(hb.block _ (by omega)).trans hkb;have h4:=f.only.block (w.heap.size+1) (Array.getElem?_eq_some_iff.1 h3).1 (show ¬Und z (newO o w [9] (w.heap.size+1)) by rw [newO_new (by omega)];exact h9);refine⟨⟨cell_of_row _ w.heap.size 0 _ _ _ (h2.trans h1),cell_of_row _ (w.heap.size+1) 0 _ _ _ (h4.trans h3)⟩,?_,?_⟩
   ·rw [f.ext _ (Array.getElem?_eq_some_iff.1 h1).1,newO_new (Nat.le_refl _)];exact h9
   ·rw [f.ext _ (Array.getElem?_eq_some_iff.1 h3).1,newO_new (by omega)];exact h9
  refine(each_any 160 (enters_of Tryz.func160 (by kernel_rfl) rfl) #[.pointer (some ⟨w.heap.size,0,none⟩),.pointer (some ⟨w.heap.size+1,0,none⟩)] g c p T (fun i wx=>∃o1 B1,ArAt wx o1 z a B1 (m+i)∧WrI B T (fun k=>s.data.toList.getD k 0) i B1∧Fr (Und z) w0 (newO o w [9]) wx o1) w0 hg1 (by omega) (fun i _=>by have:=hdb i;omega) (fun i w1 ⟨o1,B1,_,_,f⟩=>hg2 w1 o1 f) (fun i w1 x hx ⟨o1,B1,q1,q2,f⟩=>?_) ⟨newO o w [9],B,ha.fr ff off_no,WrI.zero _ _ _,Fr.refl _ _ _⟩).mono ?_
  ·have hxs:=hp.pt.sp x (List.mem_of_getElem? hx)
   have hi:=(List.getElem?_eq_some_iff.1 hx).1;have hE:hasE B1.length x.1 x.2=0:=by rw [q2.len];exact if_pos ⟨by omega,by omega,by omega,by omega⟩
   obtain⟨⟨k1,k2⟩,k3,k4⟩:=hkw w1 o1 f;have hds:=dones_succ hx;have hd0:=hdb i;have hd1:=hdb (i+1);have hdl:=dones_len (T:=T) (fun x hx=>by have:=hp.pt.sp x hx;omega) i;refine(vwWrite1 a w.heap.size (w.heap.size+1) x (dones T i) s w1 q1 (by omega) k1 k2 k3 k4 hE (by omega) (by omega) h9).mono ?_;rintro e w2 ⟨rfl,o2,r1,r2⟩;refine⟨rfl,o2,_,r1,q2.step hx ⟨by omega,by omega⟩ hnd (wrB_len _ _ _) (fun p=>?_),f.trans r2⟩;have hsz:(s.extract (dones T i).toNat (dones T i+x.2).toNat).size=x.2.toNat:=by rw [ByteArray.size_extract];omega
   have hE2:hasE B1.length x.1 (s.extract (dones T i).toNat (dones T i+x.2).toNat).size=0:=by rw [hsz,show ((x.2.toNat:Nat):Int)=x.2 by omega];exact hE
   rw [byt_wr hE2,hsz,show ((x.2.toNat:Nat):Int)=x.2 by omega];by_cases cc:x.1≤p∧(p:Int)<x.1+x.2
   ·rw [if_pos cc,if_pos cc]
    have:=toNat_ext s (dones T i).toNat x.2.toNat (p-x.1.toNat) (by omega) (by omega);rw [show (dones T i).toNat+x.2.toNat=(dones T i+x.2).toNat by omega] at this;rw [this]
    congr 1
    omega
   ·rw [if_neg cc,if_neg cc]
  ·rintro e w' ⟨rfl,o1,B1,r1,r2,r3⟩
   exact⟨rfl,o1,B1,r1.mono (by omega),r2,(ff.mono fun y q=>q.elim).trans r3⟩)
 clear ha ht hp hdb hka hkb hsz2 hbel fa;subst hW2;go_enter Tryz.func110,Tryz.ntmps110
 go_wp2_with fail;refine hpc.out.mono ?_;rintro e w0 ⟨v,rfl,hs,hb⟩;have he:=HD (hea.out v w0 hs hb);obtain⟨p,c,rfl,_⟩:=spn_cell hs;clear hs hb hea hpc;go_wp2_with fail;refine he.out.mono ?_;rintro e w' ⟨rfl,r⟩;replace r:=HD r;clear he;go_wp2_with fail;go_ret
 exact⟨rfl,r.out⟩
end
section
open Go.RowKit
def ArG(w:World)(o:Nat→Tag)(t:Tag)(b g:Nat)(B:List UInt8)(m:Nat):Prop:=∃k v xs,k≤m∧ArC w o t b g B k v xs
theorem ArG.at_{w:World}{o:Nat→Tag}{t:Tag}{b g:Nat}{B:List UInt8}{m:Nat}(h:ArG w o t b g B m):ArAt w o t b B m:=by
 obtain⟨k,v,xs,h1,h2⟩:=h;exact⟨g,k,v,xs,h1,h2⟩
theorem ArG.fr{S:Tag→Prop}{w w':World}{o o':Nat→Tag}{t:Tag}{b g:Nat}{B:List UInt8}{m:Nat}(h:ArG w o t b g B m)(f:Fr S w o w' o')(hS:¬S t):ArG w' o' t b g B m:=by
 obtain⟨k,v,xs,h1,h2⟩:=h;exact⟨k,v,xs,h1,h2.fr f hS⟩
theorem arReadG(b g:Nat)(i k:Nat)(w:World){o:Nat→Tag}{t:Tag}{B:List UInt8}{m:Nat}(h:ArG w o t b g B m)(hm:m≤1000000000)(hf:i+k≤B.length) :
  Calls Tryz.prog 68 #[.pointer (some ⟨b,0,none⟩),.int .i64 i,.int .i64 k] w fun e w'=>e=.returned (.tuple #[.string ⟨(sub B i k).toArray⟩,.int .i64 0])∧ArG w' (newO o w t) t b g B (m+1)∧Fr (Und t) w o w' (newO o w t):=by
 have hh:=HD (arHas b i k w h.at_);have e:hasE B.length (i:Int) (k:Int)=0:=if_pos ⟨by omega,by omega,by omega,by omega⟩;rw [e] at hh;obtain⟨k0,v0,xs,hk,hc⟩:=h;have ht:=HD (arTouch b g i k false w hc (by omega) (by omega));clear hc e;obtain⟨l,hl0⟩:∃l,l=sub B i k:=⟨_,rfl⟩
 rw [←hl0];replace hl0:=HD hl0;go_enter Tryz.func68,Tryz.ntmps68
 go_wp2_with fail;refine SM hh.out ?_;go_wp2_with fail;refine ht.out.mono ?_;rintro e w1 ⟨ad,v',xs',k1,rfl,had,hk1,hC,hF⟩;have hl:=sub_len hf;have hconv:=run_convert_bytes_back (P:=Tryz.prog) w1 57 9 5 ad (B.length-i) (sub B i k) Tryz.underlying57 Tryz.underlying5 Tryz.underlying9 (fun j hj=>by
  rw [hl] at hj;rw [had (by omega)];have hcell:=hC.bb.cell (i+j);have hg:=sub_get (B:=B) (i:=i) hj;rw [List.getElem?_eq_getElem (by rw [hl];exact hj)] at hg;have:((arB B).toArray)[i+j]? = some (.int .u8 ((sub B i k)[j].toNat:Int)):=by unfold arB;simp [←hg]
  rw [this] at hcell;rw [add_pl];exact hcell)
 rw [hl,←hl0.out] at hconv;replace hC:=HD hC;replace had:=HD had;replace hF:=HD hF;clear hl;go_wp2_with fail;go_ret2
 exact⟨rfl,⟨k1,v',xs',by omega,hC.out⟩,hF.out⟩
def BdAt(w:World)(o:Nat→Tag)(b0:Nat)(l:List UInt8):Prop :=
 ∃p v,(p=.pointer none∨p=.pointer (some ⟨b0,0,none⟩))∧w.heap[b0]? = some (.cells #[p,v] 221 (0,0))∧w.ownsRowF b0 5 1 v (Lib.byteCells l).length (Lib.byteCells l)∧v.ownBlock≠some b0∧o b0=[8]∧∀g,v.ownBlock=some g→o g=[8]
theorem BdAt.isB{w:World}{o:Nat→Tag}{b0:Nat}{l:List UInt8}(h:BdAt w o b0 l):Lib.IsBuilderF 221 5 b0 b0 (Lib.byteCells l) w:=by
 obtain⟨p,v,h1,h2,h3,h4,_⟩:=h;rcases h1 with rfl|rfl
 ·exact .inl ⟨Nat.le_refl _,v,h2,h3,h4⟩
 ·exact .inr ⟨Nat.le_refl _,v,h2,h3,h4⟩
theorem BdAt.fr{S:Tag→Prop}{w w':World}{o o':Nat→Tag}{b0:Nat}{l:List UInt8}(h:BdAt w o b0 l)(f:Fr S w o w' o')(hS:¬S [8]):BdAt w' o' b0 l:=by
 obtain⟨p,v,h1,h2,h3,h4,h5,h6⟩:=h;have hb:=(Array.getElem?_eq_some_iff.1 h2).1;refine⟨p,v,h1,(f.only.block b0 hb (by rw [h5];exact hS)).trans h2,?_,h4,(f.ext b0 hb).trans h5,fun g hg=>(f.ext g (h3.lt g hg).2).trans (h6 g hg)⟩;refine⟨h3.1,?_⟩;rcases h3.2 with q|⟨g,cap,cur,fz,rfl,hbg,hgg,rest⟩
 ·exact .inl q
 ·exact .inr ⟨g,cap,cur,fz,rfl,hbg,(f.only.block g (Array.getElem?_eq_some_iff.1 hgg).1 (by rw [h6 g rfl];exact hS)).trans hgg,rest⟩
theorem ArG.others{w w':World}{o:Nat→Tag}{t:Tag}{b g b0:Nat}{B:List UInt8}{m:Nat}(h:ArG w o t b g B m)(hb:b<b0)(hg:g<b0)(hbl:Below b0 w w')(hok:Lib.OthersKept 5 (some b0) w w')(h0:∃c,w.heap[b0]? = some (.cells c 221 (0,0))){o':Nat→Tag}
  (ho:∀k,k<w.heap.size→(∀c fz,w'.heap[k]?≠some (.cells c 5 fz))∨k<b0→k≠b0→o' k=o k):ArG w' o' t b g B m:=by
 obtain⟨k,v,xs,hk,hc⟩:=h;have hbs:=hc.sb.lt;have hgs:=hc.bb.lt;have htr:∀q,v.ownBlock=some q→∃cur,w.heap[q]? = some (.cells cur 217 (0,0))∧w'.heap[q]? = some (.cells cur 217 (0,0))∧q≠b0:=fun q hq=>by
  rcases hc.tr.2 with ⟨rfl,_⟩|⟨g',cap,cur,rfl,_,hgg,_⟩
  ·simp [Value.ownBlock] at hq
  ·simp [Value.ownBlock] at hq
   subst hq;have hne:g'≠b0:=by
    rintro rfl;obtain⟨c,hc0⟩:=h0;rw [hgg] at hc0;injection hc0 with hc0
    injection hc0 with _ hc0
    exact absurd hc0 (by decide)
   exact⟨cur,hgg,hok g' _ hgg (by simpa using hne) (fun c fz e=>by injection e with _ e;exact absurd e (by decide)),hne⟩
 refine⟨k,v,xs,hk,⟨hc.sz,⟨?_,(hbl.block b hb).trans hc.sb.2⟩,⟨?_,(hbl.block g hg).trans hc.bb.2⟩,hc.ne,?_,fun q hq=>?_,hc.one⟩⟩
 ·rw [ho b hbs (.inr hb) (by omega)];exact hc.sb.1
 ·rw [ho g hgs (.inr hg) (by omega)];exact hc.bb.1
 ·refine⟨hc.tr.1,?_⟩
  rcases hc.tr.2 with q|⟨g',cap,cur,rfl,hbb,hgg,rest⟩
  ·exact .inl q
  ·obtain⟨cur',e1,e2,_⟩:=htr g' rfl
   rw [hgg] at e1;have hcc:cur=cur':=by injection (Option.some.inj e1)
   subst hcc;exact .inr ⟨g',cap,cur,rfl,hbb,e2,rest⟩
 ·obtain⟨cur',e1,e2,e3⟩:=htr q hq
  have:=hc.tt q hq;refine⟨?_,this.2⟩;rw [ho q (Array.getElem?_eq_some_iff.1 e1).1 (.inl (fun c fz e=>by
   rw [e2] at e;injection e with e
   injection e with _ e
   exact absurd e (by decide))) e3]
  exact this.1
end
section
open Go.RowKit
structure RdI(w:World)(o:Nat→Tag)(z:Tag)(a g:Nat)(B:List UInt8)(m:Nat)(w0:World)(b0:Nat)(l:List UInt8)(wx:World)(o1:Nat→Tag):Prop where
 ar:ArG wx o1 z a g B m
 bd:BdAt wx o1 b0 l
 fr:Fr (Und z) w o wx o1
 mid:∀k,w.heap.size≤k→k<b0→wx.heap[k]? = w0.heap[k]?∧¬Und z (o1 k)
 lt:a<w.heap.size∧g<w.heap.size∧w.heap.size≤b0
theorem bdWrite{w:World}{o:Nat→Tag}{z:Tag}{a g:Nat}{B:List UInt8}{m:Nat}{w0:World}{b0:Nat}{l:List UInt8}{w2:World}{o2:Nat→Tag}(h:RdI w o z a g B m w0 b0 l w2 o2)(p:List UInt8)(hl:l.length+p.length≤1000000) :
  Calls Tryz.prog 158 #[.pointer (some ⟨b0,0,none⟩),.string ⟨p.toArray⟩] w2 fun e w3=>e=.returned (.tuple #[.int .i64 p.length,.nilIface])∧∃o3,RdI w o z a g B m w0 b0 (l++p) w3 o3:=by
 have hsz:(⟨p.toArray⟩:ByteArray).size=p.length:=by show p.toArray.size=_;simp
 have hb0:b0<w2.heap.size:=by
  obtain⟨_,_,_,h2,_⟩:=h.bd;exact(Array.getElem?_eq_some_iff.1 h2).1
 have hc:=Any.Builder_WriteString_k lays166 extra158 b0 b0 (Lib.byteCells l) ⟨p.toArray⟩ w2 h.bd.isB (by rw [Lib.byteCells_length,hsz];omega) (by omega);change Calls Tryz.prog 158 _ w2 _ at hc;refine hc.mono ?_;rintro e w3 ⟨rfl,hB,hbel,hok⟩;rw [hsz];refine⟨rfl,?_⟩;obtain⟨_,v',hb',hown',hne'⟩:=hB;have hcells:Lib.byteCells l++Lib.strCells ⟨p.toArray⟩=Lib.byteCells (l++p):=by
  rw [Lib.strCells_eq];unfold Lib.byteCells;simp
 rw [hcells] at hown';have hrow:∀k,v'.ownBlock=some k→b0≤k∧∃c fz,w3.heap[k]? = some (.cells c 5 fz):=fun k hk=>by
  refine⟨(hown'.lt k hk).1,?_⟩;rcases hown'.2 with ⟨rfl,_⟩|⟨g',cap,cur,fz,rfl,_,hgg,_⟩
  ·simp [Value.ownBlock] at hk
  ·simp [Value.ownBlock] at hk
   subst hk;exact⟨cur,fz,hgg⟩
 have hlt:=h.lt;let o3:Nat→Tag:=fun k=>if k=b0∨v'.ownBlock=some k then [8] else if k<w2.heap.size then o2 k else [8]
 have o3old:∀k,k<b0→o3 k=o2 k:=fun k hk=>by
  show (if _ then _ else _)=_;rw [if_neg,if_pos (by omega)];rintro (q|q)
  ·omega
  ·have:=(hrow k q).1;omega
 refine⟨o3,?_,?_,⟨?_,fun k hk=>?_⟩,fun k k0 k1=>?_,hlt⟩
 ·refine h.ar.others (by omega) (by omega) hbel hok ?_ (fun k hk q hne=>?_)
  ·obtain⟨p',v,_,h2,_⟩:=h.bd
   exact⟨_,h2⟩
  ·show (if _ then _ else _)=_
   rw [if_neg,if_pos hk];rintro (q2|q2)
   ·exact hne q2
   ·obtain⟨r1,c,fz,r2⟩:=hrow k q2
    rcases q with q|q
    ·exact q c fz r2
    ·omega
 ·refine⟨_,v',.inr rfl,hb',?_,hne',?_,fun k hk=>?_⟩
  ·exact hown'
  ·show (if _ then _ else _)=_
   rw [if_pos (.inl rfl)]
  ·show (if _ then _ else _)=_
   rw [if_pos (.inr hk)]
 ·exact⟨hbel.os.trans h.fr.only.os,hbel.tape.trans h.fr.only.tape,hbel.output.trans h.fr.only.output,Nat.le_trans h.fr.only.size hbel.size,fun k hk hn=>(hbel.block k (by omega)).trans (h.fr.only.block k hk hn)⟩
 ·rw [o3old k (by omega)];exact h.fr.ext k hk
 ·obtain⟨r1,r2⟩:=h.mid k k0 k1
  exact⟨(hbel.block k k1).trans r1,by rw [o3old k k1];exact r2⟩
theorem vwRead1(a k0 b0:Nat)(x:Int×Int)(d:Int)(w1:World){w:World}{o:Nat→Tag}{z:Tag}{g:Nat}{B:List UInt8}{m:Nat}{w0:World}{l:List UInt8}{o1:Nat→Tag}(h:RdI w o z a g B m w0 b0 l w1 o1)(hm:m≤1000000)(hk:w1.cell? ⟨k0,0,none⟩=some (.pointer (some ⟨a,0,none⟩)))
  (hx:0≤x.1∧0≤x.2∧x.1+x.2≤B.length∧x.2≤512) (hl:l.length≤100000) (h9:¬z <+: [9]) (h8:¬Und z [8]) :
  Calls Tryz.prog 157 #[spanV x,.int .i64 d,.pointer (some ⟨k0,0,none⟩),.pointer (some ⟨b0,0,none⟩)] w1 fun e w'=>e=.returned (.tuple #[])∧∃o',RdI w o z a g B (m+1) w0 b0 (l++sub B x.1.toNat x.2.toNat) w' o':=by
 obtain⟨x1,x2⟩:=x;simp only at hx;obtain⟨i,rfl⟩:∃i:Nat,x1=i:=⟨x1.toNat,by omega⟩
 obtain⟨n,rfl⟩:∃n:Nat,x2=n:=⟨x2.toNat,by omega⟩
 simp only [Int.toNat_natCast];have fa:Fr (fun _=>False) w1 o1 (w1.alloc (.cells #[.int .i64 i,.int .i64 n,.bool false] 217)) (setO o1 w1.heap.size [9]):=Fr.alloc _ _;have hblk:(w1.alloc (.cells #[.int .i64 i,.int .i64 n,.bool false] 217)).heap[w1.heap.size]? = some (.cells #[.int .i64 i,.int .i64 n,.bool false] 217 (0,0)):=heap_alloc_new w1 _;have hka:=keep_alloc (o:=.cells #[.int .i64 i,.int .i64 n,.bool false] 217) hk;have hb1:b0<w1.heap.size:=by
  obtain⟨_,_,_,h2,_⟩:=h.bd;exact(Array.getElem?_eq_some_iff.1 h2).1
 have hsl:(sub B i n).length=n:=sub_len (by omega);have hrd:=(arReadG a g i n _ (h.ar.fr fa (fun q=>q)) (by omega) (by omega)).mono (R':=fun e w2=>e=.returned (.tuple #[.string ⟨(sub B i n).toArray⟩,.int .i64 0])∧∃o2,RdI w o z a g B (m+1) w0 b0 l w2 o2) (by
  rintro e w2 ⟨rfl,q,f⟩;have f2:Fr (Und z) w1 o1 w2 _:=(fa.mono fun y q=>q.elim).trans f;refine⟨rfl,_,q,h.bd.fr f2 h8,h.fr.trans f2,fun k k0' k1=>?_,h.lt⟩;obtain⟨r1,r2⟩:=h.mid k k0' k1;have hk1:k<w1.heap.size:=by omega
  exact⟨(f2.only.block k hk1 r2).trans r1,by rw [f2.ext k hk1];exact r2⟩)
 have hwr:=HD (fun w2 o2 (q:RdI w o z a g B (m+1) w0 b0 l w2 o2)=>bdWrite q (sub B i n) (by omega));replace hrd:=HD hrd;clear h fa hk hsl hx;unfold spanV;go_enter Tryz.func157,Tryz.ntmps157
 go_wp2_with fail;refine hrd.out.mono ?_;rintro e w2 ⟨rfl,o2,q⟩;have hw2:=HD (hwr.out w2 o2 q);clear hrd hwr q;go_wp2_with fail;refine hw2.out.mono ?_;rintro e w3 ⟨rfl,o3,q⟩;replace q:=HD q;clear hw2;go_wp2_with fail;exact bodyPost_end (results_none (by kernel_rfl) _ _ _) rfl ⟨rfl,o3,q.out⟩
end
end Go.Proofs.YtfliaggjkianpaaGreatDoor
