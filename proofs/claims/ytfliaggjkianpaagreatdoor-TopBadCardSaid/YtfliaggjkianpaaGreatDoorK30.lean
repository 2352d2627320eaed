import Derived.Test.YtfliaggjkianpaaGreatDoorK00
import Derived.Test.YtfliaggjkianpaaGreatDoorK03
import Derived.Test.YtfliaggjkianpaaGreatDoorK29
set_option linter.unusedVariables false
set_option linter.unusedSimpArgs false
set_option maxRecDepth 100000
namespace Go.Proofs.YtfliaggjkianpaaGreatDoor
section
open Go.RowKit Flt
attribute [local irreducible] CpS.rv
section
variable{S:Tag→Prop}{w w' w1:World}{o o' o1:Nat→Tag}{r:Tag}{b:Nat}{x:AdX}{B:List UInt8}{m:Nat}{cm:CmS}{p:PoS}{tbs:Nat→TbS}{s:AdS}
def AdEnd(w:World)(o:Nat→Tag)(r:Tag)(b:Nat)(B:List UInt8)(m:Nat)(s':AdS)(w':World):Prop:=∃o',AdAt w' o' r b B m s'∧Fr (Und r) w o w' o'
theorem AdG.end_(h:AdG w o r b x B m cm p tbs s)(f:Fr (fun _=>False) w o w' o'):AdEnd w o r b B m s w':=⟨o',⟨x,cm,p,tbs,h.fr f off_no⟩,f.mono fun v q=>q.elim⟩
set_option maxHeartbeats 2000000 in
theorem adCreate(i:Nat)(col q:Int)(h:AdG w o r b x B m cm p tbs s)(hr:Root r)(hi:i<8)(hser:1≤s.ser i∧s.ser i≤17592186044416) :
  Calls Tryz.prog 31 #[eP b,.int .i64 i,.int .i64 col,.int .i64 q] w fun e w'=>e=.returned (.int .i64 (s.create i col q).1)∧AdEnd w o r b B m (s.create i col q).2 w':=by
 have hre:=HD (adReady b i w hi);have c1:w.cell? ⟨b,5+i,none⟩=some (tvF s x i):=h.blk.cell' (ad_cell hi);have hidx:0≤(i:Int)∧(i:Int)<8:=by omega
 have hkk:((i:Int)).toNat=i:=by omega
 obtain⟨tq,etv,etn,ets⟩:=tv_form s x i;rw [etv] at c1;have hend0:=HD (h.end_ (Fr.refl (fun _=>False) w o));unfold AdS.create;cases hsi:s.ts i with
 |some t =>
  rw [if_pos (show (some t).isSome=true from rfl)];simp only;obtain rfl:=ets t hsi;clear h hr hi hser etv etn ets hsi;go_enter Tryz.func31,Tryz.ntmps31
  go_wp2_with fail;go_step3
  go_wp2_with fail;refine SM hre.out ?_;go_wp2_with fail;rw [Exit.noGoto_ret];go_ret
  exact⟨rfl,hend0.out⟩
 |none =>
  rw [if_neg (by simp)];obtain rfl:=etn.2 hsi;have hsz:=HD (adSize b col q w h);by_cases hz:s.sizeE col q=0
  ·rw [if_neg (fun k=>k hz)]
   rw [hz] at hsz;have hz2:mayB q=true∧1≤col∧col≤s.C:=by
    unfold AdS.sizeE at hz;by_cases c:mayB q=true∧1≤col∧col≤s.C
    ·exact c
    ·rw [if_neg c] at hz;cases hz
   obtain⟨hq,hc1,hc2⟩:=hz2;obtain⟨k1,k2,k3,k4,k5⟩:=h.ok.c32;obtain⟨k,rfl⟩:∃k:Nat,col=k:=⟨col.toNat,by omega⟩
   have hea:=HD (cmEach x.c w h.cma);rw [h.ok.P,h.ok.C] at hea;have c3:w.cell? ⟨b,3,none⟩=some (eP x.c):=h.blk.cell' (i:=3) rfl;have hmul:k*(s.P/s.C)≤131072:=Nat.le_trans (Nat.mul_le_mul (show k≤32 by omega) k5) (by decide);have u1:=IntWalk.i64_in ((k:Int)*(s.P/s.C:Nat)) (by rw [←Int.natCast_mul];omega);have hfi:=HD (demFits_any q ((k:Int)*(s.P/s.C:Nat)) w.drew);rw [hq,Bool.true_and] at hfi;by_cases hd:(k:Int)*(s.P/s.C:Nat)<demT q
   ·rw [if_pos hd]
    simp only;rw [decide_eq_false (show ¬demT q≤(k:Int)*(s.P/s.C:Nat) by omega)] at hfi;have hendD:=HD (h.end_ (Fr.drew (S:=fun _=>False) (w:=w) (o:=o)));clear h hr hi hser etv etn ets hsi hd hmul hq hc1 hc2 k1 k2 k3 k4 k5 hz hend0;generalize ((s.P/s.C:Nat):Int)=E at *;go_enter Tryz.func31,Tryz.ntmps31
    go_wp2_with fail;go_step3
    go_wp2_with fail;refine SM hre.out ?_;go_wp2_with fail;refine SM hsz.out ?_;go_wp2_with fail;refine SM hea.out ?_;go_wp2_with fail;refine SM hfi.out ?_;go_wp2_with fail;rw [Exit.noGoto_ret];go_ret
    exact⟨rfl,hendD.out⟩
   ·rw [if_neg hd]
    rw [decide_eq_true (show demT q≤(k:Int)*(s.P/s.C:Nat) by omega)] at hfi;have c4:w.drew.cell? ⟨b,4,none⟩=some (eP x.bp):=h.blk.cell' (i:=4) rfl;have hfree:=h.ok.free;have hD:=h.fr (Fr.drew (S:=fun _=>False) (w:=w) (o:=o)) off_no;by_cases hf:(s.free:Int)<k
    ·rw [if_pos hf]
     simp only;have hgr:=HD (poGrant_no x.bp i k w.drew hD.po hi (by omega));have hendD:=HD (h.end_ (Fr.drew (S:=fun _=>False) (w:=w) (o:=o)));clear h hr hi hser etv etn ets hsi hd hmul hq hc1 hc2 k1 k2 k3 k4 k5 hz hend0 hf hfree hD;generalize ((s.P/s.C:Nat):Int)=E at *;go_enter Tryz.func31,Tryz.ntmps31
     go_wp2_with fail;refine wp_scope_jumps 0 (fun a' w'=>w'=w.drew∧∃fv:Nat→Value,a'={tmps:=#[fv 0,fv 1,fv 2,fv 3,fv 4,fv 5,fv 6,fv 7,fv 8,fv 9,.int .i64 9,fv 11,fv 12,fv 13,fv 14,fv 15,fv 16,fv 17,fv 18,fv 19,fv 20,fv 21,fv 22,fv 23,fv 24,fv 25,fv 26,fv 27,fv 28,fv 29,fv 30,fv 31,fv 32,fv 33,fv 34,fv 35,fv 36,fv 37,fv 38,fv 39,fv 40,fv 41,fv 42,fv 43,fv 44,fv 45,fv 46,fv 47,fv 48,fv 49,fv 50,fv 51,fv 52,fv 53,fv 54,fv 55,fv 56,fv 57,fv 58,fv 59,fv 60,fv 61,fv 62,fv 63,fv 64,fv 65,fv 66,fv 67,fv 68,fv 69,fv 70,fv 71,fv 72,fv 73,fv 74,fv 75,fv 76,fv 77],defers:=[]}) (fun _ _=>0) rfl ?_ ?_
     ·go_wp2_with fail
      refine SM hre.out ?_;go_wp2_with fail;refine SM hsz.out ?_;go_wp2_with fail;refine SM hea.out ?_;go_wp2_with fail;refine SM hfi.out ?_;go_wp2_with fail;refine SM hgr.out ?_;go_wp2_with fail;go_step3
      exact⟨rfl,rfl,fun k=>List.getD [_,_,_,_,_,_,_,_,_,_,undef,_,_,_,_,_,_,_,_,_,_,_,_,_,_,_,_,_,_,_,_,_,_,_,_,_,_,_,_,_,_,_,_,_,_,_,_,_,_,_,_,_,_,_,_,_,_,_,_,_,_,_,_,_,_,_,_,_,_,_,_,_,_,_,_,_,_,_] k undef,rfl⟩
     ·rintro a' w2 ⟨rfl,fv,rfl⟩
      go_wp2_with fail;simp only [Exit.jump];go_ret
      exact⟨rfl,hendD.out⟩
    ·rw [if_neg hf]
     simp only;rw [Int.toNat_natCast];have hkc:k≤p.sh.cnt:=by omega
     have hall:=HD (show Calls Tryz.prog 51 #[eP x.bp,.int .i64 i,.int .i64 k] w.drew (fun e w2=>∃A n c,e=.returned (.tuple #[.slice A n c,.int .i64 0])∧(w2.drew.cell? ⟨b,2,none⟩=some (eP x.a)∧w2.drew.cell? ⟨b,3,none⟩=some (eP x.c)∧w2.drew.cell? ⟨b,13+i,none⟩=some (.int .i64 (s.ser i))) ∧
       Calls Tryz.prog 52 #[eP x.a,eP x.c,.int .i64 i,.int .i64 (s.ser i),.int .i64 q,.slice A n c] w2.drew (fun e w3=>∃bt,e=.returned (.tuple #[eP bt,.int .i64 0])∧(w3.cell? ⟨b,2,none⟩=some (eP x.a)∧w3.cell? ⟨b,3,none⟩=some (eP x.c)∧w3.cell? ⟨b,13+i,none⟩=some (.int .i64 (s.ser i))) ∧
        w3.cell? ⟨b,5+i,none⟩=some (.pointer none)∧w3.frozen? ⟨b,5+i,none⟩=false∧AdEnd w o r b B m (s.set i (TnS.new i (s.ser i) q k)) (w3.setCell ⟨b,5+i,none⟩ (eP bt)))) from by
      obtain⟨e1,e2,e3,e4,e5⟩:=h.ok.fresh hi hsi hkc;refine(poGrant x.bp i k w.drew hD.po (not_pre hr.r9) hi hkc (by omega) (by have:=h.ok.wlen hi;omega)).mono ?_;rintro e w2 ⟨v,o2,rfl,r2,p2,f2⟩;obtain⟨A,c,rfl,_⟩:=r2.ints;have fD:Fr (Und (r++[3])) w o w2.drew o2:=((Fr.drew (S:=Und (r++[3])) (w:=w) (o:=o)).trans f2).trans Fr.drew;have b2:=h.blk.fr fD (not_und r 3 []);refine⟨A,_,c,rfl,⟨b2.cell' (i:=2) rfl,b2.cell' (i:=3) rfl,b2.cell' (ad_cellS hi)⟩,?_⟩;have hcm:=h.cma.fr fD (ad_off (p:=[]) (q:=[]) hr (by decide));have har:=h.ar.fr fD (ad_off (p:=[]) (q:=[]) hr (by decide));have htb:=h.tab.fr fD (not_pre hr.r9);refine(tnNew (w:=w2.drew) (o:=o2) (t:=r++[4,i]) (u:=r++[2]) (z:=r++[1]) (win:=(p.sh.takes k).1) (tw:=r++[3]++[2]) i (s.ser i) q (.slice A (p.sh.takes k).1.length c) hcm har (r2.fr (Fr.drew (S:=fun _=>False)) (fun q=>q)).ints e3 e4 (by omega) hser htb (ad_ap3 hr i) (by
       show ¬(r++[4,i]) <+: (r++[3]++[2])
       rw [List.append_assoc];intro q;have:=(List.prefix_append_right_inj r).1 q;simp at this) hq (by rw [e5,h.ok.P,h.ok.C];omega) e2).mono ?_
      rintro e w3 ⟨bt,o3,rfl,t3,f3⟩;rw [e5] at t3;have b3:=b2.fr f3 (not_und r 4 [i]);have c5:=b3.cell' (ad_cell hi);rw [etv] at c5;refine⟨bt,rfl,⟨b3.cell' (i:=2) rfl,b3.cell' (i:=3) rfl,b3.cell' (ad_cellS hi)⟩,c5,b3.free _,o3,?_⟩;have fA:Fr (fun v=>Und (r++[3]) v∨Und (r++[4,i]) v) w o w3 o3:=(fD.mono fun v q=>.inl q).trans (f3.mono fun v q=>.inr q);have p3:=((p2.fr (Fr.drew (S:=fun _=>False)) off_no).fr f3 (ad_off (p:=[i]) (q:=[]) hr (by decide)))
      exact h.made hr hi hsi hkc (by omega) hser hq (by rw [Int.natCast_mul];omega) p3 fA t3)
     clear h hr hi hser etv etn ets hsi hd hmul hq hc1 hc2 k1 k2 k3 k4 k5 hz hend0 hf hfree hD hkc;generalize s.set i (TnS.new i (s.ser i) q k)=s' at *;generalize ((s.P/s.C:Nat):Int)=E at *;go_enter Tryz.func31,Tryz.ntmps31
     go_wp2_with fail;go_step3
     go_wp2_with fail;refine SM hre.out ?_;go_wp2_with fail;refine SM hsz.out ?_;go_wp2_with fail;refine SM hea.out ?_;go_wp2_with fail;refine SM hfi.out ?_;go_wp2_with fail;refine hall.out.mono ?_;rintro e w2 ⟨A,n,c,rfl,hcc,hnw⟩;replace hnw:=HD hnw;clear hall hre hsz hea hfi;go_wp2_with fail;refine wp_region_noPanic ?_;refine wp_region_T (S:=(fun W'=>W'.cell? ⟨b,2,none⟩=some (eP x.a)∧W'.cell? ⟨b,3,none⟩=some (eP x.c)∧W'.cell? ⟨b,13+i,none⟩=some (.int .i64 (s.ser i)))) 26 (by kernel_rfl) ?_ (fun hHeld=>?_)
     ·(try dsimp only)
      (first|exact hcc|exact hc3)
     refine tkY 0 (h:=?_);refine tkY 1 (h:=?_);refine tkY 2 (h:=?_);refine tkY 3 (h:=?_);refine tkY 4 (h:=?_);refine tkT 5 (h:=?_);refine tkY 6 (h:=?_);refine tkY 7 (h:=?_);refine tkY 8 (h:=?_);refine tkT 9 (h:=?_);refine tkY 10 (h:=?_);refine tkY 11 (h:=?_);refine tkY 12 (h:=?_);refine tkY 13 (h:=?_);refine tkY 14 (h:=?_);refine tkY 15 (h:=?_);refine tkT 16 (h:=?_);refine tkY 17 (h:=?_);refine tkY 18 (h:=?_);refine tkY 23 (h:=?_);refine tkY 24 (h:=?_);refine onT 19 (h:=fun K hK=>?_);go_simp;refine hnw.out.mono ?_;rintro e w3 ⟨bt,rfl,hc3,z1,z2,hfin⟩;replace hfin:=HD hfin;go_wp2_with fail;refine hK.out _ _ ?_ (fun hHeld=>?_)
     ·(try dsimp only)
      (first|exact hcc|exact hc3)
     clear hK;refine nmT (h:=?_);refine tkY 20 (h:=?_);refine tkY 21 (h:=?_);refine tkY 22 (h:=?_);refine tkY 25 (h:=?_);refine atT (h:=fun K hK=>?_);go_simp;refine hK.out _ _ ?_;clear hK;refine tkL 27 (h:=?_);refine wpAnyT_done (by kernel_rfl) ?_ _;refine NoPanic.normal ?_;clear hcc hnw;go_wp2_with fail;go_step3
     go_wp2_with fail;rw [Exit.noGoto_ret];go_ret
     exact⟨rfl,hfin.out⟩
  ·rw [if_pos hz]
   simp only;have hz3:s.sizeE col q=2:=by
    unfold AdS.sizeE at hz ⊢;by_cases c:mayB q=true∧1≤col∧col≤s.C
    ·rw [if_pos c] at hz;exact absurd rfl hz
    ·rw [if_neg c]
   rw [hz3] at hsz;clear h hr hi hser etv etn ets hsi hz hz3;go_enter Tryz.func31,Tryz.ntmps31
   go_wp2_with fail;refine wp_scope_jumps 0 (fun a' w'=>w'=w∧∃fv:Nat→Value,a'={tmps:=#[fv 0,fv 1,fv 2,fv 3,fv 4,fv 5,fv 6,fv 7,fv 8,fv 9,.int .i64 2,fv 11,fv 12,fv 13,fv 14,fv 15,fv 16,fv 17,fv 18,fv 19,fv 20,fv 21,fv 22,fv 23,fv 24,fv 25,fv 26,fv 27,fv 28,fv 29,fv 30,fv 31,fv 32,fv 33,fv 34,fv 35,fv 36,fv 37,fv 38,fv 39,fv 40,fv 41,fv 42,fv 43,fv 44,fv 45,fv 46,fv 47,fv 48,fv 49,fv 50,fv 51,fv 52,fv 53,fv 54,fv 55,fv 56,fv 57,fv 58,fv 59,fv 60,fv 61,fv 62,fv 63,fv 64,fv 65,fv 66,fv 67,fv 68,fv 69,fv 70,fv 71,fv 72,fv 73,fv 74,fv 75,fv 76,fv 77],defers:=[]}) (fun _ _=>0) rfl ?_ ?_
   ·go_wp2_with fail
    refine SM hre.out ?_;go_wp2_with fail;refine SM hsz.out ?_;go_wp2_with fail;go_step3
    exact⟨rfl,rfl,fun k=>List.getD [_,_,_,_,_,_,_,_,_,_,undef,_,_,_,_,_,_,_,_,_,_,_,_,_,_,_,_,_,_,_,_,_,_,_,_,_,_,_,_,_,_,_,_,_,_,_,_,_,_,_,_,_,_,_,_,_,_,_,_,_,_,_,_,_,_,_,_,_,_,_,_,_,_,_,_,_,_,_] k undef,rfl⟩
   ·rintro a' w2 ⟨rfl,fv,rfl⟩
    go_wp2_with fail;simp only [Exit.jump];go_ret
    exact⟨rfl,hend0.out⟩
end
end
section
open Go.RowKit Flt
attribute [local irreducible] CpS.rv
def AdS.destroy(s:AdS)(i:Nat):Int×AdS:=match s.ts i with
 |none=>(6,s)
 |some t=>(0,{s with ts:=up1 s.ts i none,ser:=up1 s.ser i t.cp.next})
section
variable{S:Tag→Prop}{w w' w1:World}{o o' o1:Nat→Tag}{r:Tag}{b:Nat}{x:AdX}{B:List UInt8}{m:Nat}{cm:CmS}{p:PoS}{tbs:Nat→TbS}{s:AdS}
def AdEnd'(w:World)(o:Nat→Tag)(r:Tag)(b:Nat)(m:Nat)(s':AdS)(w':World):Prop:=∃o' B',AdAt w' o' r b B' m s'∧Fr (Und r) w o w' o'
theorem r_off{r:Tag}(hr:Root r)(n:Nat)(l:Tag):Off (fun v=>v=r) (r++n :: l):=eq_off hr.r9 n l
theorem r_tab{r:Tag}(hr:Root r):¬((fun v=>v=r) [9]):=fun e=>hr.r9 (by show r <+: [9];rw [e];exact List.prefix_refl _)
set_option maxHeartbeats 1000000 in
theorem adDestroy(i:Nat)(h:AdG w o r b x B m cm p tbs s)(hr:Root r)(hi:i<8)(hm:m≤700000) :
  Calls Tryz.prog 33 #[eP b,.int .i64 i] w fun e w'=>e=.returned (.int .i64 (s.destroy i).1)∧AdEnd' w o r b (m+7000) (s.destroy i).2 w':=by
 have hre:=HD (adReady b i w hi);have c1:w.cell? ⟨b,5+i,none⟩=some (tvF s x i):=h.blk.cell' (ad_cell hi);have hidx:0≤(i:Int)∧(i:Int)<8:=by omega
 have hkk:((i:Int)).toNat=i:=by omega
 obtain⟨tq,etv,etn,ets⟩:=tv_form s x i;rw [etv] at c1;unfold AdS.destroy;cases hsi:s.ts i with
 |none =>
  simp only;obtain rfl:=etn.2 hsi;have hend0:Hid (AdEnd' w o r b (m+7000) s w):=HD ⟨o,B,AdAt.mono ⟨x,cm,p,tbs,h⟩ (by omega),Fr.refl _ _ _⟩;clear h hr hi etv etn ets hsi;go_enter Tryz.func33,Tryz.ntmps33
  go_wp2_with fail;refine SM hre.out ?_;go_wp2_with fail;go_ret
  exact⟨rfl,hend0.out⟩
 |some t =>
  simp only;obtain rfl:=ets t hsi;have hall:=HD (show w.drew.cell? ⟨b,5+i,none⟩=some (eP (x.bt i))∧Calls Tryz.prog 57 #[eP (x.bt i)] w.drew (fun e w1=>e=.returned (.int .i64 t.cp.next)∧w1=w.drew)∧(w.drew.cell? ⟨b,13+i,none⟩=some (.int .i64 (s.ser i))∧w.drew.frozen? ⟨b,13+i,none⟩=false) ∧
    Calls Tryz.prog 58 #[eP (x.bt i)] (w.drew.setCell ⟨b,13+i,none⟩ (.int .i64 t.cp.next)) (fun e w2=>e=.returned (.tuple #[])∧w2.cell? ⟨b,4,none⟩=some (eP x.bp) ∧
     Calls Tryz.prog 59 #[eP x.bp,.int .i64 i] w2 (fun e w3=>∃v,e=.returned (.tuple #[v,.int .i64 0])∧w3.cell? ⟨b,5+i,none⟩=some (eP (x.bt i))∧w3.frozen? ⟨b,5+i,none⟩=false ∧
      AdEnd' w o r b (m+7000) {s with ts:=up1 s.ts i none,ser:=up1 s.ser i t.cp.next} (w3.setCell ⟨b,5+i,none⟩ (.pointer none)))) from by
   obtain⟨k1,k2,k3⟩:=h.ok.tn i t hi hsi;have hD:=h.fr (Fr.drew (S:=fun _=>False) (w:=w) (o:=o)) off_no;have fS:Fr (fun v=>v=r) w.drew o (w.drew.setCell ⟨b,13+i,none⟩ (.int .i64 t.cp.next)) o:=Fr.setCell (fun _=>hD.blk.1) _;have bS:=hD.blk.set (13+i) (.int .i64 t.cp.next);rw [ad_setS hi] at bS;have c5:=hD.blk.cell' (ad_cell hi);rw [etv] at c5;have tS:=(hD.tn i t hi hsi).other fS (r_off hr 4 [i]) (hD.cma.fr fS (r_off hr 2 [])) (hD.ar.fr fS (r_off hr 1 [])) rfl rfl;refine⟨c5,tnSerialA (hD.tn i t hi hsi),⟨hD.blk.cell' (ad_cellS hi),hD.blk.free _⟩,(tnDrop tS k1 (ad_ap3 hr i) (hD.tab.fr fS (r_tab hr)) hm).mono ?_⟩;rintro e w2 ⟨rfl,o2,B2,cm2,g1,g2,g3,g4,f2⟩;have b2:=bS.fr f2 s3_notr;have hp2:=(hD.po.fr fS (r_off hr 3 [])).fr f2 (s3_offn hr (by decide) (by decide) (by decide));have hlen:1≤(p.W i).length:=by rw [k1.wl];exact k3
   refine⟨rfl,b2.cell' (i:=4) rfl,(poDrop x.bp i w2 hp2 (not_pre hr.r9) hi hlen (by have:=h.ok.wlen hi;omega)).mono ?_⟩;rintro e w3 ⟨v,o3,rfl,p3,f3⟩;have b3:=b2.fr f3 (not_und r 3 []);have c5':=b3.cell' (ad_cell hi);rw [etv] at c5';have fS3:Fr (fun v=>v=r) w3 o3 (w3.setCell ⟨b,5+i,none⟩ (.pointer none)) o3:=Fr.setCell (fun _=>b3.1) _;refine⟨v,rfl,c5',b3.free _,o3,B2,⟨x,cm2,p.shrink i 0,tbs,?_,(g1.fr f3 (ad_off (p:=[]) (q:=[]) hr (by decide))).fr fS3 (r_off hr 2 []),(g2.fr f3 (ad_off (p:=[]) (q:=[]) hr (by decide))).fr fS3 (r_off hr 1 []),p3.fr fS3 (r_off hr 3 []),fun j u hj hju=>?_,?_,?_⟩,?_⟩
   ·have b4:=b3.set (5+i) (.pointer none)
    rw [ad_set hi] at b4;have e1:up1 (tvF s x) i (.pointer none)=tvF {s with ts:=up1 s.ts i none,ser:=up1 s.ser i t.cp.next} x:=by
     funext j
     unfold tvF;simp only;by_cases c:j=i
     ·subst c;rw [up1_same,up1_same]
     ·rw [up1_other c,up1_other c]
    have e2:up1 (fun j=>Value.int .i64 (s.ser j)) i (.int .i64 t.cp.next)=fun j=>Value.int .i64 (up1 s.ser i t.cp.next j):=by
     funext j
     by_cases c:j=i
     ·subst c;rw [up1_same,up1_same]
     ·rw [up1_other c,up1_other c]
    rw [e1,e2] at b4;exact b4
   ·have c:j≠i:=fun c=>by
     subst c;rw [show ({s with ts:=up1 s.ts j none,ser:=up1 s.ser j t.cp.next}:AdS).ts j=none from up1_same] at hju;cases hju
    rw [show ({s with ts:=up1 s.ts i none,ser:=up1 s.ser i t.cp.next}:AdS).ts j=s.ts j from up1_other c] at hju;rw [show (p.shrink i 0).W j=p.W j from up1_other c];have t1:=(hD.tn j u hj hju).other fS (r_off hr 4 [j]) (hD.cma.fr fS (r_off hr 2 [])) (hD.ar.fr fS (r_off hr 1 [])) rfl rfl;have t2:=t1.other f2 (s3_off hr (Ne.symm c)) g1 g2 g4.P g4.C;have g1':=g1.fr f3 (ad_off (p:=[]) (q:=[]) hr (by decide));have g2':=g2.fr f3 (ad_off (p:=[]) (q:=[]) hr (by decide));have t3:=t2.other f3 (ad_off (p:=[]) (q:=[j]) hr (by decide)) g1' g2' rfl rfl;exact t3.other fS3 (r_off hr 4 [j]) (g1'.fr fS3 (r_off hr 2 [])) (g2'.fr fS3 (r_off hr 1 [])) rfl rfl
   ·exact(((hD.tab.fr fS (r_tab hr)).fr f2 (s3_nine (ad_ap3 hr i))).fr f3 (not_pre hr.r9)).fr fS3 (r_tab hr)
   ·refine⟨g4.P.trans h.ok.P,g4.C.trans h.ok.C,g3.cmo,g3.len,g3.z,h.ok.po.shrink hi (Nat.zero_le _),fun j hj hju=>?_,fun j u hj hju=>?_,fun d hd hno=>?_⟩
    ·by_cases c:j=i
     ·subst c
      show up1 p.W j _ j=[]
      rw [up1_same,List.take_zero]
     ·rw [show ({s with ts:=up1 s.ts i none,ser:=up1 s.ser i t.cp.next}:AdS).ts j=s.ts j from up1_other c] at hju
      rw [show (p.shrink i 0).W j=p.W j from up1_other c];exact h.ok.non j hj hju
    ·have c:j≠i:=fun c=>by
      subst c;rw [show ({s with ts:=up1 s.ts j none,ser:=up1 s.ser j t.cp.next}:AdS).ts j=none from up1_same] at hju;cases hju
     rw [show ({s with ts:=up1 s.ts i none,ser:=up1 s.ser i t.cp.next}:AdS).ts j=s.ts j from up1_other c] at hju;rw [show (p.shrink i 0).W j=p.W j from up1_other c];obtain⟨a1,a2,a3⟩:=h.ok.tn j u hj hju;exact⟨a1.other g4 (h.ok.po.dj j i hj hi c) g3.cmo g3.z,a2,a3⟩
    ·by_cases c:(d:Int)∈p.W i
     ·have:=g3.ton.cov d c
      simpa using this
     ·rw [g4.sh d c,g4.P,g4.C]
      refine h.ok.un d hd fun j hj hin=>?_
      by_cases e:j=i
      ·subst e;exact c hin
      ·have:=hno j hj
       rw [show (p.shrink i 0).W j=p.W j from up1_other e] at this;exact this hin
   ·exact((((Fr.drew (S:=Und r) (w:=w) (o:=o)).trans (fS.mono fun v q=>by rw [q];exact Und.self r)).trans (f2.mono fun v q=>s3_und q)).trans (f3.mono fun v q=>q.up)).trans (fS3.mono fun v q=>by rw [q];exact Und.self r))
  obtain⟨hcc,hse,⟨z1,z2⟩,hdr⟩:=hall.out;replace hse:=HD hse;replace hdr:=HD hdr;clear h hr hi etv etn ets hsi hall hm;generalize ({s with ts:=up1 s.ts i none,ser:=up1 s.ser i t.cp.next}:AdS)=s' at *;generalize t.cp.next=nx at *;generalize x.bt i=bt at *;go_enter Tryz.func33,Tryz.ntmps33
  go_wp2_with fail;refine SM hre.out ?_;clear hre;go_wp2_with fail;refine wp_region_noPanic ?_;refine wp_region_T (S:=(fun W'=>W'.cell? ⟨b,5+i,none⟩=some (eP bt))) 7 (by kernel_rfl) ?_ (fun hHeld=>?_)
  ·(try dsimp only)
   exact hcc
  refine tkY 0 (h:=?_);refine tkY 1 (h:=?_);refine tkY 2 (h:=?_);refine tkY 4 (h:=?_);refine tkY 5 (h:=?_);refine onT 3 (h:=fun K hK=>?_);go_simp;refine SM hse.out ?_;go_wp2_with fail;refine hK.out _ _ ?_ (fun hHeld=>?_)
  ·(try dsimp only)
   exact hcc
  clear hK;refine nmT (h:=?_);refine tkY 6 (h:=?_);refine laT (h:=fun K hK=>?_);go_simp;refine hK.out _ _ ?_;clear hK;refine NoPanic.normal ?_;clear hse z1 z2;go_wp2_with fail;refine hdr.out.mono ?_;rintro e w2 ⟨rfl,c4,hpo⟩;replace hpo:=HD hpo;clear hdr hcc c1;go_wp2_with fail;refine hpo.out.mono ?_;rintro e w3 ⟨v,rfl,z1,z2,hfin⟩;replace hfin:=HD hfin;clear hpo c4;go_wp2_with fail;go_ret
  exact⟨rfl,hfin.out⟩
end
end
end Go.Proofs.YtfliaggjkianpaaGreatDoor
