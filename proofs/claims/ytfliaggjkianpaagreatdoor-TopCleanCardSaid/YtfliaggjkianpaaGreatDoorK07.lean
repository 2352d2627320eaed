import Derived.Test.YtfliaggjkianpaaGreatDoorK04
import Derived.Test.YtfliaggjkianpaaGreatDoorK05
import Derived.Test.YtfliaggjkianpaaGreatDoorK06
import Derived.Shelf.SlIterI.Nil
import Derived.Shelf.SortM.Plain
import Derived.Shelf.SortM.SortNone
import Derived.Shelf.SlicesG.Clone
import Derived.Shelf.SlicesG.CompactI
import Derived.Shelf.SlicesG.Turned
import Derived.Shelf.Strings.Builder1
set_option linter.unusedVariables false
set_option linter.unusedSimpArgs false
set_option maxRecDepth 100000
namespace Go.Proofs.YtfliaggjkianpaaGreatDoor
section
open Go.RowKit Go.Maps Go.Sort Go.Shelf
def keysA_ren:Go.Shelf.Ren:=⟨fun|7=>191|10=>226|n=>n,fun|23=>131|26=>3|3=>3|28=>258|0=>0|27=>257|33=>67|4=>4|n=>n,fun|n=>n⟩
theorem keysA:Go.Proofs.SlLaysZI.n7 Tryz.prog keysA_ren:={
 mixed:=by kernel_rfl,
 f7:=⟨Tryz.f191.name,by decide,Tryz.func191.trans (congrArg some (by kernel_rfl))⟩,
 f10:=⟨Tryz.f226.name,by decide,Tryz.func226.trans (congrArg some (by kernel_rfl))⟩,
 t0:=Tryz.underlying0,
 a0:=Tryz.isAgg0,
 z0:=Tryz.sizeOf0,
 v0:=Tryz.zeroValue0,
 t4:=Tryz.underlying4,
 a4:=Tryz.isAgg4,
 z4:=Tryz.sizeOf4,
 v4:=Tryz.zeroValue4,
 t23:=Tryz.underlying131,
 a23:=Tryz.isAgg131,
 z23:=Tryz.sizeOf131,
 v23:=Tryz.zeroValue131,
 t26:=Tryz.underlying3,
 a26:=Tryz.isAgg3,
 z26:=Tryz.sizeOf3,
 v26:=Tryz.zeroValue3,
 t27:=Tryz.underlying257,
 a27:=Tryz.isAgg257,
 z27:=Tryz.sizeOf257,
 v27:=Tryz.zeroValue257,
 t28:=Tryz.underlying258,
 a28:=Tryz.isAgg258,
 z28:=Tryz.sizeOf258,
 v28:=Tryz.zeroValue258,
 t33:=Tryz.underlying67,
 a33:=Tryz.isAgg67,
 z33:=Tryz.sizeOf67,
 v33:=Tryz.zeroValue67}
def sortedA_ren:Go.Shelf.Ren:=⟨fun|6=>190|8=>225|9=>84|11=>244|13=>122|12=>121|23=>177|24=>178|14=>168|15=>169|16=>170|17=>171|18=>172|19=>173|20=>174|21=>175|22=>176|25=>216|26=>217|27=>218|28=>219|29=>220|30=>221|31=>242|n=>n,fun|26=>3|28=>258|24=>110|0=>0|3=>3|37=>25|48=>244|50=>30|4=>4|40=>238|39=>237|45=>60|5=>5|9=>9|51=>274|55=>278|57=>297|58=>298|33=>67|n=>n,fun|n=>n⟩
theorem sortedA:Go.Proofs.SlLaysZI.n6 Tryz.prog sortedA_ren:={
 mixed:=by kernel_rfl,
 f6:=⟨Tryz.f190.name,by decide,Tryz.func190.trans (congrArg some (by kernel_rfl))⟩,
 f8:=⟨Tryz.f225.name,by decide,Tryz.func225.trans (congrArg some (by kernel_rfl))⟩,
 f11:=⟨Tryz.f244.name,by decide,Tryz.func244.trans (congrArg some (by kernel_rfl))⟩,
 t0:=Tryz.underlying0,
 a0:=Tryz.isAgg0,
 z0:=Tryz.sizeOf0,
 v0:=Tryz.zeroValue0,
 t24:=Tryz.underlying110,
 a24:=Tryz.isAgg110,
 z24:=Tryz.sizeOf110,
 v24:=Tryz.zeroValue110,
 t26:=Tryz.underlying3,
 a26:=Tryz.isAgg3,
 z26:=Tryz.sizeOf3,
 v26:=Tryz.zeroValue3,
 t28:=Tryz.underlying258,
 a28:=Tryz.isAgg258,
 z28:=Tryz.sizeOf258,
 v28:=Tryz.zeroValue258,
 i26:=by kernel_rfl}
def sortA_ren:Go.Shelf.Ren:=⟨fun|5=>84|8=>122|7=>121|19=>177|20=>178|10=>168|11=>169|12=>170|13=>171|14=>172|15=>173|16=>174|17=>175|18=>176|30=>216|31=>217|32=>218|33=>219|34=>220|35=>221|40=>242|n=>n,fun|23=>110|25=>3|3=>3|32=>25|22=>110|0=>0|44=>244|46=>30|4=>4|36=>238|35=>237|41=>60|5=>5|9=>9|53=>274|57=>278|63=>297|64=>298|n=>n,fun|n=>n⟩
theorem sortA:Go.Proofs.SlLaysM.n5 Tryz.prog sortA_ren:={
 mixed:=by kernel_rfl,
 f5:=⟨Tryz.f84.name,by decide,Tryz.func84.trans (congrArg some (by kernel_rfl))⟩,
 f7:=⟨Tryz.f121.name,by decide,Tryz.func121.trans (congrArg some (by kernel_rfl))⟩,
 f8:=Tryz.func122.trans (congrArg some (by kernel_rfl)),
 f10:=⟨Tryz.f168.name,by decide,Tryz.func168.trans (congrArg some (by kernel_rfl))⟩,
 f11:=⟨Tryz.f169.name,by decide,Tryz.func169.trans (congrArg some (by kernel_rfl))⟩,
 f12:=⟨Tryz.f170.name,by decide,Tryz.func170.trans (congrArg some (by kernel_rfl))⟩,
 f13:=⟨Tryz.f171.name,by decide,Tryz.func171.trans (congrArg some (by kernel_rfl))⟩,
 f14:=⟨Tryz.f172.name,by decide,Tryz.func172.trans (congrArg some (by kernel_rfl))⟩,
 f15:=⟨Tryz.f173.name,by decide,Tryz.func173.trans (congrArg some (by kernel_rfl))⟩,
 f16:=⟨Tryz.f174.name,by decide,Tryz.func174.trans (congrArg some (by kernel_rfl))⟩,
 f17:=⟨Tryz.f175.name,by decide,Tryz.func175.trans (congrArg some (by kernel_rfl))⟩,
 f18:=⟨Tryz.f176.name,by decide,Tryz.func176.trans (congrArg some (by kernel_rfl))⟩,
 f19:=Tryz.func177.trans (congrArg some (by kernel_rfl)),
 f20:=Tryz.func178.trans (congrArg some (by kernel_rfl)),
 f30:=⟨Tryz.f216.name,by decide,Tryz.func216.trans (congrArg some (by kernel_rfl))⟩,
 f31:=Tryz.func217.trans (congrArg some (by kernel_rfl)),
 f32:=Tryz.func218.trans (congrArg some (by kernel_rfl)),
 f33:=⟨Tryz.f219.name,by decide,Tryz.func219.trans (congrArg some (by kernel_rfl))⟩,
 f34:=⟨Tryz.f220.name,by decide,Tryz.func220.trans (congrArg some (by kernel_rfl))⟩,
 f35:=⟨Tryz.f221.name,by decide,Tryz.func221.trans (congrArg some (by kernel_rfl))⟩,
 f40:=⟨Tryz.f242.name,by decide,Tryz.func242.trans (congrArg some (by kernel_rfl))⟩,
 t0:=Tryz.underlying0,
 a0:=Tryz.isAgg0,
 z0:=Tryz.sizeOf0,
 v0:=Tryz.zeroValue0,
 t3:=Tryz.underlying3,
 a3:=Tryz.isAgg3,
 z3:=Tryz.sizeOf3,
 v3:=Tryz.zeroValue3,
 t4:=Tryz.underlying4,
 a4:=Tryz.isAgg4,
 z4:=Tryz.sizeOf4,
 v4:=Tryz.zeroValue4,
 t5:=Tryz.underlying5,
 a5:=Tryz.isAgg5,
 z5:=Tryz.sizeOf5,
 v5:=Tryz.zeroValue5,
 t9:=Tryz.underlying9,
 a9:=Tryz.isAgg9,
 z9:=Tryz.sizeOf9,
 v9:=Tryz.zeroValue9,
 t22:=Tryz.underlying110,
 a22:=Tryz.isAgg110,
 z22:=Tryz.sizeOf110,
 v22:=Tryz.zeroValue110,
 t23:=Tryz.underlying110,
 a23:=Tryz.isAgg110,
 z23:=Tryz.sizeOf110,
 v23:=Tryz.zeroValue110,
 t25:=Tryz.underlying3,
 a25:=Tryz.isAgg3,
 z25:=Tryz.sizeOf3,
 v25:=Tryz.zeroValue3,
 t32:=Tryz.underlying25,
 a32:=Tryz.isAgg25,
 z32:=Tryz.sizeOf25,
 v32:=Tryz.zeroValue25,
 t35:=Tryz.underlying237,
 a35:=Tryz.isAgg237,
 z35:=Tryz.sizeOf237,
 v35:=Tryz.zeroValue237,
 t36:=Tryz.underlying238,
 a36:=Tryz.isAgg238,
 z36:=Tryz.sizeOf238,
 v36:=Tryz.zeroValue238,
 t41:=Tryz.underlying60,
 a41:=Tryz.isAgg60,
 z41:=Tryz.sizeOf60,
 v41:=Tryz.zeroValue60,
 t44:=Tryz.underlying244,
 a44:=Tryz.isAgg244,
 z44:=Tryz.sizeOf244,
 v44:=Tryz.zeroValue244,
 t46:=Tryz.underlying30,
 a46:=Tryz.isAgg30,
 z46:=Tryz.sizeOf30,
 v46:=Tryz.zeroValue30,
 t53:=Tryz.underlying274,
 a53:=Tryz.isAgg274,
 z53:=Tryz.sizeOf274,
 v53:=Tryz.zeroValue274,
 t57:=Tryz.underlying278,
 a57:=Tryz.isAgg278,
 z57:=Tryz.sizeOf278,
 v57:=Tryz.zeroValue278,
 t63:=Tryz.underlying297,
 a63:=Tryz.isAgg297,
 z63:=Tryz.sizeOf297,
 v63:=Tryz.zeroValue297,
 t64:=Tryz.underlying298,
 a64:=Tryz.isAgg298,
 z64:=Tryz.sizeOf298,
 v64:=Tryz.zeroValue298}
def containsA_ren:Go.Shelf.Ren:=⟨fun|31=>182|29=>222|n=>n,fun|22=>110|23=>3|4=>4|3=>3|0=>0|n=>n,fun|n=>n⟩
theorem containsA:Go.Proofs.SlLaysN.n31 Tryz.prog containsA_ren:={
 mixed:=by kernel_rfl,
 f29:=⟨Tryz.f222.name,by decide,Tryz.func222.trans (congrArg some (by kernel_rfl))⟩,
 f31:=⟨Tryz.f182.name,by decide,Tryz.func182.trans (congrArg some (by kernel_rfl))⟩,
 t0:=Tryz.underlying0,
 a0:=Tryz.isAgg0,
 z0:=Tryz.sizeOf0,
 v0:=Tryz.zeroValue0,
 t3:=Tryz.underlying3,
 a3:=Tryz.isAgg3,
 z3:=Tryz.sizeOf3,
 v3:=Tryz.zeroValue3,
 t4:=Tryz.underlying4,
 a4:=Tryz.isAgg4,
 z4:=Tryz.sizeOf4,
 v4:=Tryz.zeroValue4,
 t22:=Tryz.underlying110,
 a22:=Tryz.isAgg110,
 z22:=Tryz.sizeOf110,
 v22:=Tryz.zeroValue110,
 t23:=Tryz.underlying3,
 a23:=Tryz.isAgg3,
 z23:=Tryz.sizeOf3,
 v23:=Tryz.zeroValue3}
def cloneA_ren:Go.Shelf.Ren:=⟨fun|41=>83|n=>n,fun|22=>110|23=>3|4=>4|n=>n,fun|n=>n⟩
theorem cloneA:Go.Proofs.SlLaysN.n41 Tryz.prog cloneA_ren:={
 mixed:=by kernel_rfl,
 f41:=⟨Tryz.f83.name,by decide,Tryz.func83.trans (congrArg some (by kernel_rfl))⟩,
 t4:=Tryz.underlying4,
 a4:=Tryz.isAgg4,
 z4:=Tryz.sizeOf4,
 v4:=Tryz.zeroValue4,
 t22:=Tryz.underlying110,
 a22:=Tryz.isAgg110,
 z22:=Tryz.sizeOf110,
 v22:=Tryz.zeroValue110,
 t23:=Tryz.underlying3,
 a23:=Tryz.isAgg3,
 z23:=Tryz.sizeOf3,
 v23:=Tryz.zeroValue3,
 i23:=by kernel_rfl}
def compactA_ren:Go.Shelf.Ren:=⟨fun|43=>123|n=>n,fun|22=>110|23=>3|3=>3|4=>4|0=>0|n=>n,fun|n=>n⟩
theorem compactA:Go.Proofs.SlLaysN.n43 Tryz.prog compactA_ren:={
 mixed:=by kernel_rfl,
 f43:=⟨Tryz.f123.name,by decide,Tryz.func123.trans (congrArg some (by kernel_rfl))⟩,
 t0:=Tryz.underlying0,
 a0:=Tryz.isAgg0,
 z0:=Tryz.sizeOf0,
 v0:=Tryz.zeroValue0,
 t3:=Tryz.underlying3,
 a3:=Tryz.isAgg3,
 z3:=Tryz.sizeOf3,
 v3:=Tryz.zeroValue3,
 t4:=Tryz.underlying4,
 a4:=Tryz.isAgg4,
 z4:=Tryz.sizeOf4,
 v4:=Tryz.zeroValue4,
 t22:=Tryz.underlying110,
 a22:=Tryz.isAgg110,
 z22:=Tryz.sizeOf110,
 v22:=Tryz.zeroValue110,
 t23:=Tryz.underlying3,
 a23:=Tryz.isAgg3,
 z23:=Tryz.sizeOf3,
 v23:=Tryz.zeroValue3,
 i23:=by kernel_rfl}
def lays166_ren:Go.Shelf.Ren:=⟨fun|166=>158|240=>213|276=>240|n=>n,fun|70=>219|9=>9|3=>3|75=>223|0=>0|72=>221|37=>57|4=>4|164=>294|80=>137|5=>5|n=>n,fun|n=>n⟩
theorem lays166:Go.Proofs.Lays.n166 Tryz.prog lays166_ren:={
 mixed:=by kernel_rfl,
 f166:=Tryz.func158.trans (congrArg some (by kernel_rfl)),
 f240:=Tryz.func213.trans (congrArg some (by kernel_rfl)),
 f276:=Tryz.func240.trans (congrArg some (by kernel_rfl)),
 t0:=Tryz.underlying0,
 a0:=Tryz.isAgg0,
 z0:=Tryz.sizeOf0,
 v0:=Tryz.zeroValue0,
 t3:=Tryz.underlying3,
 a3:=Tryz.isAgg3,
 z3:=Tryz.sizeOf3,
 v3:=Tryz.zeroValue3,
 t4:=Tryz.underlying4,
 a4:=Tryz.isAgg4,
 z4:=Tryz.sizeOf4,
 v4:=Tryz.zeroValue4,
 t9:=Tryz.underlying9,
 a9:=Tryz.isAgg9,
 z9:=Tryz.sizeOf9,
 v9:=Tryz.zeroValue9,
 t20:=Tryz.underlying20,
 a20:=Tryz.isAgg20,
 z20:=Tryz.sizeOf20,
 v20:=Tryz.zeroValue20,
 t37:=Tryz.underlying57,
 a37:=Tryz.isAgg57,
 z37:=Tryz.sizeOf57,
 v37:=Tryz.zeroValue57,
 t70:=Tryz.underlying219,
 a70:=Tryz.isAgg219,
 z70:=Tryz.sizeOf219,
 v70:=Tryz.zeroValue219,
 t72:=Tryz.underlying221,
 a72:=Tryz.isAgg221,
 z72:=Tryz.sizeOf221,
 v72:=Tryz.zeroValue221,
 t75:=Tryz.underlying223,
 a75:=Tryz.isAgg223,
 z75:=Tryz.sizeOf223,
 v75:=Tryz.zeroValue223,
 t164:=Tryz.underlying294,
 a164:=Tryz.isAgg294,
 z164:=Tryz.sizeOf294,
 v164:=Tryz.zeroValue294}
def lays169_ren:Go.Shelf.Ren:=⟨fun|169=>159|n=>n,fun|70=>219|9=>9|0=>0|72=>221|37=>57|127=>267|3=>3|5=>5|n=>n,fun|n=>n⟩
theorem lays169:Go.Proofs.Lays.n169 Tryz.prog lays169_ren:={
 mixed:=by kernel_rfl,
 f169:=Tryz.func159.trans (congrArg some (by kernel_rfl)),
 t0:=Tryz.underlying0,
 a0:=Tryz.isAgg0,
 z0:=Tryz.sizeOf0,
 v0:=Tryz.zeroValue0,
 t3:=Tryz.underlying3,
 a3:=Tryz.isAgg3,
 z3:=Tryz.sizeOf3,
 v3:=Tryz.zeroValue3,
 t9:=Tryz.underlying9,
 a9:=Tryz.isAgg9,
 z9:=Tryz.sizeOf9,
 v9:=Tryz.zeroValue9,
 t37:=Tryz.underlying57,
 a37:=Tryz.isAgg57,
 z37:=Tryz.sizeOf57,
 v37:=Tryz.zeroValue57,
 t70:=Tryz.underlying219,
 a70:=Tryz.isAgg219,
 z70:=Tryz.sizeOf219,
 v70:=Tryz.zeroValue219,
 t72:=Tryz.underlying221,
 a72:=Tryz.isAgg221,
 z72:=Tryz.sizeOf221,
 v72:=Tryz.zeroValue221,
 t127:=Tryz.underlying267,
 a127:=Tryz.isAgg267,
 z127:=Tryz.sizeOf267,
 v127:=Tryz.zeroValue267}
theorem sortsA(m:Nat):AnyZI.SortsIn Tryz.prog sortedA_ren Fence.wide m :=
 ⟨fun blk off cap ss W hH hblk hsz=>callsIn_wide.2 (AnyM.slices_Sort_int sortA blk off cap ss W hH hblk hsz),
 fun p cap W=>callsIn_wide.2 (AnyM.slices_Sort_int_none sortA p cap W)⟩
theorem extra158:Builder.Extra Tryz.prog lays166_ren:={
 sizeBuilder:=by kernel_rfl,
 liesBuilder:=by kernel_rfl,
 t5:=Tryz.underlying5,
 a5:=Tryz.isAgg5,
 z5:=Tryz.sizeOf5,
 v5:=Tryz.zeroValue5,
 infoByte:=by kernel_rfl,
 cellsByte:=by kernel_rfl,
 sizeByte:=by kernel_rfl,
 neB5:=by decide}
theorem extra159:Builder.Extra Tryz.prog lays169_ren:={
 sizeBuilder:=by kernel_rfl,
 liesBuilder:=by kernel_rfl,
 t5:=Tryz.underlying5,
 a5:=Tryz.isAgg5,
 z5:=Tryz.sizeOf5,
 v5:=Tryz.zeroValue5,
 infoByte:=by kernel_rfl,
 cellsByte:=by kernel_rfl,
 sizeByte:=by kernel_rfl,
 neB5:=by decide}
end
section
open Go.RowKit Go.Sort Go.Shelf Go.Maps
def IRow(w:World)(o:Nat→Tag)(t:Tag)(v:Value)(xs:List Int):Prop :=
 w.ownsRow 0 3 1 v xs.length (xs.map eI)∧∀g,v.ownBlock=some g→o g=t
theorem IRow.nil(w:World)(o:Nat→Tag)(t:Tag):IRow w o t (.slice none 0 0) [] :=
 ⟨⟨rfl,.inl ⟨rfl,rfl⟩⟩,fun g h=>(by simp [Value.ownBlock] at h)⟩
theorem IRow.cases{w:World}{o:Nat→Tag}{t:Tag}{v:Value}{xs:List Int}(h:IRow w o t v xs) :
  (v=.slice none 0 0∧xs=[])∨∃g cap cur,v=.slice (some ⟨g,0,none⟩) xs.length cap∧Blk w o t g cur 3∧xs.length≤cap∧cap≤maxLen∧cur.size=cap∧cur.toList.take xs.length=xs.map eI:=by
 obtain⟨⟨h1,h2⟩,h3⟩:=h;rcases h2 with ⟨rfl,h2⟩|⟨g,cap,cur,rfl,_,h4,h5,h6,h7,h8⟩
 ·exact .inl ⟨rfl,List.eq_nil_of_length_eq_zero h2⟩
 ·exact .inr ⟨g,cap,cur,rfl,⟨h3 g rfl,h4⟩,h5,h6,by simpa using h7,by simpa using h8⟩
theorem IRow.of{w:World}{o:Nat→Tag}{t:Tag}{g cap:Nat}{cur:Array Value}{xs:List Int}(h:Blk w o t g cur 3)(h1:xs.length≤cap)(h2:cap≤maxLen)(h3:cur.size=cap)(h4:cur.toList.take xs.length=xs.map eI):IRow w o t (.slice (some ⟨g,0,none⟩) xs.length cap) xs :=
 ⟨⟨by simp,.inr ⟨g,cap,cur,rfl,Nat.zero_le _,h.2,h1,h2,by simpa using h3,by simpa using h4⟩⟩,fun k hk=>by simp [Value.ownBlock] at hk;subst hk;exact h.1⟩
theorem IRow.fr{S:Tag→Prop}{w w':World}{o o':Nat→Tag}{t:Tag}{v:Value}{xs:List Int}(h:IRow w o t v xs)(f:Fr S w o w' o')(hS:¬S t):IRow w' o' t v xs:=by
 rcases h.cases with ⟨rfl,rfl⟩|⟨g,cap,cur,rfl,h1,h2,h3,h4,h5⟩
 ·exact IRow.nil _ _ _
 ·exact IRow.of (h1.fr f hS) h2 h3 h4 h5
theorem take_cell{cur:Array Value}{xs:List Int}(h:cur.toList.take xs.length=xs.map eI)(i:Nat)(hi:i<xs.length):cur[i]? = some (eI xs[i]):=by
 have:(cur.toList.take xs.length)[i]? = some (eI xs[i]):=by rw [h];simp [hi]
 rw [List.getElem?_take] at this;simpa [hi] using this
theorem IRow.ints{w:World}{o:Nat→Tag}{t:Tag}{v:Value}{xs:List Int}(h:IRow w o t v xs):Ints w o t v xs:=by
 rcases h.cases with ⟨rfl,rfl⟩|⟨g,cap,cur,rfl,h1,h2,h3,h4,h5⟩
 ·exact⟨none,0,rfl,fun q=>absurd q (by decide)⟩
 ·exact⟨_,cap,rfl,fun _=>⟨g,0,rfl,h1.lt,h1.1,fun i hi=>by rw [Nat.zero_add];exact h1.cell' (take_cell h5 i hi)⟩⟩
theorem IRow.made{w w':World}{o:Nat→Tag}{u:Tag}{v:Value}{xs:List Int}(h:w'.ownsRow w.heap.size 3 1 v xs.length (xs.map eI)):IRow w' (newO o w u) u v xs:=by
 obtain⟨h1,h2⟩:=h;rcases h2 with ⟨rfl,h2⟩|⟨g,cap,cur,rfl,h3,h4,h5,h6,h7,h8⟩
 ·obtain rfl:=List.eq_nil_of_length_eq_zero h2;exact IRow.nil _ _ _
 ·exact IRow.of ⟨newO_new h3,h4⟩ h5 h6 (by simpa using h7) (by simpa using h8)
theorem getD_get(xs:List Int)(j:Nat)(hj:j<xs.length):xs.getD j 0=xs[j]:=by simp [List.getD,hj]
theorem slContains{w:World}{o:Nat→Tag}{t:Tag}{v:Value}{xs:List Int}(h:Ints w o t v xs)(x:Int)(hb:xs.length≤1000000000) :
  Calls Tryz.prog 182 #[v,.int .i64 x] w fun e w'=>e=.returned (.bool (xs.contains x))∧w'=w:=by
 obtain⟨A,c,rfl,h⟩:=h;rcases Nat.eq_zero_or_pos xs.length with h0|h0
 ·obtain rfl:=List.eq_nil_of_length_eq_zero h0
  exact AnyG.slices_Contains_int_empty containsA A c x w
 ·obtain⟨g,off,rfl,_,_,hc⟩:=h h0
  have:=AnyG.slices_Contains_int containsA g off xs.length c xs x w (Nat.le_refl _) (by omega) (fun j hj=>by rw [getD_get xs j hj];exact hc j hj)
  rwa [List.take_length] at this
theorem slClone{w:World}{o:Nat→Tag}{t:Tag}{v:Value}{xs:List Int}(h:Ints w o t v xs)(u:Tag)(hb:xs.length≤1000000000) :
  Calls Tryz.prog 83 #[v] w fun e w'=>∃v',e=.returned v'∧IRow w' (newO o w u) u v' xs∧Below w.heap.size w w':=by
 obtain⟨A,c,rfl,h⟩:=h;rcases Nat.eq_zero_or_pos xs.length with h0|h0
 ·obtain rfl:=List.eq_nil_of_length_eq_zero h0
  cases A with
  |none =>
   refine(AnyG.slices_Clone_int_nil cloneA 0 c w).mono ?_;rintro e w' ⟨rfl,rfl⟩;exact⟨_,rfl,IRow.nil _ _ _,Below.refl _ _⟩
  |some a =>
   refine(AnyG.slices_Clone_int_zero cloneA a c w).mono ?_;rintro e w' ⟨v',rfl,hr,_,hB⟩;exact⟨_,rfl,IRow.made (xs:=[]) hr,hB⟩
 ·obtain⟨g,off,rfl,_,_,hc⟩:=h h0
  refine(AnyG.slices_Clone_int cloneA g off xs.length c xs w (Nat.le_refl _) (by omega) (fun j hj=>by rw [getD_get xs j hj];exact hc j hj)).mono ?_;rintro e w' ⟨v',rfl,hr,_,hB⟩;rw [List.take_length] at hr;exact⟨_,rfl,IRow.made hr,hB⟩
abbrev sorted(xs:List Int):List Int:=xs.mergeSort (fun x y=>decide (x≤y))
theorem row_put{w w':World}{o:Nat→Tag}{t:Tag}{g cap:Nat}{cur:Array Value}{xs ys:List Int}(h:Blk w o t g cur 3)(h3:cur.size=cap)(hx:ys.length≤cap){n:Nat}{os:Array Obj} :
  Blk (grow (putRow eI (Sort.ahead w n) g 0 ys.toArray) os) o t g (putCells eI 0 ys.toArray cur) 3∧Fr (· = t) w o (grow (putRow eI (Sort.ahead w n) g 0 ys.toArray) os) o∧(putCells eI 0 ys.toArray cur).size=cap∧(putCells eI 0 ys.toArray cur).toList.take ys.length=ys.map eI:=by
 have hlt:=h.lt;refine⟨⟨h.1,?_⟩,Fr.of_only ?_,by simp [putCells,h3],?_⟩
 ·rw [heap_grow_old _ _ (by simpa using hlt)]
  simp [putRow,mapBlock,Sort.ahead,Array.getElem?_modify,h.2,onCells]
 ·refine⟨rfl,rfl,rfl,by simp,fun k hk hne=>?_⟩
  rw [heap_grow_old _ _ (by simpa using hk)];have:g≠k:=fun e=>hne (by rw [←e];exact h.1)
  simp [putRow,mapBlock,Sort.ahead,Array.getElem?_modify,this]
 ·apply List.ext_getElem?
  intro i;rw [List.getElem?_take];by_cases hi:i<ys.length
  ·rw [if_pos hi]
   have hc:i<cur.size:=by omega
   simp [putCells,hi,Array.getElem?_eq_getElem hc]
  ·rw [if_neg hi];simp [Nat.le_of_not_lt hi]
theorem row_holds{w:World}{o:Nat→Tag}{t:Tag}{g:Nat}{cur:Array Value}{xs:List Int}(h:Blk w o t g cur 3)(h5:cur.toList.take xs.length=xs.map eI):Holds eI w g 0 xs.toArray:=by
 intro j hj;have hj':j<xs.length:=by simpa using hj
 rw [Nat.zero_add];refine⟨?_,h.free j⟩;rw [h.cell' (take_cell h5 j hj')];simp [hj']
theorem slSort{w:World}{o:Nat→Tag}{t:Tag}{v:Value}{xs:List Int}(h:IRow w o t v xs)(hb:xs.length≤1000000000) :
  Calls Tryz.prog 84 #[v] w fun e w'=>e=.returned (.tuple #[])∧IRow w' o t v (sorted xs)∧Fr (· = t) w o w' o:=by
 rcases h.cases with ⟨rfl,rfl⟩|⟨g,cap,cur,rfl,h1,h2,h3,h4,h5⟩
 ·refine(AnyM.slices_Sort_int_none sortA none 0 w).mono ?_
  rintro e w' ⟨rfl,rfl⟩;exact⟨rfl,by simpa [sorted] using IRow.nil w' o t,Fr.refl _ _ _⟩
 ·refine(AnyM.slices_Sort_int sortA g 0 cap xs w (row_holds h1 h5) h1.lt (by omega)).mono ?_
  rintro e w' ⟨rfl,n,os,rfl⟩;have hl:(sorted xs).length=xs.length:=by simp [sorted]
  obtain⟨q1,q2,q3,q4⟩:=row_put (w':=w) (xs:=xs) (ys:=sorted xs) h1 h4 (by omega) (n:=n) (os:=os);have q:=IRow.of q1 (xs:=sorted xs) (by omega) h3 q3 q4;rw [hl] at q;exact⟨rfl,q,q2⟩
theorem compact_len:∀(xs:List Int),(Lib.compact xs).length≤xs.length:=by
 intro xs;unfold Lib.compact Lib.compactUpTo;rw [List.length_map];exact Nat.le_trans (List.length_filter_le _ _) (by simp)
theorem slCompact{w:World}{o:Nat→Tag}{t:Tag}{v:Value}{xs:List Int}(h:IRow w o t v xs)(hb:xs.length≤1000000000) :
  Calls Tryz.prog 123 #[v] w fun e w'=>∃v',e=.returned v'∧IRow w' o t v' (Lib.compact xs)∧Fr (· = t) w o w' o:=by
 rcases h.cases with ⟨rfl,rfl⟩|⟨g,cap,cur,rfl,h1,h2,h3,h4,h5⟩
 ·refine(AnyG.slices_Compact_int_empty compactA none 0 w).mono ?_
  rintro e w' ⟨rfl,rfl⟩;exact⟨_,rfl,by simpa [Lib.compact,Lib.compactUpTo] using IRow.nil w' o t,Fr.refl _ _ _⟩
 ·refine(AnyG.slices_Compact_int compactA g 0 cap xs w (row_holds h1 h5) (by omega) h2).mono ?_
  rintro e w' ⟨rfl,n,rfl⟩;have hl:=compact_len xs;have hz:(Lib.compact xs++List.replicate (xs.length-(Lib.compact xs).length) 0).length=xs.length:=by simp;omega
  obtain⟨q1,q2,q3,q4⟩:=row_put (w':=w) (xs:=xs) (ys:=Lib.compact xs++List.replicate (xs.length-(Lib.compact xs).length) 0) h1 h4 (by omega) (n:=n) (os:=#[]);rw [grow_empty] at q1 q2;refine⟨_,rfl,IRow.of q1 (by omega) h3 q3 ?_,q2⟩;have:=congrArg (List.take (Lib.compact xs).length) q4;rw [List.take_take,Nat.min_eq_left (by omega),List.map_append,List.take_append_of_le_length (by simp)] at this
  rwa [List.take_of_length_le (l:=List.map eI _) (by simp)] at this
end
section
open Go.RowKit Go.Shelf Go.Maps Go.WideElems Go.WideShapes
abbrev someR:Value→Option (DataW Unit×List MemPlace):=fun _=>some (.lit (.bool true),[])
def keyI(v:Value×Value):Int:=match v.1 with|.int _ a=>a|_=>0
theorem mp_owns{α:Type}{w:World}{o:Nat→Tag}{t:Tag}{b:Nat}{enc:α→Value}{M:List (Int×α)}(h:MpAt w o t b .i64 enc M)(hw:∀p∈M,-9223372036854775808≤p.1∧p.1≤9223372036854775807) :
  ∃D:DataW Unit,w.ownsMap Tryz.prog 3 someR b M.length D∧(intKeys D).Perm (M.map (·.1))∧Maps.size D=M.length:=by
 obtain⟨_,hr,hlen,es,clock,hb,hst,hp⟩:=h;have hsz:es.size=M.length:=by have:=hp.length_eq;simpa using this
 have hk:∀x∈es.toList,∃p∈M,x.key=.int .i64 p.1:=by
  intro x hx;have:(x.key,x.val)∈M.map fun p=>(Value.int .i64 p.1,enc p.2):=hp.mem_iff.1 (List.mem_map.2 ⟨x,hx,rfl⟩)
  obtain⟨p,hp',e⟩:=List.mem_map.1 this;exact⟨p,hp',(congrArg Prod.fst e).symm⟩
 have hrd:∀x∈es.toList,∃p∈M,x.key=.int .i64 p.1∧rd Tryz.prog 3 someR x=some (.int .i64 p.1,.lit (.bool true)):=by
  intro x hx;obtain⟨p,hp',e⟩:=hk x hx;refine⟨p,hp',e,?_⟩;have hwf:(Lit.int .i64 p.1).wf=true:=by
   have:=hw p hp';simp [Lit.wf,IntKind.min,IntKind.max,IntKind.signed,IntKind.bits];omega
  unfold rd;rw [e,keyOf_int_mk Tryz.underlying3 hwf];rfl
 refine⟨_,⟨es,clock,hb,⟨by unfold maxLen;omega,hst,fun x hx=>by obtain⟨p,_,_,q⟩:=hrd x hx;exact⟨_,q⟩⟩,by omega,rfl⟩,?_,?_⟩
 ·refine((sorted_perm _).map _).trans ?_
  have h2:=hp.map keyI;rw [List.map_map,List.map_map] at h2;rw [List.map_map];refine List.Perm.trans (List.Perm.of_eq ?_) (h2.trans (List.Perm.of_eq ?_))
  ·refine List.map_congr_left fun x hx=>?_
   obtain⟨p,_,e,q⟩:=hrd x hx;simp [rg,q,keyI,e];rfl
  ·exact List.map_congr_left fun x hx=>rfl
 ·simp [Maps.size,length_sorted,hsz]
theorem sorted_rise{α:Type}{M:List (Int×α)}(hr:Rise M){l:List Int}(h:l.Perm (M.map (·.1))):l.mergeSort (fun x y=>decide (x≤y))=M.map (·.1):=by
 rw [mergeSort_of_perm_i h];refine List.mergeSort_of_pairwise ?_;exact List.pairwise_map.2 (hr.imp fun {a b} q=>by simp;omega)
set_option maxHeartbeats 1000000 in
theorem tbAll(b:Nat)(w:World){o:Nat→Tag}{t:Tag}{s:TbS}(h:TbAt w o t b s)(u:Tag) :
  Calls Tryz.prog 139 #[.pointer (some ⟨b,0,none⟩)] w fun e w'=>∃v,e=.returned v∧IRow w' (newO o w u) u v (s.pg.map (·.1))∧Below w.heap.size w w':=by
 obtain⟨h0,g,l,h1,h2,h3,_⟩:=h;have hr1:=rise_len h2.2.1 256 6400 (by omega) h0.1;have hrise:=h2.2.1;obtain⟨D0,hown,hperm,hsz⟩:=mp_owns h2 (fun p hp=>by have:=h0.1 p hp;omega);have hbl:=hown.lt;have c0:w.cell? ⟨b,0,none⟩=some (.map (some g)):=h1.cell' (i:=0) rfl;have hm1:Maps.size D0≤1000000:=by rw [hsz];omega
 have hmax:Maps.size D0≤maxLen:=by unfold maxLen;omega
 have hbytes:Maps.size D0*8≤140737488355328:=by omega
 have hB1:=(Below.refl w.heap.size w).alloc (Nat.le_refl _) (.cells #[.map (some g)] 131);refine(callsIn_wide (n:=6)).1 ?_;have hseq:SeqGives Fence.wide 2 Tryz.prog 226 #[.pointer (some ⟨w.heap.size,0,none⟩)] encZ (fun ss=>ss.Perm (intKeys D0)) (Maps.size D0) (w.alloc (.cells #[.map (some g)] 131)) :=
  AnyZI.keys_gives (ρ:=keysA_ren) {keysA with} Fence.wide _ trivial rfl (by omega) w.heap.size g _ D0 _ (by simp) (by simp) (by
   obtain⟨es,clock,hb,Ft,hs,hD⟩:=hown;exact⟨es,clock,(Below.heap_alloc _ _ g hbl).trans hb,Ft,hs,hD⟩)
 have cK:∀mb W,CallsIn Fence.wide 5 Tryz.prog 191 #[.map mb] W fun e w'=>e=.returned (.func (.func 226) #[] #[.pointer (some ⟨W.heap.size,0,none⟩)])∧w'=W.alloc (.cells #[.map mb] 131):=fun mb W=>AnyZI.keys_in keysA Fence.wide 5 trivial rfl mb W
 have cS:=AnyZI.sorted_in sortedA Fence.wide 5 trivial trivial trivial trivial rfl (by omega) (sortsA _) (enters_of Tryz.func84 (by kernel_rfl) rfl) 226 #[.pointer (some ⟨w.heap.size,0,none⟩)] trivial (enters_of Tryz.func226 (by kernel_rfl) rfl) _ _ hmax hbytes _ hseq;change CallsIn _ _ Tryz.prog 190 _ _ _ at cS;have hfK:Fence.wide.fn 191:=trivial;have hfS:Fence.wide.fn 190:=trivial;clear h0 h1 h2 h3 hown hbl hsz hr1 hseq;refine callsIn_of_wp Tryz.func139 rfl trivial ?_ rfl;simp only [Tryz.ntmps139,List.size_toArray,List.length_cons,List.length_nil,Nat.reduceAdd,Nat.reduceSub,Array.replicate_succ,Array.replicate_zero,List.push_toArray,List.append_toArray,List.nil_append,List.cons_append]
 gi_wp2_with (first
  |(gi_at_call 191;refine(cK _ _).mono ?_;rintro e w' ⟨rfl,rfl⟩)
  |(gi_at_call 190;refine cS.mono ?_;rintro e w' ⟨v,ss,rfl,hS,hrow,hnil,hb⟩))
 go_ret
 refine⟨v,rfl,IRow.made ?_,hB1.trans (hb.mono (by simp))⟩;rw [sorted_rise hrise (hS.trans hperm)] at hrow;have hl:ss.length=(s.pg.map (·.1)).length:=(hS.trans hperm).length_eq;rw [hl] at hrow;exact ownsRow_base_a hrow (by simp)
end
section
open Go.RowKit
def CmS.free(s:CmS)(p:Nat):Bool:=(s.sh (p%s.C)).f (p/s.C)
def CmS.fl(s:CmS)(p:Nat):CmS:=s.up (p%s.C) ((s.sh (p%s.C)).flip (p/s.C))
theorem fl_free(s:CmS)(p q:Nat)(hC:1≤s.C):(s.fl p).free q=if q=p then !s.free q else s.free q:=by
 unfold CmS.free CmS.fl CmS.up;simp only;by_cases e:q%s.C=p%s.C
 ·rw [if_pos e,flip_f,e]
  by_cases e2:q/s.C=p/s.C
  ·have:q=p:=by rw [←Nat.div_add_mod q s.C,e,e2,Nat.div_add_mod]
   rw [if_pos e2,if_pos this]
  ·rw [if_neg e2,if_neg (fun q=>e2 (by rw [q]))]
 ·rw [if_neg e,if_neg (fun q=>e (by rw [q]))]
theorem fl_sh(s:CmS)(p c:Nat)(h:c≠p%s.C):(s.fl p).sh c=s.sh c:=if_neg h
theorem fl_at(s:CmS)(p:Nat):(s.fl p).sh (p%s.C)=(s.sh (p%s.C)).flip (p/s.C):=if_pos rfl
theorem CmS.ok.fl{s:CmS}(h:s.ok)(p:Nat):(s.fl p).ok:=by
 obtain⟨h1,h2,h3,h4,h5,h6⟩:=h;refine⟨h1,h2,h3,h4,h5,fun c hc=>?_⟩;by_cases e:c=p%s.C
 ·subst e;rw [fl_at];exact h6 _ hc
 ·rw [fl_sh _ _ _ e];exact h6 c hc
theorem CmS.ok.div{s:CmS}(h:s.ok){p:Nat}(hp:p<s.P):p%s.C<s.C∧p/s.C<s.P/s.C∧p/s.C<(s.sh (p%s.C)).n:=by
 obtain⟨h1,h2,h3,h4,h5,h6⟩:=h;have a:p%s.C<s.C:=Nat.mod_lt _ (by omega);have b:p/s.C<s.P/s.C:=by
  rw [Nat.div_lt_iff_lt_mul (by omega),Nat.div_mul_cancel (Nat.dvd_of_mod_eq_zero h5)];exact hp
 exact⟨a,b,by rw [h6 _ a];exact b⟩
theorem fl_cnt{s:CmS}(h:s.ok){p:Nat}(hp:p<s.P)(c:Nat):(((s.fl p).sh c).cnt:Int)=(s.sh c).cnt+(if c=p%s.C then (if s.free p then -1 else 1) else 0):=by
 by_cases e:c=p%s.C
 ·subst e
  rw [fl_at,if_pos rfl,cnt_flip _ (h.div hp).2.2];rfl
 ·rw [fl_sh _ _ _ e,if_neg e];omega
theorem best_spec(s:CmS)(hC:1≤s.C)(xs:List Int):(s.best xs=-1∧∀x∈xs,0≤x→x<s.C→(s.sh x.toNat).lowI=-1)∨∃c k:Nat,c<s.C∧(c:Int)∈xs∧(s.sh c).lowI=k∧s.best xs=(k*s.C+c:Nat):=by
 have main:∀(xs pre:List Int) (b:Int),((b=-1∧∀x∈pre,0≤x→x<s.C→(s.sh x.toNat).lowI=-1)∨∃c k:Nat,c<s.C∧(c:Int)∈pre∧(s.sh c).lowI=k∧b=(k*s.C+c:Nat)) →
   ((xs.foldl s.better b=-1∧∀x∈pre++xs,0≤x→x<s.C→(s.sh x.toNat).lowI=-1)∨∃c k:Nat,c<s.C∧(c:Int)∈pre++xs∧(s.sh c).lowI=k∧xs.foldl s.better b=(k*s.C+c:Nat)):=by
  intro xs;induction xs with
  |nil=>intro pre b h;simpa using h
  |cons x xs ih =>
   intro pre b h;have:=ih (pre++[x]) (s.better b x) ?_
   ·simpa using this
   ·unfold CmS.better
    by_cases h0:0≤x∧x<s.C
    ·rw [if_pos h0]
     by_cases h1:0≤(s.sh x.toNat).lowI∧(b<0∨(s.sh x.toNat).lowI*s.C+x<b)
     ·rw [if_pos h1]
      refine .inr ⟨x.toNat,(s.sh x.toNat).lowI.toNat,by omega,by rw [show ((x.toNat:Nat):Int)=x by omega];simp,by omega,?_⟩;rw [Int.natCast_add,Int.natCast_mul,show (((s.sh x.toNat).lowI.toNat:Nat):Int)=(s.sh x.toNat).lowI by omega,show ((x.toNat:Nat):Int)=x by omega]
     ·rw [if_neg h1]
      rcases h with ⟨h2,h3⟩|⟨c,k,h2,h3,h4,h5⟩
      ·refine .inl ⟨h2,fun y hy y0 y1=>?_⟩
       rcases List.mem_append.1 hy with hy|hy
       ·exact h3 y hy y0 y1
       ·have:y=x:=by simpa using hy
        subst this;have:=low_lt (s.sh y.toNat);omega
      ·exact .inr ⟨c,k,h2,by simp [h3],h4,h5⟩
    ·rw [if_neg h0]
     rcases h with ⟨h2,h3⟩|⟨c,k,h2,h3,h4,h5⟩
     ·refine .inl ⟨h2,fun y hy y0 y1=>?_⟩
      rcases List.mem_append.1 hy with hy|hy
      ·exact h3 y hy y0 y1
      ·have:y=x:=by simpa using hy
       subst this;exact absurd ⟨y0,y1⟩ h0
     ·exact .inr ⟨c,k,h2,by simp [h3],h4,h5⟩
 have:=main xs [] (-1) (.inl ⟨rfl,fun x hx=>by cases hx⟩);simpa [CmS.best] using this
theorem low_neg{s:ShS}(h:s.lowI=-1):s.cnt=0:=by
 rcases low_cases s with ⟨_,e⟩|⟨k,e,_⟩
 ·unfold ShS.low at e
  rw [List.find?_eq_none] at e;unfold ShS.cnt;rw [List.countP_eq_zero];exact e
 ·omega
theorem fre_map(s:CmS):∀(l:List Int),l.Nodup→(∀x∈l,0≤x∧x<s.C)→s.fre l=(l.map fun c=>(s.sh c.toNat).cnt).sum:=by
 have main:∀(xs pre:List Int),(pre++xs).Nodup→(∀x∈pre++xs,0≤x∧x<s.C)→s.fre pre=(pre.map fun c=>(s.sh c.toNat).cnt).sum→s.fre (pre++xs)=((pre++xs).map fun c=>(s.sh c.toNat).cnt).sum:=by
  intro xs;induction xs with
  |nil=>intro pre _ _ h;simpa using h
  |cons x xs ih =>
   intro pre hn hr h;have e:pre++x :: xs=(pre++[x])++xs:=by simp
   rw [e] at hn hr ⊢;refine ih (pre++[x]) hn hr ?_;have hx:=hr x (by simp);have hnx:x∉pre:=by
    have:=(List.nodup_append.1 (List.nodup_append.1 hn).1).2.2;exact fun q=>this x q x (by simp) rfl
   obtain⟨c,rfl⟩:∃c:Nat,x=c:=⟨x.toNat,by omega⟩
   rw [fre_take s (by omega) hnx,h];simp
 intro l hn hr;have:=main l [] (by simpa using hn) (by simpa using hr) (by
  unfold CmS.fre;have:∀k,freS s (fun c=>decide ((c:Int)∈([]:List Int))) k=0:=by
   intro k;induction k with
   |zero=>rfl
   |succ k ih=>unfold freS;rw [ih];simp
  rw [this];rfl)
 simpa using this
structure TbOk(cm:CmS)(win:List Int)(tb:TbS):Prop where
 rise:Rise tb.pg∧Rise tb.lc
 inv:∀v p,mGet tb.pg v=some p↔mGet tb.lc p=some v
 rng:∀v p,mGet tb.pg v=some p→(256≤v∧v<6400)∧(0≤p∧p<cm.P)∧((p.toNat%cm.C:Nat):Int)∈win∧cm.free p.toNat=false
 wok:win.Nodup∧∀x∈win,0≤x∧x<cm.C
 cov:∀c:Nat,(c:Int)∈win→(cm.sh c).cnt+tb.pg.countP (fun x=>decide (x.2.toNat%cm.C=c))=cm.P/cm.C
theorem sum_one:∀{win:List Int},win.Nodup→∀{x:Int},x∈win→∀(g:Int→Nat),(win.map fun c=>g c+if x=c then 1 else 0).sum=(win.map g).sum+1
 |[],_,x,hx,_=>by cases hx
 |a :: l,hn,x,hx,g=>by
  rw [List.nodup_cons] at hn;simp only [List.map_cons,List.sum_cons];by_cases e:x=a
  ·subst e
   rw [if_pos rfl];have:(l.map fun c=>g c+if x=c then 1 else 0)=l.map g:=by
    refine List.map_congr_left fun c hc=>?_
    rw [if_neg (fun q=>hn.1 (by rw [q];exact hc))];rfl
   rw [this];omega
  ·rw [if_neg e,sum_one hn.2 (by rcases List.mem_cons.1 hx with q|q;exact absurd q e;exact q) g];omega
theorem sum_zero:∀(l:List Int),(l.map fun _=>0).sum=0
 |[]=>rfl
 |_ :: l=>by simp only [List.map_cons,List.sum_cons,sum_zero l]
theorem sum_countP{α:Type}{win:List Int}(hn:win.Nodup)(h0:∀c∈win,0≤c)(f:α→Nat):∀(l:List α),(∀x∈l,((f x:Nat):Int)∈win)→(win.map fun c=>l.countP (fun x=>decide (f x=c.toNat))).sum=l.length
 |[],_=>by
  simp only [List.countP_nil,List.length_nil];exact sum_zero win
 |x :: l,h=>by
  have ih:=sum_countP hn h0 f l (fun y hy=>h y (by simp [hy]));have h1:=sum_one hn (h x (by simp)) (fun c=>l.countP (fun x=>decide (f x=c.toNat)));rw [ih] at h1;rw [List.length_cons,←h1]
  congr 1
  refine List.map_congr_left fun c hc=>?_
  have:=h0 c hc;rw [List.countP_cons]
  congr 1
  by_cases e:f x=c.toNat
  ·rw [if_pos (by simpa using e),if_pos (by omega)]
  ·rw [if_neg (by simpa using e),if_neg (by omega)]
theorem TbOk.fre{cm:CmS}{win:List Int}{tb:TbS}(h:TbOk cm win tb):cm.fre win+tb.pg.length=win.length*(cm.P/cm.C):=by
 rw [fre_map cm win h.wok.1 h.wok.2];have hs:=sum_countP h.wok.1 (fun c hc=>(h.wok.2 c hc).1) (fun x:Int×Int=>x.2.toNat%cm.C) tb.pg (fun x hx=>(h.rng x.1 x.2 (mGet_of h.rise.1 hx)).2.2.1);rw [←hs];have main:∀l:List Int,(∀c∈l,c∈win)→(l.map fun c=>(cm.sh c.toNat).cnt).sum+(l.map fun c=>tb.pg.countP (fun x=>decide (x.2.toNat%cm.C=c.toNat))).sum=l.length*(cm.P/cm.C):=by
  intro l;induction l with
  |nil=>intro _;simp
  |cons a l ih =>
   intro hl;have h1:=ih (fun c hc=>hl c (by simp [hc]));have ha:=h.wok.2 a (hl a (by simp));have h2:=h.cov a.toNat (by rw [show ((a.toNat:Nat):Int)=a by omega];exact hl a (by simp));simp only [List.map_cons,List.sum_cons,List.length_cons,Nat.add_mul,Nat.one_mul];omega
 exact main win (fun c hc=>hc)
theorem lookV_some{M:List (Int×Int)}{k p:Int}(h:mGet M k=some p):lookV M k=p:=by unfold lookV;rw [h];rfl
theorem lookV_none{M:List (Int×Int)}{k:Int}(h:mGet M k=none):lookV M k=-1:=by unfold lookV;rw [h];rfl
theorem countP_ins{M:List (Int×Int)}{k p:Int}(h:mGet M k=none)(f:Int×Int→Bool):(mIns k p M).countP f=M.countP f+(if f (k,p) then 1 else 0):=by
 rw [(mIns_new h p).countP_eq,List.countP_cons]
theorem countP_del{M:List (Int×Int)}(hr:Rise M){k p:Int}(h:mGet M k=some p)(f:Int×Int→Bool):(mDel k M).countP f+(if f (k,p) then 1 else 0)=M.countP f:=by
 obtain⟨A,B,h1,_,h3⟩:=mAt hr (mGet_mem h);rw [h3,h1,List.countP_append,List.countP_append,List.countP_cons];omega
theorem len_ins{α:Type}{M:List (Int×α)}{k:Int}{p:α}(h:mGet M k=none):(mIns k p M).length=M.length+1:=by
 rw [(mIns_new h p).length_eq];rfl
theorem len_del{α:Type}{M:List (Int×α)}(hr:Rise M){k:Int}{p:α}(h:mGet M k=some p):(mDel k M).length+1=M.length:=by
 obtain⟨A,B,h1,_,h3⟩:=mAt hr (mGet_mem h);rw [h3,h1];simp;omega
theorem TbOk.pick{cm:CmS}{win W:List Int}{tb:TbS}(h:TbOk cm win tb)(hok:cm.ok)(hW:∀x∈W,x∈win)(hn:W.Nodup)(hf:0<cm.fre W) :
  ∃p:Nat,p<cm.P∧((p%cm.C:Nat):Int)∈W∧cm.free p=true∧cm.tkV W=p∧cm.tkE W=0∧cm.tk W=cm.fl p:=by
 obtain⟨o1,o2,o3,o4,o5,o6⟩:=hok;rcases best_spec cm o1 W with ⟨e1,e2⟩|⟨c,k,hc,hcW,hl,hb⟩
 ·exfalso
  rw [fre_map cm W hn (fun x hx=>h.wok.2 x (hW x hx))] at hf;have:(W.map fun c=>(cm.sh c.toNat).cnt)=W.map fun _=>0:=List.map_congr_left fun c hc=>by
   have:=h.wok.2 c (hW c hc);exact low_neg (e2 c hc this.1 this.2)
  rw [this,sum_zero] at hf;omega
 ·have hlow:k<(cm.sh c).n∧(cm.sh c).f k=true:=by
   rcases low_cases (cm.sh c) with ⟨e,_⟩|⟨j,e,_,h1,h2⟩
   ·omega
   ·have:j=k:=by omega
    subst this;exact⟨h1,h2⟩
  have hmod:(k*cm.C+c)%cm.C=c:=by rw [Nat.mul_comm,Nat.mul_add_mod];exact Nat.mod_eq_of_lt hc
  have hdiv:(k*cm.C+c)/cm.C=k:=by rw [Nat.mul_comm,Nat.mul_add_div o1,Nat.div_eq_of_lt hc];omega
  have hP:k*cm.C+c<cm.P:=by
   have:=hlow.1;rw [o6 c hc] at this;have h2:(k+1)*cm.C≤cm.P/cm.C*cm.C:=Nat.mul_le_mul_right _ this;rw [Nat.div_mul_cancel (Nat.dvd_of_mod_eq_zero o5),Nat.add_mul] at h2;omega
  generalize hp:k*cm.C+c=p at *;have hfree:cm.free p=true:=by unfold CmS.free;rw [hmod,hdiv];exact hlow.2
  have hb0:¬cm.best W<0:=by omega
  have hbt:(cm.best W).toNat=p:=by omega
  refine⟨p,hP,by rw [hmod];exact hcW,hfree,by unfold CmS.tkV;rw [if_neg hb0,hb],?_,?_⟩
  ·unfold CmS.tkE
   rw [if_neg hb0,hbt,hmod,hdiv];unfold ShS.takeE;rw [if_pos ⟨by omega,by have:=hlow.1;omega⟩,Int.toNat_natCast,hlow.2];rfl
  ·unfold CmS.tk CmS.fl
   rw [if_neg hb0,hbt,hmod,hdiv];unfold ShS.take;rw [Int.toNat_natCast,if_pos ⟨⟨by omega,by have:=hlow.1;omega⟩,hlow.2⟩]
theorem TbOk.lcNone{cm:CmS}{win:List Int}{tb:TbS}(h:TbOk cm win tb){p:Nat}(hf:cm.free p=true):mGet tb.lc p=none:=by
 cases e:mGet tb.lc p with
 |none=>rfl
 |some u =>
  have:=(h.rng u p ((h.inv u p).2 e)).2.2.2;rw [Int.toNat_natCast,hf] at this;cases this
theorem TbOk.put{cm:CmS}{win:List Int}{tb:TbS}(h:TbOk cm win tb)(hok:cm.ok){p:Nat}(hP:p<cm.P)(hcw:((p%cm.C:Nat):Int)∈win)(hfree:cm.free p=true){v:Int}(hv:256≤v∧v<6400)(hno:mGet tb.pg v=none) :
  TbOk (cm.fl p) win ⟨mIns v p tb.pg,mIns p v tb.lc⟩:=by
 have hlc:=h.lcNone hfree;have o1:=hok.1;refine⟨⟨mIns_rise h.rise.1 _ _,mIns_rise h.rise.2 _ _⟩,fun v' p'=>?_,fun v' p' hg=>?_,h.wok,fun d hd=>?_⟩
 ·by_cases e:v'=v
  ·subst e
   rw [mGet_ins_same h.rise.1];by_cases e2:p'=p
   ·subst e2;rw [mGet_ins_same h.rise.2];simp
   ·rw [mGet_ins_other e2]
    constructor
    ·intro q;exact absurd (by simpa using q.symm) e2
    ·intro q;have:=(h.inv v' p').2 q;rw [hno] at this;cases this
  ·rw [mGet_ins_other e]
   by_cases e2:p'=p
   ·subst e2
    rw [mGet_ins_same h.rise.2];constructor
    ·intro q;have:=(h.inv v' p).1 q;rw [hlc] at this;cases this
    ·intro q;exact absurd (by simpa using q.symm) e
   ·rw [mGet_ins_other e2];exact h.inv v' p'
 ·replace hg:mGet (mIns v (p:Int) tb.pg) v'=some p':=hg
  by_cases e:v'=v
  ·subst e
   rw [mGet_ins_same h.rise.1] at hg;injection hg with hg
   subst hg;refine⟨hv,⟨by omega,by show ((p:Nat):Int)<(cm.P:Int);omega⟩,?_,?_⟩
   ·show (((p:Int).toNat%cm.C:Nat):Int)∈win
    rw [Int.toNat_natCast];exact hcw
   ·rw [Int.toNat_natCast,fl_free _ _ _ o1,if_pos rfl,hfree];rfl
  ·rw [mGet_ins_other e] at hg
   obtain⟨r1,r2,r3,r4⟩:=h.rng v' p' hg;refine⟨r1,r2,r3,?_⟩;rw [fl_free _ _ _ o1]
   split
   ·rename_i e3;rw [e3,hfree] at r4;cases r4
   ·exact r4
 ·have h1:=h.cov d hd
  have h2:=fl_cnt hok hP d;rw [hfree] at h2;show ((cm.fl p).sh d).cnt+(mIns v (p:Int) tb.pg).countP _=_;rw [countP_ins hno];simp only [Int.toNat_natCast] at h1 ⊢;have e5:(cm.fl p).P/(cm.fl p).C=cm.P/cm.C:=rfl;have e6:(cm.fl p).C=cm.C:=rfl;rw [e5,e6];by_cases e:d=p%cm.C
  ·rw [if_pos e] at h2
   rw [if_pos (by simp [e])];simp only [if_true] at h2;omega
  ·rw [if_neg e] at h2
   rw [if_neg (by simpa using fun q=>e q.symm)];omega
theorem TbOk.take{cm:CmS}{win W:List Int}{tb:TbS}(h:TbOk cm win tb)(hok:cm.ok)(hW:∀x∈W,x∈win)(hn:W.Nodup)(hf:0<cm.fre W){v:Int}(hv:256≤v∧v<6400)(hno:mGet tb.pg v=none) :
  ∃p:Nat,p<cm.P∧((p%cm.C:Nat):Int)∈W∧cm.free p=true∧cm.tkV W=p∧cm.tkE W=0∧cm.tk W=cm.fl p∧mGet tb.lc p=none∧TbOk (cm.fl p) win ⟨mIns v p tb.pg,mIns p v tb.lc⟩:=by
 obtain⟨p,p1,p2,p3,p4,p5,p6⟩:=h.pick hok hW hn hf;exact⟨p,p1,p2,p3,p4,p5,p6,h.lcNone p3,h.put hok p1 (hW _ p2) p3 hv hno⟩
theorem give_taken{s:ShS}{k:Nat}(hk:k<s.n)(hf:s.f k=false):s.giveE k=0∧s.give k=s.flip k:=by
 have hb:(0:Int)≤(k:Int)∧(k:Int)<(s.n:Int):=⟨by omega,by omega⟩
 constructor
 ·unfold ShS.giveE;rw [Int.toNat_natCast,hf,if_pos hb];rfl
 ·unfold ShS.give;rw [Int.toNat_natCast,if_pos ⟨hb,hf⟩]
theorem TbOk.drop{cm:CmS}{win:List Int}{tb:TbS}(h:TbOk cm win tb)(hok:cm.ok){v p:Int}(hg:mGet tb.pg v=some p) :
  ∃q:Nat,p=q∧q<cm.P∧((q%cm.C:Nat):Int)∈win∧cm.free q=false∧cm.giveE p=0∧cm.give p=cm.fl q∧tb.unE v=0∧tb.unV v=p∧tb.un v=⟨mDel v tb.pg,mDel p tb.lc⟩∧TbOk (cm.fl q) win ⟨mDel v tb.pg,mDel p tb.lc⟩:=by
 obtain⟨o1,o2,o3,o4,o5,o6⟩:=hok;have hok:cm.ok:=⟨o1,o2,o3,o4,o5,o6⟩
 obtain⟨r1,r2,r3,r4⟩:=h.rng v p hg;obtain⟨q,rfl⟩:∃q:Nat,p=q:=⟨p.toNat,by omega⟩
 rw [Int.toNat_natCast] at r3 r4;have hq:q<cm.P:=by omega
 obtain⟨d1,d2,d3⟩:=hok.div hq;have r4':(cm.sh (q%cm.C)).f (q/cm.C)=false:=r4;have hl:=lookV_some hg;have hlc:=(h.inv v q).1 hg;refine⟨q,rfl,hq,r3,r4,?_,?_,?_,?_,?_,?_⟩
 ·unfold CmS.giveE;rw [if_pos r2,Int.toNat_natCast];exact(give_taken d3 r4').1
 ·unfold CmS.give CmS.fl;rw [if_pos r2,Int.toNat_natCast,(give_taken d3 r4').2]
 ·unfold TbS.unE;rw [hl,if_neg (by omega)]
 ·unfold TbS.unV;rw [hl,if_neg (by omega)]
 ·unfold TbS.un;rw [hl,if_neg (by omega)]
 ·refine⟨⟨mDel_rise h.rise.1 _,mDel_rise h.rise.2 _⟩,fun v' p'=>?_,fun v' p' hg'=>?_,h.wok,fun d hd=>?_⟩
  ·show mGet (mDel v tb.pg) v'=some p'↔mGet (mDel (q:Int) tb.lc) p'=some v'
   by_cases e:v'=v
   ·subst e
    rw [mGet_del_same h.rise.1];by_cases e2:p'=q
    ·subst e2;rw [mGet_del_same h.rise.2];simp
    ·rw [mGet_del_other e2]
     constructor
     ·intro x;cases x
     ·intro x
      have:=(h.inv v' p').2 x;rw [hg] at this;exact absurd (by simpa using this.symm) e2
   ·rw [mGet_del_other e]
    by_cases e2:p'=q
    ·subst e2
     rw [mGet_del_same h.rise.2];constructor
     ·intro x
      have:=(h.inv v' q).1 x;rw [hlc] at this;exact absurd (by simpa using this.symm) e
     ·intro x;cases x
    ·rw [mGet_del_other e2];exact h.inv v' p'
  ·replace hg':mGet (mDel v tb.pg) v'=some p':=hg'
   by_cases e:v'=v
   ·subst e;rw [mGet_del_same h.rise.1] at hg';cases hg'
   ·rw [mGet_del_other e] at hg'
    obtain⟨s1,s2,s3,s4⟩:=h.rng v' p' hg';refine⟨s1,s2,s3,?_⟩;rw [fl_free _ _ _ o1,if_neg]
    ·exact s4
    ·intro x
     have hx:p'=q:=by omega
     subst hx;have:=(h.inv v' q).1 hg';rw [hlc] at this;exact e (by simpa using this.symm)
  ·have h1:=h.cov d hd
   have h2:=fl_cnt hok hq d;rw [r4] at h2;have h3:=countP_del h.rise.1 hg (fun x=>decide (x.2.toNat%cm.C=d));simp only [Int.toNat_natCast] at h3;show ((cm.fl q).sh d).cnt+(mDel v tb.pg).countP _=_;have e5:(cm.fl q).P/(cm.fl q).C=cm.P/cm.C:=rfl;have e6:(cm.fl q).C=cm.C:=rfl;rw [e5,e6];by_cases e:d=q%cm.C
   ·rw [if_pos e] at h2
    rw [if_pos (by simp [e])] at h3;simp only [Bool.false_eq_true,if_false] at h2;omega
   ·rw [if_neg e] at h2
    rw [if_neg (by simpa using fun q=>e q.symm)] at h3;omega
end
section
open Go.RowKit
def hdI:List Int→Int
 |[]=>-1
 |a :: _=>a
def lsI(pr:Int):List Int→Int
 |[]=>pr
 |a :: l=>lsI a l
def nb(pr:Int):List Int→Int→Option (Int×Int)
 |[],_=>none
 |a :: l,k=>if k=a then some (pr,hdI l) else nb a l k
theorem nb_none{k:Int}:∀{l:List Int} (pr:Int),k∉l→nb pr l k=none
 |[],_,_=>rfl
 |a :: l,pr,h=>by
  simp at h
  rw [nb,if_neg h.1,nb_none a h.2]
theorem nb_mem{k:Int}:∀{l:List Int} (pr:Int),(nb pr l k).isSome=true↔k∈l
 |[],_=>by simp [nb]
 |a :: l,pr=>by
  rw [nb];by_cases e:k=a
  ·rw [if_pos e];simp [e]
  ·rw [if_neg e,nb_mem a];simp [e]
theorem lsI_mem:∀{l:List Int} (pr:Int),l≠[]→lsI pr l∈l
 |[],_,h=>absurd rfl h
 |[a],_,_=>by simp [lsI]
 |a :: b :: l,_,_=>by
  have:=lsI_mem (l:=b :: l) a (by simp);exact List.mem_cons_of_mem _ this
theorem hdI_snoc(l:List Int)(k:Int):hdI (l++[k])=if l=[] then k else hdI l:=by
 cases l<;>simp [hdI]
theorem lsI_snoc:∀(l:List Int) (pr k:Int),lsI pr (l++[k])=k
 |[],_,_=>rfl
 |a :: l,_,k=>lsI_snoc l a k
theorem nb_snoc{k:Int}(j:Int):∀{l:List Int} (pr:Int),l.Nodup→k∉l→nb pr (l++[k]) j=if j=k then some (lsI pr l,-1) else if l≠[]∧j=lsI pr l then (nb pr l j).map (fun x=>(x.1,k)) else nb pr l j
 |[],pr,_,_=>by
  show (if j=k then some (pr,hdI []) else none)=_;by_cases e:j=k
  ·rw [if_pos e,if_pos e];rfl
  ·rw [if_neg e,if_neg e,if_neg (by simp)];rfl
 |a :: l,pr,hn,hk=>by
  rw [List.nodup_cons] at hn;simp at hk
  show (if j=a then some (pr,hdI (l++[k])) else nb a (l++[k]) j)=_;by_cases e:j=a
  ·subst e
   rw [if_pos rfl,if_neg (fun q=>hk.1 q.symm),hdI_snoc];cases l with
   |nil=>rw [if_pos rfl,if_pos ⟨by simp,rfl⟩];simp [nb]
   |cons b l =>
    have:=lsI_mem (l:=b :: l) j (by simp);rw [if_neg (by simp),if_neg]
    ·simp [nb]
    ·rintro ⟨_,q⟩;exact hn.1 (by rw [q];exact this)
  ·rw [if_neg e,nb_snoc j a hn.2 hk.2]
   have e2:nb pr (a :: l) j=nb a l j:=by rw [nb,if_neg e]
   have e3:lsI pr (a :: l)=lsI a l:=rfl;rw [e2,e3];by_cases e4:j=k
   ·rw [if_pos e4,if_pos e4]
   ·rw [if_neg e4,if_neg e4]
    by_cases e5:l=[]
    ·subst e5
     rw [if_neg (by simp),if_neg];rintro ⟨_,q⟩;exact e q
    ·by_cases e6:j=lsI a l
     ·rw [if_pos ⟨e5,e6⟩,if_pos ⟨by simp,e6⟩]
     ·rw [if_neg (fun q=>e6 q.2),if_neg (fun q=>e6 q.2)]
theorem hd_nb{l:List Int}(hn:l.Nodup){x j:Int}(pr:Int):nb pr l j=if j∈l∧j=hdI l then (nb x l j).map (fun y=>(pr,y.2)) else nb x l j:=by
 cases l with
 |nil=>rw [if_neg (by simp)];rfl
 |cons b l =>
  rw [nb,nb];by_cases e:j=b
  ·subst e
   rw [if_pos rfl,if_pos rfl,if_pos ⟨by simp,rfl⟩];rfl
  ·rw [if_neg e,if_neg e,if_neg (fun q=>e q.2)]
theorem nb_erase{k a b:Int}(j:Int)(hj:j≠k):∀{l:List Int} (pr:Int),l.Nodup→pr∉l→(-1)∉l→nb pr l k=some (a,b) →
  nb pr (l.erase k) j=if j∈l∧j=a then (nb pr l j).map (fun x=>(x.1,b)) else if j∈l∧j=b then (nb pr l j).map (fun x=>(a,x.2)) else nb pr l j
 |[],_,_,_,_,h=>by cases h
 |x :: l,pr,hn,hp,hm,h=>by
  rw [List.nodup_cons] at hn;simp only [List.mem_cons,not_or] at hp hm;by_cases e:k=x
  ·subst e
   rw [nb,if_pos rfl] at h;injection h with h
   injection h with h1 h2
   subst h1 h2;rw [List.erase_cons_head,nb,if_neg hj,hd_nb hn.2 (x:=k) pr];have c1:¬(j∈k :: l∧j=pr):=by
    rintro ⟨q,rfl⟩;rcases List.mem_cons.1 q with q|q
    ·exact hj q
    ·exact hp.2 q
   rw [if_neg c1];by_cases c2:j∈l∧j=hdI l
   ·rw [if_pos c2,if_pos ⟨List.mem_cons_of_mem _ c2.1,c2.2⟩]
   ·rw [if_neg c2,if_neg]
    rintro ⟨q1,q2⟩;exact c2 ⟨(List.mem_cons.1 q1).resolve_left hj,q2⟩
  ·rw [nb,if_neg e] at h
   rw [List.erase_cons_tail (by simpa using fun q=>e q.symm)];by_cases ej:j=x
   ·subst ej
    rw [nb,if_pos rfl,nb,if_pos rfl];have hmem:k∈l:=(nb_mem j).1 (by rw [h];rfl);cases l with
    |nil=>cases hmem
    |cons y l =>
     by_cases ek:k=y
     ·subst ek
      rw [nb,if_pos rfl] at h;injection h with h
      injection h with h1 h2
      subst h1 h2;rw [List.erase_cons_head,if_pos ⟨by simp,rfl⟩];rfl
     ·have ha:j≠a:=by
       rintro rfl;rw [nb,if_neg ek] at h;have:∀{l:List Int} {pr p:Int} {q:Int},nb pr l k=some (p,q)→p=pr∨p∈l:=by
        intro l;induction l with
        |nil=>intro pr p q h;cases h
        |cons z l ih =>
         intro pr p q h;rw [nb] at h
         split at h
         ·injection h with h;injection h with h1 h2;exact .inl h1.symm
         ·rcases ih h with q|q
          ·exact .inr (by rw [q];simp)
          ·exact .inr (List.mem_cons_of_mem _ q)
       rcases this h with q|q
       ·exact hn.1 (by rw [q];simp)
       ·exact hn.1 (List.mem_cons_of_mem _ q)
      have hb:j≠b:=by
       rintro rfl;rw [nb,if_neg ek] at h;have:∀{l:List Int} {pr p:Int} {q:Int},nb pr l k=some (p,q)→q=-1∨q∈l:=by
        intro l;induction l with
        |nil=>intro pr p q h;cases h
        |cons z l ih =>
         intro pr p q h;rw [nb] at h
         split at h
         ·injection h with h;injection h with h1 h2
          cases l with
          |nil=>exact .inl h2.symm
          |cons u l=>exact .inr (by rw [←h2];simp [hdI])
         ·rcases ih h with q|q
          ·exact .inl q
          ·exact .inr (List.mem_cons_of_mem _ q)
       rcases this h with q|q
       ·exact hm.1 q.symm
       ·exact hn.1 (List.mem_cons_of_mem _ q)
      rw [if_neg (fun q=>ha q.2),if_neg (fun q=>hb q.2),List.erase_cons_tail (by simpa using fun q=>ek q.symm)];rfl
   ·rw [nb,if_neg ej,nb_erase j hj x hn.2 hn.1 hm.2 h]
    have e2:nb pr (x :: l) j=nb x l j:=by rw [nb,if_neg ej]
    have e3:j∈x :: l↔j∈l:=by simp [ej]
    rw [e2];simp only [e3]
theorem nb_fst{k a b:Int}:∀{l:List Int} {pr:Int},nb pr l k=some (a,b)→a=pr∨a∈l
 |[],_,h=>by cases h
 |z :: l,pr,h=>by
  rw [nb] at h
  split at h
  ·injection h with h;injection h with h1 h2;exact .inl h1.symm
  ·rcases nb_fst h with q|q
   ·exact .inr (by rw [q];simp)
   ·exact .inr (List.mem_cons_of_mem _ q)
theorem nb_snd{k a b:Int}:∀{l:List Int} {pr:Int},nb pr l k=some (a,b)→b=-1∨b∈l
 |[],_,h=>by cases h
 |z :: l,pr,h=>by
  rw [nb] at h
  split at h
  ·injection h with h;injection h with h1 h2
   cases l with
   |nil=>exact .inl h2.symm
   |cons u l=>exact .inr (by rw [←h2];simp [hdI])
  ·rcases nb_snd h with q|q
   ·exact .inl q
   ·exact .inr (List.mem_cons_of_mem _ q)
theorem ls_erase{k a b:Int}:∀{l:List Int} (pr:Int),(-1)∉l→nb pr l k=some (a,b)→lsI pr (l.erase k)=if b=-1 then a else lsI pr l
 |[],_,_,h=>by cases h
 |x :: l,pr,hm,h=>by
  simp only [List.mem_cons,not_or] at hm;by_cases e:k=x
  ·subst e
   rw [nb,if_pos rfl] at h;injection h with h
   injection h with h1 h2
   subst h1 h2;rw [List.erase_cons_head];cases l with
   |nil=>rfl
   |cons y l =>
    rw [if_neg]
    ·rfl
    ·intro q;exact hm.2 (by rw [←q];simp [hdI])
  ·rw [nb,if_neg e] at h
   rw [List.erase_cons_tail (by simpa using fun q=>e q.symm)];exact ls_erase x hm.2 h
theorem hd_erase{k a b:Int}{l:List Int}(hm:(-1)∉l)(h:nb (-1) l k=some (a,b)):hdI (l.erase k)=if a=-1 then b else hdI l:=by
 cases l with
 |nil=>cases h
 |cons x l =>
  simp only [List.mem_cons,not_or] at hm;by_cases e:k=x
  ·subst e
   rw [nb,if_pos rfl] at h;injection h with h
   injection h with h1 h2
   subst h1 h2;rw [List.erase_cons_head,if_pos rfl]
  ·rw [nb,if_neg e] at h
   rw [List.erase_cons_tail (by simpa using fun q=>e q.symm),if_neg]
   ·rfl
   ·intro q
    rcases nb_fst h with q2|q2
    ·exact hm.1 (by rw [←q,q2])
    ·exact hm.2 (by rw [←q];exact q2)
structure LnIs(s:LnS)(l:List Int):Prop where
 nodup:l.Nodup
 pos:∀k∈l,0≤k
 rise:Rise s.m
 first:s.first=hdI l
 last:s.last=lsI (-1) l
 get:∀k,mGet s.m k=nb (-1) l k
 len:s.m.length=l.length
theorem LnIs.neg{s:LnS}{l:List Int}(h:LnIs s l):(-1)∉l:=fun q=>by have:=h.pos _ q;omega
theorem LnIs.new:LnIs LnS.new []:=⟨List.nodup_nil,fun k h=>(nomatch h),List.Pairwise.nil,rfl,rfl,fun _=>rfl,rfl⟩
theorem LnIs.has{s:LnS}{l:List Int}(h:LnIs s l)(k:Int):s.has k=decide (k∈l):=by
 unfold LnS.has;rw [h.get k];by_cases e:k∈l
 ·rw [decide_eq_true e,(nb_mem (-1)).2 e]
 ·rw [decide_eq_false e,nb_none _ e];rfl
theorem len_ins_some{α:Type}{M:List (Int×α)}(hr:Rise M){k:Int}{u:α}(h:mGet M k=some u)(p:α):(mIns k p M).length=M.length:=by
 obtain⟨A,B,h1,h2,_⟩:=mAt hr (mGet_mem h);rw [h2,h1];simp
section
variable{s:LnS}(hr:Rise s.m)(a b:Int)
 include hr
theorem tieA_get(j:Int):mGet (s.tieA a b).m j=if a≠-1∧j=a then some ((s.near a).1,b) else mGet s.m j:=by
 unfold LnS.tieA;by_cases e:a=-1
 ·rw [if_pos e,if_neg (fun q=>q.1 e)]
 ·rw [if_neg e]
  by_cases e2:j=a
  ·subst e2;rw [if_pos ⟨e,rfl⟩];exact mGet_ins_same hr _ _
  ·rw [if_neg (fun q=>e2 q.2)];exact mGet_ins_other e2 _
theorem tieB_get(j:Int):mGet (s.tieB a b).m j=if b≠-1∧j=b then some (a,(s.near b).2) else mGet s.m j:=by
 unfold LnS.tieB;by_cases e:b=-1
 ·rw [if_pos e,if_neg (fun q=>q.1 e)]
 ·rw [if_neg e]
  by_cases e2:j=b
  ·subst e2;rw [if_pos ⟨e,rfl⟩];exact mGet_ins_same hr _ _
  ·rw [if_neg (fun q=>e2 q.2)];exact mGet_ins_other e2 _
theorem tieA_leq(h:a≠-1→(mGet s.m a).isSome=true):(s.tieA a b).m.length=s.m.length:=by
 unfold LnS.tieA;by_cases e:a=-1
 ·rw [if_pos e]
 ·rw [if_neg e]
  obtain⟨u,hu⟩:=Option.isSome_iff_exists.1 (h e);exact len_ins_some hr hu _
theorem tieB_leq(h:b≠-1→(mGet s.m b).isSome=true):(s.tieB a b).m.length=s.m.length:=by
 unfold LnS.tieB;by_cases e:b=-1
 ·rw [if_pos e]
 ·rw [if_neg e]
  obtain⟨u,hu⟩:=Option.isSome_iff_exists.1 (h e);exact len_ins_some hr hu _
theorem tie_get(hab:a=b→a=-1)(j:Int):mGet (s.tie a b).m j=if b≠-1∧j=b then some (a,(s.near b).2) else if a≠-1∧j=a then some ((s.near a).1,b) else mGet s.m j:=by
 unfold LnS.tie;rw [tieB_get (tieA_len hr a b).2,tieA_get hr];by_cases e:b≠-1∧j=b
 ·rw [if_pos e,if_pos e]
  congr 2
  unfold LnS.near;rw [tieA_get hr,if_neg (fun q=>q.1 (hab q.2.symm))]
 ·rw [if_neg e,if_neg e]
theorem tie_rise:Rise (s.tie a b).m:=(tieB_len (tieA_len hr a b).2 a b).2
theorem tie_leq(h:a≠-1→(mGet s.m a).isSome=true)(h2:b≠-1→(mGet s.m b).isSome=true):(s.tie a b).m.length=s.m.length:=by
 unfold LnS.tie;rw [tieB_leq (tieA_len hr a b).2 a b,tieA_leq hr a b h];intro e;rw [tieA_get hr]
 split
 ·rfl
 ·exact h2 e
end
theorem tie_ends(s:LnS)(a b:Int):(s.tie a b).first=(if a=-1 then b else s.first)∧(s.tie a b).last=(if b=-1 then a else s.last):=by
 unfold LnS.tie LnS.tieA LnS.tieB;constructor<;>(split<;>split<;>rfl)
theorem near_eq{s:LnS}{k:Int}{x:Int×Int}(h:mGet s.m k=some x):s.near k=x:=by unfold LnS.near;rw [h];rfl
theorem LnIs.push{s:LnS}{l:List Int}(h:LnIs s l){k:Int}(hk:0≤k)(hn:k∉l):s.pushE k=0∧LnIs (s.push k) (l++[k]):=by
 have e0:s.pushE k=0:=by
  unfold LnS.pushE;rw [if_neg (by omega),h.has,decide_eq_false hn,if_neg (by simp)]
 refine⟨e0,?_⟩;unfold LnS.push;rw [if_pos e0];have hno:mGet s.m k=none:=by rw [h.get,nb_none _ hn]
 have hnd:(l++[k]).Nodup:=List.nodup_append.2 ⟨h.nodup,by simp,fun x hx y hy e=>hn (by rw [←List.mem_singleton.1 hy,←e];exact hx)⟩;have hpos:∀x∈l++[k],0≤x:=fun x hx=>by
  rcases List.mem_append.1 hx with q|q
  ·exact h.pos x q
  ·rw [List.mem_singleton.1 q];exact hk
 have r1:=mIns_rise h.rise k ((-1,-1):Int×Int);have l1:=len_ins hno (p:=((-1,-1):Int×Int));have hlast:l≠[]→s.last∈l:=fun e=>by rw [h.last];exact lsI_mem _ e
 have hlk:s.last=k→s.last=-1:=fun e=>by
  by_cases q:l=[]
  ·rw [h.last,q];rfl
  ·exact absurd (by rw [←e];exact hlast q) hn
 have hlm:s.last≠-1→l≠[]:=fun e q=>e (by rw [h.last,q];rfl)
 unfold LnS.put;have r2:=tie_rise (s:=⟨mIns k (-1,-1) s.m,s.first,s.last⟩) r1 s.last k;have g1:∀j,mGet (mIns k ((-1,-1):Int×Int) s.m) j=if j=k then some (-1,-1) else mGet s.m j:=fun j=>by
  by_cases e:j=k
  ·subst e;rw [if_pos rfl];exact mGet_ins_same h.rise _ _
  ·rw [if_neg e];exact mGet_ins_other e _
 have g2:∀j,mGet ((⟨mIns k (-1,-1) s.m,s.first,s.last⟩:LnS).tie s.last k).m j=if j=k then some (s.last,-1) else if s.last≠-1∧j=s.last then (mGet s.m j).map (fun x=>(x.1,k)) else mGet s.m j:=fun j=>by
  rw [tie_get r1 _ _ hlk];by_cases e:j=k
  ·rw [if_pos ⟨by omega,e⟩,if_pos e]
   rw [near_eq (x:=(-1,-1)) (by rw [g1,if_pos rfl])]
  ·rw [if_neg (fun q=>e q.2),if_neg e]
   by_cases e2:s.last≠-1∧j=s.last
   ·rw [if_pos e2,if_pos e2]
    obtain⟨x,hx⟩:=Option.isSome_iff_exists.1 ((h.get s.last)▸(nb_mem (-1)).2 (hlast (hlm e2.1)));rw [near_eq (x:=x) (by show mGet (mIns k (-1,-1) s.m) s.last=_;rw [g1,if_neg (fun q=>e2.1 (hlk q))];exact hx),e2.2,hx];rfl
   ·rw [if_neg e2,if_neg e2];show mGet (mIns k (-1,-1) s.m) j=_;rw [g1,if_neg e]
 have e1:=tie_ends (⟨mIns k (-1,-1) s.m,s.first,s.last⟩:LnS) s.last k;have e2:=tie_ends ((⟨mIns k (-1,-1) s.m,s.first,s.last⟩:LnS).tie s.last k) k (-1);refine⟨hnd,hpos,tie_rise r2 _ _,?_,?_,fun j=>?_,?_⟩
 ·rw [e2.1,if_neg (by omega),e1.1,hdI_snoc]
  by_cases q:l=[]
  ·rw [if_pos q,if_pos (by rw [h.last,q];rfl)]
  ·rw [if_neg q,if_neg (fun e=>h.neg (by rw [←e];exact hlast q))];exact h.first
 ·rw [e2.2,if_pos rfl,lsI_snoc]
 ·rw [tie_get r2 _ _ (by omega),if_neg (fun q=>q.1 rfl),nb_snoc j (-1) h.nodup hn]
  by_cases e:j=k
  ·rw [if_pos ⟨by omega,e⟩,if_pos e]
   rw [near_eq (x:=(s.last,-1)) (by rw [g2,if_pos rfl]),h.last]
  ·rw [if_neg (fun q=>e q.2),if_neg e,g2,if_neg e]
   by_cases e3:s.last≠-1∧j=s.last
   ·rw [if_pos e3,if_pos ⟨hlm e3.1,by rw [e3.2,h.last]⟩,h.get]
   ·rw [if_neg e3,if_neg,h.get]
    rintro ⟨q1,q2⟩;exact e3 ⟨fun q=>h.neg (by rw [←q];exact hlast q1),by rw [q2,h.last]⟩
 ·rw [tie_leq r2,tie_leq r1,l1,h.len]
  ·simp
  ·intro e;show (mGet (mIns k (-1,-1) s.m) _).isSome=true;rw [g1,if_neg (fun q=>e (hlk q)),h.get,nb_mem];exact hlast (hlm e)
  ·intro e;show (mGet (mIns k (-1,-1) s.m) _).isSome=true;rw [g1,if_pos rfl];rfl
  ·intro e;rw [g2,if_pos rfl];rfl
  ·intro e;exact absurd rfl e
theorem LnIs.rm{s:LnS}{l:List Int}(h:LnIs s l){k:Int}(hk:k∈l):s.rmE k=0∧LnIs (s.rm k) (l.erase k):=by
 have hh:s.has k=true:=by rw [h.has,decide_eq_true hk]
 refine⟨by unfold LnS.rmE;rw [if_pos hh],?_⟩;unfold LnS.rm;rw [if_pos hh];obtain⟨⟨a,b⟩,hx⟩:=Option.isSome_iff_exists.1 ((nb_mem (-1)).2 hk);have hg:mGet s.m k=some (a,b):=(h.get k).trans hx;have hne:s.near k=(a,b):=near_eq hg;unfold LnS.cut;rw [hne];have r1:=mDel_rise h.rise k;have g1:∀j,mGet (mDel k s.m) j=if j=k then none else mGet s.m j:=fun j=>by
  by_cases e:j=k
  ·subst e;rw [if_pos rfl];exact mGet_del_same h.rise _
  ·rw [if_neg e];exact mGet_del_other e
 have ha:=nb_fst hx;have hb:=nb_snd hx;have hak:a≠k∧b≠k∧(a=b→a=-1):=by
  have main:∀{l:List Int} {pr:Int},l.Nodup→pr∉l→nb pr l k=some (a,b)→a≠k∧b≠k∨k=-1:=by
   intro l;induction l with
   |nil=>intro pr _ _ h;cases h
   |cons x l ih =>
    intro pr hn hp h;rw [List.nodup_cons] at hn;simp only [List.mem_cons,not_or] at hp;rw [nb] at h
    split at h
    ·rename_i e
     injection h with h;injection h with h1 h2
     subst e h1 h2;by_cases q:k=-1
     ·exact .inr q
     ·refine .inl ⟨hp.1,?_⟩
      cases l with
      |nil=>exact fun e=>q e.symm
      |cons y l=>intro e;exact hn.1 (by rw [←e];simp [hdI])
    ·exact ih hn.2 hn.1 h
  have hkp:=h.pos k hk;have h1:=(main h.nodup h.neg hx).resolve_right (by omega);refine⟨h1.1,h1.2,fun e=>?_⟩;have main2:∀{l:List Int} {pr:Int},l.Nodup→pr∉l→(-1)∉l→nb pr l k=some (a,b)→a=b→a=-1:=by
   intro l;induction l with
   |nil=>intro pr _ _ _ h;cases h
   |cons x l ih =>
    intro pr hn hp hm h e;rw [List.nodup_cons] at hn;simp only [List.mem_cons,not_or] at hp hm;rw [nb] at h
    split at h
    ·injection h with h;injection h with h1 h2
     cases l with
     |nil=>rw [e];exact h2.symm
     |cons y l=>exact absurd (by rw [h1,e,←h2];simp [hdI]) hp.2
    ·exact ih hn.2 hn.1 hm.2 h e
  exact main2 h.nodup h.neg h.neg hx e
 have hin:∀j,j≠-1→(j=a∨j=b)→j∈l:=fun j hj q=>by
  rcases q with rfl|rfl
  ·exact ha.resolve_left hj
  ·exact hb.resolve_left hj
 have hsome:∀j,j≠-1→(j=a∨j=b)→j≠k→∃x,mGet s.m j=some x∧mGet (mDel k s.m) j=some x:=fun j hj q e=>by
  obtain⟨x,hx⟩:=Option.isSome_iff_exists.1 ((h.get j)▸(nb_mem (-1)).2 (hin j hj q));exact⟨x,hx,by rw [g1,if_neg e];exact hx⟩
 have e1:=tie_ends (⟨mDel k s.m,s.first,s.last⟩:LnS) a b;refine⟨h.nodup.erase _,fun x hx=>h.pos x (List.mem_of_mem_erase hx),tie_rise r1 _ _,?_,?_,fun j=>?_,?_⟩
 ·rw [e1.1,hd_erase h.neg hx,h.first]
 ·rw [e1.2,ls_erase (-1) h.neg hx,h.last]
 ·rw [tie_get r1 _ _ hak.2.2]
  by_cases ejk:j=k
  ·rw [ejk,if_neg (fun q=>hak.2.1 q.2.symm),if_neg (fun q=>hak.1 q.2.symm)]
   show mGet (mDel k s.m) k=_;rw [g1,if_pos rfl,nb_none];intro q;exact((h.nodup.mem_erase_iff).1 q).1 rfl
  ·rw [nb_erase j ejk (-1) h.nodup h.neg h.neg hx]
   by_cases c1:b≠-1∧j=b
   ·rw [if_pos c1,if_neg,if_pos ⟨hin j (by rw [c1.2];exact c1.1) (.inr c1.2),c1.2⟩]
    ·obtain⟨x,x1,x2⟩:=hsome b c1.1 (.inr rfl) hak.2.1
     rw [near_eq (x:=x) x2,←h.get,c1.2,x1];rfl
    ·rintro ⟨_,q⟩
     have:=hak.2.2 (by rw [←q,c1.2]);exact c1.1 (by rw [←c1.2,q,this])
   ·rw [if_neg c1]
    by_cases c2:a≠-1∧j=a
    ·rw [if_pos c2,if_pos ⟨hin j (by rw [c2.2];exact c2.1) (.inl c2.2),c2.2⟩]
     obtain⟨x,x1,x2⟩:=hsome a c2.1 (.inl rfl) hak.1;rw [near_eq (x:=x) x2,←h.get,c2.2,x1];rfl
    ·rw [if_neg c2,if_neg,if_neg]
     ·show mGet (mDel k s.m) j=_
      rw [g1,if_neg ejk,h.get]
     ·rintro ⟨q1,q2⟩;exact c1 ⟨fun q=>h.neg (by rw [←q,←q2];exact q1),q2⟩
     ·rintro ⟨q1,q2⟩;exact c2 ⟨fun q=>h.neg (by rw [←q,←q2];exact q1),q2⟩
 ·rw [tie_leq r1]
  ·have:=len_del h.rise hg
   show (mDel k s.m).length=_;rw [List.length_erase_of_mem hk,←h.len];omega
  ·intro e;obtain⟨x,_,x2⟩:=hsome a e (.inl rfl) hak.1;show (mGet (mDel k s.m) a).isSome=true;rw [x2];rfl
  ·intro e;obtain⟨x,_,x2⟩:=hsome b e (.inr rfl) hak.2.1;show (mGet (mDel k s.m) b).isSome=true;rw [x2];rfl
end
end Go.Proofs.YtfliaggjkianpaaGreatDoor
