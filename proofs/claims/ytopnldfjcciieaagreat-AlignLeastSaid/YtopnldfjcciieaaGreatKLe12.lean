/- DERIVED: THE SHELF's CONTRACTS AT THIS DUMP, IN PLAIN WORDS (tools/lay-plain.mjs out of 'TryzShelf.lean', which tools/lay-shelf.mjs wrote): THE SAME DECLARATION -/
import Derived.Shelf.Small.Bits
import Derived.Shelf.Small.Wraps
import Derived.Shelf.Strconv.Itoa0
import Derived.Shelf.Sort.Plain
import Derived.Shelf.Bits.Mul64
import Derived.Ground.Names2Prog
import Derived.Shelf.Slices.SearchI
import Derived.Shelf.Slices.In.SortNone
import Derived.Shelf.SlIterI.Sorted
import Derived.Shelf.SlIterI.Nil
import Derived.Ground.GgzProg
import Derived.Test.YtopnldfjcciieaaGreatProg
import Derived.Test.YtopnldfjcciieaaGreatKLe3
import Derived.Maps.OwnIn
import Derived.Shelf.Abstract
namespace Go.Proofs
open Go.Shelf
def Tryz.lays189_ren:Go.Shelf.Ren:=⟨fun|189=>115|125=>121|257=>120|128=>133|129=>134|294=>124|295=>125|296=>126|297=>127|298=>128|299=>129|216=>130|300=>131|301=>132|328=>135|329=>136|330=>137|331=>138|332=>139|215=>100|343=>140|n=>n,fun|28=>73|3=>3|46=>116|0=>0|51=>139|53=>142|4=>4|183=>174|182=>173|131=>29|5=>5|9=>9|218=>181|222=>185|228=>187|229=>188|n=>n,fun|n=>n⟩
theorem Tryz.lays189:Go.Proofs.Lays.n189 Tryz.prog Tryz.lays189_ren:={
 mixed:=by kernel_rfl
 f125:=Tryz.func121.trans (congrArg some (by kernel_rfl))
 f128:=Tryz.func133.trans (congrArg some (by kernel_rfl))
 f129:=Tryz.func134.trans (congrArg some (by kernel_rfl))
 f189:=Tryz.func115.trans (congrArg some (by kernel_rfl))
 f215:=Tryz.func100.trans (congrArg some (by kernel_rfl))
 f216:=Tryz.func130.trans (congrArg some (by kernel_rfl))
 f257:=Tryz.func120.trans (congrArg some (by kernel_rfl))
 f294:=Tryz.func124.trans (congrArg some (by kernel_rfl))
 f295:=Tryz.func125.trans (congrArg some (by kernel_rfl))
 f296:=Tryz.func126.trans (congrArg some (by kernel_rfl))
 f297:=Tryz.func127.trans (congrArg some (by kernel_rfl))
 f298:=Tryz.func128.trans (congrArg some (by kernel_rfl))
 f299:=Tryz.func129.trans (congrArg some (by kernel_rfl))
 f300:=Tryz.func131.trans (congrArg some (by kernel_rfl))
 f301:=Tryz.func132.trans (congrArg some (by kernel_rfl))
 f328:=Tryz.func135.trans (congrArg some (by kernel_rfl))
 f329:=Tryz.func136.trans (congrArg some (by kernel_rfl))
 f330:=Tryz.func137.trans (congrArg some (by kernel_rfl))
 f331:=Tryz.func138.trans (congrArg some (by kernel_rfl))
 f332:=Tryz.func139.trans (congrArg some (by kernel_rfl))
 f343:=Tryz.func140.trans (congrArg some (by kernel_rfl))
 t0:=Tryz.underlying0
 a0:=Tryz.isAgg0
 z0:=Tryz.sizeOf0
 v0:=Tryz.zeroValue0
 t3:=Tryz.underlying3
 a3:=Tryz.isAgg3
 z3:=Tryz.sizeOf3
 v3:=Tryz.zeroValue3
 t4:=Tryz.underlying4
 a4:=Tryz.isAgg4
 z4:=Tryz.sizeOf4
 v4:=Tryz.zeroValue4
 t5:=Tryz.underlying5
 a5:=Tryz.isAgg5
 z5:=Tryz.sizeOf5
 v5:=Tryz.zeroValue5
 t9:=Tryz.underlying9
 a9:=Tryz.isAgg9
 z9:=Tryz.sizeOf9
 v9:=Tryz.zeroValue9
 t28:=Tryz.underlying73
 a28:=Tryz.isAgg73
 z28:=Tryz.sizeOf73
 v28:=Tryz.zeroValue73
 t46:=Tryz.underlying116
 a46:=Tryz.isAgg116
 z46:=Tryz.sizeOf116
 v46:=Tryz.zeroValue116
 t51:=Tryz.underlying139
 a51:=Tryz.isAgg139
 z51:=Tryz.sizeOf139
 v51:=Tryz.zeroValue139
 t53:=Tryz.underlying142
 a53:=Tryz.isAgg142
 z53:=Tryz.sizeOf142
 v53:=Tryz.zeroValue142
 t131:=Tryz.underlying29
 a131:=Tryz.isAgg29
 z131:=Tryz.sizeOf29
 v131:=Tryz.zeroValue29
 t182:=Tryz.underlying173
 a182:=Tryz.isAgg173
 z182:=Tryz.sizeOf173
 v182:=Tryz.zeroValue173
 t183:=Tryz.underlying174
 a183:=Tryz.isAgg174
 z183:=Tryz.sizeOf174
 v183:=Tryz.zeroValue174
 t218:=Tryz.underlying181
 a218:=Tryz.isAgg181
 z218:=Tryz.sizeOf181
 v218:=Tryz.zeroValue181
 t222:=Tryz.underlying185
 a222:=Tryz.isAgg185
 z222:=Tryz.sizeOf185
 v222:=Tryz.zeroValue185
 t228:=Tryz.underlying187
 a228:=Tryz.isAgg187
 z228:=Tryz.sizeOf187
 v228:=Tryz.zeroValue187
 t229:=Tryz.underlying188
 a229:=Tryz.isAgg188
 z229:=Tryz.sizeOf188
 v229:=Tryz.zeroValue188}
open Go.Sort Go.RowKit in
theorem Tryz.slices_Sort_int (blk off cap:Nat) (zs:List Int) (w:World) (hH:Holds (Value.int .i64) w blk off zs.toArray) (hblk:blk<w.heap.size) (hsz:zs.length<4611686018427387904):
  Calls Tryz.prog 115 #[.slice (some ⟨blk,off,none⟩) zs.length cap] w fun e w'=>
   e= .returned (.tuple #[])∧∃n os,w'=grow (putRow (Value.int .i64) (Sort.ahead w n) blk off (zs.mergeSort fun x y=>decide (x≤y)).toArray) os:=Any.slices_Sort_int Tryz.lays189 blk off cap zs w hH hblk hsz
open Go.RowKit Go.Sort in
theorem Tryz.slices_Sort_int_none (p:Option Addr) (cap:Nat) (w:World):
  Calls Tryz.prog 115 #[.slice p 0 cap] w fun e w'=>e= .returned (.tuple #[])∧w'=w:=Any.slices_Sort_int_none Tryz.lays189 p cap w
def Tryz.sortedA_ren:Go.Shelf.Ren:=⟨fun|6=>106|8=>114|9=>115|11=>119|13=>121|12=>120|23=>133|24=>134|14=>124|15=>125|16=>126|17=>127|18=>128|19=>129|20=>130|21=>131|22=>132|25=>135|26=>136|27=>137|28=>138|29=>139|30=>100|31=>140|n=>n,fun|26=>3|28=>160|24=>73|0=>0|3=>3|37=>116|48=>139|50=>142|4=>4|40=>174|39=>173|45=>29|5=>5|9=>9|51=>181|55=>185|57=>187|58=>188|33=>151|n=>n,fun|n=>n⟩
theorem Tryz.sortedA:Go.Proofs.SlLaysZI.n6 Tryz.prog Tryz.sortedA_ren:={
 mixed:=by kernel_rfl
 f6:=⟨Tryz.f106.name,by decide,Tryz.func106.trans (congrArg some (by kernel_rfl))⟩
 f8:=⟨Tryz.f114.name,by decide,Tryz.func114.trans (congrArg some (by kernel_rfl))⟩
 f11:=⟨Tryz.f119.name,by decide,Tryz.func119.trans (congrArg some (by kernel_rfl))⟩
 t0:=Tryz.underlying0
 a0:=Tryz.isAgg0
 z0:=Tryz.sizeOf0
 v0:=Tryz.zeroValue0
 t24:=Tryz.underlying73
 a24:=Tryz.isAgg73
 z24:=Tryz.sizeOf73
 v24:=Tryz.zeroValue73
 t26:=Tryz.underlying3
 a26:=Tryz.isAgg3
 z26:=Tryz.sizeOf3
 v26:=Tryz.zeroValue3
 t28:=Tryz.underlying160
 a28:=Tryz.isAgg160
 z28:=Tryz.sizeOf160
 v28:=Tryz.zeroValue160
 i26:=by kernel_rfl}
end Go.Proofs
set_option linter.unusedVariables false
set_option linter.unusedSimpArgs false
namespace Go.Proofs.YtopnldfjcciieaaGreat
open Vl (vl)
open Go.RowKit Go.Sort Go.Maps Go.Proofs
def VAt {H:Type} (D0:DataW H) (p:Int×Int):Prop:=∀zd,D0.atKey (.int .i64 p.1) zd= .lit (.int .i64 p.2)
def VAll {H:Type} (D0:DataW H) (xs:List Int):Prop:=∃ps:List (Int×Int),(ps.map (·.1)).Perm (intKeys D0)∧(∀p∈ps,VAt D0 p)∧xs=ps.map (·.2)
set_option maxRecDepth 100000 in
set_option maxHeartbeats 1000000 in
theorem values1N_in {H:Type} (F:Fence) (n:Nat) (h8:F.fn 116) (hro:F.round=none) (hn:1≤n) (l Bm b nn:Nat) (D0:DataW H) (J:List Int→World→Prop)
  (hY:∀pre x W,J pre W→pre.length<Maps.size D0→YieldAt F (n-1) Tryz.prog l #[.int .i64 x] W fun e W'=>e= .returned (.bool true)∧J (pre++[x]) W'∧KeepsWalks W W')
  (W:World) (hJ:AbidesFrom W.heap.size J) (hm:W.cell? ⟨Bm,0,none⟩=some (.map (some b))) (hown:W.ownsMap Tryz.prog 3 (plainElem Tryz.prog 3) b nn D0) (h0:J [] W):
  CallsIn F n Tryz.prog 116 #[.func (.yield l) #[] #[],.pointer (some ⟨Bm,0,none⟩)] W fun e W'=>(∃v,e= .returned v)∧∃xs,VAll D0 xs∧J xs W':=by
 have hK:Keyed Tryz.prog 3:=int_keyed Tryz.underlying3
 refine callsIn_of_wp Tryz.func116 O h8 ?_ hro
 simp only[Tryz.ntmps116,List.size_toArray,uA0,List.length_nil,Nat.reduceAdd,Nat.reduceSub,Array.replicate_succ,Array.replicate_zero,List.push_toArray,List.append_toArray,List.nil_append,List.cons_append]
 gi_wp2_with (first
  |(gi_at_range;refine wpListIn_range_own _ rfl _ 157 rfl 3 3 hK Tryz.underlying157 _ b nn _ rfl hown ?_;intro w0 hrg0 hg0 hs0)
  |gi_in)
 go_frame
 gi_loopw [4] (fun _ wr=>∃(left:Lit→Bool) (cnt:Nat) (ps:List (Int×Int)),wr.ranges Tryz.prog 3 (plainElem Tryz.prog 3) b W.heap.size nn D0 left cnt∧ps.length+cnt≤Maps.size D0∧CollectedI D0 left (ps.map (·.1))∧(∀p∈ps,VAt D0 p)∧J (ps.map (·.2)) wr)
  (fun _ wr=>wr.rangeLeft b W.heap.size)
 case atStart=>
  exact⟨_,_,[],hrg0,by simp,CollectedI.start D0,by simp,hJ [] W w0 none h0 hg0 (fun r e=>by cases e)⟩
 case round=>
  obtain⟨left,cnt,ps,hrg,hcs,hC,B,hJs⟩:=hrel
  gi_wp2_with (first
   |(gi_at_next;refine wpListIn_next_ranges _ rfl _ rfl 3 hK (plainElem Tryz.prog 3) encZ (Value.int .i64) (fun key kl hk=>by obtain⟨x,C,_⟩:=Maps.keyOf_i64 Tryz.underlying3 hk;exact⟨x,C⟩) (fun v y hv=>by obtain⟨c,rfl,_⟩:=plainElem_int_inv Tryz.underlying3 hv;exact⟨c,rfl⟩) b W.heap.size nn _ _ _ rfl hrg ?_ ?_)
   |gi_in)
  ·intro E A
   gi_wp2
   go_end0
   exact⟨⟨_,O⟩,_,⟨ps,hC.perm hown hK Tryz.underlying3 A,B,O⟩,hJs⟩
  intro x c kl yd yp w2 cnt2 hkey hlk hv hat hrg2 hlt hg2 hs2 hen
  obtain⟨x',ex,rfl,_⟩:=Maps.keyOf_i64 Tryz.underlying3 hkey
  obtain rfl:x=x':=encZ_inj ex
  obtain⟨c',ec,ez,_⟩:=plainElem_int_inv Tryz.underlying3 hv
  obtain rfl:c=c':=by simpa using ec
  obtain rfl:yd= .lit (.int .i64 c):=(Prod.mk.inj ez).1
  have hJ2:J (ps.map (·.2)) w2:=hJ _ wr w2 (some W.heap.size) hJs hg2 (fun r e=>by cases e;exact⟨zP _,hrg.iter_walk⟩)
  obtain⟨fn,tmps,assign,body,hy,G⟩:=hY (ps.map (·.2)) c w2 hJ2 (by simp;omega)
  clear hs2
  gi_wp2
  refine G.mono ?_
  have hC2:CollectedI D0 (fun z=>left z&& !z.sameKey (.int .i64 x)) ((ps++[(x,c)]).map (·.1)):=by simpa using hC.step hlk hat
  have hV2:∀p∈ps++[(x,c)],VAt D0 p:=fun p D=>(List.mem_append.1 D).elim (B p) (fun e=>by simp at e;subst e;exact hat)
  rintro e W3 ⟨rfl,hJ3,hk3⟩
  gi_wp2
  have hrg3:=hrg2.of_walks hk3
  go_roundw
  case rel=>exact⟨_,cnt2,ps++[(x,c)],hrg3,by simp;omega,hC2,hV2,by simpa using hJ3⟩
  case measure=>rw[hrg3.left_eq,hrg.left_eq];exact hlt
theorem values_gives {H:Type} (F:Fence) (n:Nat) (h7:F.fn 116) (hro:F.round=none) (hn:1≤n) (Bm b nn:Nat) (D0:DataW H) (w:World) (hBm:Bm<w.heap.size)
  (A:w.cell? ⟨Bm,0,none⟩=some (.map (some b))) (hown:w.ownsMap Tryz.prog 3 (plainElem Tryz.prog 3) b nn D0):
  SeqGives F n Tryz.prog 116 #[.pointer (some ⟨Bm,0,none⟩)] encZ (VAll D0) (Maps.size D0) w:=fun l J W hW hJ hY h0=>by
 have hown':W.ownsMap Tryz.prog 3 (plainElem Tryz.prog 3) b nn D0:=by
  have hbl:=hown.lt
  obtain⟨es,clock,hb,Ft,hs,hD⟩:=hown
  exact⟨es,clock,(hW.block b hbl).trans hb,Ft,hs,hD⟩
 exact values1N_in F n h7 hro hn l Bm b nn D0 J hY W hJ ((hW.cell (p:=⟨Bm,0,none⟩) hBm).trans A) hown' h0
section
variable {Z:World} {ρ:PH} {L:List bQ} {w:World}
theorem sortsA (m:Nat):AnyZI.SortsIn Tryz.prog Tryz.sortedA_ren Fence.wide m:=
 ⟨fun blk off cap ss W hH hblk hsz=>callsIn_wide.2 (Tryz.slices_Sort_int blk off cap ss W hH hblk hsz),
  fun p cap W=>callsIn_wide.2 (Tryz.slices_Sort_int_none p cap W)⟩
theorem Hp.newRow {w':World} {T:TypeId} {v:Value} {l:List Int} (B:Hp Z ρ L w) (hb:Below w.heap.size w w') (h:w'.ownsRow w.heap.size T 1 v l.length (l.map encZ)):Hp Z ρ (aC T v l::L) w':=by
 have hk:=B.keep hb
 obtain⟨hl,h⟩:=h
 have e:l.map encZ=flat l:=(flat_int l).symm
 rcases h with⟨rfl,hn⟩|⟨g,cap,cur,rfl,h1,h2,h3,h4,h5,h6⟩
 ·have:=wT hn
  subst this
  exact hk.emp (aC.nil T)
 have h7:Hp Z ρ (Pt g (.cells cur T (0,0))::L) w':=hk.with_ O O O (Sep.add (A:=Pt g (.cells cur T (0,0))) (k:=PH.one g (.cells cur T (0,0))) B.sep (fun b hb'=>by
  by_cases e:b=g
  ·subst e
   show w.heap[b]?=none
   exact Array.getElem?_eq_none h1
  simp[PH.one,e] at hb') (fun b o e=>by
  have hlt:b<w.heap.size:=(Array.getElem?_eq_some_iff.1 e).1
  exact(hb.block b hlt).trans e) (PH.one_le h2) O)
 exact h7.shut h3 h4 h5 (h6.trans e)
set_option maxHeartbeats 1000000 in
theorem c_values_ii (b:Nat) (A:Hp Z ρ L w):
  Calls Tryz.prog 107 #[.map (some b)] w (Ret fun v w'=>∃B:Nat,v= .func (.func 116) #[] #[.pointer (some ⟨B,0,none⟩)]∧Hp Z ρ (Pt B (.cells #[.map (some b)] 157 (0,0))::L) w'):=by
 have cK:CallsIn Fence.wide 5 Tryz.prog 107 #[.map (some b)] w fun e w'=>e= .returned (.func (.func 116) #[] #[.pointer (some ⟨w.heap.size,0,none⟩)])∧w'=w.alloc (.cells #[.map (some b)] 157):=by
  refine callsIn_of_wp Tryz.func107 O trivial ?_ O
  simp only[Tryz.ntmps107,List.size_toArray,uA0,List.length_nil,Nat.reduceAdd,Nat.reduceSub,Array.replicate_succ,Array.replicate_zero,List.push_toArray,List.append_toArray,List.nil_append,List.cons_append]
  gi_wp2
  go_ret
  exact⟨O,O⟩
 refine((callsIn_wide (n:=5)).1 cK).mono ?_
 rintro e w' ⟨rfl,rfl⟩
 exact⟨_,O,_,O,A.alloc _⟩
set_option maxRecDepth 100000 in
theorem c_sortedV (l:List (Int×Int)) {b B:Nat} (A:Hp Z ρ (Pt B (.cells #[.map (some b)] 157 (0,0))::vJ b l::L) w) (r:List Int) (E:X7 l=some r):
  Calls Tryz.prog 106 #[.func (.func 116) #[] #[.pointer (some ⟨B,0,none⟩)]] w (Ret fun v w'=>∃v1,v=v1∧Hp Z ρ (aC 3 v1 r::Pt B (.cells #[.map (some b)] 157 (0,0))::vJ b l::L) w'):=by
 unfold X7 at E
 rw[isort_eq] at E
 split at E
 ·rename_i hh
  obtain⟨hr,hlen⟩:=hh
  simp only[wA] at E
  subst E
  obtain⟨es,clock,hpt,e⟩:=(A.get 1 O).map
  have hbk:=hpt.look 0 O
  have hBk:=A.look 0 O
  have hBlt:B<w.heap.size:=(Array.getElem?_eq_some_iff.1 hBk).1
  have hint:Tryz.prog.underlying 3=some (.int .i64):=by kernel_rfl
  have hwf:∀(j:Nat) (x:MapEntry),es.toList[j]?=some x→∃p:Int×Int,l[j]?=some p∧x.key= .int .i64 p.1∧x.val= .int .i64 p.2∧(Lit.int .i64 p.1).wf=true∧(Lit.int .i64 p.2).wf=true:=by
   intro j x F
   obtain⟨p,hp1,ek,ev⟩:=e.at F
   have hpl:=vL hp1
   have:=List.all_eq_true.1 hr p hpl
   simp only[Bool.and_eq_true,decide_eq_true_eq] at this
   refine⟨p,hp1,ek,ev,?_,?_⟩
   ·simp[Lit.wf,IntKind.min,IntKind.max,IntKind.signed,IntKind.bits];omega
   simp[Lit.wf,IntKind.min,IntKind.max,IntKind.signed,IntKind.bits];omega
  have hrd:∀x∈es.toList,∃n m:Int,x.key= .int .i64 n∧x.val= .int .i64 m∧WideElems.rd Tryz.prog 3 (plainElem (H:=Unit) Tryz.prog 3) x=some (.int .i64 n,.lit (.int .i64 m)):=by
   intro x C
   obtain⟨j,F⟩:=List.getElem?_of_mem C
   obtain⟨p,_,hk,hv,hw1,hw2⟩:=hwf j x F
   refine⟨p.1,p.2,hk,hv,?_⟩
   unfold WideElems.rd
   rw[hk,keyOf_int_mk hint hw1,hv,plainElem_int hint hw2]
   rfl
  have hF:WideElems.Fit Tryz.prog 3 (plainElem (H:=Unit) Tryz.prog 3) es clock:=by
   refine⟨by have:=e.size;unfold maxLen;omega,⟨e.lt,e.nodup,?_⟩,fun x C=>?_⟩
   ·rw[e.keysEq]
    exact e.keys.map (f:=vl) (fun a b hab=>by simpa[vl] using hab)
   obtain⟨n,m,_,_,h2⟩:=hrd x C
   exact⟨_,h2⟩
  have hK:Keyed Tryz.prog 3:=int_keyed Tryz.underlying3
  have hat:∀x∈es.toList,∀n m:Int,x.key= .int .i64 n→x.val= .int .i64 m→∀zd,(DataW.map (((es.toList.map (WideElems.rg Tryz.prog 3 (plainElem (H:=Unit) Tryz.prog 3))).foldr DataW.insert []))).atKey (.int .i64 n) zd= .lit (.int .i64 m):=by
   intro x C n m hn hm' zd
   obtain⟨n',m',e1,e2,h2⟩:=hrd x C
   rw[hn] at e1;rw[hm'] at e2
   injection e1 with _ e1;injection e2 with _ e2
   subst e1 e2
   have h3:=(WideShapes.atKey_sorted (es.toList.map (WideElems.rg Tryz.prog 3 (plainElem (H:=Unit) Tryz.prog 3))) (fit_rising hK hF) (.int .i64 n) trivial).2 _ (List.mem_map.2 ⟨x,C,O⟩) (by rw[WideElems.rg_of h2])
   rw[h3,WideElems.rg_of h2]
  have hD:∃D:DataW Unit,w.ownsMap Tryz.prog 3 (plainElem Tryz.prog 3) b l.length D∧(intKeys D).Perm (l.map (·.1))∧Maps.size D≤l.length∧∀q∈l,VAt D q:=by
   have hown:w.ownsMap Tryz.prog 3 (plainElem Tryz.prog 3) b l.length (.map ((es.toList.map (WideElems.rg Tryz.prog 3 (plainElem (H:=Unit) Tryz.prog 3))).foldr DataW.insert [])):=
    ⟨es,clock,hbk,hF,by rw[e.size];exact zP _,O⟩
   refine⟨_,hown,?_,hown.size_le,fun q hq zd=>?_⟩
   ·show(((es.toList.map (WideElems.rg Tryz.prog 3 (plainElem (H:=Unit) Tryz.prog 3))).foldr DataW.insert []).map fun p=>Go.intOf p.1).Perm _
    refine((Go.WideShapes.sorted_perm _).map _).trans ?_
    have:(es.toList.map (WideElems.rg Tryz.prog 3 (plainElem (H:=Unit) Tryz.prog 3))).map (fun p=>Go.intOf p.1)=l.map (·.1):=by
     have h1:∀x∈es.toList,Go.intOf (WideElems.rg Tryz.prog 3 (plainElem (H:=Unit) Tryz.prog 3) x).1=match x.key with| .int _ n=>n|_=>0:=by
      intro x C
      obtain⟨n,m,hk,_,h2⟩:=hrd x C
      unfold WideElems.rg
      rw[h2,hk];rfl
     rw[List.map_map]
     have h2:es.toList.map (fun x=>match x.key with| .int _ n=>n|_=>(0:Int))=l.map (·.1):=by
      have:=congrArg (List.map (fun k:Value=>match k with| .int _ n=>n|_=>(0:Int))) e.keysEq
      simp only[List.map_map] at this
      have h3:((fun k:Value=>match k with| .int _ n=>n|_=>(0:Int))∘fun x:MapEntry=>x.key)=fun x:MapEntry=>match x.key with| .int _ n=>n|_=>(0:Int):=rfl
      rw[h3] at this
      rw[this]
      apply List.map_congr_left
      intro p _;rfl
     rw[←h2]
     exact List.map_congr_left h1
    rw[this]
   obtain⟨j,F⟩:=List.getElem?_of_mem hq
   have hjl:j<es.toList.length:=by
    have h4:=(uR.1 F).1
    rw[Array.length_toList,e.size];exact h4
   obtain⟨q',hq',hk,hv,_,_⟩:=hwf j _ (vB hjl)
   rw[F] at hq'
   obtain rfl:=wD hq'
   exact hat _ (List.getElem_mem hjl) _ _ hk hv zd
  obtain⟨D,hown,hperm,hsz,hval⟩:=hD
  have hcell:w.cell? ⟨B,0,none⟩=some (.map (some b)):=by simp[World.cell?,hBk]
  have hseq:=values_gives Fence.wide 2 trivial O (by omega) B b l.length D w hBlt hcell hown
  have cS:=AnyZI.sorted_in Tryz.sortedA Fence.wide 5 trivial trivial trivial trivial O (by omega) (sortsA _) (enters_of Tryz.func115 kr O) 116 #[.pointer (some ⟨B,0,none⟩)] trivial (enters_of Tryz.func116 kr O) _ _ (by unfold maxLen;omega) (by omega) _ hseq
  refine((callsIn_wide (n:=5)).1 cS).mono ?_
  rintro e2 w' ⟨v,ss,rfl,I,hrow,_,hb⟩
  refine⟨_,O,_,O,?_⟩
  have G:ss.length=(ss.mergeSort fun x y=>decide (x≤y)).length:=by simp
  rw[G] at hrow
  have hpv:ss.Perm (l.map (·.2)):=by
   obtain⟨ps,hp1,hp2,rfl⟩:=I
   let g:Int→Int:=fun k=>match D.atKey (.int .i64 k) (.lit (.int .i64 0)) with| .lit (.int _ n)=>n|_=>0
   have hg:∀p:Int×Int,VAt D p→p.2=g p.1:=fun p A=>by
    show p.2=match D.atKey (.int .i64 p.1) (.lit (.int .i64 0)) with| .lit (.int _ n)=>n|_=>0
    rw[A]
   have e1:ps.map (·.2)=(ps.map (·.1)).map g:=by
    rw[List.map_map];exact List.map_congr_left fun p A=>hg p (hp2 p A)
   have e2:l.map (·.2)=(l.map (·.1)).map g:=by
    rw[List.map_map];exact List.map_congr_left fun p A=>hg p (hval p A)
   rw[e1,e2]
   exact(hp1.trans hperm).map g
  have h9:(ss.mergeSort fun x y=>decide (x≤y))=(l.map (·.2)).mergeSort fun x y=>decide (x≤y):=mergeSort_of_perm_i hpv
  rw[h9] at hrow
  exact A.newRow hb hrow
 cases E
end
end Go.Proofs.YtopnldfjcciieaaGreat
