/- The solver: propagate. -/
import Derived.Test.YtpkhmndpeipfmaaKDe22
import Derived.Test.YtpkhmndpeipfmaaKDe5
set_option linter.unusedVariables false
set_option linter.unusedSimpArgs false
namespace Go.Proofs.Ytpkhmndpeipfmaa
open Go.RowKit
structure Clash (st trail:List Int) (cl:List (List Int)) (id:Nat):Prop where
 ex:∃c,cl[id]?=some c∧(∀y∈c,-y∈trail)∧∃y∈c,∃k,trail[k]?=some (-y)∧lvl st k=st.length
structure AmidS (n:Int) (F:List (List Int)) (st:List Int) (l:Int) (list:List Nat) (h cN:Nat) (tr0:List Int) (k m:Nat) (L2:List Nat) (W:List (List Nat)×List (List Int)) (val lev:List Int) (rea:List (Option Nat)) (trail:List Int):Prop where
 eng:Cor n F st (fun id w=> -w∈trail.take h∨(w=l∧id∉list.drop k)) val lev rea trail (W.1.set (ixL l) (L2.take m++list.drop k)) W.2
 row:W.1[ixL l]?=some list
 l2:L2.length=list.length∧L2.drop k=list.drop k
 ext:∃e,trail=tr0++e
 at_:trail[h]?=some (-l)
 kl:m≤k
 cn:W.2.length=cN
 ll:list.length≤cN
theorem aB1 {m n:Nat} (h:m<n):D7 m n=some ():=by unfold D7;rw[if_pos h]
section
variable {n:Int} {F:List (List Int)} {st:List Int}
set_option maxHeartbeats 2000000 in
theorem amidS_round {p0:Sol} {l:Int} {list:List Nat} {h cN:Nat} {tr0:List Int} {k m:Nat} {L2:List Nat} {W:List (List Nat)×List (List Int)} {val lev:List Int} {rea:List (Option Nat)} {trail:List Int} {hd li:Int} {br:Bool} (hn:0≤n∧n≤65536) (hcN:cN≤1000000000) (hp0:p0.starts=st) (hb:∀b∈st,b≤(h:Int))
  (hA:AmidS n F st l list h cN tr0 k m L2 W val lev rea trail) (hk:k<list.length):
  (∃m' L2' W' val' lev' rea' trail',dY p0 l (ixL l:Int) list m (k:Int) L2 W hd li br val lev rea trail=some (.next (m',((k+1:Nat):Int),L2',W',hd,li,br,val',lev',rea',trail'))∧AmidS n F st l list h cN tr0 (k+1) m' L2' W' val' lev' rea' trail')∨
  (∃id W',dY p0 l (ixL l:Int) list m (k:Int) L2 W hd li br val lev rea trail=some (.done (.ret (some id,Sol.mk val lev rea p0.saved W' trail p0.starts hd p0.queue p0.proof li br)))∧Clash st trail W'.2 id∧(∃D,Cor n F st D val lev rea trail W'.1 W'.2)∧W'.2.length=cN):=by
 have hC:=hA.eng
 have hE:=hC.eng
 obtain⟨id,hid⟩:=bJ hk
 have hdrop:=xB hid
 have hL2:L2[k]?=some id:=by
  have:=congrArg (fun x=>x[0]?) hA.l2.2
  simp only[List.getElem?_drop,Nat.add_zero] at this
  rw[this];exact hid
 have hlm: -l∈trail:=bK hA.at_
 have hl0:=hE.lit hlm
 have hl:l≠0∧vr l≤n:=⟨by omega,by rw[←kU];exact hl0.2⟩
 have hlb:=nS.1 hl.2
 have hlvl:lvl st h=st.length:=lvl_all hb
 have hvr:(W.1.set (ixL l) (L2.take m++list.drop k))[ixL l]?=some (L2.take m++list.drop k):=dG hA.row
 have hrl:=hE.rowLen hvr
 obtain⟨c,w,o,hc,hp,hw⟩:=((hE.row _ _ hvr).2 id).1 (by rw[hdrop];simp)
 have hwl:=rW hw
 rw[hwl] at hp
 obtain⟨hc2,hcn,hcl⟩:=hE.ok id c hc
 have hc4:=hE.clLen hn hc
 have hlo:=hp.ne hcn
 have ho:=hcl o hp.mem.2
 have hcn':=hA.cn
 have hml:m<L2.length:=by have:=hA.kl;have:=hA.l2.1;omega
 obtain⟨a,ha,j1,hjm,hs,hpj,hj0,hj1l⟩:∃a,c[0]?=some a∧∃j1,(if(decide (a=l))=true then
   (idx c 1).bind fun x9=>
   (some a).bind fun x10=>
   (some a).bind fun x11=>
   (idx (c.set (0:Int).toNat x9) 1).bind fun x12=>
   some ((c.set (0:Int).toNat x9).set (1:Int).toNat x10)
  else some c)=some j1∧Same c j1∧(∀w o,Pair j1 w o↔Pair c w o)∧j1[0]?=some o∧j1[1]?=some l:=by
  rcases hp with⟨e0,e1⟩|⟨e1,e0⟩
  ·refine⟨l,e0,(c.set 0 o).set 1 l,?_,Y1 hcn e0 e1,?_,?_,?_⟩
   ·rw[if_pos (by simp),show idx c 1=some o from jR (by decide) e1,bsm,bsm,bsm,
     show idx (c.set (0:Int).toNat o) 1=some o from jR (by decide) (by rw[cZ (by decide)];exact e1),bsm]
    rfl
   ·exact pair01 e0 e1 (by rw[cZ (by decide)];exact dG e0) (dG (by rw[cZ (by decide)];exact e1))
   ·rw[cZ (by decide)];exact dG e0
   exact dG (by rw[cZ (by decide)];exact e1)
  refine⟨o,e0,c,?_,⟨rfl,hcn,fun _=>Iff.rfl⟩,fun _ _=>Iff.rfl,e0,e1⟩
  rw[if_neg (by simpa using fun e:o=l=>hlo e.symm)]
 have hjlen:=hs.len
 have hjcl:∀y∈j1,y≠0∧vr y≤n:=fun y hy=>hcl y ((hs.mem y).1 hy)
 have hpl:Pair j1 l o:=Or.inr ⟨hj1l,hj0⟩
 obtain⟨b,hb1,hb2,hble,hball,hbno⟩:=sseek_ok hE hn.2 hjcl (by omega) (by omega) (p0:=p0) (W:=W) (hd:=hd) (li:=li) (br:=br) (lev:=lev) (rea:=rea) (tr:=trail)
 obtain⟨r,hr,hcase⟩:=sof_ok hE ho.1 ho.2 hn.2 (s:=Sol.mk val lev rea p0.saved W trail p0.starts hd p0.queue p0.proof li br) rfl
 have hT:=hC.turn hc hs hpj
 have hset:(W.2.set id j1)[id]?=some j1:=dG hc
 have hins:id∉list.drop (k+1):=by
  have h1:=(hE.row _ _ hvr).1
  rw[hdrop] at h1
  have h2:=(List.nodup_append.1 h1).2.1
  exact(List.nodup_cons.1 h2).1
 have weak:∀(tr:List Int) (id':Nat) (w':Int),(-w'∈tr.take h∨(w'=l∧id'∉list.drop (k+1)))→(-w'∈tr.take h∨(w'=l∧id'∉list.drop k))∨(id'=id∧w'=l):=fun tr id' w' hd=>by
  rcases hd with hd|⟨e,hd⟩
  ·exact Or.inl (Or.inl hd)
  by_cases e':id'=id
  ·exact Or.inr ⟨e',e⟩
  exact Or.inl (Or.inr ⟨e,by rw[hdrop];simp[e',hd]⟩)
 have hup:=jD hk (show list.length≤9223372036854775807 by have:=hA.ll;omega)
 have htake:(L2.set m id).take (m+1)=L2.take m++[id]:=by
  rw[dZ (a:=id) (dG (List.getElem?_eq_getElem hml)),List.take_set_of_le (Nat.le_refl _)]
 have hdrop2:(L2.set m id).drop (k+1)=list.drop (k+1):=by
  rw[List.drop_set_of_lt (by have:=hA.kl;omega)]
  have:=congrArg (List.drop 1) hA.l2.2
  rwa [List.drop_drop,List.drop_drop] at this
 have hdrop3:L2.drop (k+1)=list.drop (k+1):=by
  have:=congrArg (List.drop 1) hA.l2.2
  rwa [List.drop_drop,List.drop_drop] at this
 have hsnoc:W.1.set (ixL l) (L2.take m++list.drop k)=W.1.set (ixL l) ((L2.set m id).take (m+1)++list.drop (k+1)):=by rw[hdrop,htake,List.append_assoc,List.singleton_append]
 have hll:(L2.set m id).length=list.length:=by rw[List.length_set];exact hA.l2.1
 unfold dY
 rw[if_pos (ltB hk),dA hL2,bsm,hc,bsm,show idx c 0=some a from jR (by decide) ha,bsm,hjm,bsm,show idx j1 0=some o from jR (by decide) hj0,bsm,hr,bsm]
 by_cases hom:o∈trail
 ·
  have er:r=1:=by
   rcases hcase with⟨e,_⟩|⟨_,e⟩|⟨_,_,e,_⟩
   ·exact e
   ·exact(hE.opp hom e).elim
   exact absurd hom e
  rw[if_pos (by rw[er];decide),aB1 hml,bsm,bsm]
  simp only
  rw[hup,bsm]
  refine Or.inl ⟨m+1,L2.set m id,(W.1,W.2.set id j1),val,lev,rea,trail,rfl,?_,hA.row,⟨hll,hdrop2⟩,hA.ext,hA.at_,by have:=hA.kl;omega,by simp[hcn'],hA.ll⟩
  have h1:=(hT.done hset hpl hom).less (weak trail)
  rwa [hsnoc] at h1
 have er:¬(0<r):=by
  rcases hcase with⟨_,e⟩|⟨e,_⟩|⟨e,_⟩
  ·exact absurd e hom
  ·omega
  omega
 rw[if_neg (by simpa using er),hb1,bsm]
 by_cases hbl:b<j1.length
 ·
  obtain⟨y,hy⟩:=bJ hbl
  have hyn:=hbno y hy
  have hyl:=hjcl y (bK hy)
  have hyb:=nS.1 hyl.2
  have hb1:b≠1:=by omega
  have hb0:b≠0:=by omega
  have hyne:y≠l:=fun e=>hyn (e▸hlm)
  have hyo:y≠o:=fun e=>by have:=nI hs.nd hy (e▸hj0);omega
  have hix:ixL y≠ixL l:=fun e=>hyne (rW e)
  obtain⟨R,hR⟩:=hE.rowAt hyl.2
  have hRl:=hE.rowLen hR
  have hR':W.1[ixL y]?=some R:=by rwa [cZ hix] at hR
  have g1:(j1.set 1 y)[b]?=some y:=by rw[cZ hb1];exact hy
  have g2:((j1.set 1 y).set b l)[1]?=some y:=by rw[cZ (Ne.symm hb1)];exact dG hj1l
  have g3:((j1.set 1 y).set b l)[0]?=some o:=by rw[cZ (Ne.symm hb0),cZ (by decide)];exact hj0
  have e1:idx j1 1=some l:=jR (by decide) hj1l
  have e2:idx (j1.set (1:Int).toNat y) (b:Int)=some y:=dA g1
  have e3:idx ((j1.set (1:Int).toNat y).set (b:Int).toNat l) 1=some y:=jR (by decide) g2
  have e4:=Y0 (l:=y) (by omega)
  rw[if_pos (by simpa using hbl),dA hy,bsm,e1,bsm,bsm,e2,bsm,e3,bsm,e4,bsm,bsm,e4,bsm,dA hR',bsm,guardNe_nat hix,bsm,oM (by simp;omega),bsm,oV,bsm,bsm]
  simp only
  rw[hup,bsm]
  refine Or.inl ⟨m,L2,(W.1.set (ixL y) (R++[id]),W.2.set id ((j1.set 1 y).set b l)),val,lev,rea,trail,rfl,?_,by rw[cZ (Ne.symm hix)];exact hA.row,⟨hA.l2.1,hdrop3⟩,hA.ext,hA.at_,by have:=hA.kl;omega,by simp[hcn'],hA.ll⟩
  have hs2:Same j1 ((j1.set 1 y).set b l):=Y1 hs.nd hj1l hy
  have hp2:Pair ((j1.set 1 y).set b l) y o:=Or.inr ⟨g2,g3⟩
  have hD:∀(i:Nat) (w':Int),(-w'∈trail.take h∨(w'=l∧i∉list.drop k))→ -w'∈trail:=fun i w' hd=>by
   rcases hd with hd|⟨e,_⟩
   ·exact List.mem_of_mem_take hd
   rw[e];exact hlm
  have h1:=hT.move hset hs2 hpl hp2 hyne hyo hlm hyn hom hD (V1:=L2.take m) (V2:=list.drop (k+1)) (by rw[←hdrop];exact hvr) hR
  rw[List.set_comm _ _ (Ne.symm hix),List.set_set,List.set_set] at h1
  refine(h1.void (id:=id) (l:=l) (dG hc) fun p hq=>?_).less (weak trail)
  rcases hp2.other hq with⟨e,_⟩|⟨e,_⟩
  ·exact hyne e.symm
  exact hlo e
 have hbe:b=j1.length:=by omega
 have hrest:∀y∈j1,y≠o→ -y∈trail:=fun y hy=>mem_le2 hy (P:=fun y=>y≠o→ -y∈trail)
  (fun z hz hne=>by rw[hj0] at hz;exact absurd (Option.some.inj hz).symm hne) (fun z hz _=>by rw[hj1l] at hz;exact Option.some.inj hz▸hlm)
  (fun j z hj hz _=>hball j z hj (by have:=dB hz;omega) hz)
 rw[if_neg (by simpa using hbl),aB1 hml,bsm,bsm,hr,bsm]
 by_cases hon: -o∈trail
 ·have er:r= -1:=by
   rcases hcase with⟨_,e⟩|⟨e,_⟩|⟨_,_,_,e⟩
   ·exact absurd e hom
   ·exact e
   exact absurd hon e
  have e1:=Y0 (l:=l) (by omega)
  have e2:sub (L2.set m id) ((k+1:Nat):Int) ((L2.set m id).length:Int)=some ((L2.set m id).drop (k+1)):=by
   rw[wI (by omega) (by rw[hll];omega) (by omega),Int.toNat_natCast,Int.toNat_natCast,List.take_length]
  have e3:kappF (L2.set m id) (m+1) ((k+1:Nat):Int).toNat=some (L2.take m++list.drop k):=by
   unfold kappF
   rw[if_pos ⟨by have:=hA.kl;omega,by rw[hll];omega,by rw[hll];omega⟩,htake,Int.toNat_natCast,hdrop2,hdrop,List.append_assoc,List.singleton_append]
  rw[if_pos (by rw[er];decide),e1,bsm,hup,bsm,e2,bsm,e3,bsm,dA hA.row,bsm,oV,bsm,bsm]
  refine Or.inr ⟨id,(W.1.set (ixL l) (L2.take m++list.drop k),W.2.set id j1),rfl,⟨j1,hset,fun y hy=>?_,l,bK hj1l,h,hA.at_,hlvl⟩,⟨_,hT⟩,by simp[hcn']⟩
  by_cases e:y=o
  ·rw[e];exact hon
  exact hrest y hy e
 obtain⟨er,hz⟩:r=0∧gv val o=some 0:=by
  rcases hcase with⟨_,e⟩|⟨_,e⟩|⟨e,e',_⟩
  ·exact absurd e hom
  ·exact absurd e hon
  exact⟨e,e'⟩
 have hlt:=dB hA.at_
 have hw:Why F st trail (W.2.set id j1) trail.length o (some id):=⟨j1,hset,bK hj0,fun y hy hne=>by rw[List.take_length];exact hrest y hy hne,l,bK hj1l,hlo,h,hA.at_,by rw[hlvl,hC.top (Nat.le_refl _)]⟩
 rw[if_neg (by rw[er];decide),bsm,P9 hC ho.2 hn.2 hn.1 (some id) rfl rfl rfl rfl,bsm,bsm]
 simp only
 rw[hup,bsm]
 have htk:(trail++[o]).take h=trail.take h:=List.take_append_of_le_length (by omega)
 refine Or.inl ⟨m+1,L2.set m id,(W.1,W.2.set id j1),val.set (vr o).toNat o,lev.set (vr o).toNat (p0.starts.length:Int),rea.set (vr o).toNat (some id),trail++[o],rfl,?_,hA.row,⟨hll,hdrop2⟩,?_,by rw[List.getElem?_append_left hlt];exact hA.at_,by have:=hA.kl;omega,by simp[hcn'],hA.ll⟩
 ·have h1:=hT.hold ho.1 ho.2 hz hw (fun i hi=>by rw[←Option.some.inj hi,List.length_set];exact dB hc)
  have h2:=(h1.done hset hpl (List.mem_append_right _ (List.mem_singleton.2 rfl))).less (weak trail)
  rw[←htk] at h2
  rw[hp0]
  rwa [hsnoc] at h2
 obtain⟨e,he⟩:=hA.ext
 exact⟨e++[o],by rw[he,List.append_assoc]⟩
theorem amidS_loop {p0:Sol} {l:Int} {list:List Nat} {h cN:Nat} {tr0:List Int} {W:List (List Nat)×List (List Int)} {val lev:List Int} {rea:List (Option Nat)} {trail:List Int} {hd li:Int} {br:Bool} (hn:0≤n∧n≤65536) (hcN:cN≤1000000000) (hp0:p0.starts=st) (hb:∀b∈st,b≤(h:Int))
  (hA:AmidS n F st l list h cN tr0 0 0 list W val lev rea trail):
  ∃b,dC (fun s:Nat×Int×List Nat×(List (List Nat)×List (List Int))×Int×Int×Bool×List Int×List Int×List (Option Nat)×List Int=>dY p0 l (ixL l:Int) list s.1 s.2.1 s.2.2.1 s.2.2.2.1 s.2.2.2.2.1 s.2.2.2.2.2.1 s.2.2.2.2.2.2.1 s.2.2.2.2.2.2.2.1 s.2.2.2.2.2.2.2.2.1 s.2.2.2.2.2.2.2.2.2.1 s.2.2.2.2.2.2.2.2.2.2) (0,0,list,W,hd,li,br,val,lev,rea,trail)=some b∧
   (match b with
    | .brk s=>∃m L2 W val lev rea trail,s=(m,L2,W,hd,li,br,val,lev,rea,trail)∧AmidS n F st l list h cN tr0 list.length m L2 W val lev rea trail
    | .ret r=>∃id val lev rea trail W',r=(some id,Sol.mk val lev rea p0.saved W' trail p0.starts hd p0.queue p0.proof li br)∧Clash st trail W'.2 id∧(∃D,Cor n F st D val lev rea trail W'.1 W'.2)∧W'.2.length=cN∧∃e,trail=tr0++e):=by
 refine uV (body:=fun s:Nat×Int×List Nat×(List (List Nat)×List (List Int))×Int×Int×Bool×List Int×List Int×List (Option Nat)×List Int=>dY p0 l (ixL l:Int) list s.1 s.2.1 s.2.2.1 s.2.2.2.1 s.2.2.2.2.1 s.2.2.2.2.2.1 s.2.2.2.2.2.2.1 s.2.2.2.2.2.2.2.1 s.2.2.2.2.2.2.2.2.1 s.2.2.2.2.2.2.2.2.2.1 s.2.2.2.2.2.2.2.2.2.2) list.length
  (fun k (t:Nat×List Nat×(List (List Nat)×List (List Int))×List Int×List Int×List (Option Nat)×List Int)=>(t.1,(k:Int),t.2.1,t.2.2.1,hd,li,br,t.2.2.2.1,t.2.2.2.2.1,t.2.2.2.2.2.1,t.2.2.2.2.2.2)) (fun k t=>AmidS n F st l list h cN tr0 k t.1 t.2.1 t.2.2.1 t.2.2.2.1 t.2.2.2.2.1 t.2.2.2.2.2.1 t.2.2.2.2.2.2) _ (t0:=(0,list,W,val,lev,rea,trail)) rfl hA ?_ ?_
 ·rintro k ⟨m,L2,W,val,lev,rea,trail⟩ hk hA
  rcases amidS_round hn hcN hp0 hb hA hk (hd:=hd) (li:=li) (br:=br) with⟨m',L2',W',val',lev',rea',trail',h1,h2⟩|⟨id,W',h1,h2,h3,h4⟩
  ·exact Or.inl ⟨(m',L2',W',val',lev',rea',trail'),h1,h2⟩
  exact Or.inr ⟨_,h1,id,val,lev,rea,trail,W',rfl,h2,h3,h4,hA.ext⟩
 rintro⟨m,L2,W,val,lev,rea,trail⟩ hA
 refine⟨.brk (m,L2,W,hd,li,br,val,lev,rea,trail),?_,m,L2,W,val,lev,rea,trail,rfl,hA⟩
 simp only[dY,rX,if_false,Bool.false_eq_true]
theorem spropagate_ok {s:Sol} {h:Nat} (hn:0≤n∧n≤65536) (hcN:s.watches.2.length≤1000000000) (hst:s.starts=st) (hhd:s.head=h) (hb:∀b∈st,b≤(h:Int))
  (hE:Cor n F st (fun _ w=> -w∈s.trail.take h) s.value s.level s.reason s.trail s.watches.1 s.watches.2) (hh:h≤s.trail.length):
  ∃r val' lev' rea' ext W' h',jY s=some (r,Sol.mk val' lev' rea' s.saved W' (s.trail++ext) s.starts h' s.queue s.proof s.literals s.broken)∧W'.2.length=s.watches.2.length∧
   ((r=none∧h'=((s.trail++ext).length:Int)∧Cor n F st (fun _ w=> -w∈s.trail++ext) val' lev' rea' (s.trail++ext) W'.1 W'.2)∨(∃id,r=some id∧Clash st (s.trail++ext) W'.2 id∧∃D,Cor n F st D val' lev' rea' (s.trail++ext) W'.1 W'.2)):=by
 obtain⟨val,lev,rea,saved,W,trail,starts,head,queue,proof,li,br⟩:=s
 simp only at hcN hst hhd hE hh⊢
 subst hst hhd
 refine Exists.elim (xM (body:=fun s:Int×Int×Bool×List Int×List Int×List (Option Nat)×(List (List Nat)×List (List Int))×List Int=>kF (Sol.mk val lev rea saved W trail starts (h:Int) queue proof li br) s.1 s.2.1 s.2.2.1 s.2.2.2.1 s.2.2.2.2.1 s.2.2.2.2.2.1 s.2.2.2.2.2.2.1 s.2.2.2.2.2.2.2)
  (fun t=>∃h':Nat,t.1=h'∧h≤h'∧t.2.1=li∧t.2.2.1=br∧h'≤t.2.2.2.2.2.2.2.length∧(∃e,t.2.2.2.2.2.2.2=trail++e)∧t.2.2.2.2.2.2.1.2.length=W.2.length∧Cor n F starts (fun _ w=> -w∈t.2.2.2.2.2.2.2.take h') t.2.2.2.1 t.2.2.2.2.1 t.2.2.2.2.2.1 t.2.2.2.2.2.2.2 t.2.2.2.2.2.2.1.1 t.2.2.2.2.2.2.1.2)
  (fun t=>(n+1-t.1).toNat)
  (fun b=>match b with
   | .brk s=>∃val' lev' rea' tr' W',s=((tr'.length:Int),li,br,val',lev',rea',W',tr')∧(∃e,tr'=trail++e)∧W'.2.length=W.2.length∧Cor n F starts (fun _ w=> -w∈tr') val' lev' rea' tr' W'.1 W'.2
   | .ret r=>∃id val' lev' rea' tr' W' hd,r=(some id,Sol.mk val' lev' rea' saved W' tr' starts hd queue proof li br)∧(∃e,tr'=trail++e)∧W'.2.length=W.2.length∧Clash starts tr' W'.2 id∧∃D,Cor n F starts D val' lev' rea' tr' W'.1 W'.2) ?_ ((h:Int),li,br,val,lev,rea,W,trail) ⟨h,rfl,Nat.le_refl _,rfl,rfl,hh,⟨[],by simp⟩,rfl,hE⟩) ?_
 ·rintro⟨hd,li',br',val1,lev1,rea1,W1,tr⟩ ⟨h',rfl,hge,rfl,rfl,hle,⟨e,he⟩,hcl,hE⟩
  simp only at hle he hcl hE⊢
  have htl:=hE.eng.trailLen hn.1
  unfold kF
  by_cases hlt:h'<tr.length
  ·obtain⟨x,hx⟩:=bJ hlt
   have hx0:=hE.eng.lit (bK hx)
   have hxb:=nS.1 hx0.2
   have hlv:vr (-x)≤n:=by rw[kU];exact hx0.2
   obtain⟨list,hlist⟩:=hE.eng.rowAt hlv
   have i1:inK .i64 (0-x)=some (-x):=oG (by omega) ⟨by omega,by omega⟩
   have i2:inK .i64 ((h':Int)+1)=some ((h'+1:Nat):Int):=oG rfl ⟨by omega,by omega⟩
   have hA:AmidS n F starts (-x) list h' W.2.length trail 0 0 list W1 val1 lev1 rea1 tr:=by
    refine⟨?_,hlist,⟨rfl,rfl⟩,⟨e,he⟩,by rw[Int.neg_neg];exact hx,Nat.le_refl _,hcl,by have:=hE.eng.rowLen hlist;omega⟩
    have hsame:W1.1.set (ixL (-x)) (list.take 0++list.drop 0)=W1.1:=by
     rw[List.take_zero,List.nil_append,List.drop_zero];exact set_self hlist
    rw[hsame]
    have hn2:=(hE.eng.row _ _ hlist).2
    refine hE.more fun id c w o hc hp hd=>?_
    rcases hd with hd|⟨rfl,hd⟩
    ·exact hE.eng.pr id c w o hc hp hd
    exact absurd ((hn2 id).2 ⟨c,_,o,hc,hp,rfl⟩) hd
   obtain⟨b,hb',hpost⟩:=amidS_loop (p0:=Sol.mk val lev rea saved W trail starts (h:Int) queue proof li' br') hn hcN rfl (fun b hbb=>by have:=hb b hbb;omega) hA (hd:=((h'+1:Nat):Int)) (li:=li') (br:=br')
   rw[if_pos (by simpa using hlt),dA hx,bsm,i1,bsm,i2,bsm,Y0 (by omega),bsm,dA hlist,bsm,hb',bsm]
   cases b with
   |brk s=>
    obtain⟨m2,L2,W2,val2,lev2,rea2,tr2,rfl,hA2⟩:=hpost
    simp only
    rw[bsm,dA hA2.row,bsm,aB1 (by have:=hA2.kl;have:=hA2.l2.1;omega),bsm,oV,bsm]
    have hlt2:=dB hA2.at_
    refine Or.inl ⟨_,rfl,⟨h'+1,rfl,by omega,rfl,rfl,by show h'+1≤tr2.length;omega,hA2.ext,hA2.cn,?_⟩,?_⟩
    ·have h3:=hA2.eng
     rw[List.drop_length,List.append_nil] at h3
     refine h3.less fun id w hd=>?_
     have h4:tr2.take (h'+1)=tr2.take h'++[x]:=dZ (by have:=hA2.at_;rwa [Int.neg_neg] at this)
     have hd: -w∈tr2.take (h'+1):=hd
     rw[h4,List.mem_append,List.mem_singleton] at hd
     rcases hd with hd|hd
     ·exact Or.inl hd
     exact Or.inr ⟨by omega,by simp⟩
    show(n+1-((h'+1:Nat):Int)).toNat<(n+1-(h':Int)).toNat
    omega
   |ret r=>
    obtain⟨id,val2,lev2,rea2,tr2,W2,rfl,h1,h2,h3,h4⟩:=hpost
    exact Or.inr ⟨_,rfl,id,val2,lev2,rea2,tr2,W2,_,rfl,h4,h3,h1,h2⟩
  rw[if_neg (by simpa using hlt)]
  have:h'=tr.length:=by omega
  subst this
  rw[List.take_length] at hE
  exact Or.inr ⟨_,rfl,val1,lev1,rea1,tr,W1,rfl,⟨e,he⟩,hcl,hE⟩
 rintro b ⟨hb,hp⟩
 unfold jY
 simp only
 rw[hb,bsm]
 cases b with
 |brk s=>
  obtain⟨val',lev',rea',tr',W',rfl,⟨e,rfl⟩,h1,h2⟩:=hp
  exact⟨none,val',lev',rea',e,W',_,rfl,h1,Or.inl ⟨rfl,rfl,h2⟩⟩
 |ret r=>
  obtain⟨id,val',lev',rea',tr',W',hd,rfl,⟨e,rfl⟩,h1,h2,h3⟩:=hp
  exact⟨some id,val',lev',rea',e,W',hd,rfl,h1,Or.inr ⟨id,rfl,h2,h3⟩⟩
end
def tH (n:Int) (q:List Int):Prop:=(∀y∈q,y≠0∧vr y≤n)∧q.Nodup
theorem clF_nodup {v:Int}:∀{t:Int} {c:List Int},0≤t→clF v t c=true→c.Nodup
 |_,[],_,_=>List.nodup_nil
 |t,x::c,ht,hc=>by
  unfold clF at hc
  simp only[Bool.and_eq_true,decide_eq_true_eq] at hc
  refine List.nodup_cons.2 ⟨fun hx=>?_,clF_nodup (jC x) hc.2⟩
  have:=(clF_mem (jC x) hc.2 x hx).2.2
  omega
theorem clF_ok {n:Int} {q:List Int} (h:clF n 0 q=true):tH n q:=by
 refine⟨fun y hy=>?_,clF_nodup (Int.le_refl 0) h⟩
 have:=clF_mem (Int.le_refl 0) h y hy
 exact⟨fun e=>by rw[e] at this;simp[vr] at this,nS.2 ⟨this.1,this.2.1⟩⟩
theorem tH.len {n:Int} {q:List Int} (h:tH n q) (hn:0≤n∧n≤65536):q.length≤131074:=by
 have h1:=vZ 131074 (q.map ixL) (by
  unfold List.Nodup
  rw[List.pairwise_map]
  exact List.Pairwise.imp (fun{a b} hne he=>hne (rW he)) h.2) (fun x hx=>by
  obtain⟨y,hy,rfl⟩:=List.mem_map.1 hx
  have:=ixL_bnd (h.1 y hy).2
  omega)
 rwa [List.length_map] at h1
structure EngB (n:Int) (F:List (List Int)) (e:PEng):Prop where
 len:e.watches.2.length≤F.length
 st:(e.fails=true∧Fails F [])∨(e.fails=false∧e.head=(e.trail.length:Int)∧Eng n F [] e.trail.length e.trail.length (fun _ w=> -w∈e.trail) e.value e.trail e.watches.1 e.watches.2)
section
variable {n:Int} {F:List (List Int)} {S:List Int} {np nc:Nat} {D:Nat→Int→Prop} {val trail:List Int} {ws:List (List Nat)} {cl:List (List Int)}
theorem open_loop (h:Eng n F S np nc D val trail ws cl) {q:List Int} (hq:tH n q) (hn:0≤n∧n≤65536) {e:PEng} (he:e.value=val):
  ∃b,dC (fun s:Int×List Int=>jS e q s.1 s.2) (0,[])=some b∧
   (match b with| .ret r=>r=e∧∃y∈q,y∈trail| .brk c=>c=q.filter (fun y=>decide (gv val y=some 0))∧∀y∈q,y∉trail):=by
 have hql:=hq.len hn
 obtain⟨tr,hd,W,fl,rfl⟩:∃tr hd W fl,e=PEng.mk val tr hd W fl:=⟨e.trail,e.head,e.watches,e.fails,by rw[←he]⟩
 refine uV (body:=fun s:Int×List Int=>jS (PEng.mk val tr hd W fl) q s.1 s.2) q.length (fun k t=>((k:Int),t))
  (fun k c=>c=(q.take k).filter (fun y=>decide (gv val y=some 0))∧∀y∈q.take k,y∉trail) _ (t0:=[]) rfl ⟨by simp,by simp⟩ ?_ ?_
 ·rintro k c hk ⟨h1,h2⟩
  obtain⟨y,hy⟩:=bJ hk
  obtain⟨r,hr,hcase⟩:=of_ok h (hq.1 y (bK hy)).1 (hq.1 y (bK hy)).2 hn.2 (tr:=tr) (hd:=hd) (W:=W) (fl:=fl)
  have htk:=dZ hy
  have hup:=jD hk (show q.length≤9223372036854775807 by omega)
  simp only[jS,ltB hk,if_true,dA hy,bsm,hr]
  rcases hcase with⟨rfl,hm⟩|⟨rfl,hm⟩|⟨rfl,hz,hm,hm'⟩
  ·exact Or.inr ⟨.ret (PEng.mk val tr hd W fl),by rw[if_pos (by decide)],rfl,y,bK hy,hm⟩
  ·rw[if_neg (by decide),if_neg (by decide),hup,bsm]
   refine Or.inl ⟨c,rfl,?_,fun z hz=>?_⟩
   ·have hg:¬gv val y=some 0:=fun e=>by
     have:=(h.tr (-y)).1 hm
     rw[uH,e] at this
     exact this.1 (Option.some.inj this.2).symm
    rw[htk,List.filter_append,←h1]
    simp[hg]
   rw[htk,List.mem_append,List.mem_singleton] at hz
   rcases hz with hz|rfl
   ·exact h2 z hz
   exact fun hp=>h.opp hp hm
  have hcl:c.length≤q.length:=by rw[h1];exact Nat.le_trans (List.length_filter_le _ _) (by rw[List.length_take];omega)
  rw[if_neg (by decide),if_pos (by decide),oM (by simp;omega),bsm,hup,bsm]
  refine Or.inl ⟨c++[y],rfl,?_,fun z hz'=>?_⟩
  ·rw[htk,List.filter_append,←h1]
   simp[hz]
  rw[htk,List.mem_append,List.mem_singleton] at hz'
  rcases hz' with hz'|rfl
  ·exact h2 z hz'
  exact hm
 rintro c ⟨h1,h2⟩
 rw[List.take_length] at h1 h2
 refine⟨.brk c,?_,h1,h2⟩
 simp only[jS,rX,if_false,Bool.false_eq_true]
theorem Eng.ids (h:Eng n F S np nc D val trail ws cl):idsOk cl.length ws=true:=by
 unfold idsOk
 simp only[List.all_eq_true,decide_eq_true_eq]
 intro ids hids id hid
 obtain⟨r,hr⟩:=List.getElem?_of_mem hids
 obtain⟨c,_,_,hc,_⟩:=((h.row r ids hr).2 id).1 hid
 exact dB hc
theorem lp2_round {p0:PEng} {x10:List Int} {k:Nat} {l:Int} {W:List (List Nat)×List (List Int)} {R:List Nat} (hk:x10[k]?=some l) (hkl:x10.length≤1000) (hl: -1099511627776≤l∧l≤1099511627776) (hR:W.1[ixL l]?=some R) (hRl:R.length≤1000000000):
  lD p0 x10 (k:Int) W=some (.next (((k+1:Nat):Int),(W.1.set (ixL l) (R++[p0.watches.2.length]),W.2))):=by
 have hlt:=dB hk
 unfold lD
 rw[if_pos (ltB hlt),dA hk,bsm,aG6 hl,bsm,bsm,dA hR,bsm,oM (by simp;omega),bsm,oV,bsm,jD hlt (by omega),bsm]
 rfl
theorem add_ok (hn:0≤n∧n≤65536) (hF:F.length≤1000000) {e:PEng} (he:EngB n F e) {q:List Int} (hq:tH n q):∃e',mJ e q=some e'∧EngB n (F++[q]) e':=by
 have hFm:∀c∈F,c∈F++[q]:=fun c hc=>List.mem_append_left _ hc
 have hqm:q∈F++[q]:=List.mem_append_right _ (List.mem_singleton.2 rfl)
 have hlen:=he.len
 unfold mJ
 rcases he.st with⟨hf,hfail⟩|⟨hf,hh,hE⟩
 ·rw[if_pos hf]
  exact⟨e,rfl,by rw[List.length_append];omega,Or.inl ⟨hf,hfail.mono hFm (fun _ h=>h)⟩⟩
 rw[if_neg (by rw[hf];decide)]
 have e3:e.trail.take e.trail.length=e.trail:=List.take_length
 obtain⟨b,hb,hp⟩:=open_loop hE hq hn (e:=e) rfl
 rw[hb,bsm]
 cases b with
 |ret r=>
  obtain⟨rfl,y,hy,hm⟩:=hp
  exact⟨r,rfl,by rw[List.length_append];omega,Or.inr ⟨hf,hh,hE.addSat hy (by rw[e3];exact hm)⟩⟩
 |brk c=>
  obtain⟨hc,hno⟩:=hp
  have hcm:∀y,y∈c↔y∈q∧gv e.value y=some 0:=fun y=>by rw[hc,List.mem_filter];simp
  have hex:∀y∈q,y∉c→ -y∈e.trail:=fun y hy hn2=>by
   rcases hE.cases (hq.1 y hy).1 (hq.1 y hy).2 with⟨_,h1⟩|⟨_,h1⟩|⟨h1,_⟩
   ·exact absurd h1 (hno y hy)
   ·exact h1
   exact absurd ((hcm y).2 ⟨hy,h1⟩) hn2
  have hcn:c.Nodup:=by rw[hc];exact hq.2.sublist List.filter_sublist
  have hopen:∀y∈c,-y∉e.trail:=fun y hy hm=>by
   have h1:=((hcm y).1 hy).2
   have h2:=(hE.tr (-y)).1 hm
   rw[uH,h1] at h2
   exact h2.1 (Option.some.inj h2.2).symm
  have hcl:c.length≤131074:=by
   have:=hq.len hn
   have:c.length≤q.length:=by rw[hc];exact List.length_filter_le _ _
   omega
  simp only
  match c,hcm,hex,hcn,hopen,hcl with
  | [],hcm,hex,_,_,_=>
   rw[if_pos (by simp)]
   refine⟨_,rfl,by rw[List.length_append];show e.watches.2.length≤_;omega,Or.inl ⟨rfl,Or.inr ⟨q,hqm,fun y hy=>?_⟩⟩⟩
   exact(hE.up (hex y hy (by simp))).mono hFm (fun _ h=>h)
  | [x],hcm,hex,_,_,_=>
   rw[if_neg (by simp),if_pos (by simp),show idx [x] 0=some x from rfl,bsm]
   obtain⟨hx1,hx2⟩:=(hcm x).1 (by simp)
   obtain⟨hx0,hxn⟩:=hq.1 x hx1
   have hhold:=hold_ok hE hxn hn.2 hn.1 (hd:=e.head) (W:=e.watches) (fl:=e.fails)
   rw[show(PEng.mk e.value e.trail e.head e.watches e.fails)=e from rfl] at hhold
   rw[hhold,bsm]
   have hU:=hE.addUnit hx1 hx0 hxn hx2 (fun y hy hne=>hex y hy (by simp[hne]))
   have htk:(e.trail++[x]).take e.trail.length=e.trail:=List.take_left' rfl
   have hU2:Eng n (F++[q]) [] e.trail.length (e.trail.length+1) (fun _ w=> -w∈(e.trail++[x]).take e.trail.length) (e.value.set (vr x).toNat x) (e.trail++[x]) e.watches.1 e.watches.2:=by rw[htk];exact hU
   obtain⟨ok,val',ext,W',h',hpr,hWl,hres⟩:=aG9 hn (by omega) hU2 (by simp) (fl:=e.fails)
   simp only
   rw[hh,hpr,bsm]
   refine⟨_,rfl,by rw[List.length_append];show W'.2.length≤_;omega,?_⟩
   rcases hres with⟨rfl,rfl,hE'⟩|⟨rfl,hfail,_⟩
   ·refine Or.inr ⟨rfl,rfl,hE'.rebase (fun id w hw=>hw)⟩
   exact Or.inl ⟨rfl,hfail⟩
  |a::b::c',hcm,hex,hcn,hopen,hcl=>
   rw[if_neg (by simp;omega),if_neg (by simp;omega)]
   have haq:=(hcm a).1 (by simp)
   have hbq:=(hcm b).1 (by simp)
   have hab:a≠b:=fun e=>by subst e;have:=nI hcn (i:=0) (j:=1) rfl rfl;omega
   obtain⟨Ra,hRa⟩:=hE.rowAt (hq.1 a haq.1).2
   obtain⟨Rb,hRb⟩:=hE.rowAt (hq.1 b hbq.1).2
   have hRal:=hE.rowLen hRa
   have hRbl:=hE.rowLen hRb
   have hva:=nS.1 (hq.1 a haq.1).2
   have hvb:=nS.1 (hq.1 b hbq.1).2
   have hix:ixL b≠ixL a:=fun e=>hab (rW e).symm
   have e1:arPut e.watches.2 e.watches.1 (a::b::c')=some (e.watches.2++[a::b::c']):=by unfold arPut;rw[if_pos hE.ids]
   have e2:sub (a::b::c') 0 2=some [a,b]:=by rw[wI (by decide) (by decide) (by simp;omega)];rfl
   rw[e1,bsm,e2,bsm]
   have r0:=lp2_round (p0:=e) (x10:=[a,b]) (k:=0) (W:=(e.watches.1,e.watches.2++[a::b::c'])) rfl (by simp) (by omega) hRa (by omega)
   have r1:=lp2_round (p0:=e) (x10:=[a,b]) (k:=1) (W:=(e.watches.1.set (ixL a) (Ra++[e.watches.2.length]),e.watches.2++[a::b::c'])) rfl (by simp) (by omega) (by show(e.watches.1.set _ _)[ixL b]?=_;rw[cZ hix];exact hRb) (by omega)
   rw[fQ r0,fQ r1,dW (b:=((e.watches.1.set (ixL a) (Ra++[e.watches.2.length])).set (ixL b) (Rb++[e.watches.2.length]),e.watches.2++[a::b::c'])) (by simp[lD]),bsm]
   have hset:(e.watches.2++[a::b::c']).set e.watches.2.length (a::b::c')=e.watches.2++[a::b::c']:=set_self (by simp)
   simp only[hset]
   refine⟨_,rfl,by simp;omega,Or.inr ⟨hf,hh,?_⟩⟩
   exact hE.addCl (q:=q) (d:=a::b::c') (a:=a) (b:=b) rfl rfl hcn (fun y hy=>hq.1 y ((hcm y).1 hy).1) (fun y hy=>((hcm y).1 hy).1) (fun y hy hm=>by rw[e3];exact hex y hy hm)
    (hopen a (by simp)) (hopen b (by simp)) (fun i w hw=>hw) hRa hRb
end
theorem newEngine_ok {f:Formula} (hn:0≤f.vars∧f.vars≤65536) (hF:f.clauses.length≤1000000) (hq:∀c∈f.clauses,tH f.vars c):∃e,oW f=some e∧EngB f.vars f.clauses e:=by
 unfold oW
 rw[iO ⟨by omega,by omega⟩,bsm,mkc_ok ⟨by omega,by omega,by omega⟩,bsm,iO ⟨by omega,by omega⟩,bsm,iO ⟨by omega,by omega⟩,bsm,mkc_ok ⟨by omega,by omega,by omega⟩,bsm]
 obtain⟨b,hb,hp⟩:=uV (body:=fun s:Int×List Int×Int×Bool×(List (List Nat)×List (List Int))×List Int=>mF f s.1 s.2.1 s.2.2.1 s.2.2.2.1 s.2.2.2.2.1 s.2.2.2.2.2) (s0:=(0,[],0,false,(List.replicate (2*f.vars+2).toNat [],[]),List.replicate (f.vars+1).toNat 0)) f.clauses.length
  (fun k (e:PEng)=>((k:Int),e.trail,e.head,e.fails,e.watches,e.value)) (fun k e=>EngB f.vars (f.clauses.take k) e) (fun b=>EngB f.vars f.clauses (PEng.mk b.2.2.2.2 b.1 b.2.1 b.2.2.2.1 b.2.2.1)) (t0:=PEng.mk (List.replicate (f.vars+1).toNat 0) [] 0 (List.replicate (2*f.vars+2).toNat [],[]) false) rfl
  ⟨by simp,Or.inr ⟨rfl,rfl,by rw[List.take_zero];exact Eng.start hn.1⟩⟩ (by
   intro k e hk he
   obtain⟨c,hc⟩:=bJ hk
   obtain⟨e',h1,h2⟩:=add_ok hn (by rw[List.length_take];omega) he (hq c (bK hc))
   rw[←dZ hc] at h2
   refine Or.inl ⟨e',?_,h2⟩
   simp only[mF,ltB hk,if_true,dA hc,bsm]
   rw[show(PEng.mk e.value e.trail e.head e.watches e.fails)=e from rfl,h1,bsm,jD hk (by omega),bsm]) (by
   intro e he
   rw[List.take_length] at he
   exact⟨(e.trail,e.head,e.fails,e.watches,e.value),by simp only[mF,rX,if_false,Bool.false_eq_true],he⟩)
 rw[hb,bsm]
 exact⟨_,rfl,hp⟩
def wH (q:List Int):List Int:=q.map fun y=> -y
theorem P6 {q:List Int} {y:Int}: -y∈wH q↔y∈q:=by
 unfold wH
 rw[List.mem_map]
 exact⟨fun⟨z,hz,e⟩=>by rwa [show y=z by omega],fun h=>⟨y,h,rfl⟩⟩
theorem X7 {q:List Int} {y:Int} (h:y∈wH q): -y∈q:=by
 rw[←P6,Int.neg_neg];exact h
theorem lits_of {n:Int} {F:List (List Int)} {q:List Int} (hn:0≤n∧n≤65536) (hF:∀c∈F,tH n c) (hq:tH n q):Lits n F (wH q):=
 ⟨hn,fun c hc y hy=>(hF c hc).1 y hy,fun y hy=>by
  have h1:=hq.1 _ (X7 hy)
  rw[kU] at h1
  exact⟨by omega,h1.2⟩,fun c hc=>(hF c hc).2⟩
section
variable {n:Int} {F:List (List Int)}
theorem follows_loop (hn:0≤n∧n≤65536) {e:PEng} {q:List Int} (hq:tH n q) (hE:Eng n F (wH q) e.trail.length e.trail.length (fun _ w=> -w∈e.trail) e.value e.trail e.watches.1 e.watches.2):
  ∃b,dC (fun s:Bool×Int×Int×Bool×List Int×List Int=>gZ e q s.1 s.2.1 s.2.2.1 s.2.2.2.1 s.2.2.2.2.1 s.2.2.2.2.2) (true,0,e.head,e.fails,e.value,e.trail)=some b∧
   ∃ok val ext,b=(ok,e.head,e.fails,val,e.trail++ext)∧Eng n F (wH q) e.trail.length e.trail.length (fun _ w=> -w∈e.trail) val (e.trail++ext) e.watches.1 e.watches.2∧
    ((ok=true∧∀y∈q,-y∈e.trail++ext)∨(ok=false∧Fails F (wH q))):=by
 have hql:=hq.len hn
 refine uV (body:=fun s:Bool×Int×Int×Bool×List Int×List Int=>gZ e q s.1 s.2.1 s.2.2.1 s.2.2.2.1 s.2.2.2.2.1 s.2.2.2.2.2) q.length
  (fun k (t:List Int×List Int)=>(true,(k:Int),e.head,e.fails,t.1,e.trail++t.2))
  (fun k t=>Eng n F (wH q) e.trail.length e.trail.length (fun _ w=> -w∈e.trail) t.1 (e.trail++t.2) e.watches.1 e.watches.2∧∀j y,j<k→q[j]?=some y→ -y∈e.trail++t.2) _ (t0:=(e.value,[])) (by simp) ⟨by simpa using hE,fun j y hj=>by omega⟩ ?_ ?_
 ·rintro k ⟨val,ext⟩ hk ⟨h,h2⟩
  simp only at h h2
  obtain⟨y,hy⟩:=bJ hk
  have hyq:=hq.1 y (bK hy)
  have hyb:=nS.1 hyq.2
  obtain⟨r,hr,hcase⟩:=of_ok h hyq.1 hyq.2 hn.2 (tr:=e.trail++ext) (hd:=e.head) (W:=e.watches) (fl:=e.fails)
  have hup:=jD hk (show q.length≤9223372036854775807 by omega)
  simp only[gZ,ltB hk,if_true,dA hy,bsm,hr]
  have hs:UP F (wH q) (-y):= .start (P6.2 (bK hy))
  rcases hcase with⟨rfl,hm⟩|⟨rfl,hm⟩|⟨rfl,hz,hm,hm'⟩
  ·exact Or.inr ⟨(false,e.head,e.fails,val,e.trail++ext),by rw[if_pos (by decide)],false,val,ext,rfl,h,Or.inr ⟨rfl,Or.inl ⟨y,h.up hm,hs⟩⟩⟩
  ·rw[if_neg (by decide),if_neg (by decide),hup,bsm]
   refine Or.inl ⟨(val,ext),rfl,h,fun j z hj hz=>?_⟩
   by_cases ej:j=k
   ·subst ej;rw[hy] at hz;exact Option.some.inj hz▸hm
   exact h2 j z (by omega) hz
  have hvn:vr (-y)≤n:=by rw[kU];exact hyq.2
  have i1:inK .i64 (0-y)=some (-y):=oG (by omega) ⟨by omega,by omega⟩
  have hh:=hold_ok h hvn hn.2 hn.1 (hd:=e.head) (W:=e.watches) (fl:=e.fails)
  rw[if_neg (by decide),if_pos (by decide),i1,bsm,hh,bsm,hup,bsm]
  have h3:=h.hold (x:= -y) (by omega) hvn (by rw[uH];exact hz) hs
  refine Or.inl ⟨(val.set (vr (-y)).toNat (-y),ext++[-y]),by simp,by simpa using h3,fun j z hj hz=>?_⟩
  by_cases ej:j=k
  ·subst ej;rw[hy] at hz;rw[←Option.some.inj hz];simp
  have:=h2 j z (by omega) hz
  rw[←List.append_assoc];exact List.mem_append_left _ this
 rintro⟨val,ext⟩ ⟨h,h2⟩
 refine⟨(true,e.head,e.fails,val,e.trail++ext),?_,true,val,ext,rfl,h,Or.inl ⟨rfl,fun y hy=>?_⟩⟩
 ·simp only[gZ,rX,if_false,Bool.false_eq_true]
 obtain⟨j,hj⟩:=List.getElem?_of_mem hy
 exact h2 j y (dB hj) hj
theorem clear_loop {val dr:List Int} (hd:∀x∈dr,vr x≤n∧x≠0) (hn:n≤65536) (hv:(val.length:Int)=n+1) (hl:dr.length≤1000000):
  ∃v',dC (fun s:Int×List Int=>iC dr s.1 s.2) (0,val)=some v'∧v'.length=val.length∧
   (∀(v:Nat),(∃x∈dr,(vr x).toNat=v)→v'[v]?=some 0∨val.length≤v)∧(∀(v:Nat),(∀x∈dr,(vr x).toNat≠v)→v'[v]?=val[v]?):=by
 refine uV (body:=fun s:Int×List Int=>iC dr s.1 s.2) dr.length (fun k t=>((k:Int),t))
  (fun k v'=>v'.length=val.length∧(∀(v:Nat),(∃x∈dr.take k,(vr x).toNat=v)→v'[v]?=some 0∨val.length≤v)∧(∀(v:Nat),(∀x∈dr.take k,(vr x).toNat≠v)→v'[v]?=val[v]?)) _ (t0:=val) rfl
  ⟨rfl,fun v ⟨x,hx,_⟩=>by simp at hx,fun v _=>rfl⟩ ?_ ?_
 ·rintro k v' hk ⟨h1,h2,h3⟩
  obtain⟨x,hx⟩:=bJ hk
  obtain⟨hxn,hx0⟩:=hd x (bK hx)
  have hxb:=nS.1 hxn
  have hx1:=jC x
  obtain⟨y,hy⟩:=bJ (show(vr x).toNat<v'.length by omega)
  have em:max x (-x)=vr x:=by unfold vr;omega
  have hi:idx v' (max x (-x))=some y:=by rw[em];exact jR hx1 hy
  have i1:inK .i64 (0-x)=some (-x):=oG (by omega) ⟨by omega,by omega⟩
  refine Or.inl ⟨v'.set (vr x).toNat 0,?_,by rw[List.length_set];exact h1,fun v hv'=>?_,fun v hv'=>?_⟩
  ·simp only[iC,ltB hk,if_true,dA hx,bsm,i1,hi,jD hk (show dr.length≤9223372036854775807 by omega)]
   rw[em]
  ·rw[dZ hx] at hv'
   obtain⟨z,hz,rfl⟩:=hv'
   by_cases e:(vr z).toNat=(vr x).toNat
   ·rw[e];exact Or.inl (dG hy)
   rw[cZ e]
   rw[List.mem_append,List.mem_singleton] at hz
   rcases hz with hz|rfl
   ·exact h2 _ ⟨z,hz,rfl⟩
   exact absurd rfl e
  rw[dZ hx] at hv'
  rw[cZ (fun e=>hv' x (by simp) e.symm)]
  exact h3 v fun z hz=>hv' z (List.mem_append_left _ hz)
 rintro v' ⟨h1,h2,h3⟩
 rw[List.take_length] at h2 h3
 exact⟨v',by simp only[iC,rX,if_false,Bool.false_eq_true],h1,h2,h3⟩
theorem follows_ok (hn:0≤n∧n≤65536) (hF:F.length≤1000000) (hFc:∀c∈F,tH n c) {e:PEng} (he:EngB n F e) {q:List Int} (hq:tH n q):
  ∃r e',lF e q=some (r,e')∧EngB n F e'∧(r=true↔Fails F (wH q)):=by
 have hlen:=he.len
 unfold lF
 rcases he.st with⟨hf,hfail⟩|⟨hf,hh,hE0⟩
 ·rw[if_pos hf]
  exact⟨true,e,rfl,he,fun _=>hfail.mono (fun _ h=>h) (by simp),fun _=>rfl⟩
 rw[if_neg (by rw[hf];decide)]
 have hE:=hE0.assume (wH q)
 obtain⟨b,hb,ok,val,ext,rfl,h1,h2⟩:=follows_loop hn hq hE
 rw[hb,bsm]
 have htk:(e.trail++ext).take e.trail.length=e.trail:=List.take_left' rfl
 have hL:=lits_of hn hFc hq
 obtain⟨ok2,hd2,val2,tr2,W2,hm,⟨ext2,rfl⟩,hWl,⟨D2,h3⟩,h4⟩:∃ok2 hd2 val2 tr2 W2,(if ok=true then
   (gW (PEng.mk val (e.trail++ext) e.head e.watches e.fails)).bind fun x8=>
   some (x8.1,x8.2.head,x8.2.fails,x8.2.value,x8.2.trail,x8.2.watches)
  else
   some (false,e.head,e.fails,val,e.trail++ext,e.watches))=some (ok2,hd2,e.fails,val2,tr2,W2)∧(∃x,tr2=e.trail++x)∧W2.2.length=e.watches.2.length∧(∃D,Eng n F (wH q) e.trail.length e.trail.length D val2 tr2 W2.1 W2.2)∧(ok2=true↔¬Fails F (wH q)):=by
  rcases h2 with⟨rfl,h2⟩|⟨rfl,h2⟩
  ·have h1':Eng n F (wH q) e.trail.length e.trail.length (fun _ w=> -w∈(e.trail++ext).take e.trail.length) val (e.trail++ext) e.watches.1 e.watches.2:=by rw[htk];exact h1
   obtain⟨ok2,val2,ext2,W2,hd2,hpr,hWl,hres⟩:=aG9 hn (by omega) h1' (by simp) (fl:=e.fails)
   rw[if_pos rfl,hh,hpr,bsm]
   refine⟨ok2,hd2,val2,_,W2,rfl,⟨ext++ext2,by rw[List.append_assoc]⟩,hWl,?_⟩
   rcases hres with⟨rfl,_,h5⟩|⟨rfl,h5,D,h6⟩
   ·refine⟨⟨_,h5⟩,fun _=>?_,fun _=>rfl⟩
    refine closed_ok hL h5.vo (fun l hl=>?_) (h5.closed fun id w hw=>hw)
    have h7:=h2 _ (X7 hl)
    rw[Int.neg_neg] at h7
    exact((h5.tr l).1 (List.mem_append_left _ h7)).2
   exact⟨⟨D,h6⟩,fun h=>(by cases h),fun h=>absurd h5 h⟩
  rw[if_neg (by decide)]
  exact⟨false,_,val,_,e.watches,rfl,⟨ext,rfl⟩,rfl,⟨_,h1⟩,fun h=>(by cases h),fun h=>absurd h2 h⟩
 rw[hm,bsm]
 simp only
 have htl:=h3.trailLen hn.1
 rw[List.length_append] at htl
 have hdrop:(e.trail++ext2).drop e.trail.length=ext2:=List.drop_left' rfl
 have htake:(e.trail++ext2).take e.trail.length=e.trail:=List.take_left' rfl
 have s1:sub (e.trail++ext2) (e.trail.length:Int) ((e.trail++ext2).length:Int)=some ext2:=by
  rw[wI (by omega) (by rw[List.length_append];omega) (by omega)]
  rw[Int.toNat_natCast,Int.toNat_natCast,List.take_length,hdrop]
 have s2:sub (e.trail++ext2) 0 (e.trail.length:Int)=some e.trail:=by
  rw[wI (by decide) (by omega) (by rw[List.length_append];omega)]
  rw[Int.toNat_natCast,htake];rfl
 obtain⟨v',hv,c1,c2,c3⟩:=clear_loop (n:=n) (val:=val2) (dr:=ext2) (fun x hx=>by
  have:=h3.lit (List.mem_append_right e.trail hx);exact⟨this.2,this.1⟩) hn.2 h3.vo.len (by omega)
 rw[s1,bsm,hv,bsm,s2,bsm]
 refine⟨_,_,rfl,⟨by show W2.2.length≤_;omega,Or.inr ⟨hf,rfl,?_⟩⟩,?_⟩
 ·have h6:=h3.reset c1 (by rw[hdrop];exact c2) (by rw[hdrop];exact c3) []
  rw[htake] at h6
  exact h6
 cases ok2 with
 |true=>exact⟨fun h=>(by cases h),fun h=>absurd h (h4.1 rfl)⟩
 |false=>exact⟨fun _=>Classical.byContradiction fun h=>(by cases h4.2 h),fun _=>rfl⟩
end
def J6 (F:List (List Int)):List (List Int)→Prop
 | []=>True
 |c::p=>Fails F (wH c)∧J6 (F++[c]) p
noncomputable def accB (F p:List (List Int)):Bool:= @decide (p.getLast?=some []∧J6 F p) (Classical.propDecidable _)
theorem aG2 {F p:List (List Int)}:accB F p=true↔p.getLast?=some []∧J6 F p:=by unfold accB;exact @decide_eq_true_iff _ (Classical.propDecidable _)
theorem accepted_ok {f:Formula} {p:List (List Int)} (hn:0≤f.vars∧f.vars≤65536) (hl:f.clauses.length+p.length≤1000000) (hF:∀c∈f.clauses,tH f.vars c) (hp:∀c∈p,tH f.vars c):
  qE f p=some (accB f.clauses p):=by
 unfold qE
 have hlast:∀b:Bool,p.getLast?≠some []→accB f.clauses p=false:=fun b h=>by
  cases hb:accB f.clauses p with
  |true=>exact absurd (aG2.1 hb).1 h
  |false=>rfl
 by_cases h0:p.length=0
 ·rw[if_pos (by simpa using h0),bsm,if_pos rfl]
  have:p=[]:=List.eq_nil_of_length_eq_zero h0
  rw[hlast true (by rw[this];simp)]
 obtain⟨c,hc⟩:=bJ (show p.length-1<p.length by omega)
 have hg:p.getLast?=some c:=by rw[List.getLast?_eq_getElem?];exact hc
 rw[if_neg (by simpa using h0),oG (m:=((p.length-1:Nat):Int)) (by omega) ⟨by omega,by omega⟩,bsm,dA hc,bsm,bsm]
 by_cases hcl:0<c.length
 ·rw[if_pos (by simpa using hcl),hlast true (by rw[hg];intro e;rw[Option.some.inj e] at hcl;simp at hcl)]
 rw[if_neg (by simpa using hcl)]
 have hnil:c=[]:=List.eq_nil_of_length_eq_zero (by omega)
 subst hnil
 unfold vN oK
 obtain⟨e0,he0,hE0⟩:=newEngine_ok hn (by omega) hF
 rw[bsm,he0,bsm]
 obtain⟨b,hb,hpost⟩:=uV (body:=fun s:Int×Int×Bool×List Int×List Int×(List (List Nat)×List (List Int))×Step Unit Bool=>jX (fun x _=>iH x) p s.1 s.2.1 s.2.2.1 s.2.2.2.1 s.2.2.2.2.1 s.2.2.2.2.2.1 s.2.2.2.2.2.2)
  (s0:=(0,e0.head,e0.fails,e0.value,e0.trail,e0.watches,.next ())) p.length (fun k (e:PEng)=>((k:Int),e.head,e.fails,e.value,e.trail,e.watches,Step.next ()))
  (fun k e=>EngB f.vars (f.clauses++p.take k) e∧(J6 f.clauses p↔J6 (f.clauses++p.take k) (p.drop k)))
  (fun b=>match b with| .brk s=>s.2.2.2.2.2=Step.next ()∧J6 f.clauses p| .ret st=>st=Step.done false∧¬J6 f.clauses p) (t0:=e0) rfl ⟨by simpa using hE0,by simp⟩ (by
   rintro k e hk ⟨h1,h2⟩
   obtain⟨c,hc⟩:=bJ hk
   have hcm:=hp c (bK hc)
   have hFk:∀d∈f.clauses++p.take k,tH f.vars d:=fun d hd=>by
    rcases List.mem_append.1 hd with hd|hd
    ·exact hF d hd
    exact hp d (List.mem_of_mem_take hd)
   have hlk:(f.clauses++p.take k).length≤1000000:=by rw[List.length_append,List.length_take];omega
   obtain⟨r,e',hr,he',hiff⟩:=follows_ok hn hlk hFk h1 hcm
   have hacc:J6 f.clauses p↔Fails (f.clauses++p.take k) (wH c)∧J6 (f.clauses++p.take (k+1)) (p.drop (k+1)):=by
    rw[h2,xB hc,dZ hc,←List.append_assoc];exact Iff.rfl
   simp only[jX,ltB hk,if_true,dA hc,bsm]
   rw[show(PEng.mk e.value e.trail e.head e.watches e.fails)=e from rfl,hr,bsm]
   cases r with
   |false=>
    refine Or.inr ⟨.ret (Step.done false),?_,rfl,fun h=>?_⟩
    ·simp only[yieldM,iH,Bool.not_false,if_true,bsm,Step.more,Bool.or_true]
    have:=hiff.2 (hacc.1 h).1
    cases this
   |true=>
    obtain⟨e'',h3,h4⟩:=add_ok hn hlk he' hcm
    rw[List.append_assoc,←dZ hc] at h4
    refine Or.inl ⟨e'',?_,h4,?_⟩
    ·simp only[yieldM,iH,Bool.not_true,if_false,Bool.false_eq_true,bsm,Step.more,Bool.or_false,h3,jD hk (show p.length≤9223372036854775807 by omega)]
    rw[hacc];exact⟨fun h=>h.2,fun h=>⟨hiff.1 rfl,h⟩⟩) (by
   rintro e ⟨h1,h2⟩
   refine⟨.brk (e.head,e.fails,e.value,e.trail,e.watches,Step.next ()),?_,rfl,h2.2 (by rw[List.drop_length];trivial)⟩
   simp only[jX,rX,if_false,Bool.false_eq_true])
 rw[hb,bsm]
 cases b with
 |brk s=>
  obtain⟨h1,h2⟩:=hpost
  simp only
  rw[bsm,h1,aG2.2 ⟨hg,h2⟩]
 |ret st=>
  obtain⟨rfl,h2⟩:=hpost
  simp only
  rw[bsm]
  cases hb:accB f.clauses p with
  |true=>exact absurd (aG2.1 hb).2 h2
  |false=>rfl
def sn (m:List (Int×Bool)) (v:Int):Prop:=(mO m v).getD false=true
theorem sn_put {m:List (Int×Bool)} {v x:Int}:sn (uN m v true) x↔x=v∨sn m x:=by
 unfold sn
 rw[mget_mput]
 by_cases e:x=v
 ·simp[e]
 simp[e]
theorem sn_nil (v:Int):¬sn [] v:=by unfold sn;simp[mO]
structure Marks (st trail:List Int) (out:List Int) (m:List (Int×Bool)):Prop where
 tl:∃rest,out=0::rest
 a:∀v,sn m v→∃k x,trail[k]?=some x∧vr x=v∧lvl st k≠0∧(lvl st k≠st.length→ -x∈out.tail)
 b:∀y∈out.tail,∃k:Nat,trail[k]?=some (-y)∧lvl st k≠0∧lvl st k≠st.length∧sn m (vr y)
 nd:(out.map vr).Nodup
section
variable {n:Int} {F:List (List Int)} {st:List Int} {D:Nat→Int→Prop} {val lev:List Int} {rea:List (Option Nat)} {trail:List Int} {ws:List (List Nat)} {cl:List (List Int)}
theorem Cor.lvAt (h:Cor n F st D val lev rea trail ws cl) {k:Nat} {y:Int} (hk:trail[k]?=some (-y)):idx lev (vr y)=some (lvl st k):=by
 have:=h.lv k _ hk
 rw[kU] at this
 exact jR (jC y) this
theorem Marks.len (h:Cor n F st D val lev rea trail ws cl) (hn:0≤n∧n≤65536) {out:List Int} {m:List (Int×Bool)} (hM:Marks st trail out m):out.length≤65537:=by
 obtain⟨rest,rfl⟩:=hM.tl
 have hv:∀x∈(0:Int)::rest,vr x≤n:=fun x hx=>by
  rcases List.mem_cons.1 hx with rfl|hx
  ·have:vr 0=0:=oL.2 rfl
   omega
  obtain⟨k,hk,_⟩:=hM.b x hx
  have:=(h.lit (bK hk)).2
  rwa [kU] at this
 have:=vZ 65537 (((0:Int)::rest).map fun x=>(vr x).toNat) (by
  have h1:=hM.nd
  unfold List.Nodup at h1⊢
  rw[List.pairwise_map] at h1⊢
  refine List.Pairwise.imp (fun{a b} hne he=>hne ?_) h1
  have h2:=jC a
  have h3:=jC b
  omega) (fun x hx=>by
  obtain⟨y,hy,rfl⟩:=List.mem_map.1 hx
  have h2:=hv y hy
  have h3:=jC y
  omega)
 rwa [List.length_map] at this
set_option maxHeartbeats 1000000 in
theorem mark_loop (h:Cor n F st D val lev rea trail ws cl) (hn:0≤n∧n≤65536) {p0:Sol} (hlev:p0.level=lev) (hst:p0.starts=st) {c:List Int} (hcl:c.length≤1000000) (hc:∀y∈c,∃k:Nat,trail[k]?=some (-y)) {out:List Int} {m:List (Int×Bool)} (hM:Marks st trail out m):
  ∃r,dC (fun s:Int×List Int×List (Int×Bool)=>fG p0 c s.1 s.2.1 s.2.2) (0,out,m)=some r∧Marks st trail r.1 r.2∧(∀v,sn r.2 v↔sn m v∨∃y∈c,vr y=v∧∃k:Nat,trail[k]?=some (-y)∧lvl st k≠0):=by
 refine uV (body:=fun s:Int×List Int×List (Int×Bool)=>fG p0 c s.1 s.2.1 s.2.2) c.length (fun k (t:List Int×List (Int×Bool))=>((k:Int),t.1,t.2))
  (fun k t=>Marks st trail t.1 t.2∧∀v,sn t.2 v↔sn m v∨∃y∈c.take k,vr y=v∧∃k:Nat,trail[k]?=some (-y)∧lvl st k≠0) _ (t0:=(out,m)) rfl ⟨hM,fun v=>by simp⟩ ?_ ?_
 ·rintro k ⟨out,m'⟩ hk ⟨hM,hs⟩
  simp only at hM hs
  obtain⟨y,hy⟩:=bJ hk
  obtain⟨p,hp⟩:=hc y (bK hy)
  have hyl:=h.lit (bK hp)
  rw[kU] at hyl
  have hyb:=nS.1 hyl.2
  have hl:=h.lvAt hp
  have htk:=dZ hy
  have hup:=jD hk (show c.length≤9223372036854775807 by omega)
  have hlen:=hM.len h hn
  have uniq:∀(k2:Nat) (z:Int),trail[k2]?=some (-z)→vr z=vr y→k2=p:=fun k2 z h1 h2=>h.at_ h1 hp (by rw[kU,kU,h2])
  have ex:∀v,(∃z∈c.take (k+1),vr z=v∧∃j:Nat,trail[j]?=some (-z)∧lvl st j≠0)↔(∃z∈c.take k,vr z=v∧∃j:Nat,trail[j]?=some (-z)∧lvl st j≠0)∨(vr y=v∧lvl st p≠0):=fun v=>by
   rw[htk]
   constructor
   ·rintro⟨z,hz,h1,j,h2,h3⟩
    rw[List.mem_append,List.mem_singleton] at hz
    rcases hz with hz|rfl
    ·exact Or.inl ⟨z,hz,h1,j,h2,h3⟩
    exact Or.inr ⟨h1,by rw[←uniq j z h2 rfl];exact h3⟩
   rintro(⟨z,hz,h1⟩|⟨h1,h2⟩)
   ·exact⟨z,List.mem_append_left _ hz,h1⟩
   exact⟨y,by simp,h1,p,hp,h2⟩
  simp only[fG,ltB hk,if_true,dA hy,bsm,vP (show -1099511627776≤y∧y≤1099511627776 by omega),hlev,hl,hst]
  by_cases hsn:sn m' (vr y)
  ·have e1:(mO m' (vr y)).getD false=true:=hsn
   simp only[e1,if_true,bsm,hup]
   refine Or.inl ⟨(out,m'),rfl,hM,fun v=>?_⟩
   rw[ex,hs]
   constructor
   ·rintro(h1|h1)
    ·exact Or.inl h1
    exact Or.inr (Or.inl h1)
   rintro(h1|h1|⟨rfl,h1⟩)
   ·exact Or.inl h1
   ·exact Or.inr h1
   exact(hs _).1 hsn
  have e1:(mO m' (vr y)).getD false=false:=Bool.eq_false_iff.2 hsn
  simp only[e1,if_false,Bool.false_eq_true,bsm]
  by_cases h0:lvl st p=0
  ·simp only[h0,decide_true,if_true,bsm,hup]
   refine Or.inl ⟨(out,m'),rfl,hM,fun v=>?_⟩
   rw[ex,hs]
   constructor
   ·rintro(h1|h1)
    ·exact Or.inl h1
    exact Or.inr (Or.inl h1)
   rintro(h1|h1|⟨_,h1⟩)
   ·exact Or.inl h1
   ·exact Or.inr h1
   exact absurd h0 h1
  simp only[h0,decide_false,if_false,Bool.false_eq_true]
  have hs':∀v,sn (uN m' (vr y) true) v↔sn m v∨∃z∈c.take (k+1),vr z=v∧∃j:Nat,trail[j]?=some (-z)∧lvl st j≠0:=fun v=>by
   rw[ex,sn_put,hs]
   constructor
   ·rintro(rfl|h1|h1)
    ·exact Or.inr (Or.inr ⟨rfl,h0⟩)
    ·exact Or.inl h1
    exact Or.inr (Or.inl h1)
   rintro(h1|h1|⟨rfl,_⟩)
   ·exact Or.inr (Or.inl h1)
   ·exact Or.inr (Or.inr h1)
   exact Or.inl rfl
  obtain⟨rest,hrest⟩:=hM.tl
  by_cases hcur:lvl st p=st.length
  ·simp only[hcur,decide_true,Bool.not_true,Bool.false_eq_true,if_false,bsm,hup]
   refine Or.inl ⟨(out,uN m' (vr y) true),rfl,⟨hM.tl,fun v hv=>?_,fun z hz=>?_,hM.nd⟩,hs'⟩
   ·rcases sn_put.1 hv with rfl|hv
    ·exact⟨p,-y,hp,kU y,h0,fun h1=>absurd hcur h1⟩
    exact hM.a v hv
   obtain⟨j,h1,h2,h3,h4⟩:=hM.b z hz
   exact⟨j,h1,h2,h3,sn_put.2 (Or.inr h4)⟩
  simp only[hcur,decide_false,Bool.not_false,if_true,oM (show out.length+[y].length≤4294967296 by simp;omega),bsm,hup]
  have htl:(out++[y]).tail=out.tail++[y]:=by rw[hrest];rfl
  refine Or.inl ⟨(out++[y],uN m' (vr y) true),rfl,⟨⟨rest++[y],by rw[hrest];rfl⟩,fun v hv=>?_,fun z hz=>?_,?_⟩,hs'⟩
  ·show ∃k x,trail[k]?=some x∧vr x=v∧lvl st k≠0∧(lvl st k≠st.length→ -x∈(out++[y]).tail)
   rw[htl]
   rcases sn_put.1 hv with rfl|hv
   ·exact⟨p,-y,hp,kU y,h0,fun _=>by simp⟩
   obtain⟨j,x,h1,h2,h3,h4⟩:=hM.a v hv
   exact⟨j,x,h1,h2,h3,fun h5=>List.mem_append_left _ (h4 h5)⟩
  ·have hz:z∈(out++[y]).tail:=hz
   rw[htl,List.mem_append,List.mem_singleton] at hz
   rcases hz with hz|rfl
   ·obtain⟨j,h1,h2,h3,h4⟩:=hM.b z hz
    exact⟨j,h1,h2,h3,sn_put.2 (Or.inr h4)⟩
   exact⟨p,hp,h0,hcur,sn_put.2 (Or.inl rfl)⟩
  show((out++[y]).map vr).Nodup
  rw[List.map_append,List.nodup_append]
  refine⟨hM.nd,by simp,fun a ha b hb=>?_⟩
  simp only[List.map_cons,List.map_nil,List.mem_singleton] at hb
  subst hb
  obtain⟨z,hz,rfl⟩:=List.mem_map.1 ha
  intro e
  rw[hrest] at hz
  rcases List.mem_cons.1 hz with rfl|hz
  ·rw[oL.2 rfl] at e
   exact hyl.1 (by have:=oL.1 e.symm;omega)
  obtain⟨j,_,_,_,h4⟩:=hM.b z (by rw[hrest];exact hz)
  exact hsn (e▸h4)
 rintro⟨out,m'⟩ ⟨h1,h2⟩
 rw[List.take_length] at h2
 refine⟨(out,m'),?_,h1,h2⟩
 simp only[fG,rX,if_false,Bool.false_eq_true]
theorem search_ok (h:Cor n F st D val lev rea trail ws cl) (hn:0≤n∧n≤65536) {p0:Sol} (htr:p0.trail=trail) {b3:List Int×List (Int×Bool)}:∀(a:Nat),a≤trail.length→(∃(k:Nat) (x:Int),k<a∧trail[k]?=some x∧sn b3.2 (vr x))→
  ∃(k:Nat) (x:Int),dC (fun s=>gB p0 b3 s) ((a:Int)-1)=some (k:Int)∧k<a∧trail[k]?=some x∧sn b3.2 (vr x)∧∀(j:Nat) (y:Int),k<j→j<a→trail[j]?=some y→¬sn b3.2 (vr y)
 |0,_,⟨k,_,hk,_⟩=>by omega
 |a+1,ha,hex=>by
  have htl:=h.eng.trailLen hn.1
  obtain⟨x,hx⟩:=bJ (show a<trail.length by omega)
  have hxl:=h.lit (bK hx)
  have hxb:=nS.1 hxl.2
  have e0:(((a+1:Nat):Int)-1)=(a:Int):=by omega
  rw[e0]
  have hi:idx p0.trail (a:Int)=some x:=by rw[htr];exact dA hx
  by_cases hs:sn b3.2 (vr x)
  ·refine⟨a,x,dW ?_,by omega,hx,hs,fun j y h1 h2=>by omega⟩
   have e1:(mO b3.2 (vr x)).getD false=true:=hs
   simp only[gB,hi,bsm,vP (show -1099511627776≤x∧x≤1099511627776 by omega),e1,Bool.not_true,Bool.false_eq_true,if_false]
  have e1:(mO b3.2 (vr x)).getD false=false:=Bool.eq_false_iff.2 hs
  obtain⟨k,y,h1,h2,h3,h4,h5⟩:=search_ok h hn htr a (by omega) (by
   obtain⟨k,y,h1,h2,h3⟩:=hex
   refine⟨k,y,?_,h2,h3⟩
   by_cases e:k=a
   ·subst e;rw[hx] at h2;exact absurd (Option.some.inj h2▸h3) hs
   omega)
  refine⟨k,y,?_,by omega,h3,h4,fun j z hj1 hj2 hz=>?_⟩
  ·rw[fQ (s':=(a:Int)-1) ?_]
   ·exact h1
   simp only[gB,hi,bsm,vP (show -1099511627776≤x∧x≤1099511627776 by omega),e1,Bool.not_false,if_true]
   rw[iO ⟨by omega,by omega⟩,bsm]
  by_cases e:j=a
  ·subst e;rw[hx] at hz;exact Option.some.inj hz▸hs
  exact h5 j z hj1 (by omega) hz
theorem others_loop {x:Int} {c:List Int} (hc:c.length≤1000000):dC (fun s:Int×List Int=>gG x c s.1 s.2) (0,[])=some (c.filter fun y=>decide (y≠x)):=by
 obtain⟨b,hb,rfl⟩:=uV (body:=fun s:Int×List Int=>gG x c s.1 s.2) (s0:=(0,[])) c.length (fun k t=>((k:Int),t)) (fun k t=>t=(c.take k).filter fun y=>decide (y≠x)) (fun b=>b=c.filter fun y=>decide (y≠x)) (t0:=[]) rfl rfl (by
  rintro k t hk rfl
  obtain⟨y,hy⟩:=bJ hk
  have htk:=dZ hy
  have hup:=jD hk (show c.length≤9223372036854775807 by omega)
  have hl:((c.take k).filter fun y=>decide (y≠x)).length≤c.length:=Nat.le_trans (List.length_filter_le _ _) (by rw[List.length_take];omega)
  simp only[gG,ltB hk,if_true,dA hy,bsm]
  by_cases e:y=x
  ·simp only[e,decide_true,Bool.not_true,Bool.false_eq_true,if_false,hup,bsm]
   exact Or.inl ⟨_,rfl,by rw[htk,List.filter_append];simp[e]⟩
  ·simp only[e,decide_false,Bool.not_false,if_true,oM (show((c.take k).filter fun y=>decide (y≠x)).length+[y].length≤4294967296 by simp only[List.length_singleton];omega),hup,bsm]
   exact Or.inl ⟨_,rfl,by rw[htk,List.filter_append];simp[e]⟩) (by
  rintro t rfl
  rw[List.take_length]
  refine⟨_,?_,rfl⟩
  simp only[gG,rX,if_false,Bool.false_eq_true])
 exact hb
end
structure Ana (n:Int) (F:List (List Int)) (st trail:List Int) (cl:List (List Int)) (c0:List Int) (a:Nat) (lits out:List Int) (m:List (Int×Bool)):Prop where
 al:a≤trail.length
 mks:Marks st trail out m
 lf:∀y∈lits,∃k:Nat,k<a∧trail[k]?=some (-y)
 ll:lits.length≤1000000
 cur:∃(k:Nat) (x:Int),k<a∧trail[k]?=some x∧lvl st k=st.length∧(sn m (vr x)∨ -x∈lits)
 don:∀(k:Nat) (x:Int),a≤k→trail[k]?=some x→lvl st k=st.length→sn m (vr x)→∃(id:Nat) (c:List Int),cl[id]?=some c∧x∈c∧∀y∈c,y≠x→∃j:Nat,j<k∧trail[j]?=some (-y)∧(lvl st j=0∨sn m (vr y)∨y∈lits)
 cf:∀y∈c0,∃j:Nat,trail[j]?=some (-y)∧(lvl st j=0∨sn m (vr y)∨y∈lits)
structure FinA (st trail:List Int) (cl:List (List Int)) (c0:List Int) (b:Nat) (d:Int) (out:List Int) (m:List (Int×Bool)):Prop where
 mks:Marks st trail out m
 at_:trail[b]?=some d
 dec:(b:Int)∈st
 lv:lvl st b=st.length
 don:∀(k:Nat) (x:Int),b<k→trail[k]?=some x→lvl st k=st.length→sn m (vr x)→∃(id:Nat) (c:List Int),cl[id]?=some c∧x∈c∧∀y∈c,y≠x→∃j:Nat,j<k∧trail[j]?=some (-y)∧(lvl st j=0∨sn m (vr y))
 cf:∀y∈c0,∃j:Nat,trail[j]?=some (-y)∧(lvl st j=0∨sn m (vr y))
section
variable {n:Int} {F:List (List Int)} {st:List Int} {D:Nat→Int→Prop} {val lev:List Int} {rea:List (Option Nat)} {trail:List Int} {ws:List (List Nat)} {cl:List (List Int)}
theorem round_parts (h:Cor n F st D val lev rea trail ws cl) (hn:0≤n∧n≤65536) {p0:Sol} (hlev:p0.level=lev) (hst:p0.starts=st) (htr:p0.trail=trail) (hrea:p0.reason=rea) (hcl:p0.watches.2=cl) (hs0:st≠[]) {c0:List Int} {a:Nat} {lits out:List Int} {m:List (Int×Bool)} (hA:Ana n F st trail cl c0 a lits out m):
  ∃(r1:List Int×List (Int×Bool)) (k:Nat) (x:Int) (r:Option Nat),
   dC (fun s:Int×List Int×List (Int×Bool)=>fG p0 lits s.1 s.2.1 s.2.2) (0,out,m)=some r1∧inK .i64 ((a:Int)-1)=some ((a:Int)-1)∧
   dC (fun s=>gB p0 r1 s) ((a:Int)-1)=some (k:Int)∧idx p0.trail (k:Int)=some x∧dI x=some (vr x)∧idx p0.reason (vr x)=some r∧k<a∧
   ((r=none∧FinA st trail cl c0 k x r1.1 r1.2)∨∃id c,r=some id∧p0.watches.2[id]?=some c∧c.length≤1000000∧Ana n F st trail cl c0 k (c.filter fun y=>decide (y≠x)) r1.1 r1.2):=by
 have htl:=h.eng.trailLen hn.1
 obtain⟨r1,e1,hM,hsn⟩:=mark_loop h hn hlev hst hA.ll (fun y hy=>by obtain⟨k,_,hk⟩:=hA.lf y hy;exact⟨k,hk⟩) hA.mks
 have hup:∀v,sn m v→sn r1.2 v:=fun v hv=>(hsn v).2 (Or.inl hv)
 have hlen0:(0:Int)<st.length:=by
  cases st with
  |nil=>exact absurd rfl hs0
  |cons b t=>simp
 have hseen:∀y∈lits,∀j:Nat,trail[j]?=some (-y)→lvl st j=0∨sn r1.2 (vr y):=fun y hy j hj=>by
  by_cases h0:lvl st j=0
  ·exact Or.inl h0
  exact Or.inr ((hsn _).2 (Or.inr ⟨y,hy,rfl,j,hj,h0⟩))
 obtain⟨kc,xc,hkc,hxc,hlc,hoc⟩:=hA.cur
 have hcs:sn r1.2 (vr xc):=by
  rcases hoc with h1|h1
  ·exact hup _ h1
  rcases hseen _ h1 kc (by rw[Int.neg_neg];exact hxc) with h2|h2
  ·omega
  rwa [kU] at h2
 have i1:inK .i64 ((a:Int)-1)=some ((a:Int)-1):=iO ⟨by omega,by have:=hA.al;omega⟩
 obtain⟨k,x,e2,hka,hx,hsx,hno⟩:=search_ok h hn htr (b3:=r1) a hA.al ⟨kc,xc,hkc,hxc,hcs⟩
 have hxl:=h.lit (bK hx)
 have hxb:=nS.1 hxl.2
 have hkk:kc≤k:=by
  rcases Nat.lt_or_ge k kc with h1|h1
  ·exact absurd hcs (hno kc xc h1 hkc hxc)
  exact h1
 have hlk:lvl st k=st.length:=by
  have h1:=lvl_mono st hkk
  have h2:=lvl_le st k
  omega
 obtain⟨r,hr⟩:=bJ (show(vr x).toNat<rea.length by have:=h.rl;have:=jC x;omega)
 have hwhy:=h.re k x r hx hr
 refine⟨r1,k,x,r,e1,i1,e2,by rw[htr];exact dA hx,vP ⟨by omega,by omega⟩,by rw[hrea];exact jR (jC x) hr,hka,?_⟩
 have don:∀(j:Nat) (z:Int),k<j→trail[j]?=some z→lvl st j=st.length→sn r1.2 (vr z)→∃(id:Nat) (c:List Int),cl[id]?=some c∧z∈c∧∀y∈c,y≠z→∃i:Nat,i<j∧trail[i]?=some (-y)∧(lvl st i=0∨sn r1.2 (vr y)):=fun j z h1 h2 h3 h4=>by
  rcases Nat.lt_or_ge j a with h5|h5
  ·exact absurd h4 (hno j z h1 h5 h2)
  have h6:sn m (vr z):=by
   rcases(hsn _).1 h4 with h6|⟨y,hy,h6,i,hi,_⟩
   ·exact h6
   obtain⟨q,hq,hq2⟩:=hA.lf y hy
   have:=h.at_ hq2 h2 (by rw[kU,h6])
   omega
  obtain⟨id,c,g1,g2,g3⟩:=hA.don j z h5 h2 h3 h6
  refine⟨id,c,g1,g2,fun y hy hne=>?_⟩
  obtain⟨i,i1,i2,i3⟩:=g3 y hy hne
  refine⟨i,i1,i2,?_⟩
  rcases i3 with i3|i3|i3
  ·exact Or.inl i3
  ·exact Or.inr (hup _ i3)
  exact hseen y i3 i i2
 have cf:∀y∈c0,∃j:Nat,trail[j]?=some (-y)∧(lvl st j=0∨sn r1.2 (vr y)):=fun y hy=>by
  obtain⟨j,j1,j2⟩:=hA.cf y hy
  refine⟨j,j1,?_⟩
  rcases j2 with j2|j2|j2
  ·exact Or.inl j2
  ·exact Or.inr (hup _ j2)
  exact hseen y j2 j j1
 cases r with
 |none=>
  refine Or.inl ⟨rfl,hM,hx,?_,hlk,don,cf⟩
  rcases hwhy with h1|⟨h1,_⟩
  ·exact h1
  omega
 |some id=>
  obtain⟨c,h1,h2,h3,y1,h4,h5,j1,h6,h7⟩:=hwhy
  have hcn:=h.eng.clLen hn h1
  refine Or.inr ⟨id,c,rfl,by rw[hcl];exact h1,by omega,by have:=hA.al;omega,hM,fun y hy=>?_,Nat.le_trans (List.length_filter_le _ _) (by omega),?_,fun j z g1 g2 g3 g4=>?_,fun y hy=>?_⟩
  ·rw[List.mem_filter] at hy
   obtain⟨i,hi⟩:=List.getElem?_of_mem (h3 y hy.1 (by simpa using hy.2))
   rw[List.getElem?_take] at hi
   split at hi
   ·exact⟨i,by assumption,hi⟩
   cases hi
  ·obtain⟨i,hi⟩:=List.getElem?_of_mem (h3 y1 h4 h5)
   rw[List.getElem?_take] at hi
   split at hi
   ·rename_i hik
    have e:i=j1:=h.at_ hi h6 rfl
    subst e
    exact⟨i,-y1,hik,hi,by rw[h7,hlk],Or.inr (by rw[Int.neg_neg,List.mem_filter];exact⟨h4,by simpa using h5⟩)⟩
   cases hi
  ·rcases Nat.lt_or_ge k j with g5|g5
   ·obtain⟨id',c',k1,k2,k3⟩:=don j z g5 g2 g3 g4
    refine⟨id',c',k1,k2,fun y hy hne=>?_⟩
    obtain⟨i,i1,i2,i3⟩:=k3 y hy hne
    exact⟨i,i1,i2,i3.elim Or.inl fun i3=>Or.inr (Or.inl i3)⟩
   have e:j=k:=by omega
   subst e
   obtain rfl:=Option.some.inj (g2.symm.trans hx)
   refine⟨id,c,h1,h2,fun y hy hne=>?_⟩
   obtain⟨i,hi⟩:=List.getElem?_of_mem (h3 y hy hne)
   rw[List.getElem?_take] at hi
   split at hi
   ·rename_i hij
    exact⟨i,hij,hi,Or.inr (Or.inr (by rw[List.mem_filter];exact⟨hy,by simpa using hne⟩))⟩
   cases hi
  obtain⟨j,j1,j2⟩:=cf y hy
  exact⟨j,j1,j2.elim Or.inl fun j2=>Or.inr (Or.inl j2)⟩
theorem lp5_eq (p0:Sol) (l:List Int) (i:Int) (o:List Int) (m:List (Int×Bool)):oN p0 l i o m=fG p0 l i o m:=rfl
theorem lp6_eq (p0:Sol) (b:List Int×List (Int×Bool)) (i:Int):oO p0 b i=gB p0 b i:=rfl
theorem lp7_eq (x:Int) (c:List Int) (i:Int) (o:List Int):oP x c i o=gG x c i o:=rfl
theorem round_ok (h:Cor n F st D val lev rea trail ws cl) (hn:0≤n∧n≤65536) {p0:Sol} (hlev:p0.level=lev) (hst:p0.starts=st) (htr:p0.trail=trail) (hrea:p0.reason=rea) (hcl:p0.watches.2=cl) (hs0:st≠[]) {c0:List Int} {a:Nat} {lits out:List Int} {m:List (Int×Bool)} (hA:Ana n F st trail cl c0 a lits out m):
  (∃(k:Nat) (l2 o2:List Int) (m2:List (Int×Bool)),gI p0 (a:Int) lits out m=some (.next ((k:Int),l2,o2,m2))∧k<a∧Ana n F st trail cl c0 k l2 o2 m2)∨
  (∃(b:Nat) (d:Int) (o2:List Int) (m2:List (Int×Bool)),gI p0 (a:Int) lits out m=some (.done (lits,o2.set (0:Int).toNat (-d),m2))∧FinA st trail cl c0 b d o2 m2):=by
 obtain⟨r1,k,x,r,e1,e2,e3,e4,e5,e6,hka,hcase⟩:=round_parts h hn hlev hst htr hrea hcl hs0 hA
 have hxl:=h.lit (bK (show trail[k]?=some x by rw[htr] at e4;unfold idx at e4;rw[if_pos (by omega)] at e4;simpa using e4))
 have hxb:=nS.1 hxl.2
 unfold gI
 simp only[lp5_eq,lp6_eq,lp7_eq]
 rw[e1,bsm,e2,bsm,e3,bsm,e4,bsm,e5,bsm,e6,bsm]
 rcases hcase with⟨rfl,hF⟩|⟨id,c,rfl,h1,h2,h3⟩
 ·obtain⟨rest,hrest⟩:=hF.mks.tl
  rw[if_pos (show(none:Option Nat).isNone=true from rfl),oG (show 0-x= -x by omega) ⟨by omega,by omega⟩,bsm,hrest,show idx (0::rest) 0=some 0 from rfl,bsm]
  rw[←hrest]
  exact Or.inr ⟨k,x,r1.1,r1.2,rfl,hF⟩
 rw[if_neg (by simp),bsm,e6,bsm,bsm,h1,bsm,others_loop h2,bsm]
 exact Or.inl ⟨k,_,_,_,rfl,hka,h3⟩
theorem rounds_ok (h:Cor n F st D val lev rea trail ws cl) (hn:0≤n∧n≤65536) {p0:Sol} (hlev:p0.level=lev) (hst:p0.starts=st) (htr:p0.trail=trail) (hrea:p0.reason=rea) (hcl:p0.watches.2=cl) (hs0:st≠[]) {c0:List Int} {a:Nat} {lits out:List Int} {m:List (Int×Bool)} (hA:Ana n F st trail cl c0 a lits out m):
  ∃r,dC (fun s:Int×List Int×List Int×List (Int×Bool)=>gI p0 s.1 s.2.1 s.2.2.1 s.2.2.2) ((a:Int),lits,out,m)=some r∧∃(b:Nat) (d:Int) (o2:List Int) (m2:List (Int×Bool)),r.2=(o2.set (0:Int).toNat (-d),m2)∧FinA st trail cl c0 b d o2 m2:=by
 refine xM (body:=fun s:Int×List Int×List Int×List (Int×Bool)=>gI p0 s.1 s.2.1 s.2.2.1 s.2.2.2) (fun s=>∃a:Nat,s.1=a∧Ana n F st trail cl c0 a s.2.1 s.2.2.1 s.2.2.2) (fun s=>s.1.toNat) _ ?_ _ ⟨a,rfl,hA⟩
 rintro⟨a',lits,out,m⟩ ⟨a,rfl,hA⟩
 rcases round_ok h hn hlev hst htr hrea hcl hs0 hA with⟨k,l2,o2,m2,h1,h2,h3⟩|⟨b,d,o2,m2,h1,h2⟩
 ·refine Or.inl ⟨_,h1,⟨k,rfl,h3⟩,?_⟩
  show((k:Int)).toNat<((a:Int)).toNat
  omega
 exact Or.inr ⟨_,h1,b,d,o2,m2,rfl,h2⟩
theorem first_ok (h:Cor n F st D val lev rea trail ws cl) (hn:0≤n∧n≤65536) {p0:Sol} (hlev:p0.level=lev) (hst:p0.starts=st) (htr:p0.trail=trail) (hrea:p0.reason=rea) (hcl:p0.watches.2=cl) (hs0:st≠[]) {id:Nat} (hc:Clash st trail cl id):
  ∃(c0:List Int) (b:Nat) (d:Int) (o2:List Int) (m2:List (Int×Bool)),cl[id]?=some c0∧FinA st trail cl c0 b d o2 m2∧kH p0 (some id)=(dC (fun s:Int×Int×List Int=>gJ p0 s.1 s.2.1 s.2.2) (0,1,o2.set (0:Int).toNat (-d)):Option (Int×List Int)).bind fun b32=>some (b32.2,b32.1):=by
 obtain⟨c0,h1,h2,y0,h3,k0,h4,h5⟩:=hc.ex
 have hcn:=h.eng.clLen hn h1
 have hA:Ana n F st trail cl c0 trail.length c0 [0] []:=by
  refine⟨Nat.le_refl _,⟨⟨[],rfl⟩,fun v hv=>absurd hv (sn_nil v),by simp,by simp⟩,fun y hy=>?_,by omega,⟨k0,-y0,dB h4,h4,h5,Or.inr (by rw[Int.neg_neg];exact h3)⟩,fun k x hk hx=>(by rw[List.getElem?_eq_none hk] at hx;cases hx),fun y hy=>?_⟩
  ·obtain⟨k,hk⟩:=List.getElem?_of_mem (h2 y hy)
   exact⟨k,dB hk,hk⟩
  obtain⟨k,hk⟩:=List.getElem?_of_mem (h2 y hy)
  exact⟨k,hk,Or.inr (Or.inr hy)⟩
 obtain⟨r1,k,x,r,e1,e2,e3,e4,e5,e6,hka,hcase⟩:=round_parts h hn hlev hst htr hrea hcl hs0 hA
 have hxl:=h.lit (bK (show trail[k]?=some x by rw[htr] at e4;unfold idx at e4;rw[if_pos (by omega)] at e4;simpa using e4))
 have hxb:=nS.1 hxl.2
 unfold kH
 rw[bsm,hcl,h1,bsm,e1,bsm,htr,e2,bsm,e3,bsm,←htr,e4,bsm,e5,bsm,e6,bsm]
 rcases hcase with⟨rfl,hF⟩|⟨id',c,rfl,g1,g2,g3⟩
 ·obtain⟨rest,hrest⟩:=hF.mks.tl
  rw[if_pos (show(none:Option Nat).isNone=true from rfl),oG (show 0-x= -x by omega) ⟨by omega,by omega⟩,bsm,hrest,show idx (0::rest) 0=some 0 from rfl,bsm,bsm]
  rw[←hrest]
  exact⟨c0,k,x,r1.1,r1.2,rfl,by rw[htr];exact hF,rfl⟩
 obtain⟨r,q1,b,d,o2,m2,q2,q3⟩:=rounds_ok h hn hlev hst htr hrea hcl hs0 g3
 rw[←hcl] at*
 rw[if_neg (by simp),bsm,e6,bsm,bsm,g1,bsm,others_loop g2,bsm,q1,bsm,bsm]
 refine⟨c0,b,d,o2,m2,rfl,by rw[htr];exact q3,?_⟩
 rw[q2]
end
structure Learned (n:Int) (F:List (List Int)) (st trail q:List Int) (back:Int):Prop where
 hd:∃(d:Int) (b:Nat),trail[b]?=some d∧(b:Int)∈st∧lvl st b=st.length∧q[0]?=some (-d)
 lit:∀y∈q,y≠0∧vr y≤n∧ -y∈trail
 nd:q.Nodup
 rup:Fails F (wH q)
 bk:0≤back∧back<st.length
 one:q.length≤1→back=0
 lo:∀(j:Nat) (y:Int),1≤j→q[j]?=some y→∃k:Nat,trail[k]?=some (-y)∧lvl st k≤back
 hi:1<q.length→∃(y:Int) (k:Nat),q[1]?=some y∧trail[k]?=some (-y)∧lvl st k=back
section
variable {n:Int} {F:List (List Int)} {st:List Int} {D:Nat→Int→Prop} {val lev:List Int} {rea:List (Option Nat)} {trail:List Int} {ws:List (List Nat)} {cl:List (List Int)}
theorem back_loop {p0:Sol} (hlev:p0.level=lev) {lf:Int→Int} {e:Int} {rest:List Int} (hlf:∀y∈e::rest,idx lev (vr y)=some (lf y)∧0<lf y∧ -1099511627776≤y∧y≤1099511627776) (hl:rest.length≤1000000):
  ∃r,dC (fun s:Int×Int×List Int=>gJ p0 s.1 s.2.1 s.2.2) (0,1,e::rest)=some r∧r.2.Perm (e::rest)∧r.2[0]?=some e∧0≤r.1∧(rest=[]→r.1=0)∧(rest≠[]→∃y,r.2[1]?=some y∧lf y=r.1)∧∀(j:Nat) y,1≤j→r.2[j]?=some y→lf y≤r.1:=by
 refine uV (body:=fun s:Int×Int×List Int=>gJ p0 s.1 s.2.1 s.2.2) rest.length (fun k (t:Int×List Int)=>(t.1,((k+1:Nat):Int),t.2))
  (fun k t=>t.2.Perm (e::rest)∧t.2[0]?=some e∧0≤t.1∧(k=0→t.1=0)∧(0<k→∃y,t.2[1]?=some y∧lf y=t.1)∧∀(j:Nat) y,1≤j→j≤k→t.2[j]?=some y→lf y≤t.1) _ (t0:=(0,e::rest)) rfl ⟨.refl _,rfl,Int.le_refl _,fun _=>rfl,fun h=>absurd h (by omega),fun j y h1 h2=>by omega⟩ ?_ ?_
 ·rintro k ⟨back,q⟩ hk ⟨hp,h0,hb,hz,h1,hle⟩
  simp only at hp h0 hb hz h1 hle
  have hql:q.length=rest.length+1:=by rw[hp.length_eq];rfl
  have hi:k+1<q.length:=by omega
  obtain⟨y,hy⟩:=bJ hi
  obtain⟨y1,hy1⟩:=bJ (show 1<q.length by omega)
  have hym:=hlf y (hp.mem_iff.1 (bK hy))
  have hup:=jD hi (show q.length≤9223372036854775807 by omega)
  have hi1:idx q 1=some y1:=jR (by decide) hy1
  simp only[gJ,ltB hi,if_true,dA hy,bsm,vP hym.2.2,hlev,hym.1]
  by_cases hlt:back<lf y
  ·have hset:(q.set 1 y)[k+1]?=some (if k=0 then y else y):=by
    by_cases e0:k=0
    ·subst e0;rw[if_pos rfl];exact dG hy1
    rw[if_neg e0,cZ (by omega)];exact hy
   have hset':(q.set 1 y)[k+1]?=some y:=by rw[hset];split<;>rfl
   have hset2:idx (q.set (1:Int).toNat y) ((k+1:Nat):Int)=some y:=dA hset'
   simp only[hlt,decide_true,if_true,hi1,bsm,hset2,hup]
   refine Or.inl ⟨(lf y,(q.set 1 y).set (k+1) y1),by rw[Int.toNat_natCast];rfl,?_,?_,by show 0≤lf y;omega,fun e=>absurd e (by omega),fun _=>?_,fun j z hj1 hj2 hz=>?_⟩
   ·obtain⟨g1,rfl⟩:=List.getElem?_eq_some_iff.1 hy1
    obtain⟨g2,rfl⟩:=List.getElem?_eq_some_iff.1 hy
    exact(List.set_set_perm g1 g2).trans hp
   ·show((q.set 1 y).set (k+1) y1)[0]?=some e
    rw[cZ (by omega),cZ (by omega)];exact h0
   ·show ∃z,((q.set 1 y).set (k+1) y1)[1]?=some z∧lf z=lf y
    by_cases e0:k=0
    ·subst e0
     obtain rfl:=Option.some.inj (hy1.symm.trans hy)
     exact⟨y1,dG hset',rfl⟩
    rw[cZ (by omega)]
    exact⟨y,dG hy1,rfl⟩
   have hz:((q.set 1 y).set (k+1) y1)[j]?=some z:=hz
   show lf z≤lf y
   by_cases ej:j=k+1
   ·subst ej
    rw[dG hset'] at hz
    obtain rfl:=Option.some.inj hz
    by_cases e0:k=0
    ·subst e0
     obtain rfl:=Option.some.inj (hy1.symm.trans hy)
     exact Int.le_refl _
    obtain⟨z,g1,g2⟩:=h1 (by omega)
    obtain rfl:=Option.some.inj (hy1.symm.trans g1)
    omega
   rw[cZ ej] at hz
   by_cases e1:j=1
   ·subst e1
    rw[dG hy1] at hz
    obtain rfl:=Option.some.inj hz
    exact Int.le_refl _
   rw[cZ e1] at hz
   have:=hle j z hj1 (by omega) hz
   omega
  simp only[hlt,decide_false,if_false,Bool.false_eq_true,hup,bsm]
  refine Or.inl ⟨(back,q),rfl,hp,h0,hb,fun e=>absurd e (by omega),fun _=>?_,fun j z hj1 hj2 hz=>?_⟩
  ·by_cases e0:k=0
   ·have:=hz e0
    omega
   exact h1 (by omega)
  by_cases ej:j=k+1
  ·subst ej
   obtain rfl:=Option.some.inj (hy.symm.trans hz)
   show lf y≤back
   omega
  exact hle j z hj1 (by omega) hz
 rintro⟨back,q⟩ ⟨hp,h0,hb,hz,h1,hle⟩
 simp only at hp h0 hb hz h1 hle
 have hql:q.length=rest.length+1:=by rw[hp.length_eq];rfl
 refine⟨(back,q),?_,hp,h0,hb,fun e=>hz (by rw[e];rfl),fun hne=>h1 (List.length_pos_iff.2 hne),fun j y hj hy=>hle j y hj (by have:j<q.length:=dB hy;omega) hy⟩
 simp only[gJ]
 rw[if_neg (by rw[hql];simp)]
theorem slearn_ok (h:Cor n F st D val lev rea trail ws cl) (hn:0≤n∧n≤65536) {p0:Sol} (hlev:p0.level=lev) (hst:p0.starts=st) (htr:p0.trail=trail) (hrea:p0.reason=rea) (hcl:p0.watches.2=cl) (hs0:st≠[]) {id:Nat} (hc:Clash st trail cl id):
  ∃q back,kH p0 (some id)=some (q,back)∧Learned n F st trail q back:=by
 obtain⟨c0,b,d,o2,m2,h1,hF,h2⟩:=first_ok h hn hlev hst htr hrea hcl hs0 hc
 rw[h2]
 obtain⟨rest,hrest⟩:=hF.mks.tl
 have hset:o2.set (0:Int).toNat (-d)= -d::rest:=by rw[hrest];rfl
 rw[hset]
 have hlen:=hF.mks.len h hn
 rw[hrest] at hlen
 have htlr:o2.tail=rest:=by rw[hrest];rfl
 have hpos:(0:Int)<st.length:=by
  cases st with
  |nil=>exact absurd rfl hs0
  |cons b t=>simp
 have hdl:=h.lit (bK hF.at_)
 have hrl:∀y∈rest,∃k:Nat,trail[k]?=some (-y)∧lvl st k≠0∧lvl st k≠st.length∧sn m2 (vr y):=fun y hy=>hF.mks.b y (by rw[htlr];exact hy)
 have hall:∀y∈ -d::rest,∃k:Nat,trail[k]?=some (-y)∧0<lvl st k∧(y∈rest→lvl st k<st.length):=fun y hy=>by
  rcases List.mem_cons.1 hy with rfl|hy
  ·exact⟨b,by rw[Int.neg_neg];exact hF.at_,by rw[hF.lv];exact hpos,fun hm=>by
    obtain⟨k,k1,k2,k3,_⟩:=hrl _ hm
    rw[Int.neg_neg] at k1
    have:=h.at_ k1 hF.at_ rfl
    subst this
    exact absurd hF.lv k3⟩
  obtain⟨k,k1,k2,k3,_⟩:=hrl y hy
  refine⟨k,k1,?_,fun _=>?_⟩
  ·have:=lvl_nn st k;omega
  have:=lvl_le st k;omega
 have hdr: -d∉rest:=fun hm=>by
  obtain⟨k,k1,k2,k3,_⟩:=hrl _ hm
  rw[Int.neg_neg] at k1
  have:=h.at_ k1 hF.at_ rfl
  subst this
  exact k3 hF.lv
 have hnd:(-d::rest).Nodup:=by
  refine List.nodup_cons.2 ⟨hdr,?_⟩
  have h3:=hF.mks.nd
  rw[hrest,List.map_cons,List.nodup_cons] at h3
  have h4:=h3.2
  unfold List.Nodup at h4⊢
  rw[List.pairwise_map] at h4
  exact List.Pairwise.imp (fun{a b} hne he=>hne (by rw[he])) h4
 let lf:Int→Int:=fun y=>(idx lev (vr y)).getD 0
 have hlfk:∀y k,trail[k]?=some (-y)→lf y=lvl st k:=fun y k hk=>by show(idx lev (vr y)).getD 0=_;rw[h.lvAt hk];rfl
 obtain⟨⟨back,q⟩,e1,hp,hq0,hb0,hbz,hb1,hble⟩:=back_loop (p0:=p0) hlev (lf:=lf) (e:= -d) (rest:=rest) (fun y hy=>by
  obtain⟨k,k1,k2,_⟩:=hall y hy
  have hyl:=h.lit (bK k1)
  rw[kU] at hyl
  have:=nS.1 hyl.2
  exact⟨by rw[hlfk y k k1];exact h.lvAt k1,by rw[hlfk y k k1];exact k2,by omega,by omega⟩) (by simp at hlen;omega)
 simp only at hp hq0 hb0 hbz hb1 hble
 rw[e1,bsm]
 have hqn:q.Nodup:=hp.nodup_iff.2 hnd
 have hqm:∀y,y∈q↔y∈ -d::rest:=fun y=>hp.mem_iff
 have hql:q.length=rest.length+1:=by rw[hp.length_eq];rfl
 have htail:∀(j:Nat) y,1≤j→q[j]?=some y→y∈rest:=fun j y hj hy=>by
  rcases List.mem_cons.1 ((hqm y).1 (bK hy)) with rfl|hm
  ·have:=nI hqn hy hq0;omega
  exact hm
 refine⟨q,back,rfl,⟨d,b,hF.at_,hF.dec,hF.lv,hq0⟩,fun y hy=>?_,hqn,?_,⟨hb0,?_⟩,fun h1=>hbz (List.eq_nil_of_length_eq_zero (by omega)),fun j y hj hy=>?_,fun h1=>?_⟩
 ·obtain⟨k,k1,_⟩:=hall y ((hqm y).1 hy)
  have hyl:=h.lit (bK k1)
  rw[kU] at hyl
  exact⟨by omega,hyl.2,bK k1⟩
 ·
  have up:∀(k:Nat) (x:Int),trail[k]?=some x→(lvl st k=0∨sn m2 (vr x))→UP F (wH q) x:=by
   intro k
   induction k using Nat.strongRecOn with
   |ind k ih=>
    intro x hx hor
    rcases hor with h0|hs
    ·exact(h.up0 k hx h0).mono (fun _ h=>h) (by simp)
    by_cases hcur:lvl st k=st.length
    ·rcases Nat.lt_trichotomy k b with hkb|hkb|hkb
     ·
      have:=lvl_mono st (Nat.le_of_lt hkb)
      obtain⟨i,hi⟩:=List.getElem?_of_mem hF.dec
      have h3:=lvl_lt' h.sts hi (show(k:Int)<(b:Int) by omega)
      have:=dB hi
      omega
     ·subst hkb
      obtain rfl:=Option.some.inj (hx.symm.trans hF.at_)
      refine .start ?_
      have:=P6.2 ((hqm _).2 (List.mem_cons_self ..))
      rwa [Int.neg_neg] at this
     obtain⟨id',c,g1,g2,g3⟩:=hF.don k x hkb hx hcur hs
     obtain⟨o,ho,k1,k2⟩:=h.eng.src id' c g1
     refine .unit (mem_big.1 ho).1 (k1 x g2) fun y hy hne=>?_
     have hyc:y∈c:=Classical.byContradiction fun hn=>by have:=k2 y hy hn;simp at this
     obtain⟨j,j1,j2,j3⟩:=g3 y hyc hne
     exact ih j j1 (-y) j2 (by rw[kU];exact j3)
    obtain⟨k',x',g1,g2,g3,g4⟩:=hF.mks.a _ hs
    have e:=h.at_ g1 hx g2
    subst e
    obtain rfl:=Option.some.inj (g1.symm.trans hx)
    have h5:=g4 hcur
    rw[htlr] at h5
    refine .start ?_
    have:=P6.2 ((hqm _).2 (List.mem_cons_of_mem _ h5))
    rwa [Int.neg_neg] at this
  obtain⟨o,ho,k1,k2⟩:=h.eng.src id c0 h1
  refine Or.inr ⟨o,(mem_big.1 ho).1,fun y hy=>?_⟩
  have hyc:y∈c0:=Classical.byContradiction fun hn=>by have:=k2 y hy hn;simp at this
  obtain⟨j,j1,j2⟩:=hF.cf y hyc
  exact up j (-y) j1 (by rw[kU];exact j2)
 ·by_cases hr:rest=[]
  ·rw[hbz hr];exact hpos
  obtain⟨y,y1,y2⟩:=hb1 hr
  have hm:=htail 1 y (by omega) y1
  obtain⟨k,k1,k2,k3⟩:=hall y (List.mem_cons_of_mem _ hm)
  rw[←y2,hlfk y k k1]
  exact k3 hm
 ·have hm:=htail j y hj hy
  obtain⟨k,k1,k2,k3⟩:=hall y (List.mem_cons_of_mem _ hm)
  exact⟨k,k1,by rw[←hlfk y k k1];exact hble j y hj hy⟩
 have hr:rest≠[]:=fun e=>by rw[e] at hql;simp at hql;omega
 obtain⟨y,y1,y2⟩:=hb1 hr
 obtain⟨k,k1,_⟩:=hall y ((hqm y).1 (bK y1))
 exact⟨y,k,y1,k1,by rw[←hlfk y k k1];exact y2⟩
end
end Go.Proofs.Ytpkhmndpeipfmaa
