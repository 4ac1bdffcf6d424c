/- The engine of proofs: propagate. -/
import Derived.Test.YtpkhmndpeipfmaaKUn22
import Derived.Test.YtpkhmndpeipfmaaKUn5
set_option linter.unusedVariables false
set_option linter.unusedSimpArgs false
namespace Go.Proofs.Ytpkhmndpeipfmaa
open Go.RowKit
theorem aB0 {c:List Int} {i j:Nat} {a b:Int} (hn:c.Nodup) (hi:c[i]?=some a) (hj:c[j]?=some b):Same c ((c.set i b).set j a):=by
 obtain⟨h1,rfl⟩:=List.getElem?_eq_some_iff.1 hi
 obtain⟨h2,rfl⟩:=List.getElem?_eq_some_iff.1 hj
 have hp:=List.set_set_perm h1 h2
 exact⟨by simp,hp.nodup_iff.2 hn,fun y=>hp.mem_iff⟩
theorem pV {κ:Type} [DecidableEq κ] (a:κ):uF a a=some ():=by unfold uF;rw[if_pos rfl]
theorem guardNe_nat {a b:Nat} (h:a≠b):aA2 (a:Int) (b:Int)=some ():=by unfold aA2;rw[if_neg (by simpa using h)]
theorem mem_le2 {c:List Int} {y:Int} (h:y∈c) {P:Int→Prop} (h0:∀z,c[0]?=some z→P z) (h1:∀z,c[1]?=some z→P z) (h2:∀j z,2≤j→c[j]?=some z→P z):P y:=by
 obtain⟨j,hj⟩:=List.getElem?_of_mem h
 match j,hj with
 |0,hj=>exact h0 _ hj
 |1,hj=>exact h1 _ hj
 |j+2,hj=>exact h2 _ _ (by omega) hj
section
variable {n:Int} {F:List (List Int)} {S:List Int} {np nc:Nat} {D:Nat→Int→Prop} {val trail:List Int} {ws:List (List Nat)} {cl:List (List Int)}
theorem Eng.clLen (h:Eng n F S np nc D val trail ws cl) (hn:0≤n∧n≤65536) {id:Nat} {c:List Int} (hc:cl[id]?=some c):c.length≤131074:=by
 obtain⟨_,h2,h3⟩:=h.ok id c hc
 have h1:=wY 131074 (c.map ixL) (by
  unfold List.Nodup
  rw[List.pairwise_map]
  exact List.Pairwise.imp (fun{a b} hne he=>hne (sW he)) h2) (fun x hx=>by
  obtain⟨y,hy,rfl⟩:=List.mem_map.1 hx
  have:=ixL_bnd (h3 y hy).2
  omega)
 rwa [List.length_map] at h1
end
structure Amid (n:Int) (F:List (List Int)) (S:List Int) (np nc:Nat) (l:Int) (list:List Nat) (h cN:Nat) (tr0:List Int) (k:Nat) (kept:List Nat) (W:List (List Nat)×List (List Int)) (val trail:List Int):Prop where
 eng:Eng n F S np nc (fun id w=> -w∈trail.take h∨(w=l∧id∉list.drop k)) val trail (W.1.set (ixL l) (kept++list.drop k)) W.2
 row:W.1[ixL l]?=some list
 ext:∃e,trail=tr0++e
 at_:trail[h]?=some (-l)
 kl:kept.length≤k
 cn:W.2.length=cN
 ll:list.length≤cN
section
variable {n:Int} {F:List (List Int)} {S:List Int} {np nc:Nat}
theorem pair01 {c d:List Int} {a b:Int} (h0:c[0]?=some a) (h1:c[1]?=some b) (d0:d[0]?=some b) (d1:d[1]?=some a) (w o:Int):Pair d w o↔Pair c w o:=by
 unfold Pair
 rw[h0,h1,d0,d1]
 exact⟨fun h=>h.elim (fun⟨x,y⟩=>Or.inr ⟨x,y⟩) (fun⟨x,y⟩=>Or.inl ⟨x,y⟩),fun h=>h.elim (fun⟨x,y⟩=>Or.inr ⟨x,y⟩) (fun⟨x,y⟩=>Or.inl ⟨x,y⟩)⟩
set_option maxHeartbeats 1000000 in
theorem amid_round {l:Int} {list:List Nat} {h cN:Nat} {tr0:List Int} {k:Nat} {kept:List Nat} {W:List (List Nat)×List (List Int)} {val trail:List Int} {hd:Int} {fl:Bool} (hn:0≤n∧n≤65536) (hcN:cN≤1000000000)
  (hA:Amid n F S np nc l list h cN tr0 k kept W val trail) (hk:k<list.length):
  (∃kept' W' val' trail',eX l (ixL l:Int) list (k:Int) kept W hd fl val trail=some (.next (((k+1:Nat):Int),kept',W',hd,fl,val',trail'))∧Amid n F S np nc l list h cN tr0 (k+1) kept' W' val' trail')∨
  (∃W',eX l (ixL l:Int) list (k:Int) kept W hd fl val trail=some (.done (.ret (false,PEng.mk val trail hd W' fl)))∧Fails F S∧(∃D,Eng n F S np nc D val trail W'.1 W'.2)∧W'.2.length=cN):=by
 have hE:=hA.eng
 obtain⟨id,hid⟩:=bK hk
 have hdrop:=yA hid
 have hlm: -l∈trail:=bQ hA.at_
 have hl0:=hE.lit hlm
 have hl:l≠0∧vr l≤n:=⟨by omega,by rw[←lL];exact hl0.2⟩
 have hlb:=oI.1 hl.2
 have hvr:(W.1.set (ixL l) (kept++list.drop k))[ixL l]?=some (kept++list.drop k):=dM hA.row
 have hrl:=hE.rowLen hvr
 have hlist:list.length-k≤cN:=by rw[List.length_append,List.length_drop,hA.cn] at hrl;omega
 have hkept:kept.length≤cN:=by rw[List.length_append,hA.cn] at hrl;omega
 obtain⟨c,w,o,hc,hp,hw⟩:=((hE.row _ _ hvr).2 id).1 (by rw[hdrop];simp)
 have hwl:=sW hw
 rw[hwl] at hp
 obtain⟨hc2,hcn,hcl⟩:=hE.ok id c hc
 have hc4:=hE.clLen hn hc
 have hlo:=hp.ne hcn
 have ho:=hcl o hp.mem.2
 have hcn':=hA.cn
 obtain⟨a,ha,j1,hjm,hs,hpj,hj0,hj1l⟩:∃a,c[0]?=some a∧∃j1,(if(decide (a=l))=true then
   (idx c 1).bind fun x9=>
   (some a).bind fun x10=>
   (some a).bind fun x11=>
   (idx (c.set (0:Int).toNat x9) 1).bind fun x12=>
   some ((c.set (0:Int).toNat x9).set (1:Int).toNat x10)
  else some c)=some j1∧Same c j1∧(∀w o,Pair j1 w o↔Pair c w o)∧j1[0]?=some o∧j1[1]?=some l:=by
  rcases hp with⟨e0,e1⟩|⟨e1,e0⟩
  ·refine⟨l,e0,(c.set 0 o).set 1 l,?_,aB0 hcn e0 e1,?_,?_,?_⟩
   ·rw[if_pos (by simp),show idx c 1=some o from kE (by decide) e1,bsm,bsm,bsm,
     show idx (c.set (0:Int).toNat o) 1=some o from kE (by decide) (by rw[cZ (by decide)];exact e1),bsm]
    rfl
   ·exact pair01 e0 e1 (by rw[cZ (by decide)];exact dM e0) (dM (by rw[cZ (by decide)];exact e1))
   ·rw[cZ (by decide)];exact dM e0
   exact dM (by rw[cZ (by decide)];exact e1)
  refine⟨o,e0,c,?_,⟨rfl,hcn,fun _=>Iff.rfl⟩,fun _ _=>Iff.rfl,e0,e1⟩
  rw[if_neg (by simpa using fun e:o=l=>hlo e.symm)]
 have hjlen:=hs.len
 have hjcl:∀y∈j1,y≠0∧vr y≤n:=fun y hy=>hcl y ((hs.mem y).1 hy)
 have hpl:Pair j1 l o:=Or.inr ⟨hj1l,hj0⟩
 obtain⟨b,hb,hb2,hble,hball,hbno⟩:=seek_ok hE hn.2 hjcl (by omega) (by omega) (tr:=trail) (hd:=hd) (W:=W) (fl:=fl)
 obtain⟨r,hr,hcase⟩:=of_ok hE ho.1 ho.2 hn.2 (tr:=trail) (hd:=hd) (W:=W) (fl:=fl)
 have hT:=hE.turn hc hs hpj
 have hset:(W.2.set id j1)[id]?=some j1:=dM hc
 have hins:id∉list.drop (k+1):=by
  have h1:=(hE.row _ _ hvr).1
  rw[hdrop] at h1
  have h2:=(List.nodup_append.1 h1).2.1
  exact(List.nodup_cons.1 h2).1
 have weak:∀(tr:List Int) (id':Nat) (w':Int),(-w'∈tr.take h∨(w'=l∧id'∉list.drop (k+1)))→(-w'∈tr.take h∨(w'=l∧id'∉list.drop k))∨(id'=id∧w'=l):=fun tr id' w' hd=>by
  rcases hd with hd|⟨e,hd⟩
  ·exact Or.inl (Or.inl hd)
  by_cases e':id'=id
  ·exact Or.inr ⟨e',e⟩
  exact Or.inl (Or.inr ⟨e,by rw[hdrop];simp[e',hd]⟩)
 have hap:app kept [id]=some (kept++[id]):=oV (by simp;omega)
 have hup:=jA hk (show list.length≤9223372036854775807 by have:=hA.ll;omega)
 have hsnoc:W.1.set (ixL l) (kept++list.drop k)=W.1.set (ixL l) ((kept++[id])++list.drop (k+1)):=by rw[hdrop,List.append_assoc,List.singleton_append]
 unfold eX
 rw[if_pos (ltB hk),dA hid,bsm,hc,bsm,show idx c 0=some a from kE (by decide) ha,bsm,hjm,bsm,hb,bsm,show idx j1 0=some o from kE (by decide) hj0,bsm,hr,bsm]
 by_cases hom:o∈trail
 ·
  have er:r=1:=by
   rcases hcase with⟨e,_⟩|⟨_,e⟩|⟨_,_,e,_⟩
   ·exact e
   ·exact(hE.opp hom e).elim
   exact absurd hom e
  rw[if_pos (by rw[er];decide),hap,bsm,hup,bsm]
  refine Or.inl ⟨kept++[id],(W.1,W.2.set id j1),val,trail,rfl,?_,hA.row,hA.ext,hA.at_,by simp;exact hA.kl,by simp[hcn'],hA.ll⟩
  have h1:=(hT.done hset hpl hom).less (weak trail)
  rwa [hsnoc] at h1
 have er:¬(0<r):=by
  rcases hcase with⟨_,e⟩|⟨e,_⟩|⟨e,_⟩
  ·exact absurd e hom
  ·omega
  omega
 rw[if_neg (by simpa using er)]
 by_cases hbl:b<j1.length
 ·
  obtain⟨y,hy⟩:=bK hbl
  have hyn:=hbno y hy
  have hyl:=hjcl y (bQ hy)
  have hyb:=oI.1 hyl.2
  have hb1:b≠1:=by omega
  have hb0:b≠0:=by omega
  have hyne:y≠l:=fun e=>hyn (e▸hlm)
  have hyo:y≠o:=fun e=>by have:=nY hs.nd hy (e▸hj0);omega
  have hix:ixL y≠ixL l:=fun e=>hyne (sW e)
  obtain⟨R,hR⟩:=hE.rowAt hyl.2
  have hRl:=hE.rowLen hR
  have hR':W.1[ixL y]?=some R:=by rwa [cZ hix] at hR
  have g1:(j1.set 1 y)[b]?=some y:=by rw[cZ hb1];exact hy
  have g2:((j1.set 1 y).set b l)[1]?=some y:=by rw[cZ (Ne.symm hb1)];exact dM hj1l
  have g3:((j1.set 1 y).set b l)[0]?=some o:=by rw[cZ (Ne.symm hb0),cZ (by decide)];exact hj0
  have e1:idx j1 1=some l:=kE (by decide) hj1l
  have e2:idx (j1.set (1:Int).toNat y) (b:Int)=some y:=dA g1
  have e3:idx ((j1.set (1:Int).toNat y).set (b:Int).toNat l) 1=some y:=kE (by decide) g2
  have e4:=aI6 (l:=y) (by omega)
  rw[if_pos (by simpa using hbl),dA hy,bsm,e1,bsm,bsm,e2,bsm,e3,bsm,e4,bsm,bsm,e4,bsm,dA hR',bsm,guardNe_nat hix,bsm,oV (by simp;omega),bsm,pV,bsm,hup,bsm]
  refine Or.inl ⟨kept,(W.1.set (ixL y) (R++[id]),W.2.set id ((j1.set 1 y).set b l)),val,trail,rfl,?_,by rw[cZ (Ne.symm hix)];exact hA.row,hA.ext,hA.at_,by have:=hA.kl;omega,by simp[hcn'],hA.ll⟩
  have hs2:Same j1 ((j1.set 1 y).set b l):=aB0 hs.nd hj1l hy
  have hp2:Pair ((j1.set 1 y).set b l) y o:=Or.inr ⟨g2,g3⟩
  have hD:∀(i:Nat) (w':Int),(-w'∈trail.take h∨(w'=l∧i∉list.drop k))→ -w'∈trail:=fun i w' hd=>by
   rcases hd with hd|⟨e,_⟩
   ·exact List.mem_of_mem_take hd
   rw[e];exact hlm
  have h1:=hT.move hset hs2 hpl hp2 hyne hyo hlm hyn hom hD (V1:=kept) (V2:=list.drop (k+1)) (by rw[←hdrop];exact hvr) hR
  rw[List.set_comm _ _ (Ne.symm hix),List.set_set,List.set_set] at h1
  refine(h1.void (id:=id) (l:=l) (dM hc) fun p hq=>?_).less (weak trail)
  rcases hp2.other hq with⟨e,_⟩|⟨e,_⟩
  ·exact hyne e.symm
  exact hlo e
 have hbe:b=j1.length:=by omega
 have hrest:∀y∈j1,y≠o→ -y∈trail:=fun y hy=>mem_le2 hy (P:=fun y=>y≠o→ -y∈trail)
  (fun z hz hne=>by rw[hj0] at hz;exact absurd (Option.some.inj hz).symm hne) (fun z hz _=>by rw[hj1l] at hz;exact Option.some.inj hz▸hlm)
  (fun j z hj hz _=>hball j z hj (by have:=dB hz;omega) hz)
 rw[if_neg (by simpa using hbl),bsm,hr,bsm]
 by_cases hon: -o∈trail
 ·have er:r= -1:=by
   rcases hcase with⟨_,e⟩|⟨e,_⟩|⟨_,_,_,e⟩
   ·exact absurd e hom
   ·exact e
   exact absurd hon e
  have e1:=aI6 (l:=l) (by omega)
  have e2:sub list (k:Int) (list.length:Int)=some (list.drop k):=by
   rw[yV (by omega) (by omega) (by omega)]
   simp
  rw[if_pos (by rw[er];decide),e1,bsm,e2,bsm,oV (by rw[List.length_drop];omega),bsm,dA hA.row,bsm,pV,bsm]
  refine Or.inr ⟨(W.1.set (ixL l) (kept++list.drop k),W.2.set id j1),rfl,hE.fail hc fun y hy=>?_,⟨_,hT⟩,by simp[hcn']⟩
  by_cases e:y=o
  ·rw[e];exact hon
  exact hrest y ((hs.mem y).2 hy) e
 obtain⟨er,hz⟩:r=0∧gv val o=some 0:=by
  rcases hcase with⟨_,e⟩|⟨_,e⟩|⟨e,e',_⟩
  ·exact absurd e hom
  ·exact absurd e hon
  exact⟨e,e'⟩
 have hu:UP F S o:=hE.unit hc hp.mem.2 fun y hy hne=>hrest y ((hs.mem y).2 hy) hne
 rw[if_neg (by rw[er];decide),hap,bsm,bsm,hold_ok hE ho.2 hn.2 hn.1,bsm,hup,bsm]
 have hlt:=dB hA.at_
 have htk:(trail++[o]).take h=trail.take h:=List.take_append_of_le_length (by omega)
 refine Or.inl ⟨kept++[id],(W.1,W.2.set id j1),val.set (vr o).toNat o,trail++[o],rfl,?_,hA.row,?_,by rw[List.getElem?_append_left hlt];exact hA.at_,by simp;exact hA.kl,by simp[hcn'],hA.ll⟩
 ·have h1:=hT.hold ho.1 ho.2 hz hu
  have h2:=(h1.done hset hpl (List.mem_append_right _ (List.mem_singleton.2 rfl))).less (weak trail)
  rw[←htk] at h2
  rwa [hsnoc] at h2
 obtain⟨e,he⟩:=hA.ext
 exact⟨e++[o],by rw[he,List.append_assoc]⟩
theorem amid_loop {l:Int} {list:List Nat} {h cN:Nat} {tr0:List Int} {W:List (List Nat)×List (List Int)} {val trail:List Int} {hd:Int} {fl:Bool} (hn:0≤n∧n≤65536) (hcN:cN≤1000000000)
  (hA:Amid n F S np nc l list h cN tr0 0 [] W val trail):
  ∃b,dC (fun s:Int×List Nat×(List (List Nat)×List (List Int))×Int×Bool×List Int×List Int=>eX l (ixL l:Int) list s.1 s.2.1 s.2.2.1 s.2.2.2.1 s.2.2.2.2.1 s.2.2.2.2.2.1 s.2.2.2.2.2.2) (0,[],W,hd,fl,val,trail)=some b∧
   (match b with
    | .brk s=>∃kept W val trail,s=(kept,W,hd,fl,val,trail)∧Amid n F S np nc l list h cN tr0 list.length kept W val trail
    | .ret r=>∃val trail W',r=(false,PEng.mk val trail hd W' fl)∧Fails F S∧(∃D,Eng n F S np nc D val trail W'.1 W'.2)∧W'.2.length=cN∧∃e,trail=tr0++e):=by
 refine uA (body:=fun s:Int×List Nat×(List (List Nat)×List (List Int))×Int×Bool×List Int×List Int=>eX l (ixL l:Int) list s.1 s.2.1 s.2.2.1 s.2.2.2.1 s.2.2.2.2.1 s.2.2.2.2.2.1 s.2.2.2.2.2.2) list.length
  (fun k (t:List Nat×(List (List Nat)×List (List Int))×List Int×List Int)=>((k:Int),t.1,t.2.1,hd,fl,t.2.2.1,t.2.2.2)) (fun k t=>Amid n F S np nc l list h cN tr0 k t.1 t.2.1 t.2.2.1 t.2.2.2) _ (t0:=([],W,val,trail)) rfl hA ?_ ?_
 ·rintro k ⟨kept,W,val,trail⟩ hk hA
  rcases amid_round hn hcN hA hk (hd:=hd) (fl:=fl) with⟨kept',W',val',trail',h1,h2⟩|⟨W',h1,h2,h3,h4⟩
  ·exact Or.inl ⟨(kept',W',val',trail'),h1,h2⟩
  exact Or.inr ⟨_,h1,val,trail,W',rfl,h2,h3,h4,hA.ext⟩
 rintro⟨kept,W,val,trail⟩ hA
 refine⟨.brk (kept,W,hd,fl,val,trail),?_,kept,W,val,trail,rfl,hA⟩
 simp only[eX,rY,if_false,Bool.false_eq_true]
theorem aJ1 {val trail:List Int} {W:List (List Nat)×List (List Int)} {h:Nat} {fl:Bool} (hn:0≤n∧n≤65536) (hcN:W.2.length≤1000000000)
  (hE:Eng n F S np nc (fun _ w=> -w∈trail.take h) val trail W.1 W.2) (hh:h≤trail.length):
  ∃ok val' ext W' h',iG (PEng.mk val trail (h:Int) W fl)=some (ok,PEng.mk val' (trail++ext) h' W' fl)∧W'.2.length=W.2.length∧
   ((ok=true∧h'=((trail++ext).length:Int)∧Eng n F S np nc (fun _ w=> -w∈trail++ext) val' (trail++ext) W'.1 W'.2)∨(ok=false∧Fails F S∧∃D,Eng n F S np nc D val' (trail++ext) W'.1 W'.2)):=by
 refine Exists.elim (wC (body:=fun s:Int×Bool×List Int×List Int×(List (List Nat)×List (List Int))=>lK s.1 s.2.1 s.2.2.1 s.2.2.2.1 s.2.2.2.2)
  (fun t=>∃h':Nat,t.1=h'∧t.2.1=fl∧h'≤t.2.2.2.1.length∧(∃e,t.2.2.2.1=trail++e)∧t.2.2.2.2.2.length=W.2.length∧Eng n F S np nc (fun _ w=> -w∈t.2.2.2.1.take h') t.2.2.1 t.2.2.2.1 t.2.2.2.2.1 t.2.2.2.2.2)
  (fun t=>(n+1-t.1).toNat)
  (fun b=>match b with
   | .brk s=>∃val' tr' W',s=((tr'.length:Int),fl,val',tr',W')∧(∃e,tr'=trail++e)∧W'.2.length=W.2.length∧Eng n F S np nc (fun _ w=> -w∈tr') val' tr' W'.1 W'.2
   | .ret r=>∃val' tr' W' hd,r=(false,PEng.mk val' tr' hd W' fl)∧(∃e,tr'=trail++e)∧W'.2.length=W.2.length∧Fails F S∧∃D,Eng n F S np nc D val' tr' W'.1 W'.2) ?_ ((h:Int),fl,val,trail,W) ⟨h,rfl,rfl,hh,⟨[],by simp⟩,rfl,hE⟩) ?_
 ·rintro⟨hd,fl',val,tr,W1⟩ ⟨h',rfl,rfl,hle,⟨e,he⟩,hcl,hE⟩
  simp only at hle he hcl hE⊢
  have htl:=hE.trailLen hn.1
  unfold lK
  by_cases hlt:h'<tr.length
  ·obtain⟨x,hx⟩:=bK hlt
   have hx0:=hE.lit (bQ hx)
   have hxb:=oI.1 hx0.2
   have hlv:vr (-x)≤n:=by rw[lL];exact hx0.2
   obtain⟨list,hlist⟩:=hE.rowAt hlv
   have i1:inK .i64 (0-x)=some (-x):=oM (by omega) ⟨by omega,by omega⟩
   have i2:inK .i64 ((h':Int)+1)=some ((h'+1:Nat):Int):=oM rfl ⟨by omega,by omega⟩
   have hA:Amid n F S np nc (-x) list h' W.2.length trail 0 [] W1 val tr:=by
    refine⟨?_,hlist,⟨e,he⟩,by rw[Int.neg_neg];exact hx,Nat.le_refl _,hcl,by have:=hE.rowLen hlist;omega⟩
    have hsame:W1.1.set (ixL (-x)) ([]++list.drop 0)=W1.1:=by
     rw[List.nil_append,List.drop_zero];exact set_self hlist
    rw[hsame]
    have hn2:=(hE.row _ _ hlist).2
    refine{hE with pr:=fun id c w o hc hp hd=>?_}
    rcases hd with hd|⟨rfl,hd⟩
    ·exact hE.pr id c w o hc hp hd
    exact absurd ((hn2 id).2 ⟨c,_,o,hc,hp,rfl⟩) hd
   obtain⟨b,hb,hpost⟩:=amid_loop hn hcN hA (hd:=((h'+1:Nat):Int)) (fl:=fl')
   rw[if_pos (by simpa using hlt),dA hx,bsm,i1,bsm,i2,bsm,aI6 (by omega),bsm,dA hlist,bsm,hb,bsm]
   cases b with
   |brk s=>
    obtain⟨kept,W2,val2,tr2,rfl,hA2⟩:=hpost
    simp only
    rw[bsm,dA hA2.row,bsm,pV,bsm]
    have hlt2:=dB hA2.at_
    refine Or.inl ⟨_,rfl,⟨h'+1,rfl,rfl,by show h'+1≤tr2.length;omega,hA2.ext,hA2.cn,?_⟩,?_⟩
    ·have h3:=hA2.eng
     rw[List.drop_length,List.append_nil] at h3
     refine h3.less fun id w hd=>?_
     have h4:tr2.take (h'+1)=tr2.take h'++[x]:=fA (by have:=hA2.at_;rwa [Int.neg_neg] at this)
     have hd: -w∈tr2.take (h'+1):=hd
     rw[h4,List.mem_append,List.mem_singleton] at hd
     rcases hd with hd|hd
     ·exact Or.inl hd
     exact Or.inr ⟨by omega,by simp⟩
    show(n+1-((h'+1:Nat):Int)).toNat<(n+1-(h':Int)).toNat
    omega
   |ret r=>
    obtain⟨val2,tr2,W2,rfl,h1,h2,h3,h4⟩:=hpost
    exact Or.inr ⟨_,rfl,val2,tr2,W2,_,rfl,h4,h3,h1,h2⟩
  rw[if_neg (by simpa using hlt)]
  have:h'=tr.length:=by omega
  subst this
  rw[List.take_length] at hE
  exact Or.inr ⟨_,rfl,val,tr,W1,rfl,⟨e,he⟩,hcl,hE⟩
 rintro b ⟨hb,hp⟩
 unfold iG
 simp only
 rw[hb,bsm]
 cases b with
 |brk s=>
  obtain⟨val',tr',W',rfl,⟨e,rfl⟩,h1,h2⟩:=hp
  exact⟨true,val',e,W',_,rfl,h1,Or.inl ⟨rfl,rfl,h2⟩⟩
 |ret r=>
  obtain⟨val',tr',W',hd,rfl,⟨e,rfl⟩,h1,h2,h3⟩:=hp
  exact⟨false,val',e,W',hd,rfl,h1,Or.inr ⟨rfl,h2,h3⟩⟩
end
theorem wM {l:Int} (h: -1099511627776≤l∧l≤1099511627776):dN l=some (vr l):=by
 unfold dN;rw[gW (by omega),bsm];rfl
theorem aA9 {l:Int} (h: -1099511627776≤l∧l≤1099511627776):jW l=some (ixL l:Int):=by
 unfold jW ixL
 by_cases h0:l<0
 ·rw[if_pos (by simpa using h0),if_pos h0,gW ⟨by omega,by omega⟩,bsm,gW ⟨by omega,by omega⟩,bsm]
  congr 1;omega
 rw[if_neg (by simpa using h0),if_neg h0,gW ⟨by omega,by omega⟩,bsm]
 congr 1;omega
section
variable {n:Int} {F:List (List Int)} {S:List Int} {np nc:Nat} {D:Nat→Int→Prop} {val trail:List Int} {ws:List (List Nat)} {cl:List (List Int)}
theorem sof_ok (h:Eng n F S np nc D val trail ws cl) {l:Int} (h0:l≠0) (hl:vr l≤n) (hn:n≤65536) {s:Sol} (hs:s.value=val):
  ∃r,jY s l=some r∧((r=1∧l∈trail)∨(r= -1∧ -l∈trail)∨(r=0∧gv val l=some 0∧l∉trail∧ -l∉trail)):=by
 have hb:=oI.1 hl
 unfold jY
 have key:∀y,gv val l=some y→idx s.value (vr l)=some y:=fun y hy=>by rw[hs];exact kE (jP l) hy
 rw[wM ⟨by omega,by omega⟩,bsm]
 rcases h.cases h0 hl with⟨h1,h2⟩|⟨h1,h2⟩|⟨h1,h2,h3⟩
 ·rw[key _ h1,bsm]
  exact⟨1,by simp[h0],Or.inl ⟨rfl,h2⟩⟩
 ·rw[key _ h1,bsm]
  have e1:¬(-l=0):=by omega
  have e2:¬(-l=l):=by omega
  exact⟨-1,by simp[e1,e2],Or.inr (Or.inl ⟨rfl,h2⟩)⟩
 rw[key _ h1,bsm]
 exact⟨0,by simp,Or.inr (Or.inr ⟨rfl,h1,h2,h3⟩)⟩
theorem sseek_ok (h:Eng n F S np nc D val trail ws cl) (hn:n≤65536) {c:List Int} (hc:∀y∈c,y≠0∧vr y≤n) (hlen:2≤c.length) (hc4:c.length≤4294967296) {p0:Sol} {W:List (List Nat)×List (List Int)} {hd li:Int} {br:Bool} {lev:List Int} {rea:List (Option Nat)} {tr:List Int}:
  ∃b:Nat,dC (fun s=>fG p0 W hd li br val lev rea tr c s) 2=some (b:Int)∧2≤b∧b≤c.length∧(∀j y,2≤j→j<b→c[j]?=some y→ -y∈trail)∧(∀y,c[b]?=some y→ -y∉trail):=by
 have key:∀(m k:Nat),k+m=c.length→2≤k→(∀j y,2≤j→j<k→c[j]?=some y→ -y∈trail)→
   ∃b:Nat,dC (fun s=>fG p0 W hd li br val lev rea tr c s) (k:Int)=some (b:Int)∧2≤b∧b≤c.length∧(∀j y,2≤j→j<b→c[j]?=some y→ -y∈trail)∧(∀y,c[b]?=some y→ -y∉trail):=by
  intro m
  induction m with
  |zero=>
   intro k hk h2 hi
   obtain rfl:k=c.length:=by omega
   refine⟨c.length,eF ?_,h2,Nat.le_refl _,hi,fun y hy=>by rw[List.getElem?_eq_none (Nat.le_refl _)] at hy;cases hy⟩
   simp only[fG,rY,if_false,Bool.false_eq_true,bsm]
  |succ m ih=>
   intro k hk h2 hi
   have hlt:k<c.length:=by omega
   obtain⟨y,hy⟩:=bK hlt
   obtain⟨r,hr,hcase⟩:=sof_ok h (hc y (bQ hy)).1 (hc y (bQ hy)).2 hn (s:=Sol.mk val lev rea p0.saved W tr p0.starts hd p0.queue p0.proof li br) rfl
   by_cases hneg: -y∈trail
   ·have er:r= -1:=by
     rcases hcase with⟨_,e⟩|⟨e,_⟩|⟨_,_,_,e⟩
     ·exact(h.opp e hneg).elim
     ·exact e
     exact absurd hneg e
    subst er
    obtain⟨b,hb,h3⟩:=ih (k+1) (by omega) (by omega) (fun j z hj2 hj hz=>by
     by_cases e:j=k
     ·subst e;rw[hy] at hz;exact Option.some.inj hz▸hneg
     exact hi j z hj2 (by omega) hz)
    refine⟨b,?_,h3⟩
    rw[gJ (s':=((k+1:Nat):Int)) ?_]
    ·exact hb
    simp only[fG,ltB hlt,if_true,dA hy,bsm,hr,jA hlt (show c.length≤9223372036854775807 by omega)]
    rfl
   have er:¬r<0:=by
    rcases hcase with⟨e,_⟩|⟨_,e⟩|⟨e,_⟩
    ·omega
    ·exact absurd e hneg
    omega
   refine⟨k,eF ?_,h2,by omega,hi,fun z hz=>by rw[hy] at hz;exact Option.some.inj hz▸hneg⟩
   simp only[fG,ltB hlt,if_true,dA hy,bsm,hr,er,decide_false,if_false,Bool.false_eq_true]
 have:=key (c.length-2) 2 (by omega) (Nat.le_refl _) (fun j y h1 h2=>by omega)
 simpa using this
end
section
variable {n:Int} {F:List (List Int)} {st:List Int} {D:Nat→Int→Prop} {val lev:List Int} {rea:List (Option Nat)} {trail:List Int} {ws:List (List Nat)} {cl:List (List Int)}
theorem V9 (h:Cor n F st D val lev rea trail ws cl) {l:Int} (hl:vr l≤n) (hn:n≤65536) (hn0:0≤n) (r:Option Nat) {s:Sol} (h1:s.value=val) (h2:s.level=lev) (h3:s.reason=rea) (h4:s.trail=trail):
  iF s l r=some (Sol.mk (val.set (vr l).toNat l) (lev.set (vr l).toNat (s.starts.length:Int)) (rea.set (vr l).toNat r) s.saved s.watches (trail++[l]) s.starts s.head s.queue s.proof s.literals s.broken):=by
 have hb:=oI.1 hl
 have ht:=h.eng.trailLen hn0
 have hv:=jP l
 obtain⟨y,e1⟩:=bK (show(vr l).toNat<val.length by have:=h.eng.vo.len;omega)
 obtain⟨z,e2⟩:=bK (show(vr l).toNat<lev.length by have:=h.ll;omega)
 obtain⟨u,e3⟩:=bK (show(vr l).toNat<rea.length by have:=h.rl;omega)
 unfold iF
 rw[h1,h2,h3,h4,wM ⟨by omega,by omega⟩,bsm,kE hv e1,bsm,kE hv e2,bsm,kE hv e3,bsm,oV (by simp;omega),bsm]
end
structure Clash (st trail:List Int) (cl:List (List Int)) (id:Nat):Prop where
 ex:∃c,cl[id]?=some c∧(∀y∈c,-y∈trail)∧∃y∈c,∃k,trail[k]?=some (-y)∧lvl st k=st.length
structure AmidS (n:Int) (F:List (List Int)) (st:List Int) (l:Int) (list:List Nat) (h cN:Nat) (tr0:List Int) (k m:Nat) (L2:List Nat) (W:List (List Nat)×List (List Int)) (val lev:List Int) (rea:List (Option Nat)) (trail:List Int):Prop where
 eng:Cor n F st (fun id w=> -w∈trail.take h∨(w=l∧id∉list.drop k)) val lev rea trail (W.1.set (ixL l) (L2.take m++list.drop k)) W.2
 row:W.1[ixL l]?=some list
 l2:L2.length=list.length∧L2.drop k=list.drop k
 ext:∃e,trail=tr0++e
 at_:trail[h]?=some (-l)
 kl:m≤k
 cn:W.2.length=cN
 ll:list.length≤cN
theorem aD1 {m n:Nat} (h:m<n):J5 m n=some ():=by unfold J5;rw[if_pos h]
section
variable {n:Int} {F:List (List Int)} {st:List Int}
set_option maxHeartbeats 2000000 in
theorem amidS_round {p0:Sol} {l:Int} {list:List Nat} {h cN:Nat} {tr0:List Int} {k m:Nat} {L2:List Nat} {W:List (List Nat)×List (List Int)} {val lev:List Int} {rea:List (Option Nat)} {trail:List Int} {hd li:Int} {br:Bool} (hn:0≤n∧n≤65536) (hcN:cN≤1000000000) (hp0:p0.starts=st) (hb:∀b∈st,b≤(h:Int))
  (hA:AmidS n F st l list h cN tr0 k m L2 W val lev rea trail) (hk:k<list.length):
  (∃m' L2' W' val' lev' rea' trail',eH p0 l (ixL l:Int) list m (k:Int) L2 W hd li br val lev rea trail=some (.next (m',((k+1:Nat):Int),L2',W',hd,li,br,val',lev',rea',trail'))∧AmidS n F st l list h cN tr0 (k+1) m' L2' W' val' lev' rea' trail')∨
  (∃id W',eH p0 l (ixL l:Int) list m (k:Int) L2 W hd li br val lev rea trail=some (.done (.ret (some id,Sol.mk val lev rea p0.saved W' trail p0.starts hd p0.queue p0.proof li br)))∧Clash st trail W'.2 id∧(∃D,Cor n F st D val lev rea trail W'.1 W'.2)∧W'.2.length=cN):=by
 have hC:=hA.eng
 have hE:=hC.eng
 obtain⟨id,hid⟩:=bK hk
 have hdrop:=yA hid
 have hL2:L2[k]?=some id:=by
  have:=congrArg (fun x=>x[0]?) hA.l2.2
  simp only[List.getElem?_drop,Nat.add_zero] at this
  rw[this];exact hid
 have hlm: -l∈trail:=bQ hA.at_
 have hl0:=hE.lit hlm
 have hl:l≠0∧vr l≤n:=⟨by omega,by rw[←lL];exact hl0.2⟩
 have hlb:=oI.1 hl.2
 have hlvl:lvl st h=st.length:=lvl_all hb
 have hvr:(W.1.set (ixL l) (L2.take m++list.drop k))[ixL l]?=some (L2.take m++list.drop k):=dM hA.row
 have hrl:=hE.rowLen hvr
 obtain⟨c,w,o,hc,hp,hw⟩:=((hE.row _ _ hvr).2 id).1 (by rw[hdrop];simp)
 have hwl:=sW hw
 rw[hwl] at hp
 obtain⟨hc2,hcn,hcl⟩:=hE.ok id c hc
 have hc4:=hE.clLen hn hc
 have hlo:=hp.ne hcn
 have ho:=hcl o hp.mem.2
 have hcn':=hA.cn
 have hml:m<L2.length:=by have:=hA.kl;have:=hA.l2.1;omega
 obtain⟨a,ha,j1,hjm,hs,hpj,hj0,hj1l⟩:∃a,c[0]?=some a∧∃j1,(if(decide (a=l))=true then
   (idx c 1).bind fun x9=>
   (some a).bind fun x10=>
   (some a).bind fun x11=>
   (idx (c.set (0:Int).toNat x9) 1).bind fun x12=>
   some ((c.set (0:Int).toNat x9).set (1:Int).toNat x10)
  else some c)=some j1∧Same c j1∧(∀w o,Pair j1 w o↔Pair c w o)∧j1[0]?=some o∧j1[1]?=some l:=by
  rcases hp with⟨e0,e1⟩|⟨e1,e0⟩
  ·refine⟨l,e0,(c.set 0 o).set 1 l,?_,aB0 hcn e0 e1,?_,?_,?_⟩
   ·rw[if_pos (by simp),show idx c 1=some o from kE (by decide) e1,bsm,bsm,bsm,
     show idx (c.set (0:Int).toNat o) 1=some o from kE (by decide) (by rw[cZ (by decide)];exact e1),bsm]
    rfl
   ·exact pair01 e0 e1 (by rw[cZ (by decide)];exact dM e0) (dM (by rw[cZ (by decide)];exact e1))
   ·rw[cZ (by decide)];exact dM e0
   exact dM (by rw[cZ (by decide)];exact e1)
  refine⟨o,e0,c,?_,⟨rfl,hcn,fun _=>Iff.rfl⟩,fun _ _=>Iff.rfl,e0,e1⟩
  rw[if_neg (by simpa using fun e:o=l=>hlo e.symm)]
 have hjlen:=hs.len
 have hjcl:∀y∈j1,y≠0∧vr y≤n:=fun y hy=>hcl y ((hs.mem y).1 hy)
 have hpl:Pair j1 l o:=Or.inr ⟨hj1l,hj0⟩
 obtain⟨b,hb1,hb2,hble,hball,hbno⟩:=sseek_ok hE hn.2 hjcl (by omega) (by omega) (p0:=p0) (W:=W) (hd:=hd) (li:=li) (br:=br) (lev:=lev) (rea:=rea) (tr:=trail)
 obtain⟨r,hr,hcase⟩:=sof_ok hE ho.1 ho.2 hn.2 (s:=Sol.mk val lev rea p0.saved W trail p0.starts hd p0.queue p0.proof li br) rfl
 have hT:=hC.turn hc hs hpj
 have hset:(W.2.set id j1)[id]?=some j1:=dM hc
 have hins:id∉list.drop (k+1):=by
  have h1:=(hE.row _ _ hvr).1
  rw[hdrop] at h1
  have h2:=(List.nodup_append.1 h1).2.1
  exact(List.nodup_cons.1 h2).1
 have weak:∀(tr:List Int) (id':Nat) (w':Int),(-w'∈tr.take h∨(w'=l∧id'∉list.drop (k+1)))→(-w'∈tr.take h∨(w'=l∧id'∉list.drop k))∨(id'=id∧w'=l):=fun tr id' w' hd=>by
  rcases hd with hd|⟨e,hd⟩
  ·exact Or.inl (Or.inl hd)
  by_cases e':id'=id
  ·exact Or.inr ⟨e',e⟩
  exact Or.inl (Or.inr ⟨e,by rw[hdrop];simp[e',hd]⟩)
 have hup:=jA hk (show list.length≤9223372036854775807 by have:=hA.ll;omega)
 have htake:(L2.set m id).take (m+1)=L2.take m++[id]:=by
  rw[fA (a:=id) (dM (List.getElem?_eq_getElem hml)),List.take_set_of_le (Nat.le_refl _)]
 have hdrop2:(L2.set m id).drop (k+1)=list.drop (k+1):=by
  rw[List.drop_set_of_lt (by have:=hA.kl;omega)]
  have:=congrArg (List.drop 1) hA.l2.2
  rwa [List.drop_drop,List.drop_drop] at this
 have hdrop3:L2.drop (k+1)=list.drop (k+1):=by
  have:=congrArg (List.drop 1) hA.l2.2
  rwa [List.drop_drop,List.drop_drop] at this
 have hsnoc:W.1.set (ixL l) (L2.take m++list.drop k)=W.1.set (ixL l) ((L2.set m id).take (m+1)++list.drop (k+1)):=by rw[hdrop,htake,List.append_assoc,List.singleton_append]
 have hll:(L2.set m id).length=list.length:=by rw[List.length_set];exact hA.l2.1
 unfold eH
 rw[if_pos (ltB hk),dA hL2,bsm,hc,bsm,show idx c 0=some a from kE (by decide) ha,bsm,hjm,bsm,show idx j1 0=some o from kE (by decide) hj0,bsm,hr,bsm]
 by_cases hom:o∈trail
 ·
  have er:r=1:=by
   rcases hcase with⟨e,_⟩|⟨_,e⟩|⟨_,_,e,_⟩
   ·exact e
   ·exact(hE.opp hom e).elim
   exact absurd hom e
  rw[if_pos (by rw[er];decide),aD1 hml,bsm,bsm]
  simp only
  rw[hup,bsm]
  refine Or.inl ⟨m+1,L2.set m id,(W.1,W.2.set id j1),val,lev,rea,trail,rfl,?_,hA.row,⟨hll,hdrop2⟩,hA.ext,hA.at_,by have:=hA.kl;omega,by simp[hcn'],hA.ll⟩
  have h1:=(hT.done hset hpl hom).less (weak trail)
  rwa [hsnoc] at h1
 have er:¬(0<r):=by
  rcases hcase with⟨_,e⟩|⟨e,_⟩|⟨e,_⟩
  ·exact absurd e hom
  ·omega
  omega
 rw[if_neg (by simpa using er),hb1,bsm]
 by_cases hbl:b<j1.length
 ·
  obtain⟨y,hy⟩:=bK hbl
  have hyn:=hbno y hy
  have hyl:=hjcl y (bQ hy)
  have hyb:=oI.1 hyl.2
  have hb1:b≠1:=by omega
  have hb0:b≠0:=by omega
  have hyne:y≠l:=fun e=>hyn (e▸hlm)
  have hyo:y≠o:=fun e=>by have:=nY hs.nd hy (e▸hj0);omega
  have hix:ixL y≠ixL l:=fun e=>hyne (sW e)
  obtain⟨R,hR⟩:=hE.rowAt hyl.2
  have hRl:=hE.rowLen hR
  have hR':W.1[ixL y]?=some R:=by rwa [cZ hix] at hR
  have g1:(j1.set 1 y)[b]?=some y:=by rw[cZ hb1];exact hy
  have g2:((j1.set 1 y).set b l)[1]?=some y:=by rw[cZ (Ne.symm hb1)];exact dM hj1l
  have g3:((j1.set 1 y).set b l)[0]?=some o:=by rw[cZ (Ne.symm hb0),cZ (by decide)];exact hj0
  have e1:idx j1 1=some l:=kE (by decide) hj1l
  have e2:idx (j1.set (1:Int).toNat y) (b:Int)=some y:=dA g1
  have e3:idx ((j1.set (1:Int).toNat y).set (b:Int).toNat l) 1=some y:=kE (by decide) g2
  have e4:=aA9 (l:=y) (by omega)
  rw[if_pos (by simpa using hbl),dA hy,bsm,e1,bsm,bsm,e2,bsm,e3,bsm,e4,bsm,bsm,e4,bsm,dA hR',bsm,guardNe_nat hix,bsm,oV (by simp;omega),bsm,pV,bsm,bsm]
  simp only
  rw[hup,bsm]
  refine Or.inl ⟨m,L2,(W.1.set (ixL y) (R++[id]),W.2.set id ((j1.set 1 y).set b l)),val,lev,rea,trail,rfl,?_,by rw[cZ (Ne.symm hix)];exact hA.row,⟨hA.l2.1,hdrop3⟩,hA.ext,hA.at_,by have:=hA.kl;omega,by simp[hcn'],hA.ll⟩
  have hs2:Same j1 ((j1.set 1 y).set b l):=aB0 hs.nd hj1l hy
  have hp2:Pair ((j1.set 1 y).set b l) y o:=Or.inr ⟨g2,g3⟩
  have hD:∀(i:Nat) (w':Int),(-w'∈trail.take h∨(w'=l∧i∉list.drop k))→ -w'∈trail:=fun i w' hd=>by
   rcases hd with hd|⟨e,_⟩
   ·exact List.mem_of_mem_take hd
   rw[e];exact hlm
  have h1:=hT.move hset hs2 hpl hp2 hyne hyo hlm hyn hom hD (V1:=L2.take m) (V2:=list.drop (k+1)) (by rw[←hdrop];exact hvr) hR
  rw[List.set_comm _ _ (Ne.symm hix),List.set_set,List.set_set] at h1
  refine(h1.void (id:=id) (l:=l) (dM hc) fun p hq=>?_).less (weak trail)
  rcases hp2.other hq with⟨e,_⟩|⟨e,_⟩
  ·exact hyne e.symm
  exact hlo e
 have hbe:b=j1.length:=by omega
 have hrest:∀y∈j1,y≠o→ -y∈trail:=fun y hy=>mem_le2 hy (P:=fun y=>y≠o→ -y∈trail)
  (fun z hz hne=>by rw[hj0] at hz;exact absurd (Option.some.inj hz).symm hne) (fun z hz _=>by rw[hj1l] at hz;exact Option.some.inj hz▸hlm)
  (fun j z hj hz _=>hball j z hj (by have:=dB hz;omega) hz)
 rw[if_neg (by simpa using hbl),aD1 hml,bsm,bsm,hr,bsm]
 by_cases hon: -o∈trail
 ·have er:r= -1:=by
   rcases hcase with⟨_,e⟩|⟨e,_⟩|⟨_,_,_,e⟩
   ·exact absurd e hom
   ·exact e
   exact absurd hon e
  have e1:=aA9 (l:=l) (by omega)
  have e2:sub (L2.set m id) ((k+1:Nat):Int) ((L2.set m id).length:Int)=some ((L2.set m id).drop (k+1)):=by
   rw[yV (by omega) (by rw[hll];omega) (by omega),Int.toNat_natCast,Int.toNat_natCast,List.take_length]
  have e3:kappF (L2.set m id) (m+1) ((k+1:Nat):Int).toNat=some (L2.take m++list.drop k):=by
   unfold kappF
   rw[if_pos ⟨by have:=hA.kl;omega,by rw[hll];omega,by rw[hll];omega⟩,htake,Int.toNat_natCast,hdrop2,hdrop,List.append_assoc,List.singleton_append]
  rw[if_pos (by rw[er];decide),e1,bsm,hup,bsm,e2,bsm,e3,bsm,dA hA.row,bsm,pV,bsm,bsm]
  refine Or.inr ⟨id,(W.1.set (ixL l) (L2.take m++list.drop k),W.2.set id j1),rfl,⟨j1,hset,fun y hy=>?_,l,bQ hj1l,h,hA.at_,hlvl⟩,⟨_,hT⟩,by simp[hcn']⟩
  by_cases e:y=o
  ·rw[e];exact hon
  exact hrest y hy e
 obtain⟨er,hz⟩:r=0∧gv val o=some 0:=by
  rcases hcase with⟨_,e⟩|⟨_,e⟩|⟨e,e',_⟩
  ·exact absurd e hom
  ·exact absurd e hon
  exact⟨e,e'⟩
 have hlt:=dB hA.at_
 have hw:Why F st trail (W.2.set id j1) trail.length o (some id):=⟨j1,hset,bQ hj0,fun y hy hne=>by rw[List.take_length];exact hrest y hy hne,l,bQ hj1l,hlo,h,hA.at_,by rw[hlvl,hC.top (Nat.le_refl _)]⟩
 rw[if_neg (by rw[er];decide),bsm,V9 hC ho.2 hn.2 hn.1 (some id) rfl rfl rfl rfl,bsm,bsm]
 simp only
 rw[hup,bsm]
 have htk:(trail++[o]).take h=trail.take h:=List.take_append_of_le_length (by omega)
 refine Or.inl ⟨m+1,L2.set m id,(W.1,W.2.set id j1),val.set (vr o).toNat o,lev.set (vr o).toNat (p0.starts.length:Int),rea.set (vr o).toNat (some id),trail++[o],rfl,?_,hA.row,⟨hll,hdrop2⟩,?_,by rw[List.getElem?_append_left hlt];exact hA.at_,by have:=hA.kl;omega,by simp[hcn'],hA.ll⟩
 ·have h1:=hT.hold ho.1 ho.2 hz hw (fun i hi=>by rw[←Option.some.inj hi,List.length_set];exact dB hc)
  have h2:=(h1.done hset hpl (List.mem_append_right _ (List.mem_singleton.2 rfl))).less (weak trail)
  rw[←htk] at h2
  rw[hp0]
  rwa [hsnoc] at h2
 obtain⟨e,he⟩:=hA.ext
 exact⟨e++[o],by rw[he,List.append_assoc]⟩
theorem amidS_loop {p0:Sol} {l:Int} {list:List Nat} {h cN:Nat} {tr0:List Int} {W:List (List Nat)×List (List Int)} {val lev:List Int} {rea:List (Option Nat)} {trail:List Int} {hd li:Int} {br:Bool} (hn:0≤n∧n≤65536) (hcN:cN≤1000000000) (hp0:p0.starts=st) (hb:∀b∈st,b≤(h:Int))
  (hA:AmidS n F st l list h cN tr0 0 0 list W val lev rea trail):
  ∃b,dC (fun s:Nat×Int×List Nat×(List (List Nat)×List (List Int))×Int×Int×Bool×List Int×List Int×List (Option Nat)×List Int=>eH p0 l (ixL l:Int) list s.1 s.2.1 s.2.2.1 s.2.2.2.1 s.2.2.2.2.1 s.2.2.2.2.2.1 s.2.2.2.2.2.2.1 s.2.2.2.2.2.2.2.1 s.2.2.2.2.2.2.2.2.1 s.2.2.2.2.2.2.2.2.2.1 s.2.2.2.2.2.2.2.2.2.2) (0,0,list,W,hd,li,br,val,lev,rea,trail)=some b∧
   (match b with
    | .brk s=>∃m L2 W val lev rea trail,s=(m,L2,W,hd,li,br,val,lev,rea,trail)∧AmidS n F st l list h cN tr0 list.length m L2 W val lev rea trail
    | .ret r=>∃id val lev rea trail W',r=(some id,Sol.mk val lev rea p0.saved W' trail p0.starts hd p0.queue p0.proof li br)∧Clash st trail W'.2 id∧(∃D,Cor n F st D val lev rea trail W'.1 W'.2)∧W'.2.length=cN∧∃e,trail=tr0++e):=by
 refine uA (body:=fun s:Nat×Int×List Nat×(List (List Nat)×List (List Int))×Int×Int×Bool×List Int×List Int×List (Option Nat)×List Int=>eH p0 l (ixL l:Int) list s.1 s.2.1 s.2.2.1 s.2.2.2.1 s.2.2.2.2.1 s.2.2.2.2.2.1 s.2.2.2.2.2.2.1 s.2.2.2.2.2.2.2.1 s.2.2.2.2.2.2.2.2.1 s.2.2.2.2.2.2.2.2.2.1 s.2.2.2.2.2.2.2.2.2.2) list.length
  (fun k (t:Nat×List Nat×(List (List Nat)×List (List Int))×List Int×List Int×List (Option Nat)×List Int)=>(t.1,(k:Int),t.2.1,t.2.2.1,hd,li,br,t.2.2.2.1,t.2.2.2.2.1,t.2.2.2.2.2.1,t.2.2.2.2.2.2)) (fun k t=>AmidS n F st l list h cN tr0 k t.1 t.2.1 t.2.2.1 t.2.2.2.1 t.2.2.2.2.1 t.2.2.2.2.2.1 t.2.2.2.2.2.2) _ (t0:=(0,list,W,val,lev,rea,trail)) rfl hA ?_ ?_
 ·rintro k ⟨m,L2,W,val,lev,rea,trail⟩ hk hA
  rcases amidS_round hn hcN hp0 hb hA hk (hd:=hd) (li:=li) (br:=br) with⟨m',L2',W',val',lev',rea',trail',h1,h2⟩|⟨id,W',h1,h2,h3,h4⟩
  ·exact Or.inl ⟨(m',L2',W',val',lev',rea',trail'),h1,h2⟩
  exact Or.inr ⟨_,h1,id,val,lev,rea,trail,W',rfl,h2,h3,h4,hA.ext⟩
 rintro⟨m,L2,W,val,lev,rea,trail⟩ hA
 refine⟨.brk (m,L2,W,hd,li,br,val,lev,rea,trail),?_,m,L2,W,val,lev,rea,trail,rfl,hA⟩
 simp only[eH,rY,if_false,Bool.false_eq_true]
theorem spropagate_ok {s:Sol} {h:Nat} (hn:0≤n∧n≤65536) (hcN:s.watches.2.length≤1000000000) (hst:s.starts=st) (hhd:s.head=h) (hb:∀b∈st,b≤(h:Int))
  (hE:Cor n F st (fun _ w=> -w∈s.trail.take h) s.value s.level s.reason s.trail s.watches.1 s.watches.2) (hh:h≤s.trail.length):
  ∃r val' lev' rea' ext W' h',kR s=some (r,Sol.mk val' lev' rea' s.saved W' (s.trail++ext) s.starts h' s.queue s.proof s.literals s.broken)∧W'.2.length=s.watches.2.length∧
   ((r=none∧h'=((s.trail++ext).length:Int)∧Cor n F st (fun _ w=> -w∈s.trail++ext) val' lev' rea' (s.trail++ext) W'.1 W'.2)∨(∃id,r=some id∧Clash st (s.trail++ext) W'.2 id∧∃D,Cor n F st D val' lev' rea' (s.trail++ext) W'.1 W'.2)):=by
 obtain⟨val,lev,rea,saved,W,trail,starts,head,queue,proof,li,br⟩:=s
 simp only at hcN hst hhd hE hh⊢
 subst hst hhd
 refine Exists.elim (wC (body:=fun s:Int×Int×Bool×List Int×List Int×List (Option Nat)×(List (List Nat)×List (List Int))×List Int=>kW (Sol.mk val lev rea saved W trail starts (h:Int) queue proof li br) s.1 s.2.1 s.2.2.1 s.2.2.2.1 s.2.2.2.2.1 s.2.2.2.2.2.1 s.2.2.2.2.2.2.1 s.2.2.2.2.2.2.2)
  (fun t=>∃h':Nat,t.1=h'∧h≤h'∧t.2.1=li∧t.2.2.1=br∧h'≤t.2.2.2.2.2.2.2.length∧(∃e,t.2.2.2.2.2.2.2=trail++e)∧t.2.2.2.2.2.2.1.2.length=W.2.length∧Cor n F starts (fun _ w=> -w∈t.2.2.2.2.2.2.2.take h') t.2.2.2.1 t.2.2.2.2.1 t.2.2.2.2.2.1 t.2.2.2.2.2.2.2 t.2.2.2.2.2.2.1.1 t.2.2.2.2.2.2.1.2)
  (fun t=>(n+1-t.1).toNat)
  (fun b=>match b with
   | .brk s=>∃val' lev' rea' tr' W',s=((tr'.length:Int),li,br,val',lev',rea',W',tr')∧(∃e,tr'=trail++e)∧W'.2.length=W.2.length∧Cor n F starts (fun _ w=> -w∈tr') val' lev' rea' tr' W'.1 W'.2
   | .ret r=>∃id val' lev' rea' tr' W' hd,r=(some id,Sol.mk val' lev' rea' saved W' tr' starts hd queue proof li br)∧(∃e,tr'=trail++e)∧W'.2.length=W.2.length∧Clash starts tr' W'.2 id∧∃D,Cor n F starts D val' lev' rea' tr' W'.1 W'.2) ?_ ((h:Int),li,br,val,lev,rea,W,trail) ⟨h,rfl,Nat.le_refl _,rfl,rfl,hh,⟨[],by simp⟩,rfl,hE⟩) ?_
 ·rintro⟨hd,li',br',val1,lev1,rea1,W1,tr⟩ ⟨h',rfl,hge,rfl,rfl,hle,⟨e,he⟩,hcl,hE⟩
  simp only at hle he hcl hE⊢
  have htl:=hE.eng.trailLen hn.1
  unfold kW
  by_cases hlt:h'<tr.length
  ·obtain⟨x,hx⟩:=bK hlt
   have hx0:=hE.eng.lit (bQ hx)
   have hxb:=oI.1 hx0.2
   have hlv:vr (-x)≤n:=by rw[lL];exact hx0.2
   obtain⟨list,hlist⟩:=hE.eng.rowAt hlv
   have i1:inK .i64 (0-x)=some (-x):=oM (by omega) ⟨by omega,by omega⟩
   have i2:inK .i64 ((h':Int)+1)=some ((h'+1:Nat):Int):=oM rfl ⟨by omega,by omega⟩
   have hA:AmidS n F starts (-x) list h' W.2.length trail 0 0 list W1 val1 lev1 rea1 tr:=by
    refine⟨?_,hlist,⟨rfl,rfl⟩,⟨e,he⟩,by rw[Int.neg_neg];exact hx,Nat.le_refl _,hcl,by have:=hE.eng.rowLen hlist;omega⟩
    have hsame:W1.1.set (ixL (-x)) (list.take 0++list.drop 0)=W1.1:=by
     rw[List.take_zero,List.nil_append,List.drop_zero];exact set_self hlist
    rw[hsame]
    have hn2:=(hE.eng.row _ _ hlist).2
    refine hE.more fun id c w o hc hp hd=>?_
    rcases hd with hd|⟨rfl,hd⟩
    ·exact hE.eng.pr id c w o hc hp hd
    exact absurd ((hn2 id).2 ⟨c,_,o,hc,hp,rfl⟩) hd
   obtain⟨b,hb',hpost⟩:=amidS_loop (p0:=Sol.mk val lev rea saved W trail starts (h:Int) queue proof li' br') hn hcN rfl (fun b hbb=>by have:=hb b hbb;omega) hA (hd:=((h'+1:Nat):Int)) (li:=li') (br:=br')
   rw[if_pos (by simpa using hlt),dA hx,bsm,i1,bsm,i2,bsm,aA9 (by omega),bsm,dA hlist,bsm,hb',bsm]
   cases b with
   |brk s=>
    obtain⟨m2,L2,W2,val2,lev2,rea2,tr2,rfl,hA2⟩:=hpost
    simp only
    rw[bsm,dA hA2.row,bsm,aD1 (by have:=hA2.kl;have:=hA2.l2.1;omega),bsm,pV,bsm]
    have hlt2:=dB hA2.at_
    refine Or.inl ⟨_,rfl,⟨h'+1,rfl,by omega,rfl,rfl,by show h'+1≤tr2.length;omega,hA2.ext,hA2.cn,?_⟩,?_⟩
    ·have h3:=hA2.eng
     rw[List.drop_length,List.append_nil] at h3
     refine h3.less fun id w hd=>?_
     have h4:tr2.take (h'+1)=tr2.take h'++[x]:=fA (by have:=hA2.at_;rwa [Int.neg_neg] at this)
     have hd: -w∈tr2.take (h'+1):=hd
     rw[h4,List.mem_append,List.mem_singleton] at hd
     rcases hd with hd|hd
     ·exact Or.inl hd
     exact Or.inr ⟨by omega,by simp⟩
    show(n+1-((h'+1:Nat):Int)).toNat<(n+1-(h':Int)).toNat
    omega
   |ret r=>
    obtain⟨id,val2,lev2,rea2,tr2,W2,rfl,h1,h2,h3,h4⟩:=hpost
    exact Or.inr ⟨_,rfl,id,val2,lev2,rea2,tr2,W2,_,rfl,h4,h3,h1,h2⟩
  rw[if_neg (by simpa using hlt)]
  have:h'=tr.length:=by omega
  subst this
  rw[List.take_length] at hE
  exact Or.inr ⟨_,rfl,val1,lev1,rea1,tr,W1,rfl,⟨e,he⟩,hcl,hE⟩
 rintro b ⟨hb,hp⟩
 unfold kR
 simp only
 rw[hb,bsm]
 cases b with
 |brk s=>
  obtain⟨val',lev',rea',tr',W',rfl,⟨e,rfl⟩,h1,h2⟩:=hp
  exact⟨none,val',lev',rea',e,W',_,rfl,h1,Or.inl ⟨rfl,rfl,h2⟩⟩
 |ret r=>
  obtain⟨id,val',lev',rea',tr',W',hd,rfl,⟨e,rfl⟩,h1,h2,h3⟩:=hp
  exact⟨some id,val',lev',rea',e,W',hd,rfl,h1,Or.inr ⟨id,rfl,h2,h3⟩⟩
end
def uM (n:Int) (q:List Int):Prop:=(∀y∈q,y≠0∧vr y≤n)∧q.Nodup
theorem clF_nodup {v:Int}:∀{t:Int} {c:List Int},0≤t→clF v t c=true→c.Nodup
 |_,[],_,_=>List.nodup_nil
 |t,x::c,ht,hc=>by
  unfold clF at hc
  simp only[Bool.and_eq_true,decide_eq_true_eq] at hc
  refine List.nodup_cons.2 ⟨fun hx=>?_,clF_nodup (jP x) hc.2⟩
  have:=(clF_mem (jP x) hc.2 x hx).2.2
  omega
theorem clF_ok {n:Int} {q:List Int} (h:clF n 0 q=true):uM n q:=by
 refine⟨fun y hy=>?_,clF_nodup (Int.le_refl 0) h⟩
 have:=clF_mem (Int.le_refl 0) h y hy
 exact⟨fun e=>by rw[e] at this;simp[vr] at this,oI.2 ⟨this.1,this.2.1⟩⟩
theorem uM.len {n:Int} {q:List Int} (h:uM n q) (hn:0≤n∧n≤65536):q.length≤131074:=by
 have h1:=wY 131074 (q.map ixL) (by
  unfold List.Nodup
  rw[List.pairwise_map]
  exact List.Pairwise.imp (fun{a b} hne he=>hne (sW he)) h.2) (fun x hx=>by
  obtain⟨y,hy,rfl⟩:=List.mem_map.1 hx
  have:=ixL_bnd (h.1 y hy).2
  omega)
 rwa [List.length_map] at h1
structure EngB (n:Int) (F:List (List Int)) (e:PEng):Prop where
 len:e.watches.2.length≤F.length
 st:(e.fails=true∧Fails F [])∨(e.fails=false∧e.head=(e.trail.length:Int)∧Eng n F [] e.trail.length e.trail.length (fun _ w=> -w∈e.trail) e.value e.trail e.watches.1 e.watches.2)
section
variable {n:Int} {F:List (List Int)} {S:List Int} {np nc:Nat} {D:Nat→Int→Prop} {val trail:List Int} {ws:List (List Nat)} {cl:List (List Int)}
theorem open_loop (h:Eng n F S np nc D val trail ws cl) {q:List Int} (hq:uM n q) (hn:0≤n∧n≤65536) {e:PEng} (he:e.value=val):
  ∃b,dC (fun s:Int×List Int=>kF e q s.1 s.2) (0,[])=some b∧
   (match b with| .ret r=>r=e∧∃y∈q,y∈trail| .brk c=>c=q.filter (fun y=>decide (gv val y=some 0))∧∀y∈q,y∉trail):=by
 have hql:=hq.len hn
 obtain⟨tr,hd,W,fl,rfl⟩:∃tr hd W fl,e=PEng.mk val tr hd W fl:=⟨e.trail,e.head,e.watches,e.fails,by rw[←he]⟩
 refine uA (body:=fun s:Int×List Int=>kF (PEng.mk val tr hd W fl) q s.1 s.2) q.length (fun k t=>((k:Int),t))
  (fun k c=>c=(q.take k).filter (fun y=>decide (gv val y=some 0))∧∀y∈q.take k,y∉trail) _ (t0:=[]) rfl ⟨by simp,by simp⟩ ?_ ?_
 ·rintro k c hk ⟨h1,h2⟩
  obtain⟨y,hy⟩:=bK hk
  obtain⟨r,hr,hcase⟩:=of_ok h (hq.1 y (bQ hy)).1 (hq.1 y (bQ hy)).2 hn.2 (tr:=tr) (hd:=hd) (W:=W) (fl:=fl)
  have htk:=fA hy
  have hup:=jA hk (show q.length≤9223372036854775807 by omega)
  simp only[kF,ltB hk,if_true,dA hy,bsm,hr]
  rcases hcase with⟨rfl,hm⟩|⟨rfl,hm⟩|⟨rfl,hz,hm,hm'⟩
  ·exact Or.inr ⟨.ret (PEng.mk val tr hd W fl),by rw[if_pos (by decide)],rfl,y,bQ hy,hm⟩
  ·rw[if_neg (by decide),if_neg (by decide),hup,bsm]
   refine Or.inl ⟨c,rfl,?_,fun z hz=>?_⟩
   ·have hg:¬gv val y=some 0:=fun e=>by
     have:=(h.tr (-y)).1 hm
     rw[vH,e] at this
     exact this.1 (Option.some.inj this.2).symm
    rw[htk,List.filter_append,←h1]
    simp[hg]
   rw[htk,List.mem_append,List.mem_singleton] at hz
   rcases hz with hz|rfl
   ·exact h2 z hz
   exact fun hp=>h.opp hp hm
  have hcl:c.length≤q.length:=by rw[h1];exact Nat.le_trans (List.length_filter_le _ _) (by rw[List.length_take];omega)
  rw[if_neg (by decide),if_pos (by decide),oV (by simp;omega),bsm,hup,bsm]
  refine Or.inl ⟨c++[y],rfl,?_,fun z hz'=>?_⟩
  ·rw[htk,List.filter_append,←h1]
   simp[hz]
  rw[htk,List.mem_append,List.mem_singleton] at hz'
  rcases hz' with hz'|rfl
  ·exact h2 z hz'
  exact hm
 rintro c ⟨h1,h2⟩
 rw[List.take_length] at h1 h2
 refine⟨.brk c,?_,h1,h2⟩
 simp only[kF,rY,if_false,Bool.false_eq_true]
theorem Eng.ids (h:Eng n F S np nc D val trail ws cl):idsOk cl.length ws=true:=by
 unfold idsOk
 simp only[List.all_eq_true,decide_eq_true_eq]
 intro ids hids id hid
 obtain⟨r,hr⟩:=List.getElem?_of_mem hids
 obtain⟨c,_,_,hc,_⟩:=((h.row r ids hr).2 id).1 hid
 exact dB hc
theorem lp2_round {p0:PEng} {x10:List Int} {k:Nat} {l:Int} {W:List (List Nat)×List (List Int)} {R:List Nat} (hk:x10[k]?=some l) (hkl:x10.length≤1000) (hl: -1099511627776≤l∧l≤1099511627776) (hR:W.1[ixL l]?=some R) (hRl:R.length≤1000000000):
  mG p0 x10 (k:Int) W=some (.next (((k+1:Nat):Int),(W.1.set (ixL l) (R++[p0.watches.2.length]),W.2))):=by
 have hlt:=dB hk
 unfold mG
 rw[if_pos (ltB hlt),dA hk,bsm,aI6 hl,bsm,bsm,dA hR,bsm,oV (by simp;omega),bsm,pV,bsm,jA hlt (by omega),bsm]
 rfl
theorem add_ok (hn:0≤n∧n≤65536) (hF:F.length≤1000000) {e:PEng} (he:EngB n F e) {q:List Int} (hq:uM n q):∃e',nO e q=some e'∧EngB n (F++[q]) e':=by
 have hFm:∀c∈F,c∈F++[q]:=fun c hc=>List.mem_append_left _ hc
 have hqm:q∈F++[q]:=List.mem_append_right _ (List.mem_singleton.2 rfl)
 have hlen:=he.len
 unfold nO
 rcases he.st with⟨hf,hfail⟩|⟨hf,hh,hE⟩
 ·rw[if_pos hf]
  exact⟨e,rfl,by rw[List.length_append];omega,Or.inl ⟨hf,hfail.mono hFm (fun _ h=>h)⟩⟩
 rw[if_neg (by rw[hf];decide)]
 have e3:e.trail.take e.trail.length=e.trail:=List.take_length
 obtain⟨b,hb,hp⟩:=open_loop hE hq hn (e:=e) rfl
 rw[hb,bsm]
 cases b with
 |ret r=>
  obtain⟨rfl,y,hy,hm⟩:=hp
  exact⟨r,rfl,by rw[List.length_append];omega,Or.inr ⟨hf,hh,hE.addSat hy (by rw[e3];exact hm)⟩⟩
 |brk c=>
  obtain⟨hc,hno⟩:=hp
  have hcm:∀y,y∈c↔y∈q∧gv e.value y=some 0:=fun y=>by rw[hc,List.mem_filter];simp
  have hex:∀y∈q,y∉c→ -y∈e.trail:=fun y hy hn2=>by
   rcases hE.cases (hq.1 y hy).1 (hq.1 y hy).2 with⟨_,h1⟩|⟨_,h1⟩|⟨h1,_⟩
   ·exact absurd h1 (hno y hy)
   ·exact h1
   exact absurd ((hcm y).2 ⟨hy,h1⟩) hn2
  have hcn:c.Nodup:=by rw[hc];exact hq.2.sublist List.filter_sublist
  have hopen:∀y∈c,-y∉e.trail:=fun y hy hm=>by
   have h1:=((hcm y).1 hy).2
   have h2:=(hE.tr (-y)).1 hm
   rw[vH,h1] at h2
   exact h2.1 (Option.some.inj h2.2).symm
  have hcl:c.length≤131074:=by
   have:=hq.len hn
   have:c.length≤q.length:=by rw[hc];exact List.length_filter_le _ _
   omega
  simp only
  match c,hcm,hex,hcn,hopen,hcl with
  | [],hcm,hex,_,_,_=>
   rw[if_pos (by simp)]
   refine⟨_,rfl,by rw[List.length_append];show e.watches.2.length≤_;omega,Or.inl ⟨rfl,Or.inr ⟨q,hqm,fun y hy=>?_⟩⟩⟩
   exact(hE.up (hex y hy (by simp))).mono hFm (fun _ h=>h)
  | [x],hcm,hex,_,_,_=>
   rw[if_neg (by simp),if_pos (by simp),show idx [x] 0=some x from rfl,bsm]
   obtain⟨hx1,hx2⟩:=(hcm x).1 (by simp)
   obtain⟨hx0,hxn⟩:=hq.1 x hx1
   have hhold:=hold_ok hE hxn hn.2 hn.1 (hd:=e.head) (W:=e.watches) (fl:=e.fails)
   rw[show(PEng.mk e.value e.trail e.head e.watches e.fails)=e from rfl] at hhold
   rw[hhold,bsm]
   have hU:=hE.addUnit hx1 hx0 hxn hx2 (fun y hy hne=>hex y hy (by simp[hne]))
   have htk:(e.trail++[x]).take e.trail.length=e.trail:=List.take_left' rfl
   have hU2:Eng n (F++[q]) [] e.trail.length (e.trail.length+1) (fun _ w=> -w∈(e.trail++[x]).take e.trail.length) (e.value.set (vr x).toNat x) (e.trail++[x]) e.watches.1 e.watches.2:=by rw[htk];exact hU
   obtain⟨ok,val',ext,W',h',hpr,hWl,hres⟩:=aJ1 hn (by omega) hU2 (by simp) (fl:=e.fails)
   simp only
   rw[hh,hpr,bsm]
   refine⟨_,rfl,by rw[List.length_append];show W'.2.length≤_;omega,?_⟩
   rcases hres with⟨rfl,rfl,hE'⟩|⟨rfl,hfail,_⟩
   ·refine Or.inr ⟨rfl,rfl,hE'.rebase (fun id w hw=>hw)⟩
   exact Or.inl ⟨rfl,hfail⟩
  |a::b::c',hcm,hex,hcn,hopen,hcl=>
   rw[if_neg (by simp;omega),if_neg (by simp;omega)]
   have haq:=(hcm a).1 (by simp)
   have hbq:=(hcm b).1 (by simp)
   have hab:a≠b:=fun e=>by subst e;have:=nY hcn (i:=0) (j:=1) rfl rfl;omega
   obtain⟨Ra,hRa⟩:=hE.rowAt (hq.1 a haq.1).2
   obtain⟨Rb,hRb⟩:=hE.rowAt (hq.1 b hbq.1).2
   have hRal:=hE.rowLen hRa
   have hRbl:=hE.rowLen hRb
   have hva:=oI.1 (hq.1 a haq.1).2
   have hvb:=oI.1 (hq.1 b hbq.1).2
   have hix:ixL b≠ixL a:=fun e=>hab (sW e).symm
   have e1:arPut e.watches.2 e.watches.1 (a::b::c')=some (e.watches.2++[a::b::c']):=by unfold arPut;rw[if_pos hE.ids]
   have e2:sub (a::b::c') 0 2=some [a,b]:=by rw[yV (by decide) (by decide) (by simp;omega)];rfl
   rw[e1,bsm,e2,bsm]
   have r0:=lp2_round (p0:=e) (x10:=[a,b]) (k:=0) (W:=(e.watches.1,e.watches.2++[a::b::c'])) rfl (by simp) (by omega) hRa (by omega)
   have r1:=lp2_round (p0:=e) (x10:=[a,b]) (k:=1) (W:=(e.watches.1.set (ixL a) (Ra++[e.watches.2.length]),e.watches.2++[a::b::c'])) rfl (by simp) (by omega) (by show(e.watches.1.set _ _)[ixL b]?=_;rw[cZ hix];exact hRb) (by omega)
   rw[gJ r0,gJ r1,eF (b:=((e.watches.1.set (ixL a) (Ra++[e.watches.2.length])).set (ixL b) (Rb++[e.watches.2.length]),e.watches.2++[a::b::c'])) (by simp[mG]),bsm]
   have hset:(e.watches.2++[a::b::c']).set e.watches.2.length (a::b::c')=e.watches.2++[a::b::c']:=set_self (by simp)
   simp only[hset]
   refine⟨_,rfl,by simp;omega,Or.inr ⟨hf,hh,?_⟩⟩
   exact hE.addCl (q:=q) (d:=a::b::c') (a:=a) (b:=b) rfl rfl hcn (fun y hy=>hq.1 y ((hcm y).1 hy).1) (fun y hy=>((hcm y).1 hy).1) (fun y hy hm=>by rw[e3];exact hex y hy hm)
    (hopen a (by simp)) (hopen b (by simp)) (fun i w hw=>hw) hRa hRb
end
theorem newEngine_ok {f:Formula} (hn:0≤f.vars∧f.vars≤65536) (hF:f.clauses.length≤1000000) (hq:∀c∈f.clauses,uM f.vars c):∃e,pW f=some e∧EngB f.vars f.clauses e:=by
 unfold pW
 rw[gW ⟨by omega,by omega⟩,bsm,mkc_ok ⟨by omega,by omega,by omega⟩,bsm,gW ⟨by omega,by omega⟩,bsm,gW ⟨by omega,by omega⟩,bsm,mkc_ok ⟨by omega,by omega,by omega⟩,bsm]
 obtain⟨b,hb,hp⟩:=uA (body:=fun s:Int×List Int×Int×Bool×(List (List Nat)×List (List Int))×List Int=>nM f s.1 s.2.1 s.2.2.1 s.2.2.2.1 s.2.2.2.2.1 s.2.2.2.2.2) (s0:=(0,[],0,false,(List.replicate (2*f.vars+2).toNat [],[]),List.replicate (f.vars+1).toNat 0)) f.clauses.length
  (fun k (e:PEng)=>((k:Int),e.trail,e.head,e.fails,e.watches,e.value)) (fun k e=>EngB f.vars (f.clauses.take k) e) (fun b=>EngB f.vars f.clauses (PEng.mk b.2.2.2.2 b.1 b.2.1 b.2.2.2.1 b.2.2.1)) (t0:=PEng.mk (List.replicate (f.vars+1).toNat 0) [] 0 (List.replicate (2*f.vars+2).toNat [],[]) false) rfl
  ⟨by simp,Or.inr ⟨rfl,rfl,by rw[List.take_zero];exact Eng.start hn.1⟩⟩ (by
   intro k e hk he
   obtain⟨c,hc⟩:=bK hk
   obtain⟨e',h1,h2⟩:=add_ok hn (by rw[List.length_take];omega) he (hq c (bQ hc))
   rw[←fA hc] at h2
   refine Or.inl ⟨e',?_,h2⟩
   simp only[nM,ltB hk,if_true,dA hc,bsm]
   rw[show(PEng.mk e.value e.trail e.head e.watches e.fails)=e from rfl,h1,bsm,jA hk (by omega),bsm]) (by
   intro e he
   rw[List.take_length] at he
   exact⟨(e.trail,e.head,e.fails,e.watches,e.value),by simp only[nM,rY,if_false,Bool.false_eq_true],he⟩)
 rw[hb,bsm]
 exact⟨_,rfl,hp⟩
def xG (q:List Int):List Int:=q.map fun y=> -y
theorem V6 {q:List Int} {y:Int}: -y∈xG q↔y∈q:=by
 unfold xG
 rw[List.mem_map]
 exact⟨fun⟨z,hz,e⟩=>by rwa [show y=z by omega],fun h=>⟨y,h,rfl⟩⟩
theorem aA5 {q:List Int} {y:Int} (h:y∈xG q): -y∈q:=by
 rw[←V6,Int.neg_neg];exact h
theorem lits_of {n:Int} {F:List (List Int)} {q:List Int} (hn:0≤n∧n≤65536) (hF:∀c∈F,uM n c) (hq:uM n q):Lits n F (xG q):=
 ⟨hn,fun c hc y hy=>(hF c hc).1 y hy,fun y hy=>by
  have h1:=hq.1 _ (aA5 hy)
  rw[lL] at h1
  exact⟨by omega,h1.2⟩,fun c hc=>(hF c hc).2⟩
section
variable {n:Int} {F:List (List Int)}
theorem follows_loop (hn:0≤n∧n≤65536) {e:PEng} {q:List Int} (hq:uM n q) (hE:Eng n F (xG q) e.trail.length e.trail.length (fun _ w=> -w∈e.trail) e.value e.trail e.watches.1 e.watches.2):
  ∃b,dC (fun s:Bool×Int×Int×Bool×List Int×List Int=>iM e q s.1 s.2.1 s.2.2.1 s.2.2.2.1 s.2.2.2.2.1 s.2.2.2.2.2) (true,0,e.head,e.fails,e.value,e.trail)=some b∧
   ∃ok val ext,b=(ok,e.head,e.fails,val,e.trail++ext)∧Eng n F (xG q) e.trail.length e.trail.length (fun _ w=> -w∈e.trail) val (e.trail++ext) e.watches.1 e.watches.2∧
    ((ok=true∧∀y∈q,-y∈e.trail++ext)∨(ok=false∧Fails F (xG q))):=by
 have hql:=hq.len hn
 refine uA (body:=fun s:Bool×Int×Int×Bool×List Int×List Int=>iM e q s.1 s.2.1 s.2.2.1 s.2.2.2.1 s.2.2.2.2.1 s.2.2.2.2.2) q.length
  (fun k (t:List Int×List Int)=>(true,(k:Int),e.head,e.fails,t.1,e.trail++t.2))
  (fun k t=>Eng n F (xG q) e.trail.length e.trail.length (fun _ w=> -w∈e.trail) t.1 (e.trail++t.2) e.watches.1 e.watches.2∧∀j y,j<k→q[j]?=some y→ -y∈e.trail++t.2) _ (t0:=(e.value,[])) (by simp) ⟨by simpa using hE,fun j y hj=>by omega⟩ ?_ ?_
 ·rintro k ⟨val,ext⟩ hk ⟨h,h2⟩
  simp only at h h2
  obtain⟨y,hy⟩:=bK hk
  have hyq:=hq.1 y (bQ hy)
  have hyb:=oI.1 hyq.2
  obtain⟨r,hr,hcase⟩:=of_ok h hyq.1 hyq.2 hn.2 (tr:=e.trail++ext) (hd:=e.head) (W:=e.watches) (fl:=e.fails)
  have hup:=jA hk (show q.length≤9223372036854775807 by omega)
  simp only[iM,ltB hk,if_true,dA hy,bsm,hr]
  have hs:UP F (xG q) (-y):= .start (V6.2 (bQ hy))
  rcases hcase with⟨rfl,hm⟩|⟨rfl,hm⟩|⟨rfl,hz,hm,hm'⟩
  ·exact Or.inr ⟨(false,e.head,e.fails,val,e.trail++ext),by rw[if_pos (by decide)],false,val,ext,rfl,h,Or.inr ⟨rfl,Or.inl ⟨y,h.up hm,hs⟩⟩⟩
  ·rw[if_neg (by decide),if_neg (by decide),hup,bsm]
   refine Or.inl ⟨(val,ext),rfl,h,fun j z hj hz=>?_⟩
   by_cases ej:j=k
   ·subst ej;rw[hy] at hz;exact Option.some.inj hz▸hm
   exact h2 j z (by omega) hz
  have hvn:vr (-y)≤n:=by rw[lL];exact hyq.2
  have i1:inK .i64 (0-y)=some (-y):=oM (by omega) ⟨by omega,by omega⟩
  have hh:=hold_ok h hvn hn.2 hn.1 (hd:=e.head) (W:=e.watches) (fl:=e.fails)
  rw[if_neg (by decide),if_pos (by decide),i1,bsm,hh,bsm,hup,bsm]
  have h3:=h.hold (x:= -y) (by omega) hvn (by rw[vH];exact hz) hs
  refine Or.inl ⟨(val.set (vr (-y)).toNat (-y),ext++[-y]),by simp,by simpa using h3,fun j z hj hz=>?_⟩
  by_cases ej:j=k
  ·subst ej;rw[hy] at hz;rw[←Option.some.inj hz];simp
  have:=h2 j z (by omega) hz
  rw[←List.append_assoc];exact List.mem_append_left _ this
 rintro⟨val,ext⟩ ⟨h,h2⟩
 refine⟨(true,e.head,e.fails,val,e.trail++ext),?_,true,val,ext,rfl,h,Or.inl ⟨rfl,fun y hy=>?_⟩⟩
 ·simp only[iM,rY,if_false,Bool.false_eq_true]
 obtain⟨j,hj⟩:=List.getElem?_of_mem hy
 exact h2 j y (dB hj) hj
theorem clear_loop {val dr:List Int} (hd:∀x∈dr,vr x≤n∧x≠0) (hn:n≤65536) (hv:(val.length:Int)=n+1) (hl:dr.length≤1000000):
  ∃v',dC (fun s:Int×List Int=>iO dr s.1 s.2) (0,val)=some v'∧v'.length=val.length∧
   (∀(v:Nat),(∃x∈dr,(vr x).toNat=v)→v'[v]?=some 0∨val.length≤v)∧(∀(v:Nat),(∀x∈dr,(vr x).toNat≠v)→v'[v]?=val[v]?):=by
 refine uA (body:=fun s:Int×List Int=>iO dr s.1 s.2) dr.length (fun k t=>((k:Int),t))
  (fun k v'=>v'.length=val.length∧(∀(v:Nat),(∃x∈dr.take k,(vr x).toNat=v)→v'[v]?=some 0∨val.length≤v)∧(∀(v:Nat),(∀x∈dr.take k,(vr x).toNat≠v)→v'[v]?=val[v]?)) _ (t0:=val) rfl
  ⟨rfl,fun v ⟨x,hx,_⟩=>by simp at hx,fun v _=>rfl⟩ ?_ ?_
 ·rintro k v' hk ⟨h1,h2,h3⟩
  obtain⟨x,hx⟩:=bK hk
  obtain⟨hxn,hx0⟩:=hd x (bQ hx)
  have hxb:=oI.1 hxn
  have hx1:=jP x
  obtain⟨y,hy⟩:=bK (show(vr x).toNat<v'.length by omega)
  have em:max x (-x)=vr x:=by unfold vr;omega
  have hi:idx v' (max x (-x))=some y:=by rw[em];exact kE hx1 hy
  have i1:inK .i64 (0-x)=some (-x):=oM (by omega) ⟨by omega,by omega⟩
  refine Or.inl ⟨v'.set (vr x).toNat 0,?_,by rw[List.length_set];exact h1,fun v hv'=>?_,fun v hv'=>?_⟩
  ·simp only[iO,ltB hk,if_true,dA hx,bsm,i1,hi,jA hk (show dr.length≤9223372036854775807 by omega)]
   rw[em]
  ·rw[fA hx] at hv'
   obtain⟨z,hz,rfl⟩:=hv'
   by_cases e:(vr z).toNat=(vr x).toNat
   ·rw[e];exact Or.inl (dM hy)
   rw[cZ e]
   rw[List.mem_append,List.mem_singleton] at hz
   rcases hz with hz|rfl
   ·exact h2 _ ⟨z,hz,rfl⟩
   exact absurd rfl e
  rw[fA hx] at hv'
  rw[cZ (fun e=>hv' x (by simp) e.symm)]
  exact h3 v fun z hz=>hv' z (List.mem_append_left _ hz)
 rintro v' ⟨h1,h2,h3⟩
 rw[List.take_length] at h2 h3
 exact⟨v',by simp only[iO,rY,if_false,Bool.false_eq_true],h1,h2,h3⟩
theorem follows_ok (hn:0≤n∧n≤65536) (hF:F.length≤1000000) (hFc:∀c∈F,uM n c) {e:PEng} (he:EngB n F e) {q:List Int} (hq:uM n q):
  ∃r e',mJ e q=some (r,e')∧EngB n F e'∧(r=true↔Fails F (xG q)):=by
 have hlen:=he.len
 unfold mJ
 rcases he.st with⟨hf,hfail⟩|⟨hf,hh,hE0⟩
 ·rw[if_pos hf]
  exact⟨true,e,rfl,he,fun _=>hfail.mono (fun _ h=>h) (by simp),fun _=>rfl⟩
 rw[if_neg (by rw[hf];decide)]
 have hE:=hE0.assume (xG q)
 obtain⟨b,hb,ok,val,ext,rfl,h1,h2⟩:=follows_loop hn hq hE
 rw[hb,bsm]
 have htk:(e.trail++ext).take e.trail.length=e.trail:=List.take_left' rfl
 have hL:=lits_of hn hFc hq
 obtain⟨ok2,hd2,val2,tr2,W2,hm,⟨ext2,rfl⟩,hWl,⟨D2,h3⟩,h4⟩:∃ok2 hd2 val2 tr2 W2,(if ok=true then
   (iG (PEng.mk val (e.trail++ext) e.head e.watches e.fails)).bind fun x8=>
   some (x8.1,x8.2.head,x8.2.fails,x8.2.value,x8.2.trail,x8.2.watches)
  else
   some (false,e.head,e.fails,val,e.trail++ext,e.watches))=some (ok2,hd2,e.fails,val2,tr2,W2)∧(∃x,tr2=e.trail++x)∧W2.2.length=e.watches.2.length∧(∃D,Eng n F (xG q) e.trail.length e.trail.length D val2 tr2 W2.1 W2.2)∧(ok2=true↔¬Fails F (xG q)):=by
  rcases h2 with⟨rfl,h2⟩|⟨rfl,h2⟩
  ·have h1':Eng n F (xG q) e.trail.length e.trail.length (fun _ w=> -w∈(e.trail++ext).take e.trail.length) val (e.trail++ext) e.watches.1 e.watches.2:=by rw[htk];exact h1
   obtain⟨ok2,val2,ext2,W2,hd2,hpr,hWl,hres⟩:=aJ1 hn (by omega) h1' (by simp) (fl:=e.fails)
   rw[if_pos rfl,hh,hpr,bsm]
   refine⟨ok2,hd2,val2,_,W2,rfl,⟨ext++ext2,by rw[List.append_assoc]⟩,hWl,?_⟩
   rcases hres with⟨rfl,_,h5⟩|⟨rfl,h5,D,h6⟩
   ·refine⟨⟨_,h5⟩,fun _=>?_,fun _=>rfl⟩
    refine closed_ok hL h5.vo (fun l hl=>?_) (h5.closed fun id w hw=>hw)
    have h7:=h2 _ (aA5 hl)
    rw[Int.neg_neg] at h7
    exact((h5.tr l).1 (List.mem_append_left _ h7)).2
   exact⟨⟨D,h6⟩,fun h=>(by cases h),fun h=>absurd h5 h⟩
  rw[if_neg (by decide)]
  exact⟨false,_,val,_,e.watches,rfl,⟨ext,rfl⟩,rfl,⟨_,h1⟩,fun h=>(by cases h),fun h=>absurd h2 h⟩
 rw[hm,bsm]
 simp only
 have htl:=h3.trailLen hn.1
 rw[List.length_append] at htl
 have hdrop:(e.trail++ext2).drop e.trail.length=ext2:=List.drop_left' rfl
 have htake:(e.trail++ext2).take e.trail.length=e.trail:=List.take_left' rfl
 have s1:sub (e.trail++ext2) (e.trail.length:Int) ((e.trail++ext2).length:Int)=some ext2:=by
  rw[yV (by omega) (by rw[List.length_append];omega) (by omega)]
  rw[Int.toNat_natCast,Int.toNat_natCast,List.take_length,hdrop]
 have s2:sub (e.trail++ext2) 0 (e.trail.length:Int)=some e.trail:=by
  rw[yV (by decide) (by omega) (by rw[List.length_append];omega)]
  rw[Int.toNat_natCast,htake];rfl
 obtain⟨v',hv,c1,c2,c3⟩:=clear_loop (n:=n) (val:=val2) (dr:=ext2) (fun x hx=>by
  have:=h3.lit (List.mem_append_right e.trail hx);exact⟨this.2,this.1⟩) hn.2 h3.vo.len (by omega)
 rw[s1,bsm,hv,bsm,s2,bsm]
 refine⟨_,_,rfl,⟨by show W2.2.length≤_;omega,Or.inr ⟨hf,rfl,?_⟩⟩,?_⟩
 ·have h6:=h3.reset c1 (by rw[hdrop];exact c2) (by rw[hdrop];exact c3) []
  rw[htake] at h6
  exact h6
 cases ok2 with
 |true=>exact⟨fun h=>(by cases h),fun h=>absurd h (h4.1 rfl)⟩
 |false=>exact⟨fun _=>Classical.byContradiction fun h=>(by cases h4.2 h),fun _=>rfl⟩
end
def Q8 (F:List (List Int)):List (List Int)→Prop
 | []=>True
 |c::p=>Fails F (xG c)∧Q8 (F++[c]) p
noncomputable def accB (F p:List (List Int)):Bool:= @decide (p.getLast?=some []∧Q8 F p) (Classical.propDecidable _)
theorem aI2 {F p:List (List Int)}:accB F p=true↔p.getLast?=some []∧Q8 F p:=by unfold accB;exact @decide_eq_true_iff _ (Classical.propDecidable _)
theorem accepted_ok {f:Formula} {p:List (List Int)} (hn:0≤f.vars∧f.vars≤65536) (hl:f.clauses.length+p.length≤1000000) (hF:∀c∈f.clauses,uM f.vars c) (hp:∀c∈p,uM f.vars c):
  qQ f p=some (accB f.clauses p):=by
 unfold qQ
 have hlast:∀b:Bool,p.getLast?≠some []→accB f.clauses p=false:=fun b h=>by
  cases hb:accB f.clauses p with
  |true=>exact absurd (aI2.1 hb).1 h
  |false=>rfl
 by_cases h0:p.length=0
 ·rw[if_pos (by simpa using h0),bsm,if_pos rfl]
  have:p=[]:=List.eq_nil_of_length_eq_zero h0
  rw[hlast true (by rw[this];simp)]
 obtain⟨c,hc⟩:=bK (show p.length-1<p.length by omega)
 have hg:p.getLast?=some c:=by rw[List.getLast?_eq_getElem?];exact hc
 rw[if_neg (by simpa using h0),oM (m:=((p.length-1:Nat):Int)) (by omega) ⟨by omega,by omega⟩,bsm,dA hc,bsm,bsm]
 by_cases hcl:0<c.length
 ·rw[if_pos (by simpa using hcl),hlast true (by rw[hg];intro e;rw[Option.some.inj e] at hcl;simp at hcl)]
 rw[if_neg (by simpa using hcl)]
 have hnil:c=[]:=List.eq_nil_of_length_eq_zero (by omega)
 subst hnil
 unfold wK pJ
 obtain⟨e0,he0,hE0⟩:=newEngine_ok hn (by omega) hF
 rw[bsm,he0,bsm]
 obtain⟨b,hb,hpost⟩:=uA (body:=fun s:Int×Int×Bool×List Int×List Int×(List (List Nat)×List (List Int))×Step Unit Bool=>kQ (fun x _=>iW x) p s.1 s.2.1 s.2.2.1 s.2.2.2.1 s.2.2.2.2.1 s.2.2.2.2.2.1 s.2.2.2.2.2.2)
  (s0:=(0,e0.head,e0.fails,e0.value,e0.trail,e0.watches,.next ())) p.length (fun k (e:PEng)=>((k:Int),e.head,e.fails,e.value,e.trail,e.watches,Step.next ()))
  (fun k e=>EngB f.vars (f.clauses++p.take k) e∧(Q8 f.clauses p↔Q8 (f.clauses++p.take k) (p.drop k)))
  (fun b=>match b with| .brk s=>s.2.2.2.2.2=Step.next ()∧Q8 f.clauses p| .ret st=>st=Step.done false∧¬Q8 f.clauses p) (t0:=e0) rfl ⟨by simpa using hE0,by simp⟩ (by
   rintro k e hk ⟨h1,h2⟩
   obtain⟨c,hc⟩:=bK hk
   have hcm:=hp c (bQ hc)
   have hFk:∀d∈f.clauses++p.take k,uM f.vars d:=fun d hd=>by
    rcases List.mem_append.1 hd with hd|hd
    ·exact hF d hd
    exact hp d (List.mem_of_mem_take hd)
   have hlk:(f.clauses++p.take k).length≤1000000:=by rw[List.length_append,List.length_take];omega
   obtain⟨r,e',hr,he',hiff⟩:=follows_ok hn hlk hFk h1 hcm
   have hacc:Q8 f.clauses p↔Fails (f.clauses++p.take k) (xG c)∧Q8 (f.clauses++p.take (k+1)) (p.drop (k+1)):=by
    rw[h2,yA hc,fA hc,←List.append_assoc];exact Iff.rfl
   simp only[kQ,ltB hk,if_true,dA hc,bsm]
   rw[show(PEng.mk e.value e.trail e.head e.watches e.fails)=e from rfl,hr,bsm]
   cases r with
   |false=>
    refine Or.inr ⟨.ret (Step.done false),?_,rfl,fun h=>?_⟩
    ·simp only[yieldM,iW,Bool.not_false,if_true,bsm,Step.more,Bool.or_true]
    have:=hiff.2 (hacc.1 h).1
    cases this
   |true=>
    obtain⟨e'',h3,h4⟩:=add_ok hn hlk he' hcm
    rw[List.append_assoc,←fA hc] at h4
    refine Or.inl ⟨e'',?_,h4,?_⟩
    ·simp only[yieldM,iW,Bool.not_true,if_false,Bool.false_eq_true,bsm,Step.more,Bool.or_false,h3,jA hk (show p.length≤9223372036854775807 by omega)]
    rw[hacc];exact⟨fun h=>h.2,fun h=>⟨hiff.1 rfl,h⟩⟩) (by
   rintro e ⟨h1,h2⟩
   refine⟨.brk (e.head,e.fails,e.value,e.trail,e.watches,Step.next ()),?_,rfl,h2.2 (by rw[List.drop_length];trivial)⟩
   simp only[kQ,rY,if_false,Bool.false_eq_true])
 rw[hb,bsm]
 cases b with
 |brk s=>
  obtain⟨h1,h2⟩:=hpost
  simp only
  rw[bsm,h1,aI2.2 ⟨hg,h2⟩]
 |ret st=>
  obtain⟨rfl,h2⟩:=hpost
  simp only
  rw[bsm]
  cases hb:accB f.clauses p with
  |true=>exact absurd (aI2.1 hb).2 h2
  |false=>rfl
def sn (m:List (Int×Bool)) (v:Int):Prop:=(nR m v).getD false=true
theorem sn_put {m:List (Int×Bool)} {v x:Int}:sn (vM m v true) x↔x=v∨sn m x:=by
 unfold sn
 rw[mget_mput]
 by_cases e:x=v
 ·simp[e]
 simp[e]
theorem sn_nil (v:Int):¬sn [] v:=by unfold sn;simp[nR]
structure Marks (st trail:List Int) (out:List Int) (m:List (Int×Bool)):Prop where
 tl:∃rest,out=0::rest
 a:∀v,sn m v→∃k x,trail[k]?=some x∧vr x=v∧lvl st k≠0∧(lvl st k≠st.length→ -x∈out.tail)
 b:∀y∈out.tail,∃k:Nat,trail[k]?=some (-y)∧lvl st k≠0∧lvl st k≠st.length∧sn m (vr y)
 nd:(out.map vr).Nodup
section
variable {n:Int} {F:List (List Int)} {st:List Int} {D:Nat→Int→Prop} {val lev:List Int} {rea:List (Option Nat)} {trail:List Int} {ws:List (List Nat)} {cl:List (List Int)}
theorem Cor.lvAt (h:Cor n F st D val lev rea trail ws cl) {k:Nat} {y:Int} (hk:trail[k]?=some (-y)):idx lev (vr y)=some (lvl st k):=by
 have:=h.lv k _ hk
 rw[lL] at this
 exact kE (jP y) this
theorem Marks.len (h:Cor n F st D val lev rea trail ws cl) (hn:0≤n∧n≤65536) {out:List Int} {m:List (Int×Bool)} (hM:Marks st trail out m):out.length≤65537:=by
 obtain⟨rest,rfl⟩:=hM.tl
 have hv:∀x∈(0:Int)::rest,vr x≤n:=fun x hx=>by
  rcases List.mem_cons.1 hx with rfl|hx
  ·have:vr 0=0:=qC.2 rfl
   omega
  obtain⟨k,hk,_⟩:=hM.b x hx
  have:=(h.lit (bQ hk)).2
  rwa [lL] at this
 have:=wY 65537 (((0:Int)::rest).map fun x=>(vr x).toNat) (by
  have h1:=hM.nd
  unfold List.Nodup at h1⊢
  rw[List.pairwise_map] at h1⊢
  refine List.Pairwise.imp (fun{a b} hne he=>hne ?_) h1
  have h2:=jP a
  have h3:=jP b
  omega) (fun x hx=>by
  obtain⟨y,hy,rfl⟩:=List.mem_map.1 hx
  have h2:=hv y hy
  have h3:=jP y
  omega)
 rwa [List.length_map] at this
set_option maxHeartbeats 1000000 in
theorem mark_loop (h:Cor n F st D val lev rea trail ws cl) (hn:0≤n∧n≤65536) {p0:Sol} (hlev:p0.level=lev) (hst:p0.starts=st) {c:List Int} (hcl:c.length≤1000000) (hc:∀y∈c,∃k:Nat,trail[k]?=some (-y)) {out:List Int} {m:List (Int×Bool)} (hM:Marks st trail out m):
  ∃r,dC (fun s:Int×List Int×List (Int×Bool)=>fU p0 c s.1 s.2.1 s.2.2) (0,out,m)=some r∧Marks st trail r.1 r.2∧(∀v,sn r.2 v↔sn m v∨∃y∈c,vr y=v∧∃k:Nat,trail[k]?=some (-y)∧lvl st k≠0):=by
 refine uA (body:=fun s:Int×List Int×List (Int×Bool)=>fU p0 c s.1 s.2.1 s.2.2) c.length (fun k (t:List Int×List (Int×Bool))=>((k:Int),t.1,t.2))
  (fun k t=>Marks st trail t.1 t.2∧∀v,sn t.2 v↔sn m v∨∃y∈c.take k,vr y=v∧∃k:Nat,trail[k]?=some (-y)∧lvl st k≠0) _ (t0:=(out,m)) rfl ⟨hM,fun v=>by simp⟩ ?_ ?_
 ·rintro k ⟨out,m'⟩ hk ⟨hM,hs⟩
  simp only at hM hs
  obtain⟨y,hy⟩:=bK hk
  obtain⟨p,hp⟩:=hc y (bQ hy)
  have hyl:=h.lit (bQ hp)
  rw[lL] at hyl
  have hyb:=oI.1 hyl.2
  have hl:=h.lvAt hp
  have htk:=fA hy
  have hup:=jA hk (show c.length≤9223372036854775807 by omega)
  have hlen:=hM.len h hn
  have uniq:∀(k2:Nat) (z:Int),trail[k2]?=some (-z)→vr z=vr y→k2=p:=fun k2 z h1 h2=>h.at_ h1 hp (by rw[lL,lL,h2])
  have ex:∀v,(∃z∈c.take (k+1),vr z=v∧∃j:Nat,trail[j]?=some (-z)∧lvl st j≠0)↔(∃z∈c.take k,vr z=v∧∃j:Nat,trail[j]?=some (-z)∧lvl st j≠0)∨(vr y=v∧lvl st p≠0):=fun v=>by
   rw[htk]
   constructor
   ·rintro⟨z,hz,h1,j,h2,h3⟩
    rw[List.mem_append,List.mem_singleton] at hz
    rcases hz with hz|rfl
    ·exact Or.inl ⟨z,hz,h1,j,h2,h3⟩
    exact Or.inr ⟨h1,by rw[←uniq j z h2 rfl];exact h3⟩
   rintro(⟨z,hz,h1⟩|⟨h1,h2⟩)
   ·exact⟨z,List.mem_append_left _ hz,h1⟩
   exact⟨y,by simp,h1,p,hp,h2⟩
  simp only[fU,ltB hk,if_true,dA hy,bsm,wM (show -1099511627776≤y∧y≤1099511627776 by omega),hlev,hl,hst]
  by_cases hsn:sn m' (vr y)
  ·have e1:(nR m' (vr y)).getD false=true:=hsn
   simp only[e1,if_true,bsm,hup]
   refine Or.inl ⟨(out,m'),rfl,hM,fun v=>?_⟩
   rw[ex,hs]
   constructor
   ·rintro(h1|h1)
    ·exact Or.inl h1
    exact Or.inr (Or.inl h1)
   rintro(h1|h1|⟨rfl,h1⟩)
   ·exact Or.inl h1
   ·exact Or.inr h1
   exact(hs _).1 hsn
  have e1:(nR m' (vr y)).getD false=false:=Bool.eq_false_iff.2 hsn
  simp only[e1,if_false,Bool.false_eq_true,bsm]
  by_cases h0:lvl st p=0
  ·simp only[h0,decide_true,if_true,bsm,hup]
   refine Or.inl ⟨(out,m'),rfl,hM,fun v=>?_⟩
   rw[ex,hs]
   constructor
   ·rintro(h1|h1)
    ·exact Or.inl h1
    exact Or.inr (Or.inl h1)
   rintro(h1|h1|⟨_,h1⟩)
   ·exact Or.inl h1
   ·exact Or.inr h1
   exact absurd h0 h1
  simp only[h0,decide_false,if_false,Bool.false_eq_true]
  have hs':∀v,sn (vM m' (vr y) true) v↔sn m v∨∃z∈c.take (k+1),vr z=v∧∃j:Nat,trail[j]?=some (-z)∧lvl st j≠0:=fun v=>by
   rw[ex,sn_put,hs]
   constructor
   ·rintro(rfl|h1|h1)
    ·exact Or.inr (Or.inr ⟨rfl,h0⟩)
    ·exact Or.inl h1
    exact Or.inr (Or.inl h1)
   rintro(h1|h1|⟨rfl,_⟩)
   ·exact Or.inr (Or.inl h1)
   ·exact Or.inr (Or.inr h1)
   exact Or.inl rfl
  obtain⟨rest,hrest⟩:=hM.tl
  by_cases hcur:lvl st p=st.length
  ·simp only[hcur,decide_true,Bool.not_true,Bool.false_eq_true,if_false,bsm,hup]
   refine Or.inl ⟨(out,vM m' (vr y) true),rfl,⟨hM.tl,fun v hv=>?_,fun z hz=>?_,hM.nd⟩,hs'⟩
   ·rcases sn_put.1 hv with rfl|hv
    ·exact⟨p,-y,hp,lL y,h0,fun h1=>absurd hcur h1⟩
    exact hM.a v hv
   obtain⟨j,h1,h2,h3,h4⟩:=hM.b z hz
   exact⟨j,h1,h2,h3,sn_put.2 (Or.inr h4)⟩
  simp only[hcur,decide_false,Bool.not_false,if_true,oV (show out.length+[y].length≤4294967296 by simp;omega),bsm,hup]
  have htl:(out++[y]).tail=out.tail++[y]:=by rw[hrest];rfl
  refine Or.inl ⟨(out++[y],vM m' (vr y) true),rfl,⟨⟨rest++[y],by rw[hrest];rfl⟩,fun v hv=>?_,fun z hz=>?_,?_⟩,hs'⟩
  ·show ∃k x,trail[k]?=some x∧vr x=v∧lvl st k≠0∧(lvl st k≠st.length→ -x∈(out++[y]).tail)
   rw[htl]
   rcases sn_put.1 hv with rfl|hv
   ·exact⟨p,-y,hp,lL y,h0,fun _=>by simp⟩
   obtain⟨j,x,h1,h2,h3,h4⟩:=hM.a v hv
   exact⟨j,x,h1,h2,h3,fun h5=>List.mem_append_left _ (h4 h5)⟩
  ·have hz:z∈(out++[y]).tail:=hz
   rw[htl,List.mem_append,List.mem_singleton] at hz
   rcases hz with hz|rfl
   ·obtain⟨j,h1,h2,h3,h4⟩:=hM.b z hz
    exact⟨j,h1,h2,h3,sn_put.2 (Or.inr h4)⟩
   exact⟨p,hp,h0,hcur,sn_put.2 (Or.inl rfl)⟩
  show((out++[y]).map vr).Nodup
  rw[List.map_append,List.nodup_append]
  refine⟨hM.nd,by simp,fun a ha b hb=>?_⟩
  simp only[List.map_cons,List.map_nil,List.mem_singleton] at hb
  subst hb
  obtain⟨z,hz,rfl⟩:=List.mem_map.1 ha
  intro e
  rw[hrest] at hz
  rcases List.mem_cons.1 hz with rfl|hz
  ·rw[qC.2 rfl] at e
   exact hyl.1 (by have:=qC.1 e.symm;omega)
  obtain⟨j,_,_,_,h4⟩:=hM.b z (by rw[hrest];exact hz)
  exact hsn (e▸h4)
 rintro⟨out,m'⟩ ⟨h1,h2⟩
 rw[List.take_length] at h2
 refine⟨(out,m'),?_,h1,h2⟩
 simp only[fU,rY,if_false,Bool.false_eq_true]
theorem search_ok (h:Cor n F st D val lev rea trail ws cl) (hn:0≤n∧n≤65536) {p0:Sol} (htr:p0.trail=trail) {b3:List Int×List (Int×Bool)}:∀(a:Nat),a≤trail.length→(∃(k:Nat) (x:Int),k<a∧trail[k]?=some x∧sn b3.2 (vr x))→
  ∃(k:Nat) (x:Int),dC (fun s=>gX p0 b3 s) ((a:Int)-1)=some (k:Int)∧k<a∧trail[k]?=some x∧sn b3.2 (vr x)∧∀(j:Nat) (y:Int),k<j→j<a→trail[j]?=some y→¬sn b3.2 (vr y)
 |0,_,⟨k,_,hk,_⟩=>by omega
 |a+1,ha,hex=>by
  have htl:=h.eng.trailLen hn.1
  obtain⟨x,hx⟩:=bK (show a<trail.length by omega)
  have hxl:=h.lit (bQ hx)
  have hxb:=oI.1 hxl.2
  have e0:(((a+1:Nat):Int)-1)=(a:Int):=by omega
  rw[e0]
  have hi:idx p0.trail (a:Int)=some x:=by rw[htr];exact dA hx
  by_cases hs:sn b3.2 (vr x)
  ·refine⟨a,x,eF ?_,by omega,hx,hs,fun j y h1 h2=>by omega⟩
   have e1:(nR b3.2 (vr x)).getD false=true:=hs
   simp only[gX,hi,bsm,wM (show -1099511627776≤x∧x≤1099511627776 by omega),e1,Bool.not_true,Bool.false_eq_true,if_false]
  have e1:(nR b3.2 (vr x)).getD false=false:=Bool.eq_false_iff.2 hs
  obtain⟨k,y,h1,h2,h3,h4,h5⟩:=search_ok h hn htr a (by omega) (by
   obtain⟨k,y,h1,h2,h3⟩:=hex
   refine⟨k,y,?_,h2,h3⟩
   by_cases e:k=a
   ·subst e;rw[hx] at h2;exact absurd (Option.some.inj h2▸h3) hs
   omega)
  refine⟨k,y,?_,by omega,h3,h4,fun j z hj1 hj2 hz=>?_⟩
  ·rw[gJ (s':=(a:Int)-1) ?_]
   ·exact h1
   simp only[gX,hi,bsm,wM (show -1099511627776≤x∧x≤1099511627776 by omega),e1,Bool.not_false,if_true]
   rw[gW ⟨by omega,by omega⟩,bsm]
  by_cases e:j=a
  ·subst e;rw[hx] at hz;exact Option.some.inj hz▸hs
  exact h5 j z hj1 (by omega) hz
theorem others_loop {x:Int} {c:List Int} (hc:c.length≤1000000):dC (fun s:Int×List Int=>gY x c s.1 s.2) (0,[])=some (c.filter fun y=>decide (y≠x)):=by
 obtain⟨b,hb,rfl⟩:=uA (body:=fun s:Int×List Int=>gY x c s.1 s.2) (s0:=(0,[])) c.length (fun k t=>((k:Int),t)) (fun k t=>t=(c.take k).filter fun y=>decide (y≠x)) (fun b=>b=c.filter fun y=>decide (y≠x)) (t0:=[]) rfl rfl (by
  rintro k t hk rfl
  obtain⟨y,hy⟩:=bK hk
  have htk:=fA hy
  have hup:=jA hk (show c.length≤9223372036854775807 by omega)
  have hl:((c.take k).filter fun y=>decide (y≠x)).length≤c.length:=Nat.le_trans (List.length_filter_le _ _) (by rw[List.length_take];omega)
  simp only[gY,ltB hk,if_true,dA hy,bsm]
  by_cases e:y=x
  ·simp only[e,decide_true,Bool.not_true,Bool.false_eq_true,if_false,hup,bsm]
   exact Or.inl ⟨_,rfl,by rw[htk,List.filter_append];simp[e]⟩
  ·simp only[e,decide_false,Bool.not_false,if_true,oV (show((c.take k).filter fun y=>decide (y≠x)).length+[y].length≤4294967296 by simp only[List.length_singleton];omega),hup,bsm]
   exact Or.inl ⟨_,rfl,by rw[htk,List.filter_append];simp[e]⟩) (by
  rintro t rfl
  rw[List.take_length]
  refine⟨_,?_,rfl⟩
  simp only[gY,rY,if_false,Bool.false_eq_true])
 exact hb
end
end Go.Proofs.Ytpkhmndpeipfmaa
