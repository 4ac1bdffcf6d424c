/- The engine of proofs: clauses are added, and what follows is told. -/
import Derived.Test.YtpkhmndpeipfmaaKLe24
import Derived.Test.YtpkhmndpeipfmaaKLe5
set_option linter.unusedVariables false
set_option linter.unusedSimpArgs false
namespace Go.Proofs.Ytpkhmndpeipfmaa
open Go.RowKit
def uK (n:Int) (q:List Int):Prop:=(∀y∈q,y≠0∧vr y≤n)∧q.Nodup
theorem clF_nodup {v:Int}:∀{t:Int} {c:List Int},0≤t→clF v t c=true→c.Nodup
 |_,[],_,_=>List.nodup_nil
 |t,x::c,ht,hc=>by
  unfold clF at hc
  simp only[Bool.and_eq_true,decide_eq_true_eq] at hc
  refine List.nodup_cons.2 ⟨fun hx=>?_,clF_nodup (jY x) hc.2⟩
  have:=(clF_mem (jY x) hc.2 x hx).2.2
  omega
theorem clF_ok {n:Int} {q:List Int} (h:clF n 0 q=true):uK n q:=by
 refine⟨fun y hy=>?_,clF_nodup (Int.le_refl 0) h⟩
 have:=clF_mem (Int.le_refl 0) h y hy
 exact⟨fun e=>by rw[e] at this;simp[vr] at this,nM.2 ⟨this.1,this.2.1⟩⟩
theorem uK.len {n:Int} {q:List Int} (h:uK n q) (hn:0≤n∧n≤65536):q.length≤131074:=by
 have h1:=yD 131074 (q.map ixL) (by
  unfold List.Nodup
  rw[List.pairwise_map]
  exact List.Pairwise.imp (fun{a b} hne he=>hne (uP he)) h.2) (fun x hx=>by
  obtain⟨y,hy,rfl⟩:=List.mem_map.1 hx
  have:=ixL_bnd (h.1 y hy).2
  omega)
 rwa [List.length_map] at h1
structure EngB (n:Int) (F:List (List Int)) (e:PEng):Prop where
 len:e.watches.2.length≤F.length
 st:(e.fails=true∧Fails F [])∨(e.fails=false∧e.head=(e.trail.length:Int)∧Eng n F [] e.trail.length e.trail.length (fun _ w=> -w∈e.trail) e.value e.trail e.watches.1 e.watches.2)
section
variable {n:Int} {F:List (List Int)} {S:List Int} {np nc:Nat} {D:Nat→Int→Prop} {val trail:List Int} {ws:List (List Nat)} {cl:List (List Int)}
theorem open_loop (h:Eng n F S np nc D val trail ws cl) {q:List Int} (hq:uK n q) (hn:0≤n∧n≤65536) {e:PEng} (he:e.value=val):
  ∃b,dE (fun s:Int×List Int=>kR e q s.1 s.2) (0,[])=some b∧
   (match b with| .ret r=>r=e∧∃y∈q,y∈trail| .brk c=>c=q.filter (fun y=>decide (gv val y=some 0))∧∀y∈q,y∉trail):=by
 have hql:=hq.len hn
 obtain⟨tr,hd,W,fl,rfl⟩:∃tr hd W fl,e=PEng.mk val tr hd W fl:=⟨e.trail,e.head,e.watches,e.fails,by rw[←he]⟩
 refine uA (body:=fun s:Int×List Int=>kR (PEng.mk val tr hd W fl) q s.1 s.2) q.length (fun k t=>((k:Int),t))
  (fun k c=>c=(q.take k).filter (fun y=>decide (gv val y=some 0))∧∀y∈q.take k,y∉trail) _ (t0:=[]) rfl ⟨by simp,by simp⟩ ?_ ?_
 ·rintro k c hk ⟨h1,h2⟩
  obtain⟨y,hy⟩:=bM hk
  obtain⟨r,hr,hcase⟩:=of_ok h (hq.1 y (bP hy)).1 (hq.1 y (bP hy)).2 hn.2 (tr:=tr) (hd:=hd) (W:=W) (fl:=fl)
  have htk:=dN hy
  have hup:=iH hk (show q.length≤9223372036854775807 by omega)
  simp only[kR,ltB hk,if_true,bY hy,bsm,hr]
  rcases hcase with⟨rfl,hm⟩|⟨rfl,hm⟩|⟨rfl,hz,hm,hm'⟩
  ·exact Or.inr ⟨.ret (PEng.mk val tr hd W fl),by rw[if_pos (by decide)],rfl,y,bP hy,hm⟩
  ·rw[if_neg (by decide),if_neg (by decide),hup,bsm]
   refine Or.inl ⟨c,rfl,?_,fun z hz=>?_⟩
   ·have hg:¬gv val y=some 0:=fun e=>by
     have:=(h.tr (-y)).1 hm
     rw[wJ,e] at this
     exact this.1 (Option.some.inj this.2).symm
    rw[htk,List.filter_append,←h1]
    simp[hg]
   rw[htk,List.mem_append,List.mem_singleton] at hz
   rcases hz with hz|rfl
   ·exact h2 z hz
   exact fun hp=>h.opp hp hm
  have hcl:c.length≤q.length:=by rw[h1];exact Nat.le_trans (List.length_filter_le _ _) (by rw[List.length_take];omega)
  rw[if_neg (by decide),if_pos (by decide),qA (by simp;omega),bsm,hup,bsm]
  refine Or.inl ⟨c++[y],rfl,?_,fun z hz'=>?_⟩
  ·rw[htk,List.filter_append,←h1]
   simp[hz]
  rw[htk,List.mem_append,List.mem_singleton] at hz'
  rcases hz' with hz'|rfl
  ·exact h2 z hz'
  exact hm
 rintro c ⟨h1,h2⟩
 rw[List.take_length] at h1 h2
 refine⟨.brk c,?_,h1,h2⟩
 simp only[kR,qZ,if_false,Bool.false_eq_true]
theorem Eng.ids (h:Eng n F S np nc D val trail ws cl):idsOk cl.length ws=true:=by
 unfold idsOk
 simp only[List.all_eq_true,decide_eq_true_eq]
 intro ids hids id hid
 obtain⟨r,hr⟩:=List.getElem?_of_mem hids
 obtain⟨c,_,_,hc,_⟩:=((h.row r ids hr).2 id).1 hid
 exact dB hc
theorem lp2_round {p0:PEng} {x10:List Int} {k:Nat} {l:Int} {W:List (List Nat)×List (List Int)} {R:List Nat} (hk:x10[k]?=some l) (hkl:x10.length≤1000) (hl: -1099511627776≤l∧l≤1099511627776) (hR:W.1[ixL l]?=some R) (hRl:R.length≤1000000000):
  nC p0 x10 (k:Int) W=some (.next (((k+1:Nat):Int),(W.1.set (ixL l) (R++[p0.watches.2.length]),W.2))):=by
 have hlt:=dB hk
 unfold nC
 rw[if_pos (ltB hlt),bY hk,bsm,aL3 hl,bsm,bsm,bY hR,bsm,qA (by simp;omega),bsm,qQ,bsm,iH hlt (by omega),bsm]
 rfl
theorem add_ok (hn:0≤n∧n≤65536) (hF:F.length≤1000000) {e:PEng} (he:EngB n F e) {q:List Int} (hq:uK n q):∃e',oJ e q=some e'∧EngB n (F++[q]) e':=by
 have hFm:∀c∈F,c∈F++[q]:=fun c hc=>List.mem_append_left _ hc
 have hqm:q∈F++[q]:=List.mem_append_right _ (List.mem_singleton.2 rfl)
 have hlen:=he.len
 unfold oJ
 rcases he.st with⟨hf,hfail⟩|⟨hf,hh,hE⟩
 ·rw[if_pos hf]
  exact⟨e,rfl,by rw[List.length_append];omega,Or.inl ⟨hf,hfail.mono hFm (fun _ h=>h)⟩⟩
 rw[if_neg (by rw[hf];decide)]
 have e3:e.trail.take e.trail.length=e.trail:=List.take_length
 obtain⟨b,hb,hp⟩:=open_loop hE hq hn (e:=e) rfl
 rw[hb,bsm]
 cases b with
 |ret r=>
  obtain⟨rfl,y,hy,hm⟩:=hp
  exact⟨r,rfl,by rw[List.length_append];omega,Or.inr ⟨hf,hh,hE.addSat hy (by rw[e3];exact hm)⟩⟩
 |brk c=>
  obtain⟨hc,hno⟩:=hp
  have hcm:∀y,y∈c↔y∈q∧gv e.value y=some 0:=fun y=>by rw[hc,List.mem_filter];simp
  have hex:∀y∈q,y∉c→ -y∈e.trail:=fun y hy hn2=>by
   rcases hE.cases (hq.1 y hy).1 (hq.1 y hy).2 with⟨_,h1⟩|⟨_,h1⟩|⟨h1,_⟩
   ·exact absurd h1 (hno y hy)
   ·exact h1
   exact absurd ((hcm y).2 ⟨hy,h1⟩) hn2
  have hcn:c.Nodup:=by rw[hc];exact hq.2.sublist List.filter_sublist
  have hopen:∀y∈c,-y∉e.trail:=fun y hy hm=>by
   have h1:=((hcm y).1 hy).2
   have h2:=(hE.tr (-y)).1 hm
   rw[wJ,h1] at h2
   exact h2.1 (Option.some.inj h2.2).symm
  have hcl:c.length≤131074:=by
   have:=hq.len hn
   have:c.length≤q.length:=by rw[hc];exact List.length_filter_le _ _
   omega
  simp only
  match c,hcm,hex,hcn,hopen,hcl with
  | [],hcm,hex,_,_,_=>
   rw[if_pos (by simp)]
   refine⟨_,rfl,by rw[List.length_append];show e.watches.2.length≤_;omega,Or.inl ⟨rfl,Or.inr ⟨q,hqm,fun y hy=>?_⟩⟩⟩
   exact(hE.up (hex y hy (by simp))).mono hFm (fun _ h=>h)
  | [x],hcm,hex,_,_,_=>
   rw[if_neg (by simp),if_pos (by simp),show idx [x] 0=some x from rfl,bsm]
   obtain⟨hx1,hx2⟩:=(hcm x).1 (by simp)
   obtain⟨hx0,hxn⟩:=hq.1 x hx1
   have hhold:=hold_ok hE hxn hn.2 hn.1 (hd:=e.head) (W:=e.watches) (fl:=e.fails)
   rw[show(PEng.mk e.value e.trail e.head e.watches e.fails)=e from rfl] at hhold
   rw[hhold,bsm]
   have hU:=hE.addUnit hx1 hx0 hxn hx2 (fun y hy hne=>hex y hy (by simp[hne]))
   have htk:(e.trail++[x]).take e.trail.length=e.trail:=List.take_left' rfl
   have hU2:Eng n (F++[q]) [] e.trail.length (e.trail.length+1) (fun _ w=> -w∈(e.trail++[x]).take e.trail.length) (e.value.set (vr x).toNat x) (e.trail++[x]) e.watches.1 e.watches.2:=by rw[htk];exact hU
   obtain⟨ok,val',ext,W',h',hpr,hWl,hres⟩:=aL6 hn (by omega) hU2 (by simp) (fl:=e.fails)
   simp only
   rw[hh,hpr,bsm]
   refine⟨_,rfl,by rw[List.length_append];show W'.2.length≤_;omega,?_⟩
   rcases hres with⟨rfl,rfl,hE'⟩|⟨rfl,hfail,_⟩
   ·refine Or.inr ⟨rfl,rfl,hE'.rebase (fun id w hw=>hw)⟩
   exact Or.inl ⟨rfl,hfail⟩
  |a::b::c',hcm,hex,hcn,hopen,hcl=>
   rw[if_neg (by simp;omega),if_neg (by simp;omega)]
   have haq:=(hcm a).1 (by simp)
   have hbq:=(hcm b).1 (by simp)
   have hab:a≠b:=fun e=>by subst e;have:=pI hcn (i:=0) (j:=1) rfl rfl;omega
   obtain⟨Ra,hRa⟩:=hE.rowAt (hq.1 a haq.1).2
   obtain⟨Rb,hRb⟩:=hE.rowAt (hq.1 b hbq.1).2
   have hRal:=hE.rowLen hRa
   have hRbl:=hE.rowLen hRb
   have hva:=nM.1 (hq.1 a haq.1).2
   have hvb:=nM.1 (hq.1 b hbq.1).2
   have hix:ixL b≠ixL a:=fun e=>hab (uP e).symm
   have e1:arPut e.watches.2 e.watches.1 (a::b::c')=some (e.watches.2++[a::b::c']):=by unfold arPut;rw[if_pos hE.ids]
   have e2:sub (a::b::c') 0 2=some [a,b]:=by rw[yM (by decide) (by decide) (by simp;omega)];rfl
   rw[e1,bsm,e2,bsm]
   have r0:=lp2_round (p0:=e) (x10:=[a,b]) (k:=0) (W:=(e.watches.1,e.watches.2++[a::b::c'])) rfl (by simp) (by omega) hRa (by omega)
   have r1:=lp2_round (p0:=e) (x10:=[a,b]) (k:=1) (W:=(e.watches.1.set (ixL a) (Ra++[e.watches.2.length]),e.watches.2++[a::b::c'])) rfl (by simp) (by omega) (by show(e.watches.1.set _ _)[ixL b]?=_;rw[dA hix];exact hRb) (by omega)
   rw[iC r0,iC r1,eQ (b:=((e.watches.1.set (ixL a) (Ra++[e.watches.2.length])).set (ixL b) (Rb++[e.watches.2.length]),e.watches.2++[a::b::c'])) (by simp[nC]),bsm]
   have hset:(e.watches.2++[a::b::c']).set e.watches.2.length (a::b::c')=e.watches.2++[a::b::c']:=set_self (by simp)
   simp only[hset]
   refine⟨_,rfl,by simp;omega,Or.inr ⟨hf,hh,?_⟩⟩
   exact hE.addCl (q:=q) (d:=a::b::c') (a:=a) (b:=b) rfl rfl hcn (fun y hy=>hq.1 y ((hcm y).1 hy).1) (fun y hy=>((hcm y).1 hy).1) (fun y hy hm=>by rw[e3];exact hex y hy hm)
    (hopen a (by simp)) (hopen b (by simp)) (fun i w hw=>hw) hRa hRb
end
theorem newEngine_ok {f:Formula} (hn:0≤f.vars∧f.vars≤65536) (hF:f.clauses.length≤1000000) (hq:∀c∈f.clauses,uK f.vars c):∃e,qR f=some e∧EngB f.vars f.clauses e:=by
 unfold qR
 rw[iV ⟨by omega,by omega⟩,bsm,mkc_ok ⟨by omega,by omega,by omega⟩,bsm,iV ⟨by omega,by omega⟩,bsm,iV ⟨by omega,by omega⟩,bsm,mkc_ok ⟨by omega,by omega,by omega⟩,bsm]
 obtain⟨b,hb,hp⟩:=uA (body:=fun s:Int×List Int×Int×Bool×(List (List Nat)×List (List Int))×List Int=>oG f s.1 s.2.1 s.2.2.1 s.2.2.2.1 s.2.2.2.2.1 s.2.2.2.2.2) (s0:=(0,[],0,false,(List.replicate (2*f.vars+2).toNat [],[]),List.replicate (f.vars+1).toNat 0)) f.clauses.length
  (fun k (e:PEng)=>((k:Int),e.trail,e.head,e.fails,e.watches,e.value)) (fun k e=>EngB f.vars (f.clauses.take k) e) (fun b=>EngB f.vars f.clauses (PEng.mk b.2.2.2.2 b.1 b.2.1 b.2.2.2.1 b.2.2.1)) (t0:=PEng.mk (List.replicate (f.vars+1).toNat 0) [] 0 (List.replicate (2*f.vars+2).toNat [],[]) false) rfl
  ⟨by simp,Or.inr ⟨rfl,rfl,by rw[List.take_zero];exact Eng.start hn.1⟩⟩ (by
   intro k e hk he
   obtain⟨c,hc⟩:=bM hk
   obtain⟨e',h1,h2⟩:=add_ok hn (by rw[List.length_take];omega) he (hq c (bP hc))
   rw[←dN hc] at h2
   refine Or.inl ⟨e',?_,h2⟩
   simp only[oG,ltB hk,if_true,bY hc,bsm]
   rw[show(PEng.mk e.value e.trail e.head e.watches e.fails)=e from rfl,h1,bsm,iH hk (by omega),bsm]) (by
   intro e he
   rw[List.take_length] at he
   exact⟨(e.trail,e.head,e.fails,e.watches,e.value),by simp only[oG,qZ,if_false,Bool.false_eq_true],he⟩)
 rw[hb,bsm]
 exact⟨_,rfl,hp⟩
def uS (q:List Int):List Int:=q.map fun y=> -y
theorem Z8 {q:List Int} {y:Int}: -y∈uS q↔y∈q:=by
 unfold uS
 rw[List.mem_map]
 exact⟨fun⟨z,hz,e⟩=>by rwa [show y=z by omega],fun h=>⟨y,h,rfl⟩⟩
theorem aD4 {q:List Int} {y:Int} (h:y∈uS q): -y∈q:=by
 rw[←Z8,Int.neg_neg];exact h
theorem lits_of {n:Int} {F:List (List Int)} {q:List Int} (hn:0≤n∧n≤65536) (hF:∀c∈F,uK n c) (hq:uK n q):Lits n F (uS q):=
 ⟨hn,fun c hc y hy=>(hF c hc).1 y hy,fun y hy=>by
  have h1:=hq.1 _ (aD4 hy)
  rw[lZ] at h1
  exact⟨by omega,h1.2⟩,fun c hc=>(hF c hc).2⟩
section
variable {n:Int} {F:List (List Int)}
theorem follows_loop (hn:0≤n∧n≤65536) {e:PEng} {q:List Int} (hq:uK n q) (hE:Eng n F (uS q) e.trail.length e.trail.length (fun _ w=> -w∈e.trail) e.value e.trail e.watches.1 e.watches.2):
  ∃b,dE (fun s:Bool×Int×Int×Bool×List Int×List Int=>iW e q s.1 s.2.1 s.2.2.1 s.2.2.2.1 s.2.2.2.2.1 s.2.2.2.2.2) (true,0,e.head,e.fails,e.value,e.trail)=some b∧
   ∃ok val ext,b=(ok,e.head,e.fails,val,e.trail++ext)∧Eng n F (uS q) e.trail.length e.trail.length (fun _ w=> -w∈e.trail) val (e.trail++ext) e.watches.1 e.watches.2∧
    ((ok=true∧∀y∈q,-y∈e.trail++ext)∨(ok=false∧Fails F (uS q))):=by
 have hql:=hq.len hn
 refine uA (body:=fun s:Bool×Int×Int×Bool×List Int×List Int=>iW e q s.1 s.2.1 s.2.2.1 s.2.2.2.1 s.2.2.2.2.1 s.2.2.2.2.2) q.length
  (fun k (t:List Int×List Int)=>(true,(k:Int),e.head,e.fails,t.1,e.trail++t.2))
  (fun k t=>Eng n F (uS q) e.trail.length e.trail.length (fun _ w=> -w∈e.trail) t.1 (e.trail++t.2) e.watches.1 e.watches.2∧∀j y,j<k→q[j]?=some y→ -y∈e.trail++t.2) _ (t0:=(e.value,[])) (by simp) ⟨by simpa using hE,fun j y hj=>by omega⟩ ?_ ?_
 ·rintro k ⟨val,ext⟩ hk ⟨h,h2⟩
  simp only at h h2
  obtain⟨y,hy⟩:=bM hk
  have hyq:=hq.1 y (bP hy)
  have hyb:=nM.1 hyq.2
  obtain⟨r,hr,hcase⟩:=of_ok h hyq.1 hyq.2 hn.2 (tr:=e.trail++ext) (hd:=e.head) (W:=e.watches) (fl:=e.fails)
  have hup:=iH hk (show q.length≤9223372036854775807 by omega)
  simp only[iW,ltB hk,if_true,bY hy,bsm,hr]
  have hs:UP F (uS q) (-y):= .start (Z8.2 (bP hy))
  rcases hcase with⟨rfl,hm⟩|⟨rfl,hm⟩|⟨rfl,hz,hm,hm'⟩
  ·exact Or.inr ⟨(false,e.head,e.fails,val,e.trail++ext),by rw[if_pos (by decide)],false,val,ext,rfl,h,Or.inr ⟨rfl,Or.inl ⟨y,h.up hm,hs⟩⟩⟩
  ·rw[if_neg (by decide),if_neg (by decide),hup,bsm]
   refine Or.inl ⟨(val,ext),rfl,h,fun j z hj hz=>?_⟩
   by_cases ej:j=k
   ·subst ej;rw[hy] at hz;exact Option.some.inj hz▸hm
   exact h2 j z (by omega) hz
  have hvn:vr (-y)≤n:=by rw[lZ];exact hyq.2
  have i1:inK .i64 (0-y)=some (-y):=oZ (by omega) ⟨by omega,by omega⟩
  have hh:=hold_ok h hvn hn.2 hn.1 (hd:=e.head) (W:=e.watches) (fl:=e.fails)
  rw[if_neg (by decide),if_pos (by decide),i1,bsm,hh,bsm,hup,bsm]
  have h3:=h.hold (x:= -y) (by omega) hvn (by rw[wJ];exact hz) hs
  refine Or.inl ⟨(val.set (vr (-y)).toNat (-y),ext++[-y]),by simp,by simpa using h3,fun j z hj hz=>?_⟩
  by_cases ej:j=k
  ·subst ej;rw[hy] at hz;rw[←Option.some.inj hz];simp
  have:=h2 j z (by omega) hz
  rw[←List.append_assoc];exact List.mem_append_left _ this
 rintro⟨val,ext⟩ ⟨h,h2⟩
 refine⟨(true,e.head,e.fails,val,e.trail++ext),?_,true,val,ext,rfl,h,Or.inl ⟨rfl,fun y hy=>?_⟩⟩
 ·simp only[iW,qZ,if_false,Bool.false_eq_true]
 obtain⟨j,hj⟩:=List.getElem?_of_mem hy
 exact h2 j y (dB hj) hj
theorem clear_loop {val dr:List Int} (hd:∀x∈dr,vr x≤n∧x≠0) (hn:n≤65536) (hv:(val.length:Int)=n+1) (hl:dr.length≤1000000):
  ∃v',dE (fun s:Int×List Int=>iY dr s.1 s.2) (0,val)=some v'∧v'.length=val.length∧
   (∀(v:Nat),(∃x∈dr,(vr x).toNat=v)→v'[v]?=some 0∨val.length≤v)∧(∀(v:Nat),(∀x∈dr,(vr x).toNat≠v)→v'[v]?=val[v]?):=by
 refine uA (body:=fun s:Int×List Int=>iY dr s.1 s.2) dr.length (fun k t=>((k:Int),t))
  (fun k v'=>v'.length=val.length∧(∀(v:Nat),(∃x∈dr.take k,(vr x).toNat=v)→v'[v]?=some 0∨val.length≤v)∧(∀(v:Nat),(∀x∈dr.take k,(vr x).toNat≠v)→v'[v]?=val[v]?)) _ (t0:=val) rfl
  ⟨rfl,fun v ⟨x,hx,_⟩=>by simp at hx,fun v _=>rfl⟩ ?_ ?_
 ·rintro k v' hk ⟨h1,h2,h3⟩
  obtain⟨x,hx⟩:=bM hk
  obtain⟨hxn,hx0⟩:=hd x (bP hx)
  have hxb:=nM.1 hxn
  have hx1:=jY x
  obtain⟨y,hy⟩:=bM (show(vr x).toNat<v'.length by omega)
  have em:max x (-x)=vr x:=by unfold vr;omega
  have hi:idx v' (max x (-x))=some y:=by rw[em];exact kQ hx1 hy
  have i1:inK .i64 (0-x)=some (-x):=oZ (by omega) ⟨by omega,by omega⟩
  refine Or.inl ⟨v'.set (vr x).toNat 0,?_,by rw[List.length_set];exact h1,fun v hv'=>?_,fun v hv'=>?_⟩
  ·simp only[iY,ltB hk,if_true,bY hx,bsm,i1,hi,iH hk (show dr.length≤9223372036854775807 by omega)]
   rw[em]
  ·rw[dN hx] at hv'
   obtain⟨z,hz,rfl⟩:=hv'
   by_cases e:(vr z).toNat=(vr x).toNat
   ·rw[e];exact Or.inl (dO hy)
   rw[dA e]
   rw[List.mem_append,List.mem_singleton] at hz
   rcases hz with hz|rfl
   ·exact h2 _ ⟨z,hz,rfl⟩
   exact absurd rfl e
  rw[dN hx] at hv'
  rw[dA (fun e=>hv' x (by simp) e.symm)]
  exact h3 v fun z hz=>hv' z (List.mem_append_left _ hz)
 rintro v' ⟨h1,h2,h3⟩
 rw[List.take_length] at h2 h3
 exact⟨v',by simp only[iY,qZ,if_false,Bool.false_eq_true],h1,h2,h3⟩
theorem follows_ok (hn:0≤n∧n≤65536) (hF:F.length≤1000000) (hFc:∀c∈F,uK n c) {e:PEng} (he:EngB n F e) {q:List Int} (hq:uK n q):
  ∃r e',nD e q=some (r,e')∧EngB n F e'∧(r=true↔Fails F (uS q)):=by
 have hlen:=he.len
 unfold nD
 rcases he.st with⟨hf,hfail⟩|⟨hf,hh,hE0⟩
 ·rw[if_pos hf]
  exact⟨true,e,rfl,he,fun _=>hfail.mono (fun _ h=>h) (by simp),fun _=>rfl⟩
 rw[if_neg (by rw[hf];decide)]
 have hE:=hE0.assume (uS q)
 obtain⟨b,hb,ok,val,ext,rfl,h1,h2⟩:=follows_loop hn hq hE
 rw[hb,bsm]
 have htk:(e.trail++ext).take e.trail.length=e.trail:=List.take_left' rfl
 have hL:=lits_of hn hFc hq
 obtain⟨ok2,hd2,val2,tr2,W2,hm,⟨ext2,rfl⟩,hWl,⟨D2,h3⟩,h4⟩:∃ok2 hd2 val2 tr2 W2,(if ok=true then
   (iP (PEng.mk val (e.trail++ext) e.head e.watches e.fails)).bind fun x8=>
   some (x8.1,x8.2.head,x8.2.fails,x8.2.value,x8.2.trail,x8.2.watches)
  else
   some (false,e.head,e.fails,val,e.trail++ext,e.watches))=some (ok2,hd2,e.fails,val2,tr2,W2)∧(∃x,tr2=e.trail++x)∧W2.2.length=e.watches.2.length∧(∃D,Eng n F (uS q) e.trail.length e.trail.length D val2 tr2 W2.1 W2.2)∧(ok2=true↔¬Fails F (uS q)):=by
  rcases h2 with⟨rfl,h2⟩|⟨rfl,h2⟩
  ·have h1':Eng n F (uS q) e.trail.length e.trail.length (fun _ w=> -w∈(e.trail++ext).take e.trail.length) val (e.trail++ext) e.watches.1 e.watches.2:=by rw[htk];exact h1
   obtain⟨ok2,val2,ext2,W2,hd2,hpr,hWl,hres⟩:=aL6 hn (by omega) h1' (by simp) (fl:=e.fails)
   rw[if_pos rfl,hh,hpr,bsm]
   refine⟨ok2,hd2,val2,_,W2,rfl,⟨ext++ext2,by rw[List.append_assoc]⟩,hWl,?_⟩
   rcases hres with⟨rfl,_,h5⟩|⟨rfl,h5,D,h6⟩
   ·refine⟨⟨_,h5⟩,fun _=>?_,fun _=>rfl⟩
    refine closed_ok hL h5.vo (fun l hl=>?_) (h5.closed fun id w hw=>hw)
    have h7:=h2 _ (aD4 hl)
    rw[Int.neg_neg] at h7
    exact((h5.tr l).1 (List.mem_append_left _ h7)).2
   exact⟨⟨D,h6⟩,fun h=>(by cases h),fun h=>absurd h5 h⟩
  rw[if_neg (by decide)]
  exact⟨false,_,val,_,e.watches,rfl,⟨ext,rfl⟩,rfl,⟨_,h1⟩,fun h=>(by cases h),fun h=>absurd h2 h⟩
 rw[hm,bsm]
 simp only
 have htl:=h3.trailLen hn.1
 rw[List.length_append] at htl
 have hdrop:(e.trail++ext2).drop e.trail.length=ext2:=List.drop_left' rfl
 have htake:(e.trail++ext2).take e.trail.length=e.trail:=List.take_left' rfl
 have s1:sub (e.trail++ext2) (e.trail.length:Int) ((e.trail++ext2).length:Int)=some ext2:=by
  rw[yM (by omega) (by rw[List.length_append];omega) (by omega)]
  rw[Int.toNat_natCast,Int.toNat_natCast,List.take_length,hdrop]
 have s2:sub (e.trail++ext2) 0 (e.trail.length:Int)=some e.trail:=by
  rw[yM (by decide) (by omega) (by rw[List.length_append];omega)]
  rw[Int.toNat_natCast,htake];rfl
 obtain⟨v',hv,c1,c2,c3⟩:=clear_loop (n:=n) (val:=val2) (dr:=ext2) (fun x hx=>by
  have:=h3.lit (List.mem_append_right e.trail hx);exact⟨this.2,this.1⟩) hn.2 h3.vo.len (by omega)
 rw[s1,bsm,hv,bsm,s2,bsm]
 refine⟨_,_,rfl,⟨by show W2.2.length≤_;omega,Or.inr ⟨hf,rfl,?_⟩⟩,?_⟩
 ·have h6:=h3.reset c1 (by rw[hdrop];exact c2) (by rw[hdrop];exact c3) []
  rw[htake] at h6
  exact h6
 cases ok2 with
 |true=>exact⟨fun h=>(by cases h),fun h=>absurd h (h4.1 rfl)⟩
 |false=>exact⟨fun _=>Classical.byContradiction fun h=>(by cases h4.2 h),fun _=>rfl⟩
end
def yL (F:List (List Int)):List (List Int)→Prop
 | []=>True
 |c::p=>Fails F (uS c)∧yL (F++[c]) p
noncomputable def accB (F p:List (List Int)):Bool:= @decide (p.getLast?=some []∧yL F p) (Classical.propDecidable _)
theorem I5 {F p:List (List Int)}:accB F p=true↔p.getLast?=some []∧yL F p:=by unfold accB;exact @decide_eq_true_iff _ (Classical.propDecidable _)
theorem accepted_ok {f:Formula} {p:List (List Int)} (hn:0≤f.vars∧f.vars≤65536) (hl:f.clauses.length+p.length≤1000000) (hF:∀c∈f.clauses,uK f.vars c) (hp:∀c∈p,uK f.vars c):
  rV f p=some (accB f.clauses p):=by
 unfold rV
 have hlast:∀b:Bool,p.getLast?≠some []→accB f.clauses p=false:=fun b h=>by
  cases hb:accB f.clauses p with
  |true=>exact absurd (I5.1 hb).1 h
  |false=>rfl
 by_cases h0:p.length=0
 ·rw[if_pos (by simpa using h0),bsm,if_pos rfl]
  have:p=[]:=List.eq_nil_of_length_eq_zero h0
  rw[hlast true (by rw[this];simp)]
 obtain⟨c,hc⟩:=bM (show p.length-1<p.length by omega)
 have hg:p.getLast?=some c:=by rw[List.getLast?_eq_getElem?];exact hc
 rw[if_neg (by simpa using h0),oZ (m:=((p.length-1:Nat):Int)) (by omega) ⟨by omega,by omega⟩,bsm,bY hc,bsm,bsm]
 by_cases hcl:0<c.length
 ·rw[if_pos (by simpa using hcl),hlast true (by rw[hg];intro e;rw[Option.some.inj e] at hcl;simp at hcl)]
 rw[if_neg (by simpa using hcl)]
 have hnil:c=[]:=List.eq_nil_of_length_eq_zero (by omega)
 subst hnil
 unfold xM qI
 obtain⟨e0,he0,hE0⟩:=newEngine_ok hn (by omega) hF
 rw[bsm,he0,bsm]
 obtain⟨b,hb,hpost⟩:=uA (body:=fun s:Int×Int×Bool×List Int×List Int×(List (List Nat)×List (List Int))×Step Unit Bool=>kY (fun x _=>jF x) p s.1 s.2.1 s.2.2.1 s.2.2.2.1 s.2.2.2.2.1 s.2.2.2.2.2.1 s.2.2.2.2.2.2)
  (s0:=(0,e0.head,e0.fails,e0.value,e0.trail,e0.watches,.next ())) p.length (fun k (e:PEng)=>((k:Int),e.head,e.fails,e.value,e.trail,e.watches,Step.next ()))
  (fun k e=>EngB f.vars (f.clauses++p.take k) e∧(yL f.clauses p↔yL (f.clauses++p.take k) (p.drop k)))
  (fun b=>match b with| .brk s=>s.2.2.2.2.2=Step.next ()∧yL f.clauses p| .ret st=>st=Step.done false∧¬yL f.clauses p) (t0:=e0) rfl ⟨by simpa using hE0,by simp⟩ (by
   rintro k e hk ⟨h1,h2⟩
   obtain⟨c,hc⟩:=bM hk
   have hcm:=hp c (bP hc)
   have hFk:∀d∈f.clauses++p.take k,uK f.vars d:=fun d hd=>by
    rcases List.mem_append.1 hd with hd|hd
    ·exact hF d hd
    exact hp d (List.mem_of_mem_take hd)
   have hlk:(f.clauses++p.take k).length≤1000000:=by rw[List.length_append,List.length_take];omega
   obtain⟨r,e',hr,he',hiff⟩:=follows_ok hn hlk hFk h1 hcm
   have hacc:yL f.clauses p↔Fails (f.clauses++p.take k) (uS c)∧yL (f.clauses++p.take (k+1)) (p.drop (k+1)):=by
    rw[h2,wI hc,dN hc,←List.append_assoc];exact Iff.rfl
   simp only[kY,ltB hk,if_true,bY hc,bsm]
   rw[show(PEng.mk e.value e.trail e.head e.watches e.fails)=e from rfl,hr,bsm]
   cases r with
   |false=>
    refine Or.inr ⟨.ret (Step.done false),?_,rfl,fun h=>?_⟩
    ·simp only[yieldM,jF,Bool.not_false,if_true,bsm,Step.more,Bool.or_true]
    have:=hiff.2 (hacc.1 h).1
    cases this
   |true=>
    obtain⟨e'',h3,h4⟩:=add_ok hn hlk he' hcm
    rw[List.append_assoc,←dN hc] at h4
    refine Or.inl ⟨e'',?_,h4,?_⟩
    ·simp only[yieldM,jF,Bool.not_true,if_false,Bool.false_eq_true,bsm,Step.more,Bool.or_false,h3,iH hk (show p.length≤9223372036854775807 by omega)]
    rw[hacc];exact⟨fun h=>h.2,fun h=>⟨hiff.1 rfl,h⟩⟩) (by
   rintro e ⟨h1,h2⟩
   refine⟨.brk (e.head,e.fails,e.value,e.trail,e.watches,Step.next ()),?_,rfl,h2.2 (by rw[List.drop_length];trivial)⟩
   simp only[kY,qZ,if_false,Bool.false_eq_true])
 rw[hb,bsm]
 cases b with
 |brk s=>
  obtain⟨h1,h2⟩:=hpost
  simp only
  rw[bsm,h1,I5.2 ⟨hg,h2⟩]
 |ret st=>
  obtain⟨rfl,h2⟩:=hpost
  simp only
  rw[bsm]
  cases hb:accB f.clauses p with
  |true=>exact absurd (I5.1 hb).2 h2
  |false=>rfl
def sn (m:List (Int×Bool)) (v:Int):Prop:=(oL m v).getD false=true
theorem sn_put {m:List (Int×Bool)} {v x:Int}:sn (wO m v true) x↔x=v∨sn m x:=by
 unfold sn
 rw[mget_mput]
 by_cases e:x=v
 ·simp[e]
 simp[e]
theorem sn_nil (v:Int):¬sn [] v:=by unfold sn;simp[oL]
structure Marks (st trail:List Int) (out:List Int) (m:List (Int×Bool)):Prop where
 tl:∃rest,out=0::rest
 a:∀v,sn m v→∃k x,trail[k]?=some x∧vr x=v∧lvl st k≠0∧(lvl st k≠st.length→ -x∈out.tail)
 b:∀y∈out.tail,∃k:Nat,trail[k]?=some (-y)∧lvl st k≠0∧lvl st k≠st.length∧sn m (vr y)
 nd:(out.map vr).Nodup
section
variable {n:Int} {F:List (List Int)} {st:List Int} {D:Nat→Int→Prop} {val lev:List Int} {rea:List (Option Nat)} {trail:List Int} {ws:List (List Nat)} {cl:List (List Int)}
theorem Cor.lvAt (h:Cor n F st D val lev rea trail ws cl) {k:Nat} {y:Int} (hk:trail[k]?=some (-y)):idx lev (vr y)=some (lvl st k):=by
 have:=h.lv k _ hk
 rw[lZ] at this
 exact kQ (jY y) this
theorem Marks.len (h:Cor n F st D val lev rea trail ws cl) (hn:0≤n∧n≤65536) {out:List Int} {m:List (Int×Bool)} (hM:Marks st trail out m):out.length≤65537:=by
 obtain⟨rest,rfl⟩:=hM.tl
 have hv:∀x∈(0:Int)::rest,vr x≤n:=fun x hx=>by
  rcases List.mem_cons.1 hx with rfl|hx
  ·have:vr 0=0:=qJ.2 rfl
   omega
  obtain⟨k,hk,_⟩:=hM.b x hx
  have:=(h.lit (bP hk)).2
  rwa [lZ] at this
 have:=yD 65537 (((0:Int)::rest).map fun x=>(vr x).toNat) (by
  have h1:=hM.nd
  unfold List.Nodup at h1⊢
  rw[List.pairwise_map] at h1⊢
  refine List.Pairwise.imp (fun{a b} hne he=>hne ?_) h1
  have h2:=jY a
  have h3:=jY b
  omega) (fun x hx=>by
  obtain⟨y,hy,rfl⟩:=List.mem_map.1 hx
  have h2:=hv y hy
  have h3:=jY y
  omega)
 rwa [List.length_map] at this
set_option maxHeartbeats 1000000 in
theorem mark_loop (h:Cor n F st D val lev rea trail ws cl) (hn:0≤n∧n≤65536) {p0:Sol} (hlev:p0.level=lev) (hst:p0.starts=st) {c:List Int} (hcl:c.length≤1000000) (hc:∀y∈c,∃k:Nat,trail[k]?=some (-y)) {out:List Int} {m:List (Int×Bool)} (hM:Marks st trail out m):
  ∃r,dE (fun s:Int×List Int×List (Int×Bool)=>fU p0 c s.1 s.2.1 s.2.2) (0,out,m)=some r∧Marks st trail r.1 r.2∧(∀v,sn r.2 v↔sn m v∨∃y∈c,vr y=v∧∃k:Nat,trail[k]?=some (-y)∧lvl st k≠0):=by
 refine uA (body:=fun s:Int×List Int×List (Int×Bool)=>fU p0 c s.1 s.2.1 s.2.2) c.length (fun k (t:List Int×List (Int×Bool))=>((k:Int),t.1,t.2))
  (fun k t=>Marks st trail t.1 t.2∧∀v,sn t.2 v↔sn m v∨∃y∈c.take k,vr y=v∧∃k:Nat,trail[k]?=some (-y)∧lvl st k≠0) _ (t0:=(out,m)) rfl ⟨hM,fun v=>by simp⟩ ?_ ?_
 ·rintro k ⟨out,m'⟩ hk ⟨hM,hs⟩
  simp only at hM hs
  obtain⟨y,hy⟩:=bM hk
  obtain⟨p,hp⟩:=hc y (bP hy)
  have hyl:=h.lit (bP hp)
  rw[lZ] at hyl
  have hyb:=nM.1 hyl.2
  have hl:=h.lvAt hp
  have htk:=dN hy
  have hup:=iH hk (show c.length≤9223372036854775807 by omega)
  have hlen:=hM.len h hn
  have uniq:∀(k2:Nat) (z:Int),trail[k2]?=some (-z)→vr z=vr y→k2=p:=fun k2 z h1 h2=>h.at_ h1 hp (by rw[lZ,lZ,h2])
  have ex:∀v,(∃z∈c.take (k+1),vr z=v∧∃j:Nat,trail[j]?=some (-z)∧lvl st j≠0)↔(∃z∈c.take k,vr z=v∧∃j:Nat,trail[j]?=some (-z)∧lvl st j≠0)∨(vr y=v∧lvl st p≠0):=fun v=>by
   rw[htk]
   constructor
   ·rintro⟨z,hz,h1,j,h2,h3⟩
    rw[List.mem_append,List.mem_singleton] at hz
    rcases hz with hz|rfl
    ·exact Or.inl ⟨z,hz,h1,j,h2,h3⟩
    exact Or.inr ⟨h1,by rw[←uniq j z h2 rfl];exact h3⟩
   rintro(⟨z,hz,h1⟩|⟨h1,h2⟩)
   ·exact⟨z,List.mem_append_left _ hz,h1⟩
   exact⟨y,by simp,h1,p,hp,h2⟩
  simp only[fU,ltB hk,if_true,bY hy,bsm,xO (show -1099511627776≤y∧y≤1099511627776 by omega),hlev,hl,hst]
  by_cases hsn:sn m' (vr y)
  ·have e1:(oL m' (vr y)).getD false=true:=hsn
   simp only[e1,if_true,bsm,hup]
   refine Or.inl ⟨(out,m'),rfl,hM,fun v=>?_⟩
   rw[ex,hs]
   constructor
   ·rintro(h1|h1)
    ·exact Or.inl h1
    exact Or.inr (Or.inl h1)
   rintro(h1|h1|⟨rfl,h1⟩)
   ·exact Or.inl h1
   ·exact Or.inr h1
   exact(hs _).1 hsn
  have e1:(oL m' (vr y)).getD false=false:=Bool.eq_false_iff.2 hsn
  simp only[e1,if_false,Bool.false_eq_true,bsm]
  by_cases h0:lvl st p=0
  ·simp only[h0,decide_true,if_true,bsm,hup]
   refine Or.inl ⟨(out,m'),rfl,hM,fun v=>?_⟩
   rw[ex,hs]
   constructor
   ·rintro(h1|h1)
    ·exact Or.inl h1
    exact Or.inr (Or.inl h1)
   rintro(h1|h1|⟨_,h1⟩)
   ·exact Or.inl h1
   ·exact Or.inr h1
   exact absurd h0 h1
  simp only[h0,decide_false,if_false,Bool.false_eq_true]
  have hs':∀v,sn (wO m' (vr y) true) v↔sn m v∨∃z∈c.take (k+1),vr z=v∧∃j:Nat,trail[j]?=some (-z)∧lvl st j≠0:=fun v=>by
   rw[ex,sn_put,hs]
   constructor
   ·rintro(rfl|h1|h1)
    ·exact Or.inr (Or.inr ⟨rfl,h0⟩)
    ·exact Or.inl h1
    exact Or.inr (Or.inl h1)
   rintro(h1|h1|⟨rfl,_⟩)
   ·exact Or.inr (Or.inl h1)
   ·exact Or.inr (Or.inr h1)
   exact Or.inl rfl
  obtain⟨rest,hrest⟩:=hM.tl
  by_cases hcur:lvl st p=st.length
  ·simp only[hcur,decide_true,Bool.not_true,Bool.false_eq_true,if_false,bsm,hup]
   refine Or.inl ⟨(out,wO m' (vr y) true),rfl,⟨hM.tl,fun v hv=>?_,fun z hz=>?_,hM.nd⟩,hs'⟩
   ·rcases sn_put.1 hv with rfl|hv
    ·exact⟨p,-y,hp,lZ y,h0,fun h1=>absurd hcur h1⟩
    exact hM.a v hv
   obtain⟨j,h1,h2,h3,h4⟩:=hM.b z hz
   exact⟨j,h1,h2,h3,sn_put.2 (Or.inr h4)⟩
  simp only[hcur,decide_false,Bool.not_false,if_true,qA (show out.length+[y].length≤4294967296 by simp;omega),bsm,hup]
  have htl:(out++[y]).tail=out.tail++[y]:=by rw[hrest];rfl
  refine Or.inl ⟨(out++[y],wO m' (vr y) true),rfl,⟨⟨rest++[y],by rw[hrest];rfl⟩,fun v hv=>?_,fun z hz=>?_,?_⟩,hs'⟩
  ·show ∃k x,trail[k]?=some x∧vr x=v∧lvl st k≠0∧(lvl st k≠st.length→ -x∈(out++[y]).tail)
   rw[htl]
   rcases sn_put.1 hv with rfl|hv
   ·exact⟨p,-y,hp,lZ y,h0,fun _=>by simp⟩
   obtain⟨j,x,h1,h2,h3,h4⟩:=hM.a v hv
   exact⟨j,x,h1,h2,h3,fun h5=>List.mem_append_left _ (h4 h5)⟩
  ·have hz:z∈(out++[y]).tail:=hz
   rw[htl,List.mem_append,List.mem_singleton] at hz
   rcases hz with hz|rfl
   ·obtain⟨j,h1,h2,h3,h4⟩:=hM.b z hz
    exact⟨j,h1,h2,h3,sn_put.2 (Or.inr h4)⟩
   exact⟨p,hp,h0,hcur,sn_put.2 (Or.inl rfl)⟩
  show((out++[y]).map vr).Nodup
  rw[List.map_append,List.nodup_append]
  refine⟨hM.nd,by simp,fun a ha b hb=>?_⟩
  simp only[List.map_cons,List.map_nil,List.mem_singleton] at hb
  subst hb
  obtain⟨z,hz,rfl⟩:=List.mem_map.1 ha
  intro e
  rw[hrest] at hz
  rcases List.mem_cons.1 hz with rfl|hz
  ·rw[qJ.2 rfl] at e
   exact hyl.1 (by have:=qJ.1 e.symm;omega)
  obtain⟨j,_,_,_,h4⟩:=hM.b z (by rw[hrest];exact hz)
  exact hsn (e▸h4)
 rintro⟨out,m'⟩ ⟨h1,h2⟩
 rw[List.take_length] at h2
 refine⟨(out,m'),?_,h1,h2⟩
 simp only[fU,qZ,if_false,Bool.false_eq_true]
theorem search_ok (h:Cor n F st D val lev rea trail ws cl) (hn:0≤n∧n≤65536) {p0:Sol} (htr:p0.trail=trail) {b3:List Int×List (Int×Bool)}:∀(a:Nat),a≤trail.length→(∃(k:Nat) (x:Int),k<a∧trail[k]?=some x∧sn b3.2 (vr x))→
  ∃(k:Nat) (x:Int),dE (fun s=>iI p0 b3 s) ((a:Int)-1)=some (k:Int)∧k<a∧trail[k]?=some x∧sn b3.2 (vr x)∧∀(j:Nat) (y:Int),k<j→j<a→trail[j]?=some y→¬sn b3.2 (vr y)
 |0,_,⟨k,_,hk,_⟩=>by omega
 |a+1,ha,hex=>by
  have htl:=h.eng.trailLen hn.1
  obtain⟨x,hx⟩:=bM (show a<trail.length by omega)
  have hxl:=h.lit (bP hx)
  have hxb:=nM.1 hxl.2
  have e0:(((a+1:Nat):Int)-1)=(a:Int):=by omega
  rw[e0]
  have hi:idx p0.trail (a:Int)=some x:=by rw[htr];exact bY hx
  by_cases hs:sn b3.2 (vr x)
  ·refine⟨a,x,eQ ?_,by omega,hx,hs,fun j y h1 h2=>by omega⟩
   have e1:(oL b3.2 (vr x)).getD false=true:=hs
   simp only[iI,hi,bsm,xO (show -1099511627776≤x∧x≤1099511627776 by omega),e1,Bool.not_true,Bool.false_eq_true,if_false]
  have e1:(oL b3.2 (vr x)).getD false=false:=Bool.eq_false_iff.2 hs
  obtain⟨k,y,h1,h2,h3,h4,h5⟩:=search_ok h hn htr a (by omega) (by
   obtain⟨k,y,h1,h2,h3⟩:=hex
   refine⟨k,y,?_,h2,h3⟩
   by_cases e:k=a
   ·subst e;rw[hx] at h2;exact absurd (Option.some.inj h2▸h3) hs
   omega)
  refine⟨k,y,?_,by omega,h3,h4,fun j z hj1 hj2 hz=>?_⟩
  ·rw[iC (s':=(a:Int)-1) ?_]
   ·exact h1
   simp only[iI,hi,bsm,xO (show -1099511627776≤x∧x≤1099511627776 by omega),e1,Bool.not_false,if_true]
   rw[iV ⟨by omega,by omega⟩,bsm]
  by_cases e:j=a
  ·subst e;rw[hx] at hz;exact Option.some.inj hz▸hs
  exact h5 j z hj1 (by omega) hz
theorem others_loop {x:Int} {c:List Int} (hc:c.length≤1000000):dE (fun s:Int×List Int=>iJ x c s.1 s.2) (0,[])=some (c.filter fun y=>decide (y≠x)):=by
 obtain⟨b,hb,rfl⟩:=uA (body:=fun s:Int×List Int=>iJ x c s.1 s.2) (s0:=(0,[])) c.length (fun k t=>((k:Int),t)) (fun k t=>t=(c.take k).filter fun y=>decide (y≠x)) (fun b=>b=c.filter fun y=>decide (y≠x)) (t0:=[]) rfl rfl (by
  rintro k t hk rfl
  obtain⟨y,hy⟩:=bM hk
  have htk:=dN hy
  have hup:=iH hk (show c.length≤9223372036854775807 by omega)
  have hl:((c.take k).filter fun y=>decide (y≠x)).length≤c.length:=Nat.le_trans (List.length_filter_le _ _) (by rw[List.length_take];omega)
  simp only[iJ,ltB hk,if_true,bY hy,bsm]
  by_cases e:y=x
  ·simp only[e,decide_true,Bool.not_true,Bool.false_eq_true,if_false,hup,bsm]
   exact Or.inl ⟨_,rfl,by rw[htk,List.filter_append];simp[e]⟩
  ·simp only[e,decide_false,Bool.not_false,if_true,qA (show((c.take k).filter fun y=>decide (y≠x)).length+[y].length≤4294967296 by simp only[List.length_singleton];omega),hup,bsm]
   exact Or.inl ⟨_,rfl,by rw[htk,List.filter_append];simp[e]⟩) (by
  rintro t rfl
  rw[List.take_length]
  refine⟨_,?_,rfl⟩
  simp only[iJ,qZ,if_false,Bool.false_eq_true])
 exact hb
end
structure Ana (n:Int) (F:List (List Int)) (st trail:List Int) (cl:List (List Int)) (c0:List Int) (a:Nat) (lits out:List Int) (m:List (Int×Bool)):Prop where
 al:a≤trail.length
 mks:Marks st trail out m
 lf:∀y∈lits,∃k:Nat,k<a∧trail[k]?=some (-y)
 ll:lits.length≤1000000
 cur:∃(k:Nat) (x:Int),k<a∧trail[k]?=some x∧lvl st k=st.length∧(sn m (vr x)∨ -x∈lits)
 don:∀(k:Nat) (x:Int),a≤k→trail[k]?=some x→lvl st k=st.length→sn m (vr x)→∃(id:Nat) (c:List Int),cl[id]?=some c∧x∈c∧∀y∈c,y≠x→∃j:Nat,j<k∧trail[j]?=some (-y)∧(lvl st j=0∨sn m (vr y)∨y∈lits)
 cf:∀y∈c0,∃j:Nat,trail[j]?=some (-y)∧(lvl st j=0∨sn m (vr y)∨y∈lits)
structure FinA (st trail:List Int) (cl:List (List Int)) (c0:List Int) (b:Nat) (d:Int) (out:List Int) (m:List (Int×Bool)):Prop where
 mks:Marks st trail out m
 at_:trail[b]?=some d
 dec:(b:Int)∈st
 lv:lvl st b=st.length
 don:∀(k:Nat) (x:Int),b<k→trail[k]?=some x→lvl st k=st.length→sn m (vr x)→∃(id:Nat) (c:List Int),cl[id]?=some c∧x∈c∧∀y∈c,y≠x→∃j:Nat,j<k∧trail[j]?=some (-y)∧(lvl st j=0∨sn m (vr y))
 cf:∀y∈c0,∃j:Nat,trail[j]?=some (-y)∧(lvl st j=0∨sn m (vr y))
section
variable {n:Int} {F:List (List Int)} {st:List Int} {D:Nat→Int→Prop} {val lev:List Int} {rea:List (Option Nat)} {trail:List Int} {ws:List (List Nat)} {cl:List (List Int)}
theorem round_parts (h:Cor n F st D val lev rea trail ws cl) (hn:0≤n∧n≤65536) {p0:Sol} (hlev:p0.level=lev) (hst:p0.starts=st) (htr:p0.trail=trail) (hrea:p0.reason=rea) (hcl:p0.watches.2=cl) (hs0:st≠[]) {c0:List Int} {a:Nat} {lits out:List Int} {m:List (Int×Bool)} (hA:Ana n F st trail cl c0 a lits out m):
  ∃(r1:List Int×List (Int×Bool)) (k:Nat) (x:Int) (r:Option Nat),
   dE (fun s:Int×List Int×List (Int×Bool)=>fU p0 lits s.1 s.2.1 s.2.2) (0,out,m)=some r1∧inK .i64 ((a:Int)-1)=some ((a:Int)-1)∧
   dE (fun s=>iI p0 r1 s) ((a:Int)-1)=some (k:Int)∧idx p0.trail (k:Int)=some x∧dQ x=some (vr x)∧idx p0.reason (vr x)=some r∧k<a∧
   ((r=none∧FinA st trail cl c0 k x r1.1 r1.2)∨∃id c,r=some id∧p0.watches.2[id]?=some c∧c.length≤1000000∧Ana n F st trail cl c0 k (c.filter fun y=>decide (y≠x)) r1.1 r1.2):=by
 have htl:=h.eng.trailLen hn.1
 obtain⟨r1,e1,hM,hsn⟩:=mark_loop h hn hlev hst hA.ll (fun y hy=>by obtain⟨k,_,hk⟩:=hA.lf y hy;exact⟨k,hk⟩) hA.mks
 have hup:∀v,sn m v→sn r1.2 v:=fun v hv=>(hsn v).2 (Or.inl hv)
 have hlen0:(0:Int)<st.length:=by
  cases st with
  |nil=>exact absurd rfl hs0
  |cons b t=>simp
 have hseen:∀y∈lits,∀j:Nat,trail[j]?=some (-y)→lvl st j=0∨sn r1.2 (vr y):=fun y hy j hj=>by
  by_cases h0:lvl st j=0
  ·exact Or.inl h0
  exact Or.inr ((hsn _).2 (Or.inr ⟨y,hy,rfl,j,hj,h0⟩))
 obtain⟨kc,xc,hkc,hxc,hlc,hoc⟩:=hA.cur
 have hcs:sn r1.2 (vr xc):=by
  rcases hoc with h1|h1
  ·exact hup _ h1
  rcases hseen _ h1 kc (by rw[Int.neg_neg];exact hxc) with h2|h2
  ·omega
  rwa [lZ] at h2
 have i1:inK .i64 ((a:Int)-1)=some ((a:Int)-1):=iV ⟨by omega,by have:=hA.al;omega⟩
 obtain⟨k,x,e2,hka,hx,hsx,hno⟩:=search_ok h hn htr (b3:=r1) a hA.al ⟨kc,xc,hkc,hxc,hcs⟩
 have hxl:=h.lit (bP hx)
 have hxb:=nM.1 hxl.2
 have hkk:kc≤k:=by
  rcases Nat.lt_or_ge k kc with h1|h1
  ·exact absurd hcs (hno kc xc h1 hkc hxc)
  exact h1
 have hlk:lvl st k=st.length:=by
  have h1:=lvl_mono st hkk
  have h2:=lvl_le st k
  omega
 obtain⟨r,hr⟩:=bM (show(vr x).toNat<rea.length by have:=h.rl;have:=jY x;omega)
 have hwhy:=h.re k x r hx hr
 refine⟨r1,k,x,r,e1,i1,e2,by rw[htr];exact bY hx,xO ⟨by omega,by omega⟩,by rw[hrea];exact kQ (jY x) hr,hka,?_⟩
 have don:∀(j:Nat) (z:Int),k<j→trail[j]?=some z→lvl st j=st.length→sn r1.2 (vr z)→∃(id:Nat) (c:List Int),cl[id]?=some c∧z∈c∧∀y∈c,y≠z→∃i:Nat,i<j∧trail[i]?=some (-y)∧(lvl st i=0∨sn r1.2 (vr y)):=fun j z h1 h2 h3 h4=>by
  rcases Nat.lt_or_ge j a with h5|h5
  ·exact absurd h4 (hno j z h1 h5 h2)
  have h6:sn m (vr z):=by
   rcases(hsn _).1 h4 with h6|⟨y,hy,h6,i,hi,_⟩
   ·exact h6
   obtain⟨q,hq,hq2⟩:=hA.lf y hy
   have:=h.at_ hq2 h2 (by rw[lZ,h6])
   omega
  obtain⟨id,c,g1,g2,g3⟩:=hA.don j z h5 h2 h3 h6
  refine⟨id,c,g1,g2,fun y hy hne=>?_⟩
  obtain⟨i,i1,i2,i3⟩:=g3 y hy hne
  refine⟨i,i1,i2,?_⟩
  rcases i3 with i3|i3|i3
  ·exact Or.inl i3
  ·exact Or.inr (hup _ i3)
  exact hseen y i3 i i2
 have cf:∀y∈c0,∃j:Nat,trail[j]?=some (-y)∧(lvl st j=0∨sn r1.2 (vr y)):=fun y hy=>by
  obtain⟨j,j1,j2⟩:=hA.cf y hy
  refine⟨j,j1,?_⟩
  rcases j2 with j2|j2|j2
  ·exact Or.inl j2
  ·exact Or.inr (hup _ j2)
  exact hseen y j2 j j1
 cases r with
 |none=>
  refine Or.inl ⟨rfl,hM,hx,?_,hlk,don,cf⟩
  rcases hwhy with h1|⟨h1,_⟩
  ·exact h1
  omega
 |some id=>
  obtain⟨c,h1,h2,h3,y1,h4,h5,j1,h6,h7⟩:=hwhy
  have hcn:=h.eng.clLen hn h1
  refine Or.inr ⟨id,c,rfl,by rw[hcl];exact h1,by omega,by have:=hA.al;omega,hM,fun y hy=>?_,Nat.le_trans (List.length_filter_le _ _) (by omega),?_,fun j z g1 g2 g3 g4=>?_,fun y hy=>?_⟩
  ·rw[List.mem_filter] at hy
   obtain⟨i,hi⟩:=List.getElem?_of_mem (h3 y hy.1 (by simpa using hy.2))
   rw[List.getElem?_take] at hi
   split at hi
   ·exact⟨i,by assumption,hi⟩
   cases hi
  ·obtain⟨i,hi⟩:=List.getElem?_of_mem (h3 y1 h4 h5)
   rw[List.getElem?_take] at hi
   split at hi
   ·rename_i hik
    have e:i=j1:=h.at_ hi h6 rfl
    subst e
    exact⟨i,-y1,hik,hi,by rw[h7,hlk],Or.inr (by rw[Int.neg_neg,List.mem_filter];exact⟨h4,by simpa using h5⟩)⟩
   cases hi
  ·rcases Nat.lt_or_ge k j with g5|g5
   ·obtain⟨id',c',k1,k2,k3⟩:=don j z g5 g2 g3 g4
    refine⟨id',c',k1,k2,fun y hy hne=>?_⟩
    obtain⟨i,i1,i2,i3⟩:=k3 y hy hne
    exact⟨i,i1,i2,i3.elim Or.inl fun i3=>Or.inr (Or.inl i3)⟩
   have e:j=k:=by omega
   subst e
   obtain rfl:=Option.some.inj (g2.symm.trans hx)
   refine⟨id,c,h1,h2,fun y hy hne=>?_⟩
   obtain⟨i,hi⟩:=List.getElem?_of_mem (h3 y hy hne)
   rw[List.getElem?_take] at hi
   split at hi
   ·rename_i hij
    exact⟨i,hij,hi,Or.inr (Or.inr (by rw[List.mem_filter];exact⟨hy,by simpa using hne⟩))⟩
   cases hi
  obtain⟨j,j1,j2⟩:=cf y hy
  exact⟨j,j1,j2.elim Or.inl fun j2=>Or.inr (Or.inl j2)⟩
theorem lp5_eq (p0:Sol) (l:List Int) (i:Int) (o:List Int) (m:List (Int×Bool)):qK p0 l i o m=fU p0 l i o m:=rfl
theorem lp6_eq (p0:Sol) (b:List Int×List (Int×Bool)) (i:Int):qL p0 b i=iI p0 b i:=rfl
theorem lp7_eq (x:Int) (c:List Int) (i:Int) (o:List Int):qM x c i o=iJ x c i o:=rfl
theorem round_ok (h:Cor n F st D val lev rea trail ws cl) (hn:0≤n∧n≤65536) {p0:Sol} (hlev:p0.level=lev) (hst:p0.starts=st) (htr:p0.trail=trail) (hrea:p0.reason=rea) (hcl:p0.watches.2=cl) (hs0:st≠[]) {c0:List Int} {a:Nat} {lits out:List Int} {m:List (Int×Bool)} (hA:Ana n F st trail cl c0 a lits out m):
  (∃(k:Nat) (l2 o2:List Int) (m2:List (Int×Bool)),iK p0 (a:Int) lits out m=some (.next ((k:Int),l2,o2,m2))∧k<a∧Ana n F st trail cl c0 k l2 o2 m2)∨
  (∃(b:Nat) (d:Int) (o2:List Int) (m2:List (Int×Bool)),iK p0 (a:Int) lits out m=some (.done (lits,o2.set (0:Int).toNat (-d),m2))∧FinA st trail cl c0 b d o2 m2):=by
 obtain⟨r1,k,x,r,e1,e2,e3,e4,e5,e6,hka,hcase⟩:=round_parts h hn hlev hst htr hrea hcl hs0 hA
 have hxl:=h.lit (bP (show trail[k]?=some x by rw[htr] at e4;unfold idx at e4;rw[if_pos (by omega)] at e4;simpa using e4))
 have hxb:=nM.1 hxl.2
 unfold iK
 simp only[lp5_eq,lp6_eq,lp7_eq]
 rw[e1,bsm,e2,bsm,e3,bsm,e4,bsm,e5,bsm,e6,bsm]
 rcases hcase with⟨rfl,hF⟩|⟨id,c,rfl,h1,h2,h3⟩
 ·obtain⟨rest,hrest⟩:=hF.mks.tl
  rw[if_pos (show(none:Option Nat).isNone=true from rfl),oZ (show 0-x= -x by omega) ⟨by omega,by omega⟩,bsm,hrest,show idx (0::rest) 0=some 0 from rfl,bsm]
  rw[←hrest]
  exact Or.inr ⟨k,x,r1.1,r1.2,rfl,hF⟩
 rw[if_neg (by simp),bsm,e6,bsm,bsm,h1,bsm,others_loop h2,bsm]
 exact Or.inl ⟨k,_,_,_,rfl,hka,h3⟩
theorem rounds_ok (h:Cor n F st D val lev rea trail ws cl) (hn:0≤n∧n≤65536) {p0:Sol} (hlev:p0.level=lev) (hst:p0.starts=st) (htr:p0.trail=trail) (hrea:p0.reason=rea) (hcl:p0.watches.2=cl) (hs0:st≠[]) {c0:List Int} {a:Nat} {lits out:List Int} {m:List (Int×Bool)} (hA:Ana n F st trail cl c0 a lits out m):
  ∃r,dE (fun s:Int×List Int×List Int×List (Int×Bool)=>iK p0 s.1 s.2.1 s.2.2.1 s.2.2.2) ((a:Int),lits,out,m)=some r∧∃(b:Nat) (d:Int) (o2:List Int) (m2:List (Int×Bool)),r.2=(o2.set (0:Int).toNat (-d),m2)∧FinA st trail cl c0 b d o2 m2:=by
 refine xA (body:=fun s:Int×List Int×List Int×List (Int×Bool)=>iK p0 s.1 s.2.1 s.2.2.1 s.2.2.2) (fun s=>∃a:Nat,s.1=a∧Ana n F st trail cl c0 a s.2.1 s.2.2.1 s.2.2.2) (fun s=>s.1.toNat) _ ?_ _ ⟨a,rfl,hA⟩
 rintro⟨a',lits,out,m⟩ ⟨a,rfl,hA⟩
 rcases round_ok h hn hlev hst htr hrea hcl hs0 hA with⟨k,l2,o2,m2,h1,h2,h3⟩|⟨b,d,o2,m2,h1,h2⟩
 ·refine Or.inl ⟨_,h1,⟨k,rfl,h3⟩,?_⟩
  show((k:Int)).toNat<((a:Int)).toNat
  omega
 exact Or.inr ⟨_,h1,b,d,o2,m2,rfl,h2⟩
theorem first_ok (h:Cor n F st D val lev rea trail ws cl) (hn:0≤n∧n≤65536) {p0:Sol} (hlev:p0.level=lev) (hst:p0.starts=st) (htr:p0.trail=trail) (hrea:p0.reason=rea) (hcl:p0.watches.2=cl) (hs0:st≠[]) {id:Nat} (hc:Clash st trail cl id):
  ∃(c0:List Int) (b:Nat) (d:Int) (o2:List Int) (m2:List (Int×Bool)),cl[id]?=some c0∧FinA st trail cl c0 b d o2 m2∧lK p0 (some id)=(dE (fun s:Int×Int×List Int=>iL p0 s.1 s.2.1 s.2.2) (0,1,o2.set (0:Int).toNat (-d)):Option (Int×List Int)).bind fun b32=>some (b32.2,b32.1):=by
 obtain⟨c0,h1,h2,y0,h3,k0,h4,h5⟩:=hc.ex
 have hcn:=h.eng.clLen hn h1
 have hA:Ana n F st trail cl c0 trail.length c0 [0] []:=by
  refine⟨Nat.le_refl _,⟨⟨[],rfl⟩,fun v hv=>absurd hv (sn_nil v),by simp,by simp⟩,fun y hy=>?_,by omega,⟨k0,-y0,dB h4,h4,h5,Or.inr (by rw[Int.neg_neg];exact h3)⟩,fun k x hk hx=>(by rw[List.getElem?_eq_none hk] at hx;cases hx),fun y hy=>?_⟩
  ·obtain⟨k,hk⟩:=List.getElem?_of_mem (h2 y hy)
   exact⟨k,dB hk,hk⟩
  obtain⟨k,hk⟩:=List.getElem?_of_mem (h2 y hy)
  exact⟨k,hk,Or.inr (Or.inr hy)⟩
 obtain⟨r1,k,x,r,e1,e2,e3,e4,e5,e6,hka,hcase⟩:=round_parts h hn hlev hst htr hrea hcl hs0 hA
 have hxl:=h.lit (bP (show trail[k]?=some x by rw[htr] at e4;unfold idx at e4;rw[if_pos (by omega)] at e4;simpa using e4))
 have hxb:=nM.1 hxl.2
 unfold lK
 rw[bsm,hcl,h1,bsm,e1,bsm,htr,e2,bsm,e3,bsm,←htr,e4,bsm,e5,bsm,e6,bsm]
 rcases hcase with⟨rfl,hF⟩|⟨id',c,rfl,g1,g2,g3⟩
 ·obtain⟨rest,hrest⟩:=hF.mks.tl
  rw[if_pos (show(none:Option Nat).isNone=true from rfl),oZ (show 0-x= -x by omega) ⟨by omega,by omega⟩,bsm,hrest,show idx (0::rest) 0=some 0 from rfl,bsm,bsm]
  rw[←hrest]
  exact⟨c0,k,x,r1.1,r1.2,rfl,by rw[htr];exact hF,rfl⟩
 obtain⟨r,q1,b,d,o2,m2,q2,q3⟩:=rounds_ok h hn hlev hst htr hrea hcl hs0 g3
 rw[←hcl] at*
 rw[if_neg (by simp),bsm,e6,bsm,bsm,g1,bsm,others_loop g2,bsm,q1,bsm,bsm]
 refine⟨c0,b,d,o2,m2,rfl,by rw[htr];exact q3,?_⟩
 rw[q2]
end
structure Learned (n:Int) (F:List (List Int)) (st trail q:List Int) (back:Int):Prop where
 hd:∃(d:Int) (b:Nat),trail[b]?=some d∧(b:Int)∈st∧lvl st b=st.length∧q[0]?=some (-d)
 lit:∀y∈q,y≠0∧vr y≤n∧ -y∈trail
 nd:q.Nodup
 rup:Fails F (uS q)
 bk:0≤back∧back<st.length
 one:q.length≤1→back=0
 lo:∀(j:Nat) (y:Int),1≤j→q[j]?=some y→∃k:Nat,trail[k]?=some (-y)∧lvl st k≤back
 hi:1<q.length→∃(y:Int) (k:Nat),q[1]?=some y∧trail[k]?=some (-y)∧lvl st k=back
section
variable {n:Int} {F:List (List Int)} {st:List Int} {D:Nat→Int→Prop} {val lev:List Int} {rea:List (Option Nat)} {trail:List Int} {ws:List (List Nat)} {cl:List (List Int)}
theorem back_loop {p0:Sol} (hlev:p0.level=lev) {lf:Int→Int} {e:Int} {rest:List Int} (hlf:∀y∈e::rest,idx lev (vr y)=some (lf y)∧0<lf y∧ -1099511627776≤y∧y≤1099511627776) (hl:rest.length≤1000000):
  ∃r,dE (fun s:Int×Int×List Int=>iL p0 s.1 s.2.1 s.2.2) (0,1,e::rest)=some r∧r.2.Perm (e::rest)∧r.2[0]?=some e∧0≤r.1∧(rest=[]→r.1=0)∧(rest≠[]→∃y,r.2[1]?=some y∧lf y=r.1)∧∀(j:Nat) y,1≤j→r.2[j]?=some y→lf y≤r.1:=by
 refine uA (body:=fun s:Int×Int×List Int=>iL p0 s.1 s.2.1 s.2.2) rest.length (fun k (t:Int×List Int)=>(t.1,((k+1:Nat):Int),t.2))
  (fun k t=>t.2.Perm (e::rest)∧t.2[0]?=some e∧0≤t.1∧(k=0→t.1=0)∧(0<k→∃y,t.2[1]?=some y∧lf y=t.1)∧∀(j:Nat) y,1≤j→j≤k→t.2[j]?=some y→lf y≤t.1) _ (t0:=(0,e::rest)) rfl ⟨.refl _,rfl,Int.le_refl _,fun _=>rfl,fun h=>absurd h (by omega),fun j y h1 h2=>by omega⟩ ?_ ?_
 ·rintro k ⟨back,q⟩ hk ⟨hp,h0,hb,hz,h1,hle⟩
  simp only at hp h0 hb hz h1 hle
  have hql:q.length=rest.length+1:=by rw[hp.length_eq];rfl
  have hi:k+1<q.length:=by omega
  obtain⟨y,hy⟩:=bM hi
  obtain⟨y1,hy1⟩:=bM (show 1<q.length by omega)
  have hym:=hlf y (hp.mem_iff.1 (bP hy))
  have hup:=iH hi (show q.length≤9223372036854775807 by omega)
  have hi1:idx q 1=some y1:=kQ (by decide) hy1
  simp only[iL,ltB hi,if_true,bY hy,bsm,xO hym.2.2,hlev,hym.1]
  by_cases hlt:back<lf y
  ·have hset:(q.set 1 y)[k+1]?=some (if k=0 then y else y):=by
    by_cases e0:k=0
    ·subst e0;rw[if_pos rfl];exact dO hy1
    rw[if_neg e0,dA (by omega)];exact hy
   have hset':(q.set 1 y)[k+1]?=some y:=by rw[hset];split<;>rfl
   have hset2:idx (q.set (1:Int).toNat y) ((k+1:Nat):Int)=some y:=bY hset'
   simp only[hlt,decide_true,if_true,hi1,bsm,hset2,hup]
   refine Or.inl ⟨(lf y,(q.set 1 y).set (k+1) y1),by rw[Int.toNat_natCast];rfl,?_,?_,by show 0≤lf y;omega,fun e=>absurd e (by omega),fun _=>?_,fun j z hj1 hj2 hz=>?_⟩
   ·obtain⟨g1,rfl⟩:=List.getElem?_eq_some_iff.1 hy1
    obtain⟨g2,rfl⟩:=List.getElem?_eq_some_iff.1 hy
    exact(List.set_set_perm g1 g2).trans hp
   ·show((q.set 1 y).set (k+1) y1)[0]?=some e
    rw[dA (by omega),dA (by omega)];exact h0
   ·show ∃z,((q.set 1 y).set (k+1) y1)[1]?=some z∧lf z=lf y
    by_cases e0:k=0
    ·subst e0
     obtain rfl:=Option.some.inj (hy1.symm.trans hy)
     exact⟨y1,dO hset',rfl⟩
    rw[dA (by omega)]
    exact⟨y,dO hy1,rfl⟩
   have hz:((q.set 1 y).set (k+1) y1)[j]?=some z:=hz
   show lf z≤lf y
   by_cases ej:j=k+1
   ·subst ej
    rw[dO hset'] at hz
    obtain rfl:=Option.some.inj hz
    by_cases e0:k=0
    ·subst e0
     obtain rfl:=Option.some.inj (hy1.symm.trans hy)
     exact Int.le_refl _
    obtain⟨z,g1,g2⟩:=h1 (by omega)
    obtain rfl:=Option.some.inj (hy1.symm.trans g1)
    omega
   rw[dA ej] at hz
   by_cases e1:j=1
   ·subst e1
    rw[dO hy1] at hz
    obtain rfl:=Option.some.inj hz
    exact Int.le_refl _
   rw[dA e1] at hz
   have:=hle j z hj1 (by omega) hz
   omega
  simp only[hlt,decide_false,if_false,Bool.false_eq_true,hup,bsm]
  refine Or.inl ⟨(back,q),rfl,hp,h0,hb,fun e=>absurd e (by omega),fun _=>?_,fun j z hj1 hj2 hz=>?_⟩
  ·by_cases e0:k=0
   ·have:=hz e0
    omega
   exact h1 (by omega)
  by_cases ej:j=k+1
  ·subst ej
   obtain rfl:=Option.some.inj (hy.symm.trans hz)
   show lf y≤back
   omega
  exact hle j z hj1 (by omega) hz
 rintro⟨back,q⟩ ⟨hp,h0,hb,hz,h1,hle⟩
 simp only at hp h0 hb hz h1 hle
 have hql:q.length=rest.length+1:=by rw[hp.length_eq];rfl
 refine⟨(back,q),?_,hp,h0,hb,fun e=>hz (by rw[e];rfl),fun hne=>h1 (List.length_pos_iff.2 hne),fun j y hj hy=>hle j y hj (by have:j<q.length:=dB hy;omega) hy⟩
 simp only[iL]
 rw[if_neg (by rw[hql];simp)]
theorem slearn_ok (h:Cor n F st D val lev rea trail ws cl) (hn:0≤n∧n≤65536) {p0:Sol} (hlev:p0.level=lev) (hst:p0.starts=st) (htr:p0.trail=trail) (hrea:p0.reason=rea) (hcl:p0.watches.2=cl) (hs0:st≠[]) {id:Nat} (hc:Clash st trail cl id):
  ∃q back,lK p0 (some id)=some (q,back)∧Learned n F st trail q back:=by
 obtain⟨c0,b,d,o2,m2,h1,hF,h2⟩:=first_ok h hn hlev hst htr hrea hcl hs0 hc
 rw[h2]
 obtain⟨rest,hrest⟩:=hF.mks.tl
 have hset:o2.set (0:Int).toNat (-d)= -d::rest:=by rw[hrest];rfl
 rw[hset]
 have hlen:=hF.mks.len h hn
 rw[hrest] at hlen
 have htlr:o2.tail=rest:=by rw[hrest];rfl
 have hpos:(0:Int)<st.length:=by
  cases st with
  |nil=>exact absurd rfl hs0
  |cons b t=>simp
 have hdl:=h.lit (bP hF.at_)
 have hrl:∀y∈rest,∃k:Nat,trail[k]?=some (-y)∧lvl st k≠0∧lvl st k≠st.length∧sn m2 (vr y):=fun y hy=>hF.mks.b y (by rw[htlr];exact hy)
 have hall:∀y∈ -d::rest,∃k:Nat,trail[k]?=some (-y)∧0<lvl st k∧(y∈rest→lvl st k<st.length):=fun y hy=>by
  rcases List.mem_cons.1 hy with rfl|hy
  ·exact⟨b,by rw[Int.neg_neg];exact hF.at_,by rw[hF.lv];exact hpos,fun hm=>by
    obtain⟨k,k1,k2,k3,_⟩:=hrl _ hm
    rw[Int.neg_neg] at k1
    have:=h.at_ k1 hF.at_ rfl
    subst this
    exact absurd hF.lv k3⟩
  obtain⟨k,k1,k2,k3,_⟩:=hrl y hy
  refine⟨k,k1,?_,fun _=>?_⟩
  ·have:=lvl_nn st k;omega
  have:=lvl_le st k;omega
 have hdr: -d∉rest:=fun hm=>by
  obtain⟨k,k1,k2,k3,_⟩:=hrl _ hm
  rw[Int.neg_neg] at k1
  have:=h.at_ k1 hF.at_ rfl
  subst this
  exact k3 hF.lv
 have hnd:(-d::rest).Nodup:=by
  refine List.nodup_cons.2 ⟨hdr,?_⟩
  have h3:=hF.mks.nd
  rw[hrest,List.map_cons,List.nodup_cons] at h3
  have h4:=h3.2
  unfold List.Nodup at h4⊢
  rw[List.pairwise_map] at h4
  exact List.Pairwise.imp (fun{a b} hne he=>hne (by rw[he])) h4
 let lf:Int→Int:=fun y=>(idx lev (vr y)).getD 0
 have hlfk:∀y k,trail[k]?=some (-y)→lf y=lvl st k:=fun y k hk=>by show(idx lev (vr y)).getD 0=_;rw[h.lvAt hk];rfl
 obtain⟨⟨back,q⟩,e1,hp,hq0,hb0,hbz,hb1,hble⟩:=back_loop (p0:=p0) hlev (lf:=lf) (e:= -d) (rest:=rest) (fun y hy=>by
  obtain⟨k,k1,k2,_⟩:=hall y hy
  have hyl:=h.lit (bP k1)
  rw[lZ] at hyl
  have:=nM.1 hyl.2
  exact⟨by rw[hlfk y k k1];exact h.lvAt k1,by rw[hlfk y k k1];exact k2,by omega,by omega⟩) (by simp at hlen;omega)
 simp only at hp hq0 hb0 hbz hb1 hble
 rw[e1,bsm]
 have hqn:q.Nodup:=hp.nodup_iff.2 hnd
 have hqm:∀y,y∈q↔y∈ -d::rest:=fun y=>hp.mem_iff
 have hql:q.length=rest.length+1:=by rw[hp.length_eq];rfl
 have htail:∀(j:Nat) y,1≤j→q[j]?=some y→y∈rest:=fun j y hj hy=>by
  rcases List.mem_cons.1 ((hqm y).1 (bP hy)) with rfl|hm
  ·have:=pI hqn hy hq0;omega
  exact hm
 refine⟨q,back,rfl,⟨d,b,hF.at_,hF.dec,hF.lv,hq0⟩,fun y hy=>?_,hqn,?_,⟨hb0,?_⟩,fun h1=>hbz (List.eq_nil_of_length_eq_zero (by omega)),fun j y hj hy=>?_,fun h1=>?_⟩
 ·obtain⟨k,k1,_⟩:=hall y ((hqm y).1 hy)
  have hyl:=h.lit (bP k1)
  rw[lZ] at hyl
  exact⟨by omega,hyl.2,bP k1⟩
 ·
  have up:∀(k:Nat) (x:Int),trail[k]?=some x→(lvl st k=0∨sn m2 (vr x))→UP F (uS q) x:=by
   intro k
   induction k using Nat.strongRecOn with
   |ind k ih=>
    intro x hx hor
    rcases hor with h0|hs
    ·exact(h.up0 k hx h0).mono (fun _ h=>h) (by simp)
    by_cases hcur:lvl st k=st.length
    ·rcases Nat.lt_trichotomy k b with hkb|hkb|hkb
     ·
      have:=lvl_mono st (Nat.le_of_lt hkb)
      obtain⟨i,hi⟩:=List.getElem?_of_mem hF.dec
      have h3:=lvl_lt' h.sts hi (show(k:Int)<(b:Int) by omega)
      have:=dB hi
      omega
     ·subst hkb
      obtain rfl:=Option.some.inj (hx.symm.trans hF.at_)
      refine .start ?_
      have:=Z8.2 ((hqm _).2 (List.mem_cons_self ..))
      rwa [Int.neg_neg] at this
     obtain⟨id',c,g1,g2,g3⟩:=hF.don k x hkb hx hcur hs
     obtain⟨o,ho,k1,k2⟩:=h.eng.src id' c g1
     refine .unit (mem_big.1 ho).1 (k1 x g2) fun y hy hne=>?_
     have hyc:y∈c:=Classical.byContradiction fun hn=>by have:=k2 y hy hn;simp at this
     obtain⟨j,j1,j2,j3⟩:=g3 y hyc hne
     exact ih j j1 (-y) j2 (by rw[lZ];exact j3)
    obtain⟨k',x',g1,g2,g3,g4⟩:=hF.mks.a _ hs
    have e:=h.at_ g1 hx g2
    subst e
    obtain rfl:=Option.some.inj (g1.symm.trans hx)
    have h5:=g4 hcur
    rw[htlr] at h5
    refine .start ?_
    have:=Z8.2 ((hqm _).2 (List.mem_cons_of_mem _ h5))
    rwa [Int.neg_neg] at this
  obtain⟨o,ho,k1,k2⟩:=h.eng.src id c0 h1
  refine Or.inr ⟨o,(mem_big.1 ho).1,fun y hy=>?_⟩
  have hyc:y∈c0:=Classical.byContradiction fun hn=>by have:=k2 y hy hn;simp at this
  obtain⟨j,j1,j2⟩:=hF.cf y hyc
  exact up j (-y) j1 (by rw[lZ];exact j2)
 ·by_cases hr:rest=[]
  ·rw[hbz hr];exact hpos
  obtain⟨y,y1,y2⟩:=hb1 hr
  have hm:=htail 1 y (by omega) y1
  obtain⟨k,k1,k2,k3⟩:=hall y (List.mem_cons_of_mem _ hm)
  rw[←y2,hlfk y k k1]
  exact k3 hm
 ·have hm:=htail j y hj hy
  obtain⟨k,k1,k2,k3⟩:=hall y (List.mem_cons_of_mem _ hm)
  exact⟨k,k1,by rw[←hlfk y k k1];exact hble j y hj hy⟩
 have hr:rest≠[]:=fun e=>by rw[e] at hql;simp at hql;omega
 obtain⟨y,y1,y2⟩:=hb1 hr
 obtain⟨k,k1,_⟩:=hall y ((hqm y).1 (bP y1))
 exact⟨y,k,y1,k1,by rw[←hlfk y k k1];exact y2⟩
end
theorem swap_ok {q:Que} {i j:Nat} (hi:i<q.list.length) (hj:j<q.list.length):∃l',iT q (i:Int) (j:Int)=some (Que.mk l' q.isin)∧l'.Perm q.list:=by
 obtain⟨a,ha⟩:=bM hi
 obtain⟨b,hb⟩:=bM hj
 have h3:(q.list.set i b)[j]?=some (if j=i then b else b):=by
  by_cases e:j=i
  ·subst e;rw[if_pos rfl];exact dO hb
  rw[if_neg e,dA e];exact hb
 have h3':(q.list.set i b)[j]?=some b:=by rw[h3];split<;>rfl
 unfold iT
 rw[bY hb,bsm,bY ha,bsm,bsm,Int.toNat_natCast,bY h3',bsm,Int.toNat_natCast]
 refine⟨_,rfl,?_⟩
 obtain⟨g1,rfl⟩:=List.getElem?_eq_some_iff.1 ha
 obtain⟨g2,rfl⟩:=List.getElem?_eq_some_iff.1 hb
 exact List.set_set_perm g1 g2
theorem less_ok {q:Que} {i j:Nat} (hi:i<q.list.length) (hj:j<q.list.length):∃b,jP q (i:Int) (j:Int)=some b:=by
 obtain⟨a,ha⟩:=bM hi
 obtain⟨b,hb⟩:=bM hj
 unfold jP
 rw[bY ha,bsm,bY hb,bsm]
 exact⟨_,rfl⟩
theorem up_ok {l:List Int} {isin:List Bool} {j:Nat} (hj:j<l.length) (hl:l.length≤1000000):∃l',L8 (Que.mk l isin) (j:Int)=some (Que.mk l' isin)∧l'.Perm l:=by
 unfold L8
 obtain⟨b,hb,hp,hi⟩:=xA (body:=fun s:Int×List Int×List Bool=>xK s.1 s.2.1 s.2.2) (fun s=>∃j:Nat,s.1=j∧j<s.2.1.length∧s.2.1.Perm l∧s.2.2=isin) (fun s=>s.1.toNat) (fun b=>b.1.Perm l∧b.2=isin) (by
  rintro⟨j',l1,in1⟩ ⟨j,rfl,hj,hp,rfl⟩
  simp only at hj hp
  have hl1:l1.length≤1000000:=by rw[hp.length_eq];exact hl
  unfold xK
  simp only
  rw[iV ⟨by omega,by omega⟩,bsm]
  by_cases h0:j=0
  ·subst h0
   have e:quoK .i64 (((0:Nat):Int)-1) 2=some 0:=by decide+kernel
   rw[e,bsm,if_pos (show decide ((0:Int)=((0:Nat):Int))=true from rfl),bsm,if_pos (show true=true from rfl)]
   exact Or.inr ⟨_,rfl,hp,rfl⟩
  have e:quoK .i64 ((j:Int)-1) 2=some (((j-1) / 2:Nat):Int):=by
   rw[quoK_pos (by omega) (by decide) (by omega)]
   congr 1
   omega
  rw[e,bsm,if_neg (by simp;omega)]
  obtain⟨b,hb⟩:=less_ok (q:=Que.mk l1 in1) (i:=j) (j:=(j-1) / 2) hj (show(j-1) / 2<l1.length by omega)
  rw[hb,bsm,bsm]
  cases b with
  |false=>
   rw[if_pos (show(!false)=true from rfl)]
   exact Or.inr ⟨_,rfl,hp,rfl⟩
  |true=>
   rw[if_neg (by decide)]
   obtain⟨l',h1,h2⟩:=swap_ok (q:=Que.mk l1 in1) (i:=(j-1) / 2) (j:=j) (show(j-1) / 2<l1.length by omega) hj
   rw[h1,bsm]
   refine Or.inl ⟨_,rfl,⟨(j-1) / 2,rfl,?_,h2.trans hp,rfl⟩,?_⟩
   ·show(j-1) / 2<l'.length
    rw[h2.length_eq]
    show(j-1) / 2<l1.length
    omega
   show((((j-1) / 2:Nat):Int)).toNat<((j:Int)).toNat
   omega) ((j:Int),l,isin) ⟨j,rfl,hj,.refl _,rfl⟩
 simp only
 rw[hb,bsm]
 exact⟨b.1,by rw[hi],hp⟩
theorem down_ok {l:List Int} {isin:List Bool} {m:Nat} (hm:m≤l.length) (hl:l.length≤1000000):∃b l',yC (Que.mk l isin) 0 (m:Int)=some (b,Que.mk l' isin)∧l'.Perm l∧∀j,m≤j→l'[j]?=l[j]?:=by
 unfold yC
 obtain⟨b,hb,hp,hi,hk⟩:=xA (body:=fun s:Int×List Int×List Bool=>vN (m:Int) s.1 s.2.1 s.2.2) (fun s=>∃i:Nat,s.1=i∧i≤m∧s.2.1.Perm l∧s.2.2=isin∧∀j,m≤j→s.2.1[j]?=l[j]?) (fun s=>((m:Int)-s.1).toNat) (fun b=>b.2.1.Perm l∧b.2.2=isin∧∀j,m≤j→b.2.1[j]?=l[j]?) (by
  rintro⟨i',l1,in1⟩ ⟨i,rfl,hi,hp,rfl,hk⟩
  simp only at hi hp hk
  have hl1:l1.length=l.length:=hp.length_eq
  unfold vN
  simp only
  rw[iV ⟨by omega,by omega⟩,bsm,iV ⟨by omega,by omega⟩,bsm]
  by_cases h0:(m:Int)≤2*(i:Int)+1
  ·rw[if_pos (by simp;omega)]
   exact Or.inr ⟨_,rfl,hp,rfl,hk⟩
  rw[if_neg (by simp;omega),oZ (show 2*(i:Int)+1+1=((2*i+2:Nat):Int) by omega) ⟨by omega,by omega⟩,bsm]
  rw[show(2*(i:Int)+1)=((2*i+1:Nat):Int) by omega]
  obtain⟨j1,hj1,hjl,hji⟩:∃j1:Nat,(((if(decide (((2*i+2:Nat):Int)<(m:Int)))=true then
    (jP (Que.mk l1 in1) ((2*i+2:Nat):Int) ((2*i+1:Nat):Int)).bind fun x4=>some x4
   else some false):Option Bool).bind fun m1=>((if m1=true then some ((2*i+2:Nat):Int) else some ((2*i+1:Nat):Int)):Option Int))=some (j1:Int)∧j1<m∧i<j1:=by
   by_cases h1:(2*i+2:Nat)<m
   ·obtain⟨b,hb⟩:=less_ok (q:=Que.mk l1 in1) (i:=2*i+2) (j:=2*i+1) (show 2*i+2<l1.length by omega) (show 2*i+1<l1.length by omega)
    rw[if_pos (by rw[decide_eq_true_eq];omega),hb,bsm,bsm]
    cases b with
    |true=>exact⟨2*i+2,by rw[if_pos rfl],h1,by omega⟩
    |false=>exact⟨2*i+1,by rw[if_neg (by decide)],by omega,by omega⟩
   rw[if_neg (by rw[decide_eq_true_eq];omega),bsm,if_neg (by decide)]
   exact⟨2*i+1,rfl,by omega,by omega⟩
  obtain⟨m1,e1,e2⟩:=bnd hj1
  rw[e1,bsm,e2,bsm]
  obtain⟨b,hb⟩:=less_ok (q:=Que.mk l1 in1) (i:=j1) (j:=i) (show j1<l1.length by omega) (show i<l1.length by omega)
  rw[hb,bsm]
  cases b with
  |false=>
   rw[if_pos (show(!false)=true from rfl)]
   exact Or.inr ⟨_,rfl,hp,rfl,hk⟩
  |true=>
   rw[if_neg (by decide)]
   have hs:∃l',iT (Que.mk l1 in1) (i:Int) (j1:Int)=some (Que.mk l' in1)∧l'.Perm l1∧∀j,m≤j→l'[j]?=l1[j]?:=by
    obtain⟨a,ha⟩:=bM (show i<l1.length by omega)
    obtain⟨b,hb⟩:=bM (show j1<l1.length by omega)
    have h3:(l1.set i b)[j1]?=some b:=by rw[dA (by omega)];exact hb
    unfold iT
    simp only
    rw[bY hb,bsm,bY ha,bsm,bsm,Int.toNat_natCast,bY h3,bsm,Int.toNat_natCast]
    refine⟨_,rfl,?_,fun j hj=>by rw[dA (by omega),dA (by omega)]⟩
    obtain⟨g1,rfl⟩:=List.getElem?_eq_some_iff.1 ha
    obtain⟨g2,rfl⟩:=List.getElem?_eq_some_iff.1 hb
    exact List.set_set_perm g1 g2
   obtain⟨l',h1,h2,h3⟩:=hs
   rw[h1,bsm]
   refine Or.inl ⟨_,rfl,⟨j1,rfl,by omega,h2.trans hp,rfl,fun j hj=>(h3 j hj).trans (hk j hj)⟩,?_⟩
   show((m:Int)-(j1:Int)).toNat<((m:Int)-(i:Int)).toNat
   omega) ((0:Int),l,isin) ⟨0,rfl,Nat.zero_le _,.refl _,rfl,fun _ _=>rfl⟩
 simp only
 rw[hb,bsm]
 exact⟨_,b.2.1,by rw[hi],hp,hk⟩
structure QOk (n:Int) (q:Que):Prop where
 il:(q.isin.length:Int)=n+1
 nd:q.list.Nodup
 rng:∀v∈q.list,1≤v∧v≤n
 ii:∀(v:Nat),q.isin[v]?=some true↔(v:Int)∈q.list
theorem QOk.len {n:Int} {q:Que} (h:QOk n q) (hn:0≤n):(q.list.length:Int)≤n:=by
 have h1:=yD n.toNat (q.list.map fun x=>x.toNat-1) (by
  unfold List.Nodup
  rw[List.pairwise_map]
  refine List.Pairwise.imp_of_mem (fun{a b} ha hb hne he=>hne ?_) h.nd
  have:=h.rng a ha
  have:=h.rng b hb
  omega) (fun x hx=>by
  obtain⟨y,hy,rfl⟩:=List.mem_map.1 hx
  have:=h.rng y hy
  omega)
 rw[List.length_map] at h1
 omega
theorem push_ok {n:Int} {q:Que} (h:QOk n q) (hn:0≤n∧n≤65536) {v:Int} (hv:1≤v∧v≤n) (hnew:v∉q.list):∃q',wB q v=some q'∧QOk n q'∧∀x,x∈q'.list↔x=v∨x∈q.list:=by
 have hlen:=h.len hn.1
 obtain⟨b,hb⟩:=bM (show v.toNat<q.isin.length by have:=h.il;omega)
 unfold wB rH
 rw[kQ (by omega) hb,bsm,qA (by simp;omega),bsm,bsm]
 unfold kJ
 rw[bsm]
 simp only
 rw[oZ (m:=(q.list.length:Int)) (by simp) ⟨by omega,by omega⟩,bsm]
 obtain⟨l',h1,h2⟩:=up_ok (l:=q.list++[v]) (isin:=q.isin.set v.toNat true) (j:=q.list.length) (by simp) (by simp;omega)
 rw[h1,bsm]
 have hm:∀x,x∈l'↔x=v∨x∈q.list:=fun x=>by
  rw[h2.mem_iff,List.mem_append,List.mem_singleton]
  exact⟨fun h=>h.elim Or.inr Or.inl,fun h=>h.elim Or.inr Or.inl⟩
 refine⟨_,rfl,⟨by show((q.isin.set v.toNat true).length:Int)=_;rw[List.length_set];exact h.il,?_,fun x hx=>?_,fun x=>?_⟩,hm⟩
 ·refine h2.nodup_iff.2 ?_
  rw[List.nodup_append]
  exact⟨h.nd,by simp,fun a ha b hb=>by rw[List.mem_singleton] at hb;subst hb;exact fun e=>hnew (e▸ha)⟩
 ·rcases(hm x).1 hx with rfl|hx
  ·exact hv
  exact h.rng x hx
 show(q.isin.set v.toNat true)[x]?=some true↔(x:Int)∈l'
 rw[hm]
 by_cases e:x=v.toNat
 ·subst e
  rw[dO hb]
  exact⟨fun _=>Or.inl (by omega),fun _=>rfl⟩
 rw[dA e,h.ii]
 exact⟨Or.inr,fun h=>h.resolve_left (by omega)⟩
theorem pop_ok {n:Int} {q:Que} (h:QOk n q) (hn:0≤n∧n≤65536) (hne:q.list≠[]):∃v q',zW q=some (v,q')∧v∈q.list∧QOk n q'∧q'.list.length<q.list.length∧∀x,x∈q'.list↔x≠v∧x∈q.list:=by
 have hlen:=h.len hn.1
 have hpos:0<q.list.length:=List.length_pos_iff.2 hne
 unfold zW kJ
 rw[bsm,oZ (show(q.list.length:Int)-1=((q.list.length-1:Nat):Int) by omega) ⟨by omega,by omega⟩,bsm]
 obtain⟨l1,h1,h2⟩:=swap_ok (q:=q) (i:=0) (j:=q.list.length-1) hpos (by omega)
 rw[show(0:Int)=((0:Nat):Int) from rfl,h1,bsm]
 have hl1:=h2.length_eq
 obtain⟨b,l2,h3,h4,h5⟩:=down_ok (l:=l1) (isin:=q.isin) (m:=q.list.length-1) (by omega) (by omega)
 rw[show((0:Nat):Int)=0 from rfl,h3,bsm]
 have hl2:=h4.length_eq
 unfold sG
 simp only
 obtain⟨v,hv⟩:=bM (show q.list.length-1<l2.length by omega)
 have hperm:l2.Perm q.list:=h4.trans h2
 have hvm:v∈q.list:=hperm.mem_iff.1 (bP hv)
 have hvr:=h.rng v hvm
 obtain⟨c,hc⟩:=bM (show v.toNat<q.isin.length by have:=h.il;omega)
 rw[oZ (show(l2.length:Int)-1=((q.list.length-1:Nat):Int) by omega) ⟨by omega,by omega⟩,bsm,bY hv,bsm,yM (by decide) (by omega) (by omega),bsm,kQ (by omega) hc,bsm,bsm]
 have hsplit:l2=l2.take (q.list.length-1)++[v]:=by
  have:=dN hv
  rw[show q.list.length-1+1=l2.length by omega,List.take_length] at this
  exact this
 have hnd2:(l2.take (q.list.length-1)++[v]).Nodup:=by rw[←hsplit];exact hperm.nodup_iff.2 h.nd
 rw[List.nodup_append] at hnd2
 have hm:∀x,x∈l2.take (q.list.length-1)↔x≠v∧x∈q.list:=fun x=>by
  rw[←hperm.mem_iff]
  conv=>rhs;rw[hsplit]
  rw[List.mem_append,List.mem_singleton]
  exact⟨fun hx=>⟨fun e=>hnd2.2.2 x hx v (by simp) e,Or.inl hx⟩,fun⟨h1,h2⟩=>h2.resolve_right h1⟩
 have e0:(List.take (((q.list.length-1:Nat):Int)).toNat l2).drop (0:Int).toNat=l2.take (q.list.length-1):=by rw[Int.toNat_natCast];rfl
 rw[e0]
 refine⟨v,_,rfl,hvm,⟨by show((q.isin.set v.toNat false).length:Int)=_;rw[List.length_set];exact h.il,hnd2.1,fun x hx=>h.rng x ((hm x).1 hx).2,fun x=>?_⟩,by show(l2.take _).length<_;rw[List.length_take];omega,hm⟩
 show(q.isin.set v.toNat false)[x]?=some true↔(x:Int)∈l2.take (q.list.length-1)
 rw[hm]
 by_cases e:x=v.toNat
 ·subst e
  rw[dO hc]
  exact⟨fun h=>(by cases h),fun h=>absurd (by omega) h.1⟩
 rw[dA e,h.ii]
 exact⟨fun h=>⟨by omega,h⟩,fun h=>h.2⟩
end Go.Proofs.Ytpkhmndpeipfmaa
