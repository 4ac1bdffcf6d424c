/- The solver: Least. -/
import Derived.Test.YtpkhmndpeipfmaaKLe27
import Derived.Test.YtpkhmndpeipfmaaKLe4
import Derived.Test.YtpkhmndpeipfmaaKLe6
set_option linter.unusedVariables false
set_option linter.unusedSimpArgs false
namespace Go.Proofs.Ytpkhmndpeipfmaa
open Go.RowKit
def agrF (a b l:List Int):Bool:=l.all fun x=>decide (iE a x=iE b x)
theorem lessF_snoc {a b:List Int} {x:Int}:∀{l:List Int},sK a b (l++[x])=if agrF a b l=true then decide (iE a x≠iE b x)&&iE b x else sK a b l
 | []=>by
  show(if iE a x=iE b x then false else iE b x)=if true=true then(decide (iE a x≠iE b x)&&iE b x) else sK a b []
  by_cases e:iE a x=iE b x
  ·rw[if_pos e];simp[e]
  rw[if_neg e];simp[e]
 |y::l=>by
  have ih:= @lessF_snoc a b x l
  show(if iE a y=iE b y then sK a b (l++[x]) else iE b y)=if agrF a b (y::l)=true then _ else(if iE a y=iE b y then sK a b l else iE b y)
  have e2:agrF a b (y::l)=(decide (iE a y=iE b y)&&agrF a b l):=rfl
  rw[e2]
  by_cases e:iE a y=iE b y
  ·rw[if_pos e,ih,if_pos e];simp[e]
  rw[if_neg e,if_neg e,if_neg (by simp[e])]
theorem agrF_congr {a b c:List Int} {l:List Int} (h:∀x∈l,iE b x=iE c x):agrF a b l=agrF a c l∧sK a b l=sK a c l:=by
 induction l with
 |nil=>exact⟨rfl,rfl⟩
 |cons x l ih=>
  obtain⟨h1,h2⟩:=ih fun y hy=>h y (List.mem_cons_of_mem _ hy)
  have hx:=h x (List.mem_cons_self ..)
  refine⟨?_,?_⟩
  ·show(decide (iE a x=iE b x)&&agrF a b l)=(decide (iE a x=iE c x)&&agrF a c l)
   rw[hx,h1]
  show(if iE a x=iE b x then sK a b l else iE b x)=(if iE a x=iE c x then sK a c l else iE c x)
  rw[hx,h2]
theorem con_neg {n:Int} {m:List Int} (hm:MdL m) (hl:(m.length:Int)=n) {x:Int} (hx:x≠0∧vr x≤n):iE m (-x)= !iE m x:=by
 have h3:=jY x
 have h4:vr x≠0:=fun e=>hx.1 (qJ.1 e)
 obtain⟨y,hy⟩:=bM (show(vr x-1).toNat<m.length by omega)
 have h5:=hm _ y hy
 have h6:=O3 x
 unfold iE
 rw[lZ,hy]
 by_cases e:y=x
 ·have:¬y= -x:=by omega
  simp[e];omega
 have:y= -x:=by omega
 have h7:¬ -x=x:=by omega
 simp[this,h7]
section
variable {n:Int} {F:List (List Int)} {order:List Int}
structure LInv (n:Int) (F:List (List Int)) (order:List Int) (k:Nat) (used:Int) (fixed model:List Int):Prop where
 fl:fixed.length=k
 md:jL n F model
 fx:∀(j:Nat) x o,fixed[j]?=some x→order[j]?=some o→(x=o∨x= -o)∧iE model x=true
 le:∀m,jL n F m→sK m model (order.take k)=false
 us:0≤used∧used≤((k+1:Nat):Int)*((2 ^ n.toNat:Nat):Int)
def LOk (n:Int) (F:List (List Int)) (order:List Int) (p:Int) (a:Answer):Prop:=
 0≤a.conflicts∧a.conflicts≤p∧((a.kind=0∧a.proof=[]∧jL n F a.model∧∀m,jL n F m→sK m a.model order=false)∨(a.kind=1∧a.model=[]∧uM n F a.proof)∨(a.kind=2∧a.model=[]∧a.proof=[]∧a.conflicts=p∧p<((order.length+1:Nat):Int)*((2 ^ n.toNat:Nat):Int)))
theorem LInv.lits {k:Nat} {used:Int} {fixed model:List Int} (hL:LInv n F order k used fixed model) (ho:sD n order) (hk:k≤order.length):sD n fixed:=fun x hx=>by
 obtain⟨j,hj⟩:=List.getElem?_of_mem hx
 obtain⟨o,hoj⟩:=bM (show j<order.length by have:=dB hj;have:=hL.fl;omega)
 have h1:=ho o (bP hoj)
 rcases(hL.fx j x o hj hoj).1 with rfl|rfl
 ·exact h1
 rw[lZ];exact⟨by omega,h1.2⟩
theorem LInv.agree {k:Nat} {used:Int} {fixed model:List Int} (hL:LInv n F order k used fixed model) (ho:sD n order) (hk:k≤order.length) {m:List Int} (hm:jL n F m):(∀x∈fixed,iE m x=true)↔∀x∈order.take k,iE m x=iE model x:=by
 have key:∀(j:Nat) x o,fixed[j]?=some x→order[j]?=some o→(iE m x=true↔iE m o=iE model o):=fun j x o hx hoj=>by
  obtain⟨h1,h2⟩:=hL.fx j x o hx hoj
  have hol:=ho o (bP hoj)
  have e1:=con_neg hm.2.1 hm.1 hol
  have e2:=con_neg hL.md.2.1 hL.md.1 hol
  rcases h1 with rfl|rfl
  ·rw[h2]
  rw[e2] at h2
  rw[e1]
  have:iE model o=false:=by simpa using h2
  rw[this]
  cases iE m o<;>simp
 constructor
 ·intro h o hoo
  obtain⟨j,hj⟩:=List.getElem?_of_mem hoo
  rw[List.getElem?_take] at hj
  split at hj
  ·rename_i hjk
   obtain⟨x,hx⟩:=bM (show j<fixed.length by have:=hL.fl;omega)
   exact(key j x o hx hj).1 (h x (bP hx))
  cases hj
 intro h x hx
 obtain⟨j,hj⟩:=List.getElem?_of_mem hx
 have hjk:=dB hj
 rw[hL.fl] at hjk
 obtain⟨o,hoj⟩:=bM (show j<order.length by omega)
 refine(key j x o hj hoj).2 (h o ?_)
 have:(order.take k)[j]?=some o:=by rw[List.getElem?_take,if_pos hjk];exact hoj
 exact bP this
theorem LInv.put {k:Nat} {used used':Int} {fixed model model':List Int} (hL:LInv n F order k used fixed model) (ho:sD n order) (hk:k≤order.length) {l x:Int} (hl:order[k]?=some l) (hm:jL n F model') (hx:x=l∨x= -l) (hcx:iE model' x=true) (hag:∀y∈fixed,iE model' y=true)
  (hle:∀m,jL n F m→(∀y∈fixed,iE m y=true)→(iE m l≠iE model' l)→iE model' l=false) (hu:0≤used'∧used'≤((k+1+1:Nat):Int)*((2 ^ n.toNat:Nat):Int)):LInv n F order (k+1) used' (fixed++[x]) model':=by
 have hcong:=(hL.agree ho hk hm).1 hag
 refine⟨by rw[List.length_append,hL.fl];rfl,hm,fun j z o hz hoj=>?_,fun m hmm=>?_,hu⟩
 ·rw[List.getElem?_append] at hz
  split at hz
  ·exact⟨(hL.fx j z o hz hoj).1,hag z (bP hz)⟩
  rename_i hj
  have hj0:j=k:=by
   have h1: [x][j-fixed.length]?=some z:=hz
   have:=hL.fl
   have h3:j-fixed.length<1:=by simpa using dB h1
   omega
  subst hj0
  rw[hL.fl,Nat.sub_self] at hz
  simp only[List.getElem?_cons_zero,Option.some.injEq] at hz
  subst hz
  obtain rfl:=Option.some.inj (hl.symm.trans hoj)
  exact⟨hx,hcx⟩
 rw[dN hl,lessF_snoc]
 obtain⟨h1,h2⟩:=agrF_congr (a:=m) hcong
 by_cases ha:agrF m model' (order.take k)=true
 ·rw[if_pos ha]
  by_cases e:iE m l=iE model' l
  ·simp[e]
  have hmf:∀y∈fixed,iE m y=true:=(hL.agree ho hk hmm).2 fun y hy=>by
   unfold agrF at ha
   rw[List.all_eq_true] at ha
   have:=ha y hy
   rw[decide_eq_true_eq] at this
   rw[this,hcong y hy]
  rw[hle m hmm hmf e]
  simp
 rw[if_neg ha,h2]
 exact hL.le m hmm
end
def finL:Out (Int×List Int×Int×Int×List Int×List (List Int)) (Answer×Int)→Answer×Int
 | .brk b=>(Answer.mk b.2.2.1 b.2.2.2.2.1 b.2.2.2.2.2 b.1,0)
 | .ret r=>r
noncomputable def Y3 (f:Formula) (order:List Int) (p:Int) (s:Int×Int×List Int×Int×Int×List Int×List (List Int)):=oK f order p s.1 s.2.1 s.2.2.1 s.2.2.2.1 s.2.2.2.2.1 s.2.2.2.2.2.1 s.2.2.2.2.2.2
section
variable {f:Formula} {order:List Int}
theorem least_step (hv:lX f=true) (hn:f.vars≤12) (ho:sD f.vars order) (hol:order.length≤1000) (hcl:f.clauses.length≤200000) {k:Nat} {used cf:Int} {fixed model:List Int} (hk:k<order.length) (hL:LInv f.vars f.clauses order k used fixed model) {p q:Int} (hup:used≤p) (hpq:p≤q) (hq:q≤65536):
  (∃fixed',(∀p,Y3 f order p (used,(k:Int),fixed,0,cf,model,[])=some (.next (used,((k+1:Nat):Int),fixed',0,cf,model,[])))∧LInv f.vars f.clauses order (k+1) used fixed' model)∨
  ((∃used' fixed' cf' model',Y3 f order p (used,(k:Int),fixed,0,cf,model,[])=some (.next (used',((k+1:Nat):Int),fixed',0,cf',model',[]))∧Y3 f order q (used,(k:Int),fixed,0,cf,model,[])=some (.next (used',((k+1:Nat):Int),fixed',0,cf',model',[]))∧used'≤p∧LInv f.vars f.clauses order (k+1) used' fixed' model')∨
  (Y3 f order p (used,(k:Int),fixed,0,cf,model,[])=some (.done (.ret (Answer.mk 2 [] [] p,0)))∧0≤p∧p<((order.length+1:Nat):Int)*((2 ^ f.vars.toNat:Nat):Int))):=by
 have hb:=oM hv
 obtain⟨l,hl⟩:=bM hk
 have hl1:=ho l (bP hl)
 have hlb:=nM.1 hl1.2
 have hl0:=jY l
 have hl2:vr l≠0:=fun e=>hl1.1 (qJ.1 e)
 have hml:=hL.md.1
 have hfl:=hL.fl
 have hlf:=hL.lits ho (Nat.le_of_lt hk)
 obtain⟨y,hy,hy2⟩:=idx_vr (m:=model) (l:=l) (by omega) (by omega)
 have hpow:((2 ^ f.vars.toNat:Nat):Int)≤4096:=by have:=pow_bnd (show f.vars.toNat≤12 by omega);omega
 have hpos:0<((2 ^ f.vars.toNat:Nat):Int):=by have:0<2 ^ f.vars.toNat:=Nat.pow_pos (by decide);omega
 have hneg:inK .i64 (0-l)=some (-l):=oZ (by omega) ⟨by omega,by omega⟩
 have hupk:=iH hk (show order.length≤9223372036854775807 by omega)
 have happ:∀z:Int,app fixed [z]=some (fixed++[z]):=fun z=>qA (by simp;omega)
 have hcon:∀z:Int,vr z=vr l→iE model z=decide (y=z):=fun z hz=>by unfold iE;rw[hz,hy];simp
 have hyl:y=l∨y= -l:=by
  have h1:=hL.md.2.1 _ y hy
  have h2:=O3 l
  omega
 have hmul:((k+1+1:Nat):Int)*((2 ^ f.vars.toNat:Nat):Int)=((k+1:Nat):Int)*((2 ^ f.vars.toNat:Nat):Int)+((2 ^ f.vars.toNat:Nat):Int):=by
  rw[show((k+1+1:Nat):Int)=((k+1:Nat):Int)+1 by omega,Int.add_mul,Int.one_mul]
 have hmul2:((k+1+1:Nat):Int)*((2 ^ f.vars.toNat:Nat):Int)≤((order.length+1:Nat):Int)*((2 ^ f.vars.toNat:Nat):Int):=Int.mul_le_mul_of_nonneg_right (by omega) (by omega)
 by_cases e:y=l
 ·
  subst e
  have hlits:sD f.vars (fixed++[-y]):=fun z hz=>by
   rw[List.mem_append,List.mem_singleton] at hz
   rcases hz with hz|rfl
   ·exact hlf z hz
   rw[lZ];exact⟨by omega,hl1.2⟩
  obtain⟨s,a,b,e1,e2,e3,ha,hb2,hrel⟩:=aG3 hv hlits (p:=p-used) (q:=q-used) (by omega) (by omega) (by have:=hL.us.1;omega) (by rw[List.length_append];simp;omega)
  have hpu:inK .i64 (p-used)=some (p-used):=iV ⟨by have:=hL.us;omega,by have:=hL.us;omega⟩
  have hqu:inK .i64 (q-used)=some (q-used):=iV ⟨by have:=hL.us;omega,by have:=hL.us;omega⟩
  have body:∀(r:Int) (c:Answer),inK .i64 (r-used)=some (r-used)→gB s (r-used)=some c→0≤c.conflicts→c.conflicts≤65536→Y3 f order r (used,(k:Int),fixed,0,cf,model,[])=if c.kind=2 then some (.done (.ret (Answer.mk 2 [] [] (used+c.conflicts),0))) else if c.kind=0 then some (.next (used+c.conflicts,((k+1:Nat):Int),fixed++[-y],c.kind,c.conflicts,c.model,c.proof)) else some (.next (used+c.conflicts,((k+1:Nat):Int),fixed++[y],0,cf,model,[])):=fun r c hr1 hr2 hr3 hr4=>by
   have hsum:inK .i64 (used+c.conflicts)=some (used+c.conflicts):=iV ⟨by have:=hL.us;omega,by have:=hL.us;omega⟩
   unfold Y3 oK
   rw[if_pos (ltB hk),bY hl,bsm,xO ⟨by omega,by omega⟩,bsm,iV (by omega),bsm,hy2,bsm,if_neg (by simp),qA (by simp;omega),bsm,List.nil_append,hneg,bsm,happ,bsm,e1,bsm,hr1,bsm,hr2,bsm,hsum,bsm]
   by_cases k2:c.kind=2
   ·rw[if_pos (by simpa using k2),if_pos k2,bsm]
   rw[if_neg (by simpa using k2),if_neg k2]
   by_cases k0:c.kind=0
   ·rw[if_pos (by simpa using k0),if_pos k0,bsm,happ,bsm,bsm]
    simp only
    rw[hupk,bsm]
   rw[if_neg (by simpa using k0),if_neg k0,happ,bsm,bsm]
   simp only
   rw[hupk,bsm]
  have hbp:=body p a hpu e2 ha.1 (by have:=ha.2.1;have:=hL.us;omega)
  have hbq:=body q b hqu e3 hb2.1 (by have:=hb2.2.1;have:=hL.us;omega)
  have hus:0≤used+a.conflicts∧used+a.conflicts≤((k+1+1:Nat):Int)*((2 ^ f.vars.toNat:Nat):Int):=by
   have h1:=hL.us
   have h2:=ha.1
   have h3:=ha.2.2.1
   rw[hmul]
   omega
  obtain⟨a1,a2,a3,a4⟩:=ha
  rcases a4 with⟨k0,hpf,hmo⟩|⟨k1,hmd,hpr⟩|⟨k2,hmd,hpf,hov⟩
  ·
   obtain⟨hmF,hall⟩:=aG2.1 hmo
   rw[List.all_append,Bool.and_eq_true] at hall
   have hfx:∀z∈fixed,iE a.model z=true:=List.all_eq_true.1 hall.1
   have hny:iE a.model (-y)=true:=by simpa using hall.2
   have hab:=hrel.1 (by rw[k0];decide)
   rw[if_neg (by rw[k0];decide),if_pos k0,k0,hpf] at hbp
   rw[←hab,if_neg (by rw[k0];decide),if_pos k0,k0,hpf] at hbq
   refine Or.inr (Or.inl ⟨_,_,_,_,hbp,hbq,by omega,hL.put ho (Nat.le_of_lt hk) hl hmF (Or.inr rfl) hny hfx (fun m hm hmf hne=>?_) hus⟩)
   have:=con_neg hmF.2.1 hmF.1 hl1
   rw[hny] at this
   simpa using this.symm
  ·
   have hab:=hrel.1 (by rw[k1];decide)
   rw[if_neg (by rw[k1];decide),if_neg (by rw[k1];decide)] at hbp
   rw[←hab,if_neg (by rw[k1];decide),if_neg (by rw[k1];decide)] at hbq
   refine Or.inr (Or.inl ⟨_,_,_,_,hbp,hbq,by omega,hL.put ho (Nat.le_of_lt hk) hl hL.md (Or.inl rfl) (by rw[hcon y rfl];simp) (fun z hz=>?_) (fun m hm hmf hne=>?_) hus⟩)
   ·obtain⟨j,hj⟩:=List.getElem?_of_mem hz
    obtain⟨o,hoj⟩:=bM (show j<order.length by have:=dB hj;omega)
    exact(hL.fx j z o hj hoj).2
   exfalso
   have h1:iE model y=true:=by rw[hcon y rfl];simp
   rw[h1] at hne
   have h2:=con_neg hm.2.1 hm.1 hl1
   have h3:iE m (-y)=true:=by rw[h2];simpa using hne
   refine Q4 hpr m (aG2.2 ⟨hm,?_⟩)
   rw[List.all_append,Bool.and_eq_true]
   exact⟨List.all_eq_true.2 hmf,by simpa using h3⟩
  rcases hov with⟨h1,h2⟩|h1
  ·rw[if_pos k2,show used+a.conflicts=p by omega] at hbp
   refine Or.inr (Or.inr ⟨hbp,by have:=hL.us;omega,?_⟩)
   have h3:=hL.us
   omega
  exfalso
  have e2:a.conflicts.toNat≤4096:=by omega
  have e4:a.conflicts.toNat*f.vars.toNat≤4096*12:=Nat.mul_le_mul e2 (by omega)
  omega
 have hy3:y= -l:=hyl.resolve_left e
 refine Or.inl ⟨fixed++[-l],fun r=>?_,hL.put ho (Nat.le_of_lt hk) hl hL.md (Or.inr rfl) (by rw[hcon _ (lZ l)];simpa using hy3) (fun z hz=>?_) (fun m hm hmf hne=>?_) ⟨hL.us.1,by have:=hL.us.2;rw[hmul];omega⟩⟩
 ·unfold Y3 oK
  rw[if_pos (ltB hk),bY hl,bsm,xO ⟨by omega,by omega⟩,bsm,iV (by omega),bsm,hy2,bsm,if_pos (by simpa using e),hneg,bsm,happ,bsm,bsm]
  simp only
  rw[hupk,bsm]
 ·obtain⟨j,hj⟩:=List.getElem?_of_mem hz
  obtain⟨o,hoj⟩:=bM (show j<order.length by have:=dB hj;omega)
  exact(hL.fx j z o hj hoj).2
 rw[hcon l rfl];simpa using e
theorem least_end {k:Nat} {used:Int} {fixed model:List Int} (hL:LInv f.vars f.clauses order order.length used fixed model) {p cf:Int} (hup:used≤p):∃r,Y3 f order p (used,(order.length:Int),fixed,0,cf,model,[])=some (.done r)∧finL r=(Answer.mk 0 model [] used,0)∧LOk f.vars f.clauses order p (Answer.mk 0 model [] used):=by
 refine⟨.brk (used,fixed,0,cf,model,[]),?_,rfl,hL.us.1,hup,Or.inl ⟨rfl,rfl,hL.md,fun m hm=>?_⟩⟩
 ·unfold Y3 oK
  rw[if_neg qZ]
 have:=hL.le m hm
 rwa [List.take_length] at this
theorem least1 (hv:lX f=true) (hn:f.vars≤12) (ho:sD f.vars order) (hol:order.length≤1000) (hcl:f.clauses.length≤200000) {p:Int} (hp:p≤65536):∀(m k:Nat),k+m=order.length→∀(used cf:Int) (fixed model:List Int),used≤p→LInv f.vars f.clauses order k used fixed model→
  ∃r a,dE (Y3 f order p) (used,(k:Int),fixed,0,cf,model,[])=some r∧finL r=(a,0)∧LOk f.vars f.clauses order p a:=by
 intro m
 induction m with
 |zero=>
  intro k hk used cf fixed model hup hL
  obtain rfl:k=order.length:=by omega
  obtain⟨r,h1,h2,h3⟩:=least_end (k:=0) hL hup (cf:=cf)
  exact⟨r,_,eQ h1,h2,h3⟩
 |succ m ih=>
  intro k hk used cf fixed model hup hL
  rcases least_step hv hn ho hol hcl (cf:=cf) (show k<order.length by omega) hL hup (Int.le_refl p) hp with⟨fixed',h1,h2⟩|⟨used',fixed',cf',model',h1,_,h2,h3⟩|⟨h1,h2,h3⟩
  ·obtain⟨r,a,g1,g2⟩:=ih (k+1) (by omega) used cf fixed' model hup h2
   exact⟨r,a,by rw[iC (h1 p)];exact g1,g2⟩
  ·obtain⟨r,a,g1,g2⟩:=ih (k+1) (by omega) used' cf' fixed' model' h2 h3
   exact⟨r,a,by rw[iC h1];exact g1,g2⟩
  exact⟨_,_,eQ h1,rfl,h2,Int.le_refl _,Or.inr (Or.inr ⟨rfl,rfl,rfl,rfl,h3⟩)⟩
theorem least2 (hv:lX f=true) (hn:f.vars≤12) (ho:sD f.vars order) (hol:order.length≤1000) (hcl:f.clauses.length≤200000) {p q:Int} (hpq:p≤q) (hq:q≤65536):∀(m k:Nat),k+m=order.length→∀(used cf:Int) (fixed model:List Int),used≤p→LInv f.vars f.clauses order k used fixed model→
  ∃r a r2 b,dE (Y3 f order p) (used,(k:Int),fixed,0,cf,model,[])=some r∧finL r=(a,0)∧dE (Y3 f order q) (used,(k:Int),fixed,0,cf,model,[])=some r2∧finL r2=(b,0)∧LOk f.vars f.clauses order p a∧LOk f.vars f.clauses order q b∧(a.kind≠2→a=b):=by
 intro m
 induction m with
 |zero=>
  intro k hk used cf fixed model hup hL
  obtain rfl:k=order.length:=by omega
  obtain⟨r,h1,h2,h3⟩:=least_end (k:=0) hL hup (cf:=cf)
  obtain⟨r2,g1,g2,g3⟩:=least_end (k:=0) hL (show used≤q by omega) (cf:=cf)
  exact⟨r,_,r2,_,eQ h1,h2,eQ g1,g2,h3,g3,fun _=>rfl⟩
 |succ m ih=>
  intro k hk used cf fixed model hup hL
  rcases least_step hv hn ho hol hcl (cf:=cf) (show k<order.length by omega) hL hup hpq hq with⟨fixed',h1,h2⟩|⟨used',fixed',cf',model',h1,h1',h2,h3⟩|⟨h1,h2,h3⟩
  ·obtain⟨r,a,r2,b,g1,g2,g3,g4⟩:=ih (k+1) (by omega) used cf fixed' model hup h2
   exact⟨r,a,r2,b,by rw[iC (h1 p)];exact g1,g2,by rw[iC (h1 q)];exact g3,g4⟩
  ·obtain⟨r,a,r2,b,g1,g2,g3,g4⟩:=ih (k+1) (by omega) used' cf' fixed' model' h2 h3
   exact⟨r,a,r2,b,by rw[iC h1];exact g1,g2,by rw[iC h1'];exact g3,g4⟩
  obtain⟨r2,b,g1,g2,g3⟩:=least1 hv hn ho hol hcl hq (m+1) k hk used cf fixed model (by omega) hL
  exact⟨_,_,r2,b,eQ h1,rfl,g1,g2,⟨h2,Int.le_refl _,Or.inr (Or.inr ⟨rfl,rfl,rfl,rfl,h3⟩)⟩,g3,fun e=>absurd rfl e⟩
theorem ones_nil:ones []=[]:=rfl
theorem aok_lok (hn:0≤f.vars∧f.vars≤12) {p:Int} {a:Answer} (h:AOk f.vars f.clauses p a) (hk:a.kind≠0):LOk f.vars f.clauses order p a:=by
 obtain⟨a1,a2,a3,a4⟩:=h
 refine⟨a1,a2,?_⟩
 rcases a4 with⟨k,_⟩|h|⟨k,h1,h2,h3⟩
 ·exact absurd k hk
 ·exact Or.inr (Or.inl h)
 refine Or.inr (Or.inr ⟨k,h1,h2,?_⟩)
 have hpos:0<((2 ^ f.vars.toNat:Nat):Int):=by have:0<2 ^ f.vars.toNat:=Nat.pow_pos (by decide);omega
 rcases h3 with⟨h3,h4⟩|h3
 ·refine⟨h3,?_⟩
  have h5:1*((2 ^ f.vars.toNat:Nat):Int)≤((order.length+1:Nat):Int)*((2 ^ f.vars.toNat:Nat):Int):=Int.mul_le_mul_of_nonneg_right (by omega) (by omega)
  omega
 exfalso
 have hpow:=pow_bnd (show f.vars.toNat≤12 by omega)
 have e2:a.conflicts.toNat≤4096:=by omega
 have e4:a.conflicts.toNat*f.vars.toNat≤4096*12:=Nat.mul_le_mul e2 (by omega)
 omega
theorem least_ok (hn:f.vars≤12) (hol:order.length≤1000) (hcl:f.clauses.length≤200000) {p q:Int} (hf:vX f order p=true) (hpq:p≤q) (hq:q≤65536):
  ∃a b,fZ f order p=some (a,0)∧fZ f order q=some (b,0)∧LOk f.vars f.clauses order p a∧LOk f.vars f.clauses order q b∧(a.kind≠2→a=b):=by
 obtain⟨hp,hv,ha⟩:=uN.1 hf
 have hb:=oM hv
 have ho:sD f.vars order:=fun x hx=>sOk_iff.1 (ha x hx)
 have hFL:=S9 hv
 have hfq:vX f order q=true:=uN.2 ⟨⟨by omega,hq⟩,hv,ha⟩
 obtain⟨s,a,b,h1,e1,e2,e3,e4,e5⟩:=aG3 (asX:=[]) hv (fun x hx=>by simp at hx) hp.1 hpq hq (by simp;omega)
 rw[ones_nil,List.append_nil] at e3 e4
 have start:∀{r:Int} {c:Answer},AOk f.vars f.clauses r c→c.kind=0→c.proof=[]∧LInv f.vars f.clauses order 0 c.conflicts [] c.model:=fun{r c} hc h0=>by
  obtain⟨a1,a2,a3,a4⟩:=hc
  rcases a4 with⟨_,hpf,hm⟩|⟨k,_⟩|⟨k,_⟩
  ·exact⟨hpf,rfl,hm,fun j x o hx=>by simp at hx,fun m _=>rfl,a1,by simp;exact a3⟩
  ·rw[k] at h0;cases h0
  rw[k] at h0;cases h0
 have run_:∀(r:Int) (c:Answer),vX f order r=true→gB s r=some c→fZ f order r=if c.kind=0 then(dE (Y3 f order r) (c.conflicts,0,[],c.kind,c.conflicts,c.model,c.proof)).bind (fun x=>some (finL x)) else some (c,0):=fun r c hr hrun=>by
  unfold fZ
  rw[fits_ok hFL (by omega),bsm,hr,if_neg (by decide),h1,bsm,hrun,bsm]
  by_cases h0:c.kind=0
  ·rw[if_neg (by simpa using h0),if_pos h0]
   show(dE (Y3 f order r) _).bind _=_
   cases dE (Y3 f order r) (c.conflicts,0,[],c.kind,c.conflicts,c.model,c.proof) with
   |none=>rfl
   |some x=>cases x<;>rfl
  rw[if_pos (by simpa using h0),if_neg h0]
 rw[run_ p a hf e1,run_ q b hfq e2]
 by_cases ha0:a.kind=0
 ·obtain⟨hpf,hL⟩:=start e3 ha0
  have hab:=e5.1 (by rw[ha0];decide)
  subst hab
  obtain⟨r,a',r2,b',g1,g2,g3,g4,g5⟩:=least2 hv hn ho hol hcl hpq hq order.length 0 (by omega) a.conflicts a.conflicts [] a.model e3.2.1 hL
  have g1:dE (Y3 f order p) (a.conflicts,0,[],0,a.conflicts,a.model,[])=some r:=g1
  have g3:dE (Y3 f order q) (a.conflicts,0,[],0,a.conflicts,a.model,[])=some r2:=g3
  rw[if_pos ha0,if_pos ha0,ha0,hpf,g1,g3,bsm,bsm,g2,g4]
  exact⟨a',b',rfl,rfl,g5⟩
 rw[if_neg ha0]
 have hLa:=aok_lok (order:=order) ⟨hb.1,hn⟩ e3 ha0
 by_cases ha2:a.kind=2
 ·by_cases hb0:b.kind=0
  ·obtain⟨hpf,hL⟩:=start e4 hb0
   obtain⟨r,b',g1,g2,g3⟩:=least1 hv hn ho hol hcl hq order.length 0 (by omega) b.conflicts b.conflicts [] b.model e4.2.1 hL
   have g1:dE (Y3 f order q) (b.conflicts,0,[],0,b.conflicts,b.model,[])=some r:=g1
   rw[if_pos hb0,hb0,hpf,g1,bsm,g2]
   exact⟨a,b',rfl,rfl,hLa,g3,fun e=>absurd ha2 e⟩
  rw[if_neg hb0]
  exact⟨a,b,rfl,rfl,hLa,aok_lok ⟨hb.1,hn⟩ e4 hb0,fun e=>absurd ha2 e⟩
 have hab:=e5.1 ha2
 subst hab
 rw[if_neg ha0]
 exact⟨a,a,rfl,rfl,hLa,aok_lok ⟨hb.1,hn⟩ e4 ha0,fun _=>rfl⟩
end
theorem FWf.flen {f:Formula} (h:FWf f):FLen f.clauses:=⟨h.2.1,fun c hc=>(h.2.2 c hc).1⟩
theorem small_ok {f:Formula} {v n:Int} (h:smallB f v n=true):f.vars≤v∧(f.clauses.length:Int)≤n:=by
 unfold smallB at h
 simp only[Bool.and_eq_true,decide_eq_true_eq] at h
 exact⟨h.1.2,h.2⟩
theorem plen_of {n:Int} (hn:0≤n∧n≤65536) {F0 P:List (List Int)} (h:uM n F0 P):PLen P:=⟨by have:=h.2.2.2.2;omega,fun c hc=>by have:=(clF_ok (h.2.2.1 c hc)).len hn;omega⟩
theorem plen_flen {P:List (List Int)} (h:PLen P):FLen P:=⟨by have:=h.1;omega,fun c hc=>by have:=h.2 c hc;omega⟩
def ASay (n:Int) (F0:List (List Int)) (p:Int) (a:Answer):Prop:=
 0≤a.conflicts∧a.conflicts≤p∧((a.kind=0∧a.proof=[]∧jL n F0 a.model)∨(a.kind=1∧a.model=[]∧uM n F0 a.proof)∨(a.kind=2∧a.model=[]∧a.proof=[]∧a.conflicts=p))
theorem asay_len {n:Int} (hn:0≤n∧n≤65536) {F0:List (List Int)} {a:Answer} (h:(a.kind=0∧a.proof=[]∧jL n F0 a.model)∨(a.kind=1∧a.model=[]∧uM n F0 a.proof)∨(a.kind=2∧a.model=[]∧a.proof=[])):FLen a.proof∧a.model.length≤9223372036854775807:=by
 rcases h with⟨_,h1,h2⟩|⟨_,h1,h2⟩|⟨_,h1,h2⟩
 ·rw[h1]
  exact⟨⟨by simp,by simp⟩,by have:=h2.1;omega⟩
 ·rw[h1]
  exact⟨plen_flen (plen_of hn h2),by simp⟩
 rw[h1,h2]
 exact⟨⟨by simp,by simp⟩,by simp⟩
theorem AOk.three {n:Int} {F0:List (List Int)} {p:Int} {a:Answer} (h:AOk n F0 p a):(a.kind=0∧a.proof=[]∧jL n F0 a.model)∨(a.kind=1∧a.model=[]∧uM n F0 a.proof)∨(a.kind=2∧a.model=[]∧a.proof=[]):=by
 rcases h.2.2.2 with h|h|⟨h1,h2,h3,_⟩
 ·exact Or.inl h
 ·exact Or.inr (Or.inl h)
 exact Or.inr (Or.inr ⟨h1,h2,h3⟩)
theorem right_ok {f:Formula} (hv:lX f=true) (hcl:f.clauses.length≤200000) {p:Int} {a:Answer} (h:ASay f.vars f.clauses p a):jS f [] p a=some true:=by
 have hb:=oM hv
 have hFL:=S9 hv
 obtain⟨h1,h2,h3⟩:=h
 unfold jS
 rw[if_neg (by simp;omega)]
 rcases h3 with⟨k,g1,g2⟩|⟨k,g1,g2⟩|⟨k,g1,g2,g3⟩
 ·rw[if_pos (by simpa using k),g1,if_pos (by simp),ref_holds hFL,(J8 hv).2 g2,bsm,bsm,if_pos rfl,all_ok g2.1 hb.2.1 (fun x hx=>by simp at hx) (by simp),bsm,bsm]
  rfl
 ·rw[if_neg (by rw[k];decide),if_pos (by simpa using k),g1,if_pos (by simp),with28_ok (by simp;omega),bsm,ones_nil,List.append_nil,ref_check hFL (plen_of ⟨hb.1,hb.2.1⟩ g2),proof_chk (f:=f) hv g2,bsm,bsm]
 rw[if_neg (by rw[k];decide),if_neg (by rw[k];decide)]
 congr 1
 simp[k,g1,g2,g3]
theorem AOk.say {n:Int} (hn:0≤n∧n≤12) {F0:List (List Int)} {p:Int} {a:Answer} (h:AOk n F0 p a):ASay n F0 p a:=by
 refine⟨h.1,h.2.1,?_⟩
 rcases h.2.2.2 with g|g|⟨g1,g2,g3,g4⟩
 ·exact Or.inl g
 ·exact Or.inr (Or.inl g)
 refine Or.inr (Or.inr ⟨g1,g2,g3,?_⟩)
 rcases g4 with⟨g4,_⟩|g4
 ·exact g4
 exfalso
 have hpow:=pow_bnd (show n.toNat≤12 by omega)
 have e2:a.conflicts.toNat≤4096:=by have:=h.2.2.1;omega
 have e4:a.conflicts.toNat*n.toNat≤4096*12:=Nat.mul_le_mul e2 (by omega)
 omega
theorem LOk.say {n:Int} {F0:List (List Int)} {o:List Int} {p:Int} {a:Answer} (h:LOk n F0 o p a):ASay n F0 p a:=by
 refine⟨h.1,h.2.1,?_⟩
 rcases h.2.2 with⟨a,b,c,_⟩|g|⟨a,b,c,d,_⟩
 ·exact Or.inl ⟨a,b,c⟩
 ·exact Or.inr (Or.inl g)
 exact Or.inr (Or.inr ⟨a,b,c,d⟩)
theorem LOk.three {n:Int} {F0:List (List Int)} {o:List Int} {p:Int} {a:Answer} (h:LOk n F0 o p a):(a.kind=0∧a.proof=[]∧jL n F0 a.model)∨(a.kind=1∧a.model=[]∧uM n F0 a.proof)∨(a.kind=2∧a.model=[]∧a.proof=[]):=by
 rcases h.2.2 with⟨a,b,c,_⟩|g|⟨a,b,c,d,_⟩
 ·exact Or.inl ⟨a,b,c⟩
 ·exact Or.inr (Or.inl g)
 exact Or.inr (Or.inr ⟨a,b,c⟩)
def exA:List (List Int):=[[1,2],[-1,2]]
theorem aC9:lX ⟨2,exA⟩=true:=by decide+kernel
theorem mod2 {F:List (List Int)} {m:List Int} (h:jL 2 F m):m=[1,2]∨m=[1,-2]∨m=[-1,2]∨m=[-1,-2]:=by
 obtain⟨h1,h2,_⟩:=h
 match m,h1,h2 with
 | [x,y],_,h2=>
  have a:=h2 0 x rfl
  have b:=h2 1 y rfl
  rcases a with rfl|rfl<;>rcases b with rfl|rfl<;>simp
theorem ex_m1:jL 2 exA [1,2]:=(J8 (f:=⟨2,exA⟩) aC9).1 (by decide+kernel)
theorem ex_m2:jL 2 exA [-1,2]:=(J8 (f:=⟨2,exA⟩) aC9).1 (by decide+kernel)
theorem ex_no {m:List Int} (h:jL 2 exA m):m=[1,2]∨m=[-1,2]:=by
 rcases mod2 h with rfl|rfl|rfl|rfl
 ·exact Or.inl rfl
 ·exact absurd (h.2.2 [-1,2] (by simp[exA])) (by decide+kernel)
 ·exact Or.inr rfl
 exact absurd (h.2.2 [1,2] (by simp[exA])) (by decide+kernel)
theorem awake_ok:nY=some true:=by
 have hb:=oM aC9
 have hFL:=S9 aC9
 obtain⟨a,_,e1,_,a1,_⟩:=solve_ok (f:=⟨2,exA⟩) (asX:=[-2]) (p:=100) (q:=100) (by decide+kernel) (Int.le_refl _) (by decide) (by decide)
 obtain⟨b,_,e2,_,b1,_⟩:=solve_ok (f:=⟨2,exA⟩) (asX:=[]) (p:=100) (q:=100) (by decide+kernel) (Int.le_refl _) (by decide) (by decide)
 obtain⟨c,_,e3,_,c1,_⟩:=least_ok (f:=⟨2,exA⟩) (order:=[1,2]) (p:=100) (q:=100) (by decide) (by decide) (by decide) (by decide+kernel) (Int.le_refl _) (by decide)
 have ak:=a1.kind (by decide) (by decide)
 have bk:=b1.kind (by decide) (by decide)
 have ha:a.kind=1∧uM 2 (exA++ones [-2]) a.proof:=by
  rcases a1.three with⟨_,_,h⟩|⟨h1,_,h2⟩|⟨h,_⟩
  ·exfalso
   obtain⟨h1,h2⟩:=aG2.1 h
   rcases ex_no h1 with e|e
   ·rw[e] at h2;revert h2;decide+kernel
   rw[e] at h2;revert h2;decide+kernel
  ·exact⟨h1,h2⟩
  exact absurd h ak
 have hbm:b.kind=0∧(b.model=[1,2]∨b.model=[-1,2]):=by
  rw[ones_nil,List.append_nil] at b1
  rcases b1.three with⟨h1,_,h⟩|⟨_,_,h2⟩|⟨h,_⟩
  ·exact⟨h1,ex_no h⟩
  ·exact absurd ex_m1 (Q4 h2 _)
  exact absurd h bk
 have hcm:c.kind=0∧c.model=[-1,2]:=by
  rcases c1.2.2 with⟨h1,_,h2,h3⟩|⟨_,_,h2⟩|⟨_,_,_,_,h⟩
  ·refine⟨h1,?_⟩
   rcases ex_no h2 with e|e
   ·have h4:=h3 _ ex_m2
    rw[e] at h4
    exact absurd h4 (by decide+kernel)
   exact e
  ·exact absurd ex_m1 (Q4 h2 _)
  exact absurd h (by decide)
 have hw:lX ⟨2,exA++ones [-2]⟩=true:=by decide+kernel
 have hwF:FLen (exA++ones [-2]):=⟨by decide,by decide⟩
 have hchk:sV ⟨2,exA++ones [-2]⟩ a.proof=some true:=by
  rw[check_ok (f:=⟨2,exA++ones [-2]⟩) hwF (plen_of (by decide) ha.2),proof_chk (f:=⟨2,exA⟩) hw ha.2]
 have hwith:jE ⟨2,exA⟩ [-2]=some ⟨2,exA++ones [-2]⟩:=with28_ok (f:=⟨2,exA⟩) (by decide)
 have e1:lW (Formula.mk 2 ([([1,2]:List Int),([(-1),2]:List Int)])) ([(-2)]:List Int) 100=some (a,0):=e1
 have e2:lW (Formula.mk 2 ([([1,2]:List Int),([(-1),2]:List Int)])) [] 100=some (b,0):=e2
 have e3:fZ (Formula.mk 2 ([([1,2]:List Int),([(-1),2]:List Int)])) ([1,2]:List Int) 100=some (c,0):=e3
 have hwith:jE (Formula.mk 2 ([([1,2]:List Int),([(-1),2]:List Int)])) ([(-2)]:List Int)=some ⟨2,exA++ones [-2]⟩:=hwith
 unfold nY
 rw[e1,bsm,e2,bsm,e3,bsm]
 simp only
 rw[if_pos (by simp[ha.1]),hwith,bsm,hchk,bsm,bsm]
 have hbl:b.model.length=2∧idx b.model 1=some 2:=by
  rcases hbm.2 with e|e
  ·rw[e];exact⟨rfl,rfl⟩
  rw[e];exact⟨rfl,rfl⟩
 rw[if_pos (by simp[hbm.1,hbl.1]),hbl.2,bsm,bsm]
 rw[if_pos (by simp[hcm.1]),hcm.2,lists_equal _ _ (by decide),bsm,bsm]
 rfl
theorem fits_up {f:Formula} {l:List Int} {p q:Int} (h:vX f l p=true) (hq:0≤q∧q≤65536):vX f l q=true:=by
 obtain⟨_,h2,h3⟩:=uN.1 h
 exact uN.2 ⟨hq,h2,h3⟩
theorem U16.r {n:Int} (h:(Lit.int .u16 n).wf=true):0≤n∧n≤65535:=by
 simp[Lit.wf,IntKind.min,IntKind.max,IntKind.signed,IntKind.bits] at h
 omega
theorem same_empty:gW (Answer.mk 0 [] [] 0) (Answer.mk 0 [] [] 0)=some true:=by
 rw[same_ok ⟨by simp,by simp⟩ (by simp),sameB_self]
theorem least_bad {f:Formula} {l:List Int} {p:Int} (hf:FLen f.clauses) (hl:l.length≤9223372036854775807) (h:vX f l p=false):fZ f l p=some (Answer.mk 0 [] [] 0,1):=by
 unfold fZ
 rw[fits_ok hf hl,bsm,h,if_pos (by decide)]
theorem law_SolverLeast (p0:Formula) (p1:(List Int)) (p2:Int) (h0:FWf p0) (h1:LW I64 p1) (h2:(Lit.int .i64 p2).wf=true):mV p0 p1 p2=some true:=by
 have hF:=h0.flen
 have hl1:p1.length≤9223372036854775807:=h1.1
 unfold mV
 rw[awake_ok,bsm,if_neg (by decide),small_eq _ _ _ hF.1,bsm]
 by_cases hc:(!smallB p0 8 40||decide (20<(p1.length:Int)))=true
 ·rw[if_pos hc]
 rw[if_neg hc]
 simp only[Bool.or_eq_true,not_or,Bool.not_eq_true',Bool.not_eq_false,decide_eq_true_eq] at hc
 obtain⟨hs,hl⟩:=hc
 obtain⟨hs1,hs2⟩:=small_ok hs
 rw[rfits_ok hF hl1]
 by_cases hf:vX p0 p1 0=true
 ·obtain⟨_,hv,ha⟩:=uN.1 hf
  have hb:=oM hv
  have hlo:sD p0.vars p1:=fun x hx=>sOk_iff.1 (ha x hx)
  obtain⟨m,ok,eB,g1,g2⟩:=best_ok hv (by omega) (l:=[]) (fun x hx=>by simp at hx) hlo (by simp) hl1
  have hpw:=pow_bnd (show p0.vars.toNat≤12 by omega)
  have hpow8:2 ^ p0.vars.toNat≤256:=Nat.pow_le_pow_right (n:=2) (j:=8) (by decide) (by omega)
  have hP:((2 ^ p0.vars.toNat:Nat):Int)≤256:=by omega
  have two:∃a,fZ p0 p1 65536=some (a,0)∧LOk p0.vars p0.clauses p1 65536 a∧((vX p0 p1 p2=false∧fZ p0 p1 p2=some (Answer.mk 0 [] [] 0,1))∨∃b,vX p0 p1 p2=true∧fZ p0 p1 p2=some (b,0)∧LOk p0.vars p0.clauses p1 p2 b∧(b.kind≠2→b=a)):=by
   cases hf2:vX p0 p1 p2 with
   |false=>
    obtain⟨a,_,e1,_,a1,_⟩:=least_ok (f:=p0) (order:=p1) (p:=65536) (q:=65536) (by omega) (by omega) (by omega) (fits_up hf (by decide)) (Int.le_refl _) (by decide)
    exact⟨a,e1,a1,Or.inl ⟨rfl,least_bad hF hl1 hf2⟩⟩
   |true=>
    obtain⟨r1,_,_⟩:=uN.1 hf2
    obtain⟨b,a,e1,e2,b1,a1,hr⟩:=least_ok (f:=p0) (order:=p1) (p:=p2) (q:=65536) (by omega) (by omega) (by omega) hf2 r1.2 (by decide)
    exact⟨a,e2,a1,Or.inr ⟨b,rfl,e1,b1,hr⟩⟩
  obtain⟨a,e1,a1,hcase⟩:=two
  obtain⟨y,e2⟩:∃y,fZ p0 p1 p2=some y:=by
   rcases hcase with⟨_,h⟩|⟨b,_,h,_⟩
   ·exact⟨_,h⟩
   exact⟨_,h⟩
  rw[e1,bsm,e2,bsm,bsm,hf,if_neg (by decide),eB,bsm]
  simp only
  rw[if_neg (by decide),right_ok hv (by omega) a1.say,bsm,bsm]
  have ak:a.kind≠2:=fun k=>by
   rcases a1.2.2 with⟨h,_⟩|⟨h,_⟩|⟨_,_,_,_,h⟩
   ·omega
   ·omega
   have h5:((p1.length+1:Nat):Int)*((2 ^ p0.vars.toNat:Nat):Int)≤21*256:=Int.mul_le_mul (by omega) hP (Int.natCast_nonneg _) (by decide)
   omega
  obtain⟨fa,ma⟩:=asay_len ⟨hb.1,hb.2.1⟩ a1.three
  have rest:((kF p0 p1 p2).bind fun x11=>
     if(!x11)=true then
      ((if(decide (y.2=1))=true then
       (gW y.1 (Answer.mk 0 ([]) ([]) 0)).bind fun x12=>
       some x12
      else
       some false):Option Bool).bind fun m5=>
      some m5
     else
      ((if(decide (y.2=0))=true then
       (jS p0 [] p2 y.1).bind fun x13=>
       some x13
      else
       some false):Option Bool).bind fun m6=>
      ((if m6=true then
       ((if(decide (y.1.kind=2))=true then
        some true
       else
        (gW a y.1).bind fun x14=>
        some x14):Option Bool).bind fun m8=>
       some m8
      else
       some false):Option Bool).bind fun m7=>
      some m7)=some true:=by
   rw[rfits_ok hF hl1,bsm]
   rcases hcase with⟨hf2,h⟩|⟨b,hf2,h,b1,hr⟩
   ·obtain rfl:=Option.some.inj (e2.symm.trans h)
    rw[hf2,if_pos (by decide)]
    simp only
    rw[if_pos (by decide),same_empty,bsm,bsm]
   obtain rfl:=Option.some.inj (e2.symm.trans h)
   rw[hf2,if_neg (by decide)]
   simp only
   rw[if_pos (by decide),right_ok hv (by omega) b1.say,bsm,bsm,if_pos rfl]
   by_cases k2:b.kind=2
   ·rw[if_pos (by simpa using k2),bsm,bsm]
   rw[if_neg (by simpa using k2),hr k2,same_ok fa ma,sameB_self,bsm,bsm,bsm]
  rcases a1.2.2 with⟨k,_,hmo,hle⟩|⟨k,_,hpr⟩|⟨k,_⟩
  ·have hok:ok=true:=g1.2 ⟨_,hmo,by simp⟩
   subst hok
   obtain⟨x1,_,x3⟩:=g2 rfl
   rw[if_neg (by simp[k]),if_pos rfl,less_ok' x1.1 hmo.1 hb.2.1 hlo hl1,hle m x1,bsm,if_neg (by decide),less_ok' hmo.1 x1.1 hb.2.1 hlo hl1,x3 _ hmo (by simp),bsm,bsm,bsm,if_neg (by decide)]
   exact rest
  ·have hok:ok=false:=by
    rw[Bool.eq_false_iff]
    intro e
    obtain⟨x,x1,_⟩:=g1.1 e
    exact Q4 hpr x x1
   subst hok
   rw[if_neg (by simp[k]),if_neg (by decide),bsm,if_neg (by decide)]
   exact rest
  exact absurd k ak
 have hf:=Bool.eq_false_iff.2 hf
 have bad:∀q:Int,vX p0 p1 q=false:=fun q=>by
  rw[Bool.eq_false_iff]
  intro e
  have:=fits_up e (q:=0) (by decide)
  rw[hf] at this
  cases this
 rw[least_bad hF hl1 (bad 65536),bsm,least_bad hF hl1 (bad p2),bsm,bsm,hf,if_pos (by decide)]
 simp only
 rw[if_pos (by decide),same_empty,bsm,bsm]
end Go.Proofs.Ytpkhmndpeipfmaa
