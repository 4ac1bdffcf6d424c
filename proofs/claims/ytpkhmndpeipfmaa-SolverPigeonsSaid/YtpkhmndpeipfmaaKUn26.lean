/- The solver: Least. -/
import Derived.Test.YtpkhmndpeipfmaaKUn25
import Derived.Test.YtpkhmndpeipfmaaKUn4
import Derived.Test.YtpkhmndpeipfmaaKUn6
set_option linter.unusedVariables false
set_option linter.unusedSimpArgs false
namespace Go.Proofs.Ytpkhmndpeipfmaa
open Go.RowKit
def agrF (a b l:List Int):Bool:=l.all fun x=>decide (kM a x=kM b x)
theorem lessF_snoc {a b:List Int} {x:Int}:∀{l:List Int},Q3 a b (l++[x])=if agrF a b l=true then decide (kM a x≠kM b x)&&kM b x else Q3 a b l
 | []=>by
  show(if kM a x=kM b x then false else kM b x)=if true=true then(decide (kM a x≠kM b x)&&kM b x) else Q3 a b []
  by_cases e:kM a x=kM b x
  ·rw[if_pos e];simp[e]
  rw[if_neg e];simp[e]
 |y::l=>by
  have ih:= @lessF_snoc a b x l
  show(if kM a y=kM b y then Q3 a b (l++[x]) else kM b y)=if agrF a b (y::l)=true then _ else(if kM a y=kM b y then Q3 a b l else kM b y)
  have e2:agrF a b (y::l)=(decide (kM a y=kM b y)&&agrF a b l):=rfl
  rw[e2]
  by_cases e:kM a y=kM b y
  ·rw[if_pos e,ih,if_pos e];simp[e]
  rw[if_neg e,if_neg e,if_neg (by simp[e])]
theorem agrF_congr {a b c:List Int} {l:List Int} (h:∀x∈l,kM b x=kM c x):agrF a b l=agrF a c l∧Q3 a b l=Q3 a c l:=by
 induction l with
 |nil=>exact⟨rfl,rfl⟩
 |cons x l ih=>
  obtain⟨h1,h2⟩:=ih fun y hy=>h y (List.mem_cons_of_mem _ hy)
  have hx:=h x (List.mem_cons_self ..)
  refine⟨?_,?_⟩
  ·show(decide (kM a x=kM b x)&&agrF a b l)=(decide (kM a x=kM c x)&&agrF a c l)
   rw[hx,h1]
  show(if kM a x=kM b x then Q3 a b l else kM b x)=(if kM a x=kM c x then Q3 a c l else kM c x)
  rw[hx,h2]
theorem con_neg {n:Int} {m:List Int} (hm:MdL m) (hl:(m.length:Int)=n) {x:Int} (hx:x≠0∧vr x≤n):kM m (-x)= !kM m x:=by
 have h3:=jP x
 have h4:vr x≠0:=fun e=>hx.1 (qC.1 e)
 obtain⟨y,hy⟩:=bK (show(vr x-1).toNat<m.length by omega)
 have h5:=hm _ y hy
 have h6:=H6 x
 unfold kM
 rw[lL,hy]
 by_cases e:y=x
 ·have:¬y= -x:=by omega
  simp[e];omega
 have:y= -x:=by omega
 have h7:¬ -x=x:=by omega
 simp[this,h7]
section
variable {n:Int} {F:List (List Int)} {order:List Int}
structure LInv (n:Int) (F:List (List Int)) (order:List Int) (k:Nat) (used:Int) (fixed model:List Int):Prop where
 fl:fixed.length=k
 md:fJ n F model
 fx:∀(j:Nat) x o,fixed[j]?=some x→order[j]?=some o→(x=o∨x= -o)∧kM model x=true
 le:∀m,fJ n F m→Q3 m model (order.take k)=false
 us:0≤used∧used≤((k+1:Nat):Int)*((2 ^ n.toNat:Nat):Int)
def LOk (n:Int) (F:List (List Int)) (order:List Int) (p:Int) (a:Answer):Prop:=
 0≤a.conflicts∧a.conflicts≤p∧((a.kind=0∧a.proof=[]∧fJ n F a.model∧∀m,fJ n F m→Q3 m a.model order=false)∨(a.kind=1∧a.model=[]∧uZ n F a.proof)∨(a.kind=2∧a.model=[]∧a.proof=[]∧a.conflicts=p∧p<((order.length+1:Nat):Int)*((2 ^ n.toNat:Nat):Int)))
theorem LInv.lits {k:Nat} {used:Int} {fixed model:List Int} (hL:LInv n F order k used fixed model) (ho:uY n order) (hk:k≤order.length):uY n fixed:=fun x hx=>by
 obtain⟨j,hj⟩:=List.getElem?_of_mem hx
 obtain⟨o,hoj⟩:=bK (show j<order.length by have:=dB hj;have:=hL.fl;omega)
 have h1:=ho o (bQ hoj)
 rcases(hL.fx j x o hj hoj).1 with rfl|rfl
 ·exact h1
 rw[lL];exact⟨by omega,h1.2⟩
theorem LInv.agree {k:Nat} {used:Int} {fixed model:List Int} (hL:LInv n F order k used fixed model) (ho:uY n order) (hk:k≤order.length) {m:List Int} (hm:fJ n F m):(∀x∈fixed,kM m x=true)↔∀x∈order.take k,kM m x=kM model x:=by
 have key:∀(j:Nat) x o,fixed[j]?=some x→order[j]?=some o→(kM m x=true↔kM m o=kM model o):=fun j x o hx hoj=>by
  obtain⟨h1,h2⟩:=hL.fx j x o hx hoj
  have hol:=ho o (bQ hoj)
  have e1:=con_neg hm.2.1 hm.1 hol
  have e2:=con_neg hL.md.2.1 hL.md.1 hol
  rcases h1 with rfl|rfl
  ·rw[h2]
  rw[e2] at h2
  rw[e1]
  have:kM model o=false:=by simpa using h2
  rw[this]
  cases kM m o<;>simp
 constructor
 ·intro h o hoo
  obtain⟨j,hj⟩:=List.getElem?_of_mem hoo
  rw[List.getElem?_take] at hj
  split at hj
  ·rename_i hjk
   obtain⟨x,hx⟩:=bK (show j<fixed.length by have:=hL.fl;omega)
   exact(key j x o hx hj).1 (h x (bQ hx))
  cases hj
 intro h x hx
 obtain⟨j,hj⟩:=List.getElem?_of_mem hx
 have hjk:=dB hj
 rw[hL.fl] at hjk
 obtain⟨o,hoj⟩:=bK (show j<order.length by omega)
 refine(key j x o hj hoj).2 (h o ?_)
 have:(order.take k)[j]?=some o:=by rw[List.getElem?_take,if_pos hjk];exact hoj
 exact bQ this
theorem LInv.put {k:Nat} {used used':Int} {fixed model model':List Int} (hL:LInv n F order k used fixed model) (ho:uY n order) (hk:k≤order.length) {l x:Int} (hl:order[k]?=some l) (hm:fJ n F model') (hx:x=l∨x= -l) (hcx:kM model' x=true) (hag:∀y∈fixed,kM model' y=true)
  (hle:∀m,fJ n F m→(∀y∈fixed,kM m y=true)→(kM m l≠kM model' l)→kM model' l=false) (hu:0≤used'∧used'≤((k+1+1:Nat):Int)*((2 ^ n.toNat:Nat):Int)):LInv n F order (k+1) used' (fixed++[x]) model':=by
 have hcong:=(hL.agree ho hk hm).1 hag
 refine⟨by rw[List.length_append,hL.fl];rfl,hm,fun j z o hz hoj=>?_,fun m hmm=>?_,hu⟩
 ·rw[List.getElem?_append] at hz
  split at hz
  ·exact⟨(hL.fx j z o hz hoj).1,hag z (bQ hz)⟩
  rename_i hj
  have hj0:j=k:=by
   have h1: [x][j-fixed.length]?=some z:=hz
   have:=hL.fl
   have h3:j-fixed.length<1:=by simpa using dB h1
   omega
  subst hj0
  rw[hL.fl,Nat.sub_self] at hz
  simp only[List.getElem?_cons_zero,Option.some.injEq] at hz
  subst hz
  obtain rfl:=Option.some.inj (hl.symm.trans hoj)
  exact⟨hx,hcx⟩
 rw[fA hl,lessF_snoc]
 obtain⟨h1,h2⟩:=agrF_congr (a:=m) hcong
 by_cases ha:agrF m model' (order.take k)=true
 ·rw[if_pos ha]
  by_cases e:kM m l=kM model' l
  ·simp[e]
  have hmf:∀y∈fixed,kM m y=true:=(hL.agree ho hk hmm).2 fun y hy=>by
   unfold agrF at ha
   rw[List.all_eq_true] at ha
   have:=ha y hy
   rw[decide_eq_true_eq] at this
   rw[this,hcong y hy]
  rw[hle m hmm hmf e]
  simp
 rw[if_neg ha,h2]
 exact hL.le m hmm
end
def finL:Out (Int×List Int×Int×Int×List Int×List (List Int)) (Answer×Int)→Answer×Int
 | .brk b=>(Answer.mk b.2.2.1 b.2.2.2.2.1 b.2.2.2.2.2 b.1,0)
 | .ret r=>r
noncomputable def U4 (f:Formula) (order:List Int) (p:Int) (s:Int×Int×List Int×Int×Int×List Int×List (List Int)):=nP f order p s.1 s.2.1 s.2.2.1 s.2.2.2.1 s.2.2.2.2.1 s.2.2.2.2.2.1 s.2.2.2.2.2.2
section
variable {f:Formula} {order:List Int}
theorem least_step (hv:iV f=true) (hn:f.vars≤12) (ho:uY f.vars order) (hol:order.length≤1000) (hcl:f.clauses.length≤200000) {k:Nat} {used cf:Int} {fixed model:List Int} (hk:k<order.length) (hL:LInv f.vars f.clauses order k used fixed model) {p q:Int} (hup:used≤p) (hpq:p≤q) (hq:q≤65536):
  (∃fixed',(∀p,U4 f order p (used,(k:Int),fixed,0,cf,model,[])=some (.next (used,((k+1:Nat):Int),fixed',0,cf,model,[])))∧LInv f.vars f.clauses order (k+1) used fixed' model)∨
  ((∃used' fixed' cf' model',U4 f order p (used,(k:Int),fixed,0,cf,model,[])=some (.next (used',((k+1:Nat):Int),fixed',0,cf',model',[]))∧U4 f order q (used,(k:Int),fixed,0,cf,model,[])=some (.next (used',((k+1:Nat):Int),fixed',0,cf',model',[]))∧used'≤p∧LInv f.vars f.clauses order (k+1) used' fixed' model')∨
  (U4 f order p (used,(k:Int),fixed,0,cf,model,[])=some (.done (.ret (Answer.mk 2 [] [] p,0)))∧0≤p∧p<((order.length+1:Nat):Int)*((2 ^ f.vars.toNat:Nat):Int))):=by
 have hb:=mP hv
 obtain⟨l,hl⟩:=bK hk
 have hl1:=ho l (bQ hl)
 have hlb:=oI.1 hl1.2
 have hl0:=jP l
 have hl2:vr l≠0:=fun e=>hl1.1 (qC.1 e)
 have hml:=hL.md.1
 have hfl:=hL.fl
 have hlf:=hL.lits ho (Nat.le_of_lt hk)
 obtain⟨y,hy,hy2⟩:=idx_vr (m:=model) (l:=l) (by omega) (by omega)
 have hpow:((2 ^ f.vars.toNat:Nat):Int)≤4096:=by have:=pow_bnd (show f.vars.toNat≤12 by omega);omega
 have hpos:0<((2 ^ f.vars.toNat:Nat):Int):=by have:0<2 ^ f.vars.toNat:=Nat.pow_pos (by decide);omega
 have hneg:inK .i64 (0-l)=some (-l):=oM (by omega) ⟨by omega,by omega⟩
 have hupk:=jA hk (show order.length≤9223372036854775807 by omega)
 have happ:∀z:Int,app fixed [z]=some (fixed++[z]):=fun z=>oV (by simp;omega)
 have hcon:∀z:Int,vr z=vr l→kM model z=decide (y=z):=fun z hz=>by unfold kM;rw[hz,hy];simp
 have hyl:y=l∨y= -l:=by
  have h1:=hL.md.2.1 _ y hy
  have h2:=H6 l
  omega
 have hmul:((k+1+1:Nat):Int)*((2 ^ f.vars.toNat:Nat):Int)=((k+1:Nat):Int)*((2 ^ f.vars.toNat:Nat):Int)+((2 ^ f.vars.toNat:Nat):Int):=by
  rw[show((k+1+1:Nat):Int)=((k+1:Nat):Int)+1 by omega,Int.add_mul,Int.one_mul]
 have hmul2:((k+1+1:Nat):Int)*((2 ^ f.vars.toNat:Nat):Int)≤((order.length+1:Nat):Int)*((2 ^ f.vars.toNat:Nat):Int):=Int.mul_le_mul_of_nonneg_right (by omega) (by omega)
 by_cases e:y=l
 ·
  subst e
  have hlits:uY f.vars (fixed++[-y]):=fun z hz=>by
   rw[List.mem_append,List.mem_singleton] at hz
   rcases hz with hz|rfl
   ·exact hlf z hz
   rw[lL];exact⟨by omega,hl1.2⟩
  obtain⟨s,a,b,e1,e2,e3,ha,hb2,hrel⟩:=aD6 hv hlits (p:=p-used) (q:=q-used) (by omega) (by omega) (by have:=hL.us.1;omega) (by rw[List.length_append];simp;omega)
  have hpu:inK .i64 (p-used)=some (p-used):=gW ⟨by have:=hL.us;omega,by have:=hL.us;omega⟩
  have hqu:inK .i64 (q-used)=some (q-used):=gW ⟨by have:=hL.us;omega,by have:=hL.us;omega⟩
  have body:∀(r:Int) (c:Answer),inK .i64 (r-used)=some (r-used)→fZ s (r-used)=some c→0≤c.conflicts→c.conflicts≤65536→U4 f order r (used,(k:Int),fixed,0,cf,model,[])=if c.kind=2 then some (.done (.ret (Answer.mk 2 [] [] (used+c.conflicts),0))) else if c.kind=0 then some (.next (used+c.conflicts,((k+1:Nat):Int),fixed++[-y],c.kind,c.conflicts,c.model,c.proof)) else some (.next (used+c.conflicts,((k+1:Nat):Int),fixed++[y],0,cf,model,[])):=fun r c hr1 hr2 hr3 hr4=>by
   have hsum:inK .i64 (used+c.conflicts)=some (used+c.conflicts):=gW ⟨by have:=hL.us;omega,by have:=hL.us;omega⟩
   unfold U4 nP
   rw[if_pos (ltB hk),dA hl,bsm,wM ⟨by omega,by omega⟩,bsm,gW (by omega),bsm,hy2,bsm,if_neg (by simp),oV (by simp;omega),bsm,List.nil_append,hneg,bsm,happ,bsm,e1,bsm,hr1,bsm,hr2,bsm,hsum,bsm]
   by_cases k2:c.kind=2
   ·rw[if_pos (by simpa using k2),if_pos k2,bsm]
   rw[if_neg (by simpa using k2),if_neg k2]
   by_cases k0:c.kind=0
   ·rw[if_pos (by simpa using k0),if_pos k0,bsm,happ,bsm,bsm]
    simp only
    rw[hupk,bsm]
   rw[if_neg (by simpa using k0),if_neg k0,happ,bsm,bsm]
   simp only
   rw[hupk,bsm]
  have hbp:=body p a hpu e2 ha.1 (by have:=ha.2.1;have:=hL.us;omega)
  have hbq:=body q b hqu e3 hb2.1 (by have:=hb2.2.1;have:=hL.us;omega)
  have hus:0≤used+a.conflicts∧used+a.conflicts≤((k+1+1:Nat):Int)*((2 ^ f.vars.toNat:Nat):Int):=by
   have h1:=hL.us
   have h2:=ha.1
   have h3:=ha.2.2.1
   rw[hmul]
   omega
  obtain⟨a1,a2,a3,a4⟩:=ha
  rcases a4 with⟨k0,hpf,hmo⟩|⟨k1,hmd,hpr⟩|⟨k2,hmd,hpf,hov⟩
  ·
   obtain⟨hmF,hall⟩:=aD5.1 hmo
   rw[List.all_append,Bool.and_eq_true] at hall
   have hfx:∀z∈fixed,kM a.model z=true:=List.all_eq_true.1 hall.1
   have hny:kM a.model (-y)=true:=by simpa using hall.2
   have hab:=hrel.1 (by rw[k0];decide)
   rw[if_neg (by rw[k0];decide),if_pos k0,k0,hpf] at hbp
   rw[←hab,if_neg (by rw[k0];decide),if_pos k0,k0,hpf] at hbq
   refine Or.inr (Or.inl ⟨_,_,_,_,hbp,hbq,by omega,hL.put ho (Nat.le_of_lt hk) hl hmF (Or.inr rfl) hny hfx (fun m hm hmf hne=>?_) hus⟩)
   have:=con_neg hmF.2.1 hmF.1 hl1
   rw[hny] at this
   simpa using this.symm
  ·
   have hab:=hrel.1 (by rw[k1];decide)
   rw[if_neg (by rw[k1];decide),if_neg (by rw[k1];decide)] at hbp
   rw[←hab,if_neg (by rw[k1];decide),if_neg (by rw[k1];decide)] at hbq
   refine Or.inr (Or.inl ⟨_,_,_,_,hbp,hbq,by omega,hL.put ho (Nat.le_of_lt hk) hl hL.md (Or.inl rfl) (by rw[hcon y rfl];simp) (fun z hz=>?_) (fun m hm hmf hne=>?_) hus⟩)
   ·obtain⟨j,hj⟩:=List.getElem?_of_mem hz
    obtain⟨o,hoj⟩:=bK (show j<order.length by have:=dB hj;omega)
    exact(hL.fx j z o hj hoj).2
   exfalso
   have h1:kM model y=true:=by rw[hcon y rfl];simp
   rw[h1] at hne
   have h2:=con_neg hm.2.1 hm.1 hl1
   have h3:kM m (-y)=true:=by rw[h2];simpa using hne
   refine yT hpr m (aD5.2 ⟨hm,?_⟩)
   rw[List.all_append,Bool.and_eq_true]
   exact⟨List.all_eq_true.2 hmf,by simpa using h3⟩
  rcases hov with⟨h1,h2⟩|h1
  ·rw[if_pos k2,show used+a.conflicts=p by omega] at hbp
   refine Or.inr (Or.inr ⟨hbp,by have:=hL.us;omega,?_⟩)
   have h3:=hL.us
   omega
  exfalso
  have e2:a.conflicts.toNat≤4096:=by omega
  have e4:a.conflicts.toNat*f.vars.toNat≤4096*12:=Nat.mul_le_mul e2 (by omega)
  omega
 have hy3:y= -l:=hyl.resolve_left e
 refine Or.inl ⟨fixed++[-l],fun r=>?_,hL.put ho (Nat.le_of_lt hk) hl hL.md (Or.inr rfl) (by rw[hcon _ (lL l)];simpa using hy3) (fun z hz=>?_) (fun m hm hmf hne=>?_) ⟨hL.us.1,by have:=hL.us.2;rw[hmul];omega⟩⟩
 ·unfold U4 nP
  rw[if_pos (ltB hk),dA hl,bsm,wM ⟨by omega,by omega⟩,bsm,gW (by omega),bsm,hy2,bsm,if_pos (by simpa using e),hneg,bsm,happ,bsm,bsm]
  simp only
  rw[hupk,bsm]
 ·obtain⟨j,hj⟩:=List.getElem?_of_mem hz
  obtain⟨o,hoj⟩:=bK (show j<order.length by have:=dB hj;omega)
  exact(hL.fx j z o hj hoj).2
 rw[hcon l rfl];simpa using e
theorem least_end {k:Nat} {used:Int} {fixed model:List Int} (hL:LInv f.vars f.clauses order order.length used fixed model) {p cf:Int} (hup:used≤p):∃r,U4 f order p (used,(order.length:Int),fixed,0,cf,model,[])=some (.done r)∧finL r=(Answer.mk 0 model [] used,0)∧LOk f.vars f.clauses order p (Answer.mk 0 model [] used):=by
 refine⟨.brk (used,fixed,0,cf,model,[]),?_,rfl,hL.us.1,hup,Or.inl ⟨rfl,rfl,hL.md,fun m hm=>?_⟩⟩
 ·unfold U4 nP
  rw[if_neg rY]
 have:=hL.le m hm
 rwa [List.take_length] at this
theorem least1 (hv:iV f=true) (hn:f.vars≤12) (ho:uY f.vars order) (hol:order.length≤1000) (hcl:f.clauses.length≤200000) {p:Int} (hp:p≤65536):∀(m k:Nat),k+m=order.length→∀(used cf:Int) (fixed model:List Int),used≤p→LInv f.vars f.clauses order k used fixed model→
  ∃r a,dC (U4 f order p) (used,(k:Int),fixed,0,cf,model,[])=some r∧finL r=(a,0)∧LOk f.vars f.clauses order p a:=by
 intro m
 induction m with
 |zero=>
  intro k hk used cf fixed model hup hL
  obtain rfl:k=order.length:=by omega
  obtain⟨r,h1,h2,h3⟩:=least_end (k:=0) hL hup (cf:=cf)
  exact⟨r,_,eF h1,h2,h3⟩
 |succ m ih=>
  intro k hk used cf fixed model hup hL
  rcases least_step hv hn ho hol hcl (cf:=cf) (show k<order.length by omega) hL hup (Int.le_refl p) hp with⟨fixed',h1,h2⟩|⟨used',fixed',cf',model',h1,_,h2,h3⟩|⟨h1,h2,h3⟩
  ·obtain⟨r,a,g1,g2⟩:=ih (k+1) (by omega) used cf fixed' model hup h2
   exact⟨r,a,by rw[gJ (h1 p)];exact g1,g2⟩
  ·obtain⟨r,a,g1,g2⟩:=ih (k+1) (by omega) used' cf' fixed' model' h2 h3
   exact⟨r,a,by rw[gJ h1];exact g1,g2⟩
  exact⟨_,_,eF h1,rfl,h2,Int.le_refl _,Or.inr (Or.inr ⟨rfl,rfl,rfl,rfl,h3⟩)⟩
theorem least2 (hv:iV f=true) (hn:f.vars≤12) (ho:uY f.vars order) (hol:order.length≤1000) (hcl:f.clauses.length≤200000) {p q:Int} (hpq:p≤q) (hq:q≤65536):∀(m k:Nat),k+m=order.length→∀(used cf:Int) (fixed model:List Int),used≤p→LInv f.vars f.clauses order k used fixed model→
  ∃r a r2 b,dC (U4 f order p) (used,(k:Int),fixed,0,cf,model,[])=some r∧finL r=(a,0)∧dC (U4 f order q) (used,(k:Int),fixed,0,cf,model,[])=some r2∧finL r2=(b,0)∧LOk f.vars f.clauses order p a∧LOk f.vars f.clauses order q b∧(a.kind≠2→a=b):=by
 intro m
 induction m with
 |zero=>
  intro k hk used cf fixed model hup hL
  obtain rfl:k=order.length:=by omega
  obtain⟨r,h1,h2,h3⟩:=least_end (k:=0) hL hup (cf:=cf)
  obtain⟨r2,g1,g2,g3⟩:=least_end (k:=0) hL (show used≤q by omega) (cf:=cf)
  exact⟨r,_,r2,_,eF h1,h2,eF g1,g2,h3,g3,fun _=>rfl⟩
 |succ m ih=>
  intro k hk used cf fixed model hup hL
  rcases least_step hv hn ho hol hcl (cf:=cf) (show k<order.length by omega) hL hup hpq hq with⟨fixed',h1,h2⟩|⟨used',fixed',cf',model',h1,h1',h2,h3⟩|⟨h1,h2,h3⟩
  ·obtain⟨r,a,r2,b,g1,g2,g3,g4⟩:=ih (k+1) (by omega) used cf fixed' model hup h2
   exact⟨r,a,r2,b,by rw[gJ (h1 p)];exact g1,g2,by rw[gJ (h1 q)];exact g3,g4⟩
  ·obtain⟨r,a,r2,b,g1,g2,g3,g4⟩:=ih (k+1) (by omega) used' cf' fixed' model' h2 h3
   exact⟨r,a,r2,b,by rw[gJ h1];exact g1,g2,by rw[gJ h1'];exact g3,g4⟩
  obtain⟨r2,b,g1,g2,g3⟩:=least1 hv hn ho hol hcl hq (m+1) k hk used cf fixed model (by omega) hL
  exact⟨_,_,r2,b,eF h1,rfl,g1,g2,⟨h2,Int.le_refl _,Or.inr (Or.inr ⟨rfl,rfl,rfl,rfl,h3⟩)⟩,g3,fun e=>absurd rfl e⟩
theorem aJ0:ones []=[]:=rfl
theorem aok_lok (hn:0≤f.vars∧f.vars≤12) {p:Int} {a:Answer} (h:AOk f.vars f.clauses p a) (hk:a.kind≠0):LOk f.vars f.clauses order p a:=by
 obtain⟨a1,a2,a3,a4⟩:=h
 refine⟨a1,a2,?_⟩
 rcases a4 with⟨k,_⟩|h|⟨k,h1,h2,h3⟩
 ·exact absurd k hk
 ·exact Or.inr (Or.inl h)
 refine Or.inr (Or.inr ⟨k,h1,h2,?_⟩)
 have hpos:0<((2 ^ f.vars.toNat:Nat):Int):=by have:0<2 ^ f.vars.toNat:=Nat.pow_pos (by decide);omega
 rcases h3 with⟨h3,h4⟩|h3
 ·refine⟨h3,?_⟩
  have h5:1*((2 ^ f.vars.toNat:Nat):Int)≤((order.length+1:Nat):Int)*((2 ^ f.vars.toNat:Nat):Int):=Int.mul_le_mul_of_nonneg_right (by omega) (by omega)
  omega
 exfalso
 have hpow:=pow_bnd (show f.vars.toNat≤12 by omega)
 have e2:a.conflicts.toNat≤4096:=by omega
 have e4:a.conflicts.toNat*f.vars.toNat≤4096*12:=Nat.mul_le_mul e2 (by omega)
 omega
theorem least_ok (hn:f.vars≤12) (hol:order.length≤1000) (hcl:f.clauses.length≤200000) {p q:Int} (hf:fitsB f order p=true) (hpq:p≤q) (hq:q≤65536):
  ∃a b,nV f order p=some (a,0)∧nV f order q=some (b,0)∧LOk f.vars f.clauses order p a∧LOk f.vars f.clauses order q b∧(a.kind≠2→a=b):=by
 obtain⟨hp,hv,ha⟩:=yF.1 hf
 have hb:=mP hv
 have ho:uY f.vars order:=fun x hx=>sOk_iff.1 (ha x hx)
 have hFL:=yX hv
 have hfq:fitsB f order q=true:=yF.2 ⟨⟨by omega,hq⟩,hv,ha⟩
 obtain⟨s,a,b,h1,e1,e2,e3,e4,e5⟩:=aD6 (asX:=[]) hv (fun x hx=>by simp at hx) hp.1 hpq hq (by simp;omega)
 rw[aJ0,List.append_nil] at e3 e4
 have start:∀{r:Int} {c:Answer},AOk f.vars f.clauses r c→c.kind=0→c.proof=[]∧LInv f.vars f.clauses order 0 c.conflicts [] c.model:=fun{r c} hc h0=>by
  obtain⟨a1,a2,a3,a4⟩:=hc
  rcases a4 with⟨_,hpf,hm⟩|⟨k,_⟩|⟨k,_⟩
  ·exact⟨hpf,rfl,hm,fun j x o hx=>by simp at hx,fun m _=>rfl,a1,by simp;exact a3⟩
  ·rw[k] at h0;cases h0
  rw[k] at h0;cases h0
 have run_:∀(r:Int) (c:Answer),fitsB f order r=true→fZ s r=some c→nV f order r=if c.kind=0 then(dC (U4 f order r) (c.conflicts,0,[],c.kind,c.conflicts,c.model,c.proof)).bind (fun x=>some (finL x)) else some (c,0):=fun r c hr hrun=>by
  unfold nV
  rw[fits_ok hFL (by omega),bsm,hr,if_neg (by decide),h1,bsm,hrun,bsm]
  by_cases h0:c.kind=0
  ·rw[if_neg (by simpa using h0),if_pos h0]
   show(dC (U4 f order r) _).bind _=_
   cases dC (U4 f order r) (c.conflicts,0,[],c.kind,c.conflicts,c.model,c.proof) with
   |none=>rfl
   |some x=>cases x<;>rfl
  rw[if_pos (by simpa using h0),if_neg h0]
 rw[run_ p a hf e1,run_ q b hfq e2]
 by_cases ha0:a.kind=0
 ·obtain⟨hpf,hL⟩:=start e3 ha0
  have hab:=e5.1 (by rw[ha0];decide)
  subst hab
  obtain⟨r,a',r2,b',g1,g2,g3,g4,g5⟩:=least2 hv hn ho hol hcl hpq hq order.length 0 (by omega) a.conflicts a.conflicts [] a.model e3.2.1 hL
  have g1:dC (U4 f order p) (a.conflicts,0,[],0,a.conflicts,a.model,[])=some r:=g1
  have g3:dC (U4 f order q) (a.conflicts,0,[],0,a.conflicts,a.model,[])=some r2:=g3
  rw[if_pos ha0,if_pos ha0,ha0,hpf,g1,g3,bsm,bsm,g2,g4]
  exact⟨a',b',rfl,rfl,g5⟩
 rw[if_neg ha0]
 have hLa:=aok_lok (order:=order) ⟨hb.1,hn⟩ e3 ha0
 by_cases ha2:a.kind=2
 ·by_cases hb0:b.kind=0
  ·obtain⟨hpf,hL⟩:=start e4 hb0
   obtain⟨r,b',g1,g2,g3⟩:=least1 hv hn ho hol hcl hq order.length 0 (by omega) b.conflicts b.conflicts [] b.model e4.2.1 hL
   have g1:dC (U4 f order q) (b.conflicts,0,[],0,b.conflicts,b.model,[])=some r:=g1
   rw[if_pos hb0,hb0,hpf,g1,bsm,g2]
   exact⟨a,b',rfl,rfl,hLa,g3,fun e=>absurd ha2 e⟩
  rw[if_neg hb0]
  exact⟨a,b,rfl,rfl,hLa,aok_lok ⟨hb.1,hn⟩ e4 hb0,fun e=>absurd ha2 e⟩
 have hab:=e5.1 ha2
 subst hab
 rw[if_neg ha0]
 exact⟨a,a,rfl,rfl,hLa,aok_lok ⟨hb.1,hn⟩ e4 ha0,fun _=>rfl⟩
end
theorem FWf.flen {f:Formula} (h:FWf f):FLen f.clauses:=⟨h.2.1,fun c hc=>(h.2.2 c hc).1⟩
theorem small_ok {f:Formula} {v n:Int} (h:smallB f v n=true):f.vars≤v∧(f.clauses.length:Int)≤n:=by
 unfold smallB at h
 simp only[Bool.and_eq_true,decide_eq_true_eq] at h
 exact⟨h.1.2,h.2⟩
theorem plen_of {n:Int} (hn:0≤n∧n≤65536) {F0 P:List (List Int)} (h:uZ n F0 P):PLen P:=⟨by have:=h.2.2.2.2;omega,fun c hc=>by have:=(clF_ok (h.2.2.1 c hc)).len hn;omega⟩
theorem AOk.three {n:Int} {F0:List (List Int)} {p:Int} {a:Answer} (h:AOk n F0 p a):(a.kind=0∧a.proof=[]∧fJ n F0 a.model)∨(a.kind=1∧a.model=[]∧uZ n F0 a.proof)∨(a.kind=2∧a.model=[]∧a.proof=[]):=by
 rcases h.2.2.2 with h|h|⟨h1,h2,h3,_⟩
 ·exact Or.inl h
 ·exact Or.inr (Or.inl h)
 exact Or.inr (Or.inr ⟨h1,h2,h3⟩)
theorem LOk.three {n:Int} {F0:List (List Int)} {o:List Int} {p:Int} {a:Answer} (h:LOk n F0 o p a):(a.kind=0∧a.proof=[]∧fJ n F0 a.model)∨(a.kind=1∧a.model=[]∧uZ n F0 a.proof)∨(a.kind=2∧a.model=[]∧a.proof=[]):=by
 rcases h.2.2 with⟨a,b,c,_⟩|g|⟨a,b,c,d,_⟩
 ·exact Or.inl ⟨a,b,c⟩
 ·exact Or.inr (Or.inl g)
 exact Or.inr (Or.inr ⟨a,b,c⟩)
def exA:List (List Int):=[[1,2],[-1,2]]
theorem aA1:iV ⟨2,exA⟩=true:=by decide+kernel
theorem mod2 {F:List (List Int)} {m:List Int} (h:fJ 2 F m):m=[1,2]∨m=[1,-2]∨m=[-1,2]∨m=[-1,-2]:=by
 obtain⟨h1,h2,_⟩:=h
 match m,h1,h2 with
 | [x,y],_,h2=>
  have a:=h2 0 x rfl
  have b:=h2 1 y rfl
  rcases a with rfl|rfl<;>rcases b with rfl|rfl<;>simp
theorem ex_m1:fJ 2 exA [1,2]:=(wB (f:=⟨2,exA⟩) aA1).1 (by decide+kernel)
theorem ex_m2:fJ 2 exA [-1,2]:=(wB (f:=⟨2,exA⟩) aA1).1 (by decide+kernel)
theorem ex_no {m:List Int} (h:fJ 2 exA m):m=[1,2]∨m=[-1,2]:=by
 rcases mod2 h with rfl|rfl|rfl|rfl
 ·exact Or.inl rfl
 ·exact absurd (h.2.2 [-1,2] (by simp[exA])) (by decide+kernel)
 ·exact Or.inr rfl
 exact absurd (h.2.2 [1,2] (by simp[exA])) (by decide+kernel)
theorem awake_ok:kX=some true:=by
 have hb:=mP aA1
 have hFL:=yX aA1
 obtain⟨a,_,e1,_,a1,_⟩:=aJ3 (f:=⟨2,exA⟩) (asX:=[-2]) (p:=100) (q:=100) (by decide+kernel) (Int.le_refl _) (by decide) (by decide)
 obtain⟨b,_,e2,_,b1,_⟩:=aJ3 (f:=⟨2,exA⟩) (asX:=[]) (p:=100) (q:=100) (by decide+kernel) (Int.le_refl _) (by decide) (by decide)
 obtain⟨c,_,e3,_,c1,_⟩:=least_ok (f:=⟨2,exA⟩) (order:=[1,2]) (p:=100) (q:=100) (by decide) (by decide) (by decide) (by decide+kernel) (Int.le_refl _) (by decide)
 have ak:=a1.kind (by decide) (by decide)
 have bk:=b1.kind (by decide) (by decide)
 have ha:a.kind=1∧uZ 2 (exA++ones [-2]) a.proof:=by
  rcases a1.three with⟨_,_,h⟩|⟨h1,_,h2⟩|⟨h,_⟩
  ·exfalso
   obtain⟨h1,h2⟩:=aD5.1 h
   rcases ex_no h1 with e|e
   ·rw[e] at h2;revert h2;decide+kernel
   rw[e] at h2;revert h2;decide+kernel
  ·exact⟨h1,h2⟩
  exact absurd h ak
 have hbm:b.kind=0∧(b.model=[1,2]∨b.model=[-1,2]):=by
  rw[aJ0,List.append_nil] at b1
  rcases b1.three with⟨h1,_,h⟩|⟨_,_,h2⟩|⟨h,_⟩
  ·exact⟨h1,ex_no h⟩
  ·exact absurd ex_m1 (yT h2 _)
  exact absurd h bk
 have hcm:c.kind=0∧c.model=[-1,2]:=by
  rcases c1.2.2 with⟨h1,_,h2,h3⟩|⟨_,_,h2⟩|⟨_,_,_,_,h⟩
  ·refine⟨h1,?_⟩
   rcases ex_no h2 with e|e
   ·have h4:=h3 _ ex_m2
    rw[e] at h4
    exact absurd h4 (by decide+kernel)
   exact e
  ·exact absurd ex_m1 (yT h2 _)
  exact absurd h (by decide)
 have hw:iV ⟨2,exA++ones [-2]⟩=true:=by decide+kernel
 have hwF:FLen (exA++ones [-2]):=⟨by decide,by decide⟩
 have hchk:mD ⟨2,exA++ones [-2]⟩ a.proof=some true:=by
  rw[check_ok (f:=⟨2,exA++ones [-2]⟩) hwF (plen_of (by decide) ha.2),proof_chk (f:=⟨2,exA⟩) hw ha.2]
 have hwith:jV ⟨2,exA⟩ [-2]=some ⟨2,exA++ones [-2]⟩:=with28_ok (f:=⟨2,exA⟩) (by decide)
 have e1:iE (Formula.mk 2 ([([1,2]:List Int),([(-1),2]:List Int)])) ([(-2)]:List Int) 100=some (a,0):=e1
 have e2:iE (Formula.mk 2 ([([1,2]:List Int),([(-1),2]:List Int)])) [] 100=some (b,0):=e2
 have e3:nV (Formula.mk 2 ([([1,2]:List Int),([(-1),2]:List Int)])) ([1,2]:List Int) 100=some (c,0):=e3
 have hwith:jV (Formula.mk 2 ([([1,2]:List Int),([(-1),2]:List Int)])) ([(-2)]:List Int)=some ⟨2,exA++ones [-2]⟩:=hwith
 unfold kX
 rw[e1,bsm,e2,bsm,e3,bsm]
 simp only
 rw[if_pos (by simp[ha.1]),hwith,bsm,hchk,bsm,bsm]
 have hbl:b.model.length=2∧idx b.model 1=some 2:=by
  rcases hbm.2 with e|e
  ·rw[e];exact⟨rfl,rfl⟩
  rw[e];exact⟨rfl,rfl⟩
 rw[if_pos (by simp[hbm.1,hbl.1]),hbl.2,bsm,bsm]
 rw[if_pos (by simp[hcm.1]),hcm.2,lists_equal _ _ (by decide),bsm,bsm]
 rfl
theorem pow_le {n:Int} (hn:n≤12):((2 ^ n.toNat:Nat):Int)≤65536:=by
 have:=pow_bnd (show n.toNat≤12 by omega)
 omega
theorem U16.r {n:Int} (h:(Lit.int .u16 n).wf=true):0≤n∧n≤65535:=by
 simp[Lit.wf,IntKind.min,IntKind.max,IntKind.signed,IntKind.bits] at h
 omega
def yR (m:List Int):List Int:=m.map fun x=>0-x
theorem vr_neg0 (x:Int):vr (0-x)=vr x:=by unfold vr;omega
theorem negL_len (m:List Int):(yR m).length=m.length:=by unfold yR;rw[List.length_map]
theorem clF_md {v:Int}:∀(m:List Int) (i:Int),0≤i→(∀(k:Nat) x,m[k]?=some x→x=i+k+1∨x= -(i+k+1))→i+m.length≤v→clF v i m=true
 | [],_,_,_,_=>rfl
 |x::r,i,h0,h,hl=>by
  have hx:=h 0 x rfl
  rw[List.length_cons] at hl
  have hv:vr x=i+1:=by unfold vr;omega
  unfold clF
  rw[hv,clF_md r (i+1) (by omega) (fun k y hy=>by have:=h (k+1) y (by rw[List.getElem?_cons_succ];exact hy);omega) (by omega)]
  simp only[Bool.and_true,Bool.and_eq_true,decide_eq_true_eq]
  omega
theorem negL_get {m:List Int} {k:Nat} {x:Int} (h:(yR m)[k]?=some x):m[k]?=some (0-x):=by
 unfold yR at h
 rw[List.getElem?_map] at h
 cases hm:m[k]? with
 |none=>rw[hm] at h;cases h
 |some y=>
  rw[hm] at h
  have h:0-y=x:=Option.some.inj h
  rw[←h]
  congr 1
  omega
theorem negL_clF {n:Int} {m:List Int} (hm:MdL m) (hl:(m.length:Int)=n):clF n 0 (yR m)=true:=
 clF_md (yR m) 0 (Int.le_refl 0) (fun k x hx=>by have:=hm k _ (negL_get hx);omega) (by rw[negL_len];omega)
theorem sat_neg {n:Int} {a m:List Int} (ha:MdL a) (hal:(a.length:Int)=n) (hm:MdL m) (hml:(m.length:Int)=n):uD a (yR m)=true↔a≠m:=by
 unfold uD
 rw[List.any_eq_true]
 constructor
 ·rintro⟨l,hl,h⟩ rfl
  simp only[decide_eq_true_eq] at h
  obtain⟨k,hk⟩:=List.getElem?_of_mem hl
  have h1:=negL_get hk
  have h2:=hm.at (List.mem_of_getElem? h1)
  rw[vr_neg0,h] at h2
  have:=Option.some.inj h2.2
  omega
 intro hne
 refine Classical.byContradiction fun hno=>hne (List.ext_getElem? fun i=>?_)
 rcases Nat.lt_or_ge i a.length with hi|hi
 ·have e1:a[i]?=some a[i]:=List.getElem?_eq_getElem hi
  have hi2:i<m.length:=by omega
  have e2:m[i]?=some m[i]:=List.getElem?_eq_getElem hi2
  have h1:=ha i _ e1
  have h2:=hm i _ e2
  rw[e1,e2]
  congr 1
  refine Classical.byContradiction fun hd=>hno ⟨a[i],?_,?_⟩
  ·unfold yR
   rw[List.mem_map]
   exact⟨m[i],List.getElem_mem hi2,by omega⟩
  simp only[decide_eq_true_eq]
  exact(ha.at (List.getElem_mem hi)).2
 rw[List.getElem?_eq_none hi,List.getElem?_eq_none (by omega)]
theorem model_block {n:Int} {F:List (List Int)} {B:List (List Int)} (hB:∀b∈B,fJ n F b) {m:List Int}:fJ n (F++B.map yR) m↔fJ n F m∧m∉B:=by
 constructor
 ·rintro⟨a,b,c⟩
  refine⟨⟨a,b,fun d hd=>c d (List.mem_append_left _ hd)⟩,fun hm=>?_⟩
  have h:=c (yR m) (List.mem_append_right _ (List.mem_map.2 ⟨m,hm,rfl⟩))
  exact(sat_neg b a b a).1 h rfl
 rintro⟨⟨a,b,c⟩,d⟩
 refine⟨a,b,fun e he=>?_⟩
 rcases List.mem_append.1 he with he|he
 ·exact c e he
 obtain⟨x,hx,rfl⟩:=List.mem_map.1 he
 obtain⟨x1,x2,_⟩:=hB x hx
 exact(sat_neg b a x2 x1).2 fun e=>d (e▸hx)
theorem block_len {n:Int} (hn:0≤n) {F B:List (List Int)} (hd:B.Nodup) (hB:∀b∈B,fJ n F b):B.length≤2 ^ n.toNat:=by
 have hv:((n.toNat:Nat):Int)=n:=by omega
 have hnd:((List.range (2 ^ n.toNat)).map (mdl n.toNat)).Nodup:=by
  unfold List.Nodup
  rw[List.pairwise_map]
  refine List.Pairwise.imp_of_mem (fun{a b} ha hb hne he=>hne ?_) (List.nodup_range (n:=2 ^ n.toNat))
  rw[List.mem_range] at ha hb
  exact mdl_inj _ a b ha hb he
 have hnf:(((List.range (2 ^ n.toNat)).map (mdl n.toNat)).filter fun m=>decide (m∈B)).Nodup:=hnd.sublist List.filter_sublist
 have hp:=((List.perm_ext_iff_of_nodup hnf hd).2 fun m=>by
  rw[List.mem_filter]
  constructor
  ·intro h;simpa using h.2
  intro h
  obtain⟨x1,x2,_⟩:=hB m h
  obtain⟨b,hb1,hb2⟩:=aI8 n.toNat m x2 (by omega)
  exact⟨List.mem_map.2 ⟨b,List.mem_range.2 hb1,hb2⟩,by simpa using h⟩).length_eq
 rw[←hp]
 refine Nat.le_trans (List.length_filter_le _ _) ?_
 rw[List.length_map,List.length_range]
 exact Nat.le_refl _
theorem valid_block {f:Formula} (hv:iV f=true) {B:List (List Int)} (hB:∀b∈B,fJ f.vars f.clauses b) (hl:f.clauses.length+B.length≤262144):iV ⟨f.vars,f.clauses++B.map yR⟩=true:=by
 have hb:=mP hv
 unfold iV
 simp only[Bool.and_eq_true,decide_eq_true_eq,List.all_eq_true]
 refine⟨⟨⟨hb.1,hb.2.1⟩,by rw[List.length_append,List.length_map];exact hl⟩,fun c hc=>?_⟩
 rcases List.mem_append.1 hc with hc|hc
 ·exact hb.2.2.2 c hc
 obtain⟨x,hx,rfl⟩:=List.mem_map.1 hc
 obtain⟨x1,x2,_⟩:=hB x hx
 exact negL_clF x2 x1
theorem counts_lp2 (x4:Answer×Int) (hl:x4.1.model.length≤65536) (hm:MdL x4.1.model):dC (fun s=>fO x4 s.1 s.2) ((0:Int),([]:List Int))=some (yR x4.1.model):=by
 obtain⟨r,hr,rfl⟩:=uA (body:=fun s:Int×List Int=>fO x4 s.1 s.2) (s0:=((0:Int),([]:List Int))) x4.1.model.length (fun k (t:List Int)=>((k:Int),t)) (fun k t=>t=yR (x4.1.model.take k)) (fun r=>r=yR x4.1.model) (t0:=[]) rfl rfl (by
  rintro k t hk rfl
  have e0:=ltB hk
  have hup:=jA hk (show x4.1.model.length≤9223372036854775807 by omega)
  have e1:x4.1.model[k]?=some x4.1.model[k]:=List.getElem?_eq_getElem hk
  have e2:=hm k _ e1
  have e3:(yR (x4.1.model.take k)).length=k:=by rw[negL_len,List.length_take];omega
  simp only[fO,e0,if_true,dA e1,bsm,gW (show -9223372036854775808≤0-x4.1.model[k]∧0-x4.1.model[k]≤9223372036854775807 by omega),oV (show(yR (x4.1.model.take k)).length+([0-x4.1.model[k]]:List Int).length≤4294967296 by rw[e3];simp;omega),hup]
  refine Or.inl ⟨_,rfl,?_⟩
  rw[List.take_add_one,e1]
  unfold yR
  rw[List.map_append]
  rfl) (by
  rintro t rfl
  exact⟨yR (x4.1.model.take x4.1.model.length),by simp only[fO,rY,if_false,Bool.false_eq_true],by rw[List.take_length]⟩)
 exact hr
theorem law_SolverCounts (p0:Formula) (h0:FWf p0):lJ p0=some true:=by
 have hF:=h0.flen
 unfold lJ
 rw[awake_ok,bsm,if_neg (by decide),small_eq _ _ _ hF.1,bsm,aA0 hF]
 cases hs:smallB p0 5 12 with
 |false=>rfl
 |true=>
  cases hv:iV p0 with
  |false=>rfl
  |true=>
   obtain⟨hs1,hs2⟩:=small_ok hs
   have hb:=mP hv
   have hp32:2 ^ p0.vars.toNat≤32:=Nat.pow_le_pow_right (show 2>0 by decide) (show p0.vars.toNat≤5 by omega)
   have key:=wC (body:=fun s:Int×Int×List (List Int)=>jI p0 s.1 s.2.1 s.2.2)
    (fun s=>∃B:List (List Int),s=((B.length:Int),p0.vars,p0.clauses++B.map yR)∧B.Nodup∧∀b∈B,fJ p0.vars p0.clauses b)
    (fun s=>33-s.1.toNat) (fun r=>r= .ret true) (by
     rintro s ⟨B,rfl,hd,hB⟩
     have hlen:=Nat.le_trans (block_len hb.1 hd hB) hp32
     have hvw:iV ⟨p0.vars,p0.clauses++B.map yR⟩=true:=valid_block hv hB (by omega)
     obtain⟨a,_,e1,_,a1,_⟩:=aJ3 (f:=⟨p0.vars,p0.clauses++B.map yR⟩) (asX:=[]) (p:=65536) (q:=65536) (yF.2 ⟨by decide,hvw,by simp⟩) (Int.le_refl _) (by decide) (by simp;omega)
     rw[aJ0,List.append_nil] at a1
     have a1:AOk p0.vars (p0.clauses++B.map yR) 65536 a:=a1
     have ak:=a1.kind ⟨hb.1,by omega⟩ (pow_le (by omega))
     have hFW:=yX hvw
     unfold jI
     rw[if_pos (by simp;omega),e1,bsm]
     rw[if_neg (by simp[ak])]
     rcases a1.three with⟨k,_,h⟩|⟨k,_,h⟩|⟨k,_⟩
     ·obtain⟨hm,hnew⟩:=(model_block hB).1 h
      left
      have hal:a.model.length≤65536:=by have:=hm.1;omega
      rw[if_neg (by simp[k]),cnf_holds hF,(wB hv).2 hm,bsm,if_neg (by decide),counts_lp2 (a,0) hal hm.2.1,bsm,gW ⟨by omega,by omega⟩,bsm]
      rw[with_ok (f:=⟨p0.vars,p0.clauses++B.map yR⟩) (by simp;omega),bsm]
      refine⟨_,rfl,⟨B++[a.model],?_,?_,?_⟩,?_⟩
      ·simp
      ·rw[List.nodup_append]
       refine⟨hd,by simp,?_⟩
       intro x hx y hy e
       rw[List.mem_singleton] at hy
       subst hy;subst e
       exact hnew hx
      ·intro b hb
       rcases List.mem_append.1 hb with hb|hb
       ·exact hB b hb
       rw[List.mem_singleton] at hb;subst hb;exact hm
      simp only
      omega
     ·right
      have hall:∀m,m∈B↔fJ p0.vars p0.clauses m:=fun m=>by
       refine⟨hB m,fun hm=>Classical.byContradiction fun hno=>yT h m ((model_block hB).2 ⟨hm,hno⟩)⟩
      rw[if_pos (by simp[k]),models_ok hv (by omega) hd hall,bsm,if_pos (by simp),check_ok hFW (plen_of ⟨hb.1,hb.2.1⟩ h),proof_chk hvw h,bsm,bsm]
      exact⟨_,rfl,rfl⟩
     exact absurd k ak) ((0:Int),p0.vars,p0.clauses) ⟨[],by simp,List.nodup_nil,by simp⟩
   obtain⟨b,e,rfl⟩:=key
   simp only[bsm,Bool.not_true,Bool.false_eq_true,if_false]
   rw[e,bsm]
end Go.Proofs.Ytpkhmndpeipfmaa
