import Derived.Test.YtepkmadmigkgmaaGreatDoorOptD
open Bool renaming false_ne_true→Ba
open Classical renaming axiomOfChoice→Ch,byContradiction→tp
open Go.Value renaming bool→jx,int→gZ,pointer→mo,slice→gS,string→jy
open Int renaming add_zero→E1,eq_of_mul_eq_mul_left→Ct,mul_comm→GQ,mul_pos→Ed,mul_zero→Dq,natAbs_mul→AF,natAbs_natCast→qe,natAbs_sub_le→GZ,natCast_mul→Br,neg_mul→F0,neg_neg→Dk,one_mul→F5,zero_mul→C8
open List renaming ext_getElem?→BU,getElem?_eq_getElem→kF,getElem?_eq_none→Ae,getElem?_eq_some_iff→nN,getElem?_map→As,getElem?_range→Cq,getElem?_set→DK,length→gP,length_append→k0,length_cons→Ao,length_eq_zero_iff→vT,length_map→mu,length_range→BH,length_replicate→ru,length_set→Bb,length_singleton→nP,length_take→sn,mem_append→AY,mem_cons→Ad,mem_cons_of_mem→Bz,mem_cons_self→AR,mem_map→AZ,mem_of_getElem?→mp,mem_range→Dj,mem_singleton→qq,not_mem_nil→og,range→AI,replicate→ns,take_append_drop→Bm,take_of_length_le→pq
open Nat renaming add_comm→Bj,add_mod_right→GY,add_mul→An,add_mul_div_right→DC,add_sub_cancel_left→BD,add_zero→AJ,div_eq_of_lt→Cz,dvd_mul_left→G8,dvd_mul_right→G0,gcd→rp,lcm→Fp,le_mul_of_pos_left→CM,le_mul_of_pos_right→BG,le_of_dvd→EE,le_of_lt→Bh,le_refl→AL,le_succ→Al,le_trans→Aa,lt_of_le_of_lt→Aj,lt_of_lt_of_le→Af,lt_succ_self→B4,mod_lt→Az,mul_add→Ap,mul_assoc→Ah,mul_comm→pe,mul_le_mul→Ar,mul_le_mul_left→s9,mul_le_mul_right→o0,mul_left_comm→Be,mul_lt_mul''→Dh,mul_one→AH,mul_pos→CP,mul_zero→Bp,not_lt_zero→AQ,one_dvd→Hm,one_lt_two_pow→GB,one_mul→BR,one_pos→F6,pow_add→Bf,pow_le_pow_right→sN,pow_succ→Ac,two_pow_pos→D8,zero_add→sb,zero_le→CO
open Option renaming map_eq_some_iff→A7
open Option.some renaming inj→Bx
open Rat renaming add_zero→DW,divInt→AK,divInt_eq_div→Bs,div_def→DO,div_mul_cancel→Ce,intCast_eq_zero_iff→Bv,intCast_lt_intCast→Ds,intCast_mul→AC,intCast_natCast→Bn,intCast_neg→FL,intCast_pos→Cc,intCast_sub→Hv,le_of_lt→Bc,le_refl→Cg,lt_irrefl→Ca,mul_assoc→Dy,mul_comm→Cd,mul_eq_zero→Hx,mul_nonneg→DQ,mul_one→DP,mul_pos→BZ,mul_zero→DV,natCast_eq_zero_iff→Ee,neg_num→F2,not_le→B7,not_lt→CV,num_eq_zero→Cr,num_nonneg→CG,one_mul→EL,zero_mul→B6
set_option maxHeartbeats 8000000
set_option linter.unusedVariables false
set_option linter.unusedSimpArgs false
namespace Go.Proofs.YtepkmadmigkgmaaGreatDoor
variable {M k P N DB E:Nat}{g δ ρ q:Rat}{y x σ:Nat→Rat}{α:Type}{cl ch rl rh:Nat→Option Rat}{T:Nat→Nat→Int}{d:Int}
theorem kc {f:Nat→Int}{n e:Nat}(b:e<n):sm n f=sm n (fun c=>if c=e then 0 else f c)+f e:=by
 induction n with
 |zero=>omega
 |succ n ih=>
  show sm n f+f n=sm n _+(if n=e then 0 else f n)+f e;by_cases h:n=e
  ·subst h;rw [eS rfl,tf (f:=f) (g:=fun c=>if c=n then 0 else f c) fun j i=>by rw [eP zo]];omega
  rw [eP h,ih zo];omega
theorem uM {f:Nat→Rat}{n e:Nat}(b:e<n):smr n f=smr n (fun c=>if c=e then 0 else f c)+f e:=by
 induction n with
 |zero=>omega
 |succ n ih=>
  show smr n f+f n=smr n _+(if n=e then 0 else f n)+f e;by_cases h:n=e
  ·subst h;rw [eS rfl,yg (f:=f) (g:=fun c=>if c=n then 0 else f c) fun j i=>by rw [eP zo]]
   grind
  rw [eP h,ih zo]
  grind
def swp {α:Type}(f:Nat→α)(k:Nat)(v:α):Nat→α:=fun c=>if c=k then v else f c
def sgn (t:Int):Int:=if t<0 then -1 else 1
theorem fF (t:Int):sgn t*t=(t.natAbs:Int):=by unfold sgn;split<;>omega
theorem zpc (t:Int):sgn t*sgn t=1:=by unfold sgn;split<;>rfl
def pT (T:Nat→Nat→Int)(d:Int)(r e:Nat):Nat→Nat→Int:=fun i c=>sgn (T r e)*(if i=r then (if c=e then d else -T r c) else if c=e then T i e else (T i c*T r e-T i e*T r c).tdiv d)
structure TabI (n m:Nat)(a:Nat→Nat→Int)(nb bs:Nat→Nat)(T:Nat→Nat→Int)(d:Int):Prop where
 dp:0<d
 dd:det n (fun c=>a (nb c))=d∨det n (fun c=>a (nb c))= -d
 rep:∀i,i≤m→∀j,j<n→d*a (bs i) j=sm n fun c=>T i c*a (nb c) j
section
variable {n m:Nat}{a:Nat→Nat→Int}{nb bs:Nat→Nat}
theorem TabI.ent (h:TabI n m a nb bs T d){i c:Nat}(hi:i≤m)(g:c<n):T i c=det n (rw' (fun c=>a (nb c)) c (a (bs i)))∨T i c= -det n (rw' (fun c=>a (nb c)) c (a (bs i))):=by
 have b:=zf0 (A:=fun c=>a (nb c)) g (h.rep i hi);have:=h.dp;rcases h.dd with e|e<;>rw [e] at b
 ·left;exact (Ct zo (b.trans (GQ _ _))).symm
 right;have f:d*det n (rw' (fun c=>a (nb c)) c (a (bs i)))=d* -T i c:=by rw [b];grind
 have:=Ct zo f;omega
theorem TabI.newdet (h:TabI n m a nb bs T d){r e:Nat}(i:r≤m)(g:e<n):det n (fun c=>a (swp nb e (bs r) c))=T r e∨det n (fun c=>a (swp nb e (bs r) c))= -T r e:=by
 have b:(fun c=>a (swp nb e (bs r) c))=rw' (fun c=>a (nb c)) e (a (bs r)):=by
  funext c j;unfold swp rw';split<;>rfl
 rw [b];rcases h.ent i g with f|f<;>omega
theorem TabI.newrow (h:TabI n m a nb bs T d){r e i:Nat}(p:r≤m)(o:e<n)(hi:i≤m)(j:Nat)(hj:j<n):T r e*d*a (bs i) j=sm n fun c=>(if c=e then T i e*d else T i c*T r e-T i e*T r c)*a (swp nb e (bs r) c) j:=by
 have g:=h.rep i hi j hj;have l:=h.rep r p j hj;rw [kc o] at g l ⊢;have b:sm n (fun c=>if c=e then 0 else (if c=e then T i e*d else T i c*T r e-T i e*T r c)*a (swp nb e (bs r) c) j)=T r e*sm n (fun c=>if c=e then 0 else T i c*a (nb c) j)+ -T i e*sm n (fun c=>if c=e then 0 else T r c*a (nb c) j):=by
  rw [←oj,←oj,←zj5];refine tf fun c q=>?_;by_cases hce:c=e
  ·simp only [eS hce];omega
  simp only [eP hce,swp]
  grind
 rw [b,eS rfl];have f:swp nb e (bs r) e=bs r:=by unfold swp;rw [eS rfl]
 rw [f];generalize sm n (fun c=>if c=e then 0 else T i c*a (nb c) j)=A at*
 generalize sm n (fun c=>if c=e then 0 else T r c*a (nb c) j)=R at*
 grind
theorem TabI.exact (h:TabI n m a nb bs T d){r e i c:Nat}(p:r≤m)(o:e<n)(hi:i≤m)(u:c<n)(q:T r e≠0)(l:c≠e):d∣T i c*T r e-T i e*T r c:=by
 have b:=zf0 (A:=fun c=>a (swp nb e (bs r) c)) u (fun j v=>h.newrow p o hi j v);rw [eP l] at b;generalize det n (rw' (fun c=>a (swp nb e (bs r) c)) c (a (bs i)))=D at b;rcases h.newdet p o with g|g<;>rw [g] at b
 ·have f:T r e*(d*D)=T r e*(T i c*T r e-T i e*T r c):=by rw [←Int.mul_assoc,b,GQ]
  exact ⟨D,(Ct q f).symm⟩
 have f:T r e*(d* -D)=T r e*(T i c*T r e-T i e*T r c):=by
  have:T r e*(d* -D)= -(T r e*d*D):=by grind
  rw [this,b]
  grind
 exact ⟨-D,(Ct q f).symm⟩
theorem dY {x d:Int}(h:d∣x):d*x.tdiv d=x:=Int.mul_tdiv_cancel' h
theorem TabI.pivot (h:TabI n m a nb bs T d){r e:Nat}(g:r≤m)(b:e<n)(A:T r e≠0):TabI n m a (swp nb e (bs r)) (swp bs r (nb e)) (pT T d r e) ((T r e).natAbs:Int):=by
 have B:=h.dp;refine ⟨zo,?_,fun i hi j p=>?_⟩
 ·rcases h.newdet g b with f|f<;>rw [f]<;>omega
 have u:swp nb e (bs r) e=bs r:=by unfold swp;rw [eS rfl]
 by_cases hir:i=r
 ·subst hir;have y:=h.rep i g j p;have l:swp bs i (nb e) i=nb e:=by unfold swp;rw [eS rfl]
  rw [l,kc b];rw [kc b] at y;have q:sm n (fun c=>if c=e then 0 else pT T d i e i c*a (swp nb e (bs i) c) j)= -sgn (T i e)*sm n (fun c=>if c=e then 0 else T i c*a (nb c) j):=by
   rw [←oj];refine tf fun c o=>?_;by_cases hce:c=e
   ·simp only [eS hce];omega
   simp only [eP hce,swp,pT,eS]
   grind
  rw [q,u];have v:pT T d i e i e=sgn (T i e)*d:=by unfold pT;rw [eS rfl,eS rfl]
  rw [v,←fF];generalize sm n (fun c=>if c=e then 0 else T i c*a (nb c) j)=R at*
  grind
 have l:swp bs r (nb e) i=bs i:=by unfold swp;rw [eP hir]
 rw [l];have f:=h.newrow g b hi j p;refine Ct (a:=d) zo ?_;rw [←oj,←fF];have w:sm n (fun c=>d*(pT T d r e i c*a (swp nb e (bs r) c) j))=sgn (T r e)*sm n fun c=>(if c=e then T i e*d else T i c*T r e-T i e*T r c)*a (swp nb e (bs r) c) j:=by
  rw [←oj];refine tf fun c o=>?_;by_cases hce:c=e
  ·simp only [eS hce,pT,eP hir]
   grind
  have:=dY (h.exact g b hi o A hce);simp only [eP hce,pT,eP hir];generalize (T i c*T r e-T i e*T r c).tdiv d=Z at this ⊢;rw [←this]
  grind
 rw [w,←f]
 grind
def RepY (n m:Nat)(nb bs:Nat→Nat)(T:Nat→Nat→Int)(d:Int)(y:Nat→Rat):Prop:=∀i,i≤m→(d:Rat)*y (bs i)=smr n fun c=>(T i c:Rat)*y (nb c)
theorem wu {a b c:Rat}(h:a≠0)(e:a*b=a*c):b=c:=by
 have:=congrArg (a⁻¹ * ·) e;simp only [←Dy,Rat.inv_mul_cancel _ h,EL] at this;exact this
theorem RepY.pivot (h:TabI n m a nb bs T d){r e:Nat}(w:r≤m)(u:e<n)(H:T r e≠0)(y:Nat→Rat):RepY n m (swp nb e (bs r)) (swp bs r (nb e)) (pT T d r e) ((T r e).natAbs:Int) y↔RepY n m nb bs T d y:=by
 have N:=h.dp;have F:(d:Rat)≠0:=fun e=>by have:=Bv.1 e;omega
 have I:(T r e:Rat)≠0:=fun e=>H (Bv.1 e);have P:((sgn (T r e):Int):Rat)*((sgn (T r e):Int):Rat)=1:=by rw [←AC,zpc];rfl
 have f:(((T r e).natAbs:Int):Rat)=((sgn (T r e):Int):Rat)*(T r e:Rat):=by rw [←fF,AC]
 have B:swp nb e (bs r) e=bs r:=by unfold swp;rw [eS rfl]
 have q:∀i,smr n (fun c=>(T i c:Rat)*y (nb c))=smr n (fun c=>if c=e then 0 else (T i c:Rat)*y (nb c))+(T i e:Rat)*y (nb e):=fun i=>uM u;have p:smr n (fun c=>(pT T d r e r c:Rat)*y (swp nb e (bs r) c))= -((sgn (T r e):Int):Rat)*smr n (fun c=>if c=e then 0 else (T r c:Rat)*y (nb c))+((sgn (T r e):Int):Rat)*d*y (bs r):=by
  rw [uM u,B];have v:(pT T d r e r e:Rat)=((sgn (T r e):Int):Rat)*d:=by unfold pT;rw [eS rfl,eS rfl,AC]
  rw [v];congr 1;rw [←wL];refine yg fun c D=>?_;by_cases hce:c=e
  ·simp only [eS hce];grind
  simp only [eP hce,swp,pT,eS];rw [AC,FL]
  grind
 have o:∀i,i≤m→i≠r→(d:Rat)*smr n (fun c=>(pT T d r e i c:Rat)*y (swp nb e (bs r) c))=((sgn (T r e):Int):Rat)*((T r e:Rat)*smr n (fun c=>if c=e then 0 else (T i c:Rat)*y (nb c))-(T i e:Rat)*smr n (fun c=>if c=e then 0 else (T r c:Rat)*y (nb c))+(T i e:Rat)*d*y (bs r)):=fun i hi b=>by
  rw [uM u,B];have v:(pT T d r e i e:Rat)=((sgn (T r e):Int):Rat)*(T i e:Rat):=by unfold pT;rw [eP b,eS rfl,AC]
  rw [v];have J:(d:Rat)*smr n (fun c=>if c=e then 0 else (pT T d r e i c:Rat)*y (swp nb e (bs r) c))=((sgn (T r e):Int):Rat)*((T r e:Rat)*smr n (fun c=>if c=e then 0 else (T i c:Rat)*y (nb c))-(T i e:Rat)*smr n (fun c=>if c=e then 0 else (T r c:Rat)*y (nb c))):=by
   rw [←wL,←wL,←wL,←zdd,←wL];refine yg fun c D=>?_;by_cases hce:c=e
   ·simp only [eS hce];grind
   have K:=dY (h.exact w u hi D H hce);have M:(d:Rat)*(((T i c*T r e-T i e*T r c).tdiv d:Int):Rat)=(T i c:Rat)*T r e-(T i e:Rat)*T r c:=by
    rw [←AC,K,Hv,AC,AC]
   simp only [eP hce,swp,pT,eP b];rw [AC];generalize (((T i c*T r e-T i e*T r c).tdiv d:Int):Rat)=Z at M ⊢
   grind
  rw [Rat.mul_add,J]
  grind
 constructor
 ·intro l;have j:=l r w;rw [p,f,show swp bs r (nb e) r=nb e from by unfold swp;rw [eS rfl]] at j;generalize ((sgn (T r e):Int):Rat)=s at*
  have G:(d:Rat)*y (bs r)=smr n (fun c=>if c=e then 0 else (T r c:Rat)*y (nb c))+(T r e:Rat)*y (nb e):=by
   have:s*(s*(T r e:Rat)*y (nb e))=s*(-s*smr n (fun c=>if c=e then 0 else (T r c:Rat)*y (nb c))+s*d*y (bs r)):=by rw [j]
   generalize smr n (fun c=>if c=e then 0 else (T r c:Rat)*y (nb c))=R at*
   grind
  intro i hi;rw [q];by_cases b:i=r
  ·rw [b];exact G
  have g:=l i hi;rw [f,show swp bs r (nb e) i=bs i from by unfold swp;rw [eP b]] at g;have C:=o i hi b;rw [←g] at C;generalize smr n (fun c=>if c=e then 0 else (T r c:Rat)*y (nb c))=R at*
  generalize smr n (fun c=>if c=e then 0 else (T i c:Rat)*y (nb c))=A at*
  refine wu I ?_;have O:s*((d:Rat)*(s*(T r e:Rat)*y (bs i)))=s*(s*((T r e:Rat)*A-(T i e:Rat)*R+(T i e:Rat)*d*y (bs r))):=by rw [C]
  grind
 intro l i hi;have j:=l r w;rw [q] at j;by_cases b:i=r
 ·subst b;rw [p,f,show swp bs i (nb e) i=nb e from by unfold swp;rw [eS rfl]];generalize smr n (fun c=>if c=e then 0 else (T i c:Rat)*y (nb c))=R at*
  grind
 have g:=l i hi;rw [q] at g;rw [f,show swp bs r (nb e) i=bs i from by unfold swp;rw [eP b]];refine wu F ?_;rw [o i hi b];generalize smr n (fun c=>if c=e then 0 else (T r c:Rat)*y (nb c))=R at*
 generalize smr n (fun c=>if c=e then 0 else (T i c:Rat)*y (nb c))=A at*
 grind
end
structure PT where
 nb:Nat→Nat
 bs:Nat→Nat
 T:Nat→Nat→Int
 d:Int
structure PS extends PT where
 x:Nat→Rat
def PT.piv (t:PT)(r e:Nat):PT:=⟨swp t.nb e (t.bs r),swp t.bs r (t.nb e),pT t.T t.d r e,((t.T r e).natAbs:Int)⟩
section
variable (n m:Nat)(a:Nat→Nat→Int)(lo hi:Nat→Option Rat)(L:(Nat→Rat)→Prop)
def Bas (m:Nat)(bs:Nat→Nat)(v:Nat):Prop:=∃i,i<m∧bs i=v
def atB (v:Nat)(x:Rat):Prop:=lo v=some x∨hi v=some x∨lo v=none∧hi v=none∧x=0
structure PB (t:PT):Prop where
 tab:TabI n m a t.nb t.bs t.T t.d
 nv:∀c,c<n→t.nb c<n+m
 bv:∀i,i<m→t.bs i<n+m
 bm:t.bs m=n+m
 inj:∀c c',c<n→c'<n→t.nb c=t.nb c'→c=c'
 jnj:∀i i',i<m→i'<m→t.bs i=t.bs i'→i=i'
 dis:∀c i,c<n→i<m→t.nb c≠t.bs i
 cov:∀v,v<n+m→(∃c,c<n∧t.nb c=v)∨Bas m t.bs v
 rep:∀y,L y↔RepY n m t.nb t.bs t.T t.d y
structure PInv (s:PS):Prop extends PB n m a L s.toPT where
 xL:L s.x
 bd:∀c,c<n→inBd lo hi (s.nb c) (s.x (s.nb c))∧atB lo hi (s.nb c) (s.x (s.nb c))
open Classical in
noncomputable def cod (s:PS)(v:Nat):Nat:=if Bas m s.bs v then 0 else if lo v=some (s.x v) then 1 else if hi v=some (s.x v) then 2 else 3
noncomputable def kap (s:PS):Nat→Nat
 |0=>0
 |v+1=>kap s v+cod m lo hi s v*4^v
end
section
variable {n m:Nat}{a:Nat→Nat→Int}{lo hi:Nat→Option Rat}{L:(Nat→Rat)→Prop}{s s':PS}
theorem zqr (v:Nat):cod m lo hi s v≤3:=by
 unfold cod;split
 ·decide
 split
 ·decide
 split<;>decide
theorem iI:∀v,kap m lo hi s v<4^v
 |0=>F6
 |v+1=>by
  have h1:=iI v;have b:=o0 (4^v) (zqr (m:=m) (lo:=lo) (hi:=hi) (s:=s) v);show kap m lo hi s v+cod m lo hi s v*4^v<4^(v+1);rw [Ac];omega
theorem znc:∀(V:Nat),kap m lo hi s V=kap m lo hi s' V→∀v,v<V→cod m lo hi s v=cod m lo hi s' v:=by
 intro V;induction V with
 |zero=>intro _ v h;exact eN h (AQ _)
 |succ V ih=>
  intro h v i;have h:kap m lo hi s V+cod m lo hi s V*4^V=kap m lo hi s' V+cod m lo hi s' V*4^V:=h;have f:=iI (m:=m) (lo:=lo) (hi:=hi) (s:=s) V;have g:=iI (m:=m) (lo:=lo) (hi:=hi) (s:=s') V;have e:cod m lo hi s V=cod m lo hi s' V:=by
   have b:(kap m lo hi s V+cod m lo hi s V*4^V)/4^V=cod m lo hi s V:=by
    rw [DC _ _ zo,Cz f,sb]
   have c:(kap m lo hi s' V+cod m lo hi s' V*4^V)/4^V=cod m lo hi s' V:=by
    rw [DC _ _ zo,Cz g,sb]
   rw [←b,←c,h]
  by_cases hV:v=V
  ·rw [hV];exact e
  refine ih ?_ v zo;rw [e] at h;omega
theorem PInv.nB (h:PInv n m a lo hi L s){c:Nat}(b:c<n):¬Bas m s.bs (s.nb c):=fun ⟨i,hi,e⟩=>h.dis c i b hi e.symm
theorem PInv.same (h:PInv n m a lo hi L s)(h':PInv n m a lo hi L s')(e:kap m lo hi s (n+m)=kap m lo hi s' (n+m)):(∀v,Bas m s.bs v↔Bas m s'.bs v)∧∀v,v≤n+m→s.x v=s'.x v:=by
 have f:=znc _ e;have G:∀v,v<n+m→(Bas m s.bs v↔Bas m s'.bs v):=fun v b=>by
  have:=f v b;unfold cod at this;by_cases h1:Bas m s.bs v<;>by_cases h2:Bas m s'.bs v
  ·exact ⟨fun _=>h2,fun _=>h1⟩
  ·rw [eS h1,eP h2] at this;split at this
   ·cases this
   split at this<;>cases this
  ·rw [eP h1,eS h2] at this;split at this
   ·cases this
   split at this<;>cases this
  exact ⟨fun h=>eN h h1,fun h=>eN h h2⟩
 have j:∀v,Bas m s.bs v↔Bas m s'.bs v:=fun v=>by
  by_cases b:v<n+m
  ·exact G v b
  exact ⟨fun ⟨i,hi,e⟩=>eN (h.bv i hi) zo,fun ⟨i,hi,e⟩=>eN (h'.bv i hi) zo⟩
 refine ⟨j,?_⟩;have w:∀c,c<n→s.x (s.nb c)=s'.x (s.nb c):=fun c g=>by
  have b:=h.nv c g;have B:=h.nB g;have C:¬Bas m s'.bs (s.nb c):=fun h=>B ((j _).2 h);obtain ⟨D,q,F⟩:=(h'.cov _ b).resolve_right C;have o:=(h.bd c g).2;have l:=(h'.bd D q).2;rw [F] at l;have:=f _ b;unfold cod at this;rw [eP B,eP C] at this;unfold atB at o l;by_cases l1:lo (s.nb c)=some (s.x (s.nb c))
  ·rw [eS l1] at this;by_cases l2:lo (s.nb c)=some (s'.x (s.nb c))
   ·exact Bx (l1.symm.trans l2)
   rw [eP l2] at this;split at this<;>cases this
  rw [eP l1] at this;by_cases l2:lo (s.nb c)=some (s'.x (s.nb c))
  ·rw [eS l2] at this;split at this<;>cases this
  rw [eP l2] at this;by_cases u1:hi (s.nb c)=some (s.x (s.nb c))
  ·rw [eS u1] at this;by_cases u2:hi (s.nb c)=some (s'.x (s.nb c))
   ·exact Bx (u1.symm.trans u2)
   rw [eP u2] at this;cases this
  rw [eP u1] at this;by_cases u2:hi (s.nb c)=some (s'.x (s.nb c))
  ·rw [eS u2] at this;cases this
  have z1:=(o.resolve_left l1).resolve_left u1;have z2:=(l.resolve_left l2).resolve_left u2;rw [z1.2.2,z2.2.2]
 have y:=(h.rep _).1 h.xL;have A:=(h.rep _).1 h'.xL;have u:(s.d:Rat)≠0:=fun e=>by have:=Bv.1 e;have:=h.tab.dp;omega
 have p:∀i,i≤m→s.x (s.bs i)=s'.x (s.bs i):=fun i hi=>by
  refine wu u ?_;rw [y i hi,A i hi];exact yg fun c f=>by rw [w c f]
 intro v b;by_cases e:v=n+m
 ·rw [e,←h.bm];exact p m eU
 rcases h.cov v zo with ⟨c,f,rfl⟩|⟨i,hi,rfl⟩
 ·exact w c f
 exact p i zo
end
def nT (S:PS→PS→Prop)(κ:PS→Nat)(k:Nat)(s:PS):Prop:=∃σ:Nat→PS,σ k=s∧(∀i,i<k→S (σ i) (σ (i+1)))∧∀i j,i<j→j≤k→κ (σ i)≠κ (σ j)
section
variable {S:PS→PS→Prop}{κ:PS→Nat}{s s':PS}
theorem nT.start:nT S κ 0 s:=⟨fun _=>s,rfl,fun i h=>eN h (AQ _),fun i j b c=>zo⟩
theorem nT.next (l:∀(p:Nat) (τ:Nat→PS),0<p→(∀q,q<p→S (τ q) (τ (q+1)))→κ (τ p)=κ (τ 0)→False)(c:nT S κ k s)(h:S s s'):nT S κ (k+1) s':=by
 obtain ⟨σ,o,u,v⟩:=c;have b:∀i,i≤k→(if i=k+1 then s' else σ i)=σ i:=fun i hi=>eP zo;have f:∀i,i<k+1→S (if i=k+1 then s' else σ i) (if i+1=k+1 then s' else σ (i+1)):=fun i hi=>by
  rw [b i zo];by_cases h4:i=k
  ·rw [h4,eS rfl,o];exact h
  rw [eP zo];exact u i zo
 refine ⟨fun i=>if i=k+1 then s' else σ i,eS rfl,f,fun i j g w=>?_⟩;by_cases h4:j=k+1
 ·subst h4;show κ (if i=k+1 then s' else σ i)≠κ (if k+1=k+1 then s' else σ (k+1));intro e;refine l (k+1-i) (fun q=>if i+q=k+1 then s' else σ (i+q)) zo (fun q y=>?_) ?_
  ·have:=f (i+q) zo;rwa [show i+(q+1)=i+q+1 by omega]
  show κ (if i+(k+1-i)=k+1 then s' else _)=κ (if i+0=k+1 then s' else σ (i+0));rw [eS zo,AJ];rw [eS rfl] at e;exact e.symm
 show κ (if i=k+1 then s' else σ i)≠κ (if j=k+1 then s' else σ j);rw [b i zo,eP h4];exact v i j g zo
theorem zd1:∀(K k:Nat) (f:Nat→Nat),(∀i,i<k→f i<K)→(∀i j,i<j→j<k→f i≠f j)→k≤K
 |0,k,f,h,_=>by
  by_cases h0:k=0
  ·omega
  have:=h 0 zo;omega
 |K+1,k,f,h,hi=>by
  by_cases h1:∃p,p<k∧f p=K
  ·obtain ⟨p,o,q⟩:=h1;have:=zd1 K (k-1) (fun i=>if i<p then f i else f (i+1)) (fun i b=>?_) (fun i j l u=>?_)
   ·omega
   ·show (if i<p then f i else f (i+1))<K;split
    ·have c:=h i zo;have g:=hi i p zo o;omega
    have c:=h (i+1) zo;have g:=hi p (i+1) zo zo;omega
   show (if i<p then f i else f (i+1))≠(if j<p then f j else f (j+1));split
   ·split
    ·exact hi i j l zo
    exact hi i (j+1) zo zo
   rw [eP zo];exact hi (i+1) (j+1) zo zo
  have:=zd1 K k f (fun i b=>by
   have c:=h i b;have g:f i≠K:=fun e=>h1 ⟨i,b,e⟩;omega) hi
  omega
theorem nT.lt {K:Nat}(f:∀s,κ s<K)(c:nT S κ k s):k<K:=by
 obtain ⟨σ,g,l,e⟩:=c;have:=zd1 K (k+1) (fun i=>κ (σ i)) (fun i _=>f _) (fun i j b o=>e i j b zo);omega
end
section
variable {i j:Nat}
theorem qM {f:Nat→α}{v:α}:swp f k v k=v:=eS rfl
theorem vi {f:Nat→α}{c:Nat}{v:α}(h:c≠k):swp f k v c=f c:=eP h
def mvx (s:PS)(e:Nat)(δ:Rat):Nat→Nat→Rat
 |0=>swp s.x (s.nb e) (s.x (s.nb e)+δ)
 |k+1=>swp (mvx s e δ k) (s.bs k) (mvx s e δ k (s.bs k)+(s.T k e:Rat)/s.d*δ)
section
variable {n m e r:Nat}{a:Nat→Nat→Int}{lo hi:Nat→Option Rat}{L:(Nat→Rat)→Prop}{t:PT}{s:PS}
theorem PB.dN (h:PB n m a L t){c:Nat}(b:c<n)(hi:i≤m):t.nb c≠t.bs i:=by
 by_cases e:i=m
 ·rw [e,h.bm];have:=h.nv c b;omega
 exact h.dis c i b zo
theorem PB.jN (h:PB n m a L t)(hi:i≤m)(hj:j≤m)(e:t.bs i=t.bs j):i=j:=by
 by_cases e1:i=m<;>by_cases e2:j=m
 ·omega
 ·rw [e1,h.bm] at e;have:=h.bv j zo;omega
 ·rw [e2,h.bm] at e;have:=h.bv i zo;omega
 exact h.jnj i j zo zo e
theorem PB.d0 (h:PB n m a L t):(t.d:Rat)≠0:=fun e=>by have:=Bv.1 e;have:=h.tab.dp;omega
theorem PB.dpos (h:PB n m a L t):0<(t.d:Rat):=Cc.2 h.tab.dp
theorem oI {v:Nat}:∀{k:Nat},v≠s.nb e→(∀i,i<k→v≠s.bs i)→mvx s e δ k v=s.x v
 |0,h,_=>vi h
 |k+1,h,h2=>(vi (h2 k zo)).trans (oI h fun i hi=>h2 i zo)
theorem qU (h:PB n m a L s.toPT)(he:e<n):∀{k:Nat},k≤m+1→mvx s e δ k (s.nb e)=s.x (s.nb e)+δ
 |0,_=>qM
 |k+1,hk=>(vi (h.dN he zo)).trans (qU h he zo)
theorem qT (h:PB n m a L s.toPT)(f:e<n){c:Nat}(b:c<n)(d:c≠e)(l:k≤m+1):mvx s e δ k (s.nb c)=s.x (s.nb c):=
 oI (fun q=>d (h.inj c e b f q)) fun i hi=>h.dN b zo
theorem mQ (h:PB n m a L s.toPT)(b:e<n):∀{k:Nat},k≤m+1→i<k→mvx s e δ k (s.bs i)=s.x (s.bs i)+(s.T i e:Rat)/s.d*δ
 |0,_,hi=>eN hi (AQ _)
 |k+1,hk,hi=>by
  show swp (mvx s e δ k) (s.bs k) _ (s.bs i)=_;by_cases q:i=k
  ·subst q;rw [qM,oI (fun q=>h.dN b zo q.symm) fun j f q=>by have:=h.jN zo zo q;omega]
  rw [vi fun c=>q (h.jN zo zo c)];exact mQ h b zo zo
theorem PInv.mvL (h:PInv n m a lo hi L s)(b:e<n):L (mvx s e δ (m+1)):=by
 have u:=(h.rep _).1 h.xL;refine (h.rep _).2 fun i hi=>?_;rw [mQ h.toPB b eU zo,Rat.mul_add,u i hi];have p:=h.toPB.d0;rw [uM (f:=fun c=>(s.T i c:Rat)*s.x (s.nb c)) b,uM (f:=fun c=>(s.T i c:Rat)*mvx s e δ (m+1) (s.nb c)) b,qU h.toPB b eU];rw [yg (f:=fun c=>if c=e then 0 else (s.T i c:Rat)*mvx s e δ (m+1) (s.nb c)) (g:=fun c=>if c=e then 0 else (s.T i c:Rat)*s.x (s.nb c)) fun c o=>?_]
 ·have l:(s.d:Rat)*((s.T i e:Rat)/s.d*δ)=(s.T i e:Rat)*δ:=by
   rw [←Dy,Cd _ (_/_),Ce p]
  rw [l]
  grind
 by_cases q:c=e
 ·rw [eS q,eS q]
 rw [eP q,eP q,qT h.toPB b o q eU]
theorem PB.piv (h:PB n m a L t)(l:r<m)(d:e<n)(A:t.T r e≠0):PB n m a L (t.piv r e):=by
 have u:=h.nv e d;have C:=h.bv r l;refine ⟨h.tab.pivot zo d A,fun c b=>?_,fun i hi=>?_,?_,fun c w b o q=>?_,fun i B hi p q=>?_,fun c i b hi q=>?_,fun v u=>?_,fun y=>(h.rep y).trans (RepY.pivot h.tab zo d A y).symm⟩
 ·show swp _ _ _ _<_;unfold swp;split
  ·exact C
  exact h.nv c b
 ·show swp _ _ _ _<_;unfold swp;split
  ·exact u
  exact h.bv i hi
 ·exact (vi zo).trans h.bm
 ·have q:swp t.nb e (t.bs r) c=swp t.nb e (t.bs r) w:=q;unfold swp at q;split at q<;>split at q
  ·omega
  ·exact eN q.symm (h.dis _ _ o l)
  ·exact eN q (h.dis _ _ b l)
  exact h.inj c w b o q
 ·have q:swp t.bs r (t.nb e) i=swp t.bs r (t.nb e) B:=q;unfold swp at q;split at q<;>split at q
  ·omega
  ·exact eN q (h.dis _ _ d p)
  ·exact eN q.symm (h.dis _ _ d hi)
  exact h.jnj i B hi p q
 ·have q:swp t.nb e (t.bs r) c=swp t.bs r (t.nb e) i:=q;unfold swp at q;split at q<;>split at q
  ·exact h.dis _ _ d l q.symm
  ·next q1 f=>exact f (h.jnj _ _ l hi q).symm
  ·next q1 f=>exact q1 (h.inj _ _ b d q)
  exact h.dis _ _ b hi q
 by_cases q:v=t.bs r
 ·exact .inl ⟨e,d,qM.trans q.symm⟩
 rcases h.cov v u with ⟨c,b,rfl⟩|⟨i,hi,rfl⟩
 ·by_cases f:c=e
  ·exact .inr ⟨r,l,qM.trans (by rw [f])⟩
  exact .inl ⟨c,b,vi f⟩
 exact .inr ⟨i,hi,vi fun f=>q (by rw [f])⟩
theorem PB.Bpiv (h:PB n m a L t)(c:r<m)(v:Nat):Bas m (t.piv r e).bs v↔v=t.nb e∨Bas m t.bs v∧v≠t.bs r:=by
 constructor
 ·rintro ⟨i,hi,q⟩;have q:swp t.bs r (t.nb e) i=v:=q;unfold swp at q;split at q
  ·exact .inl q.symm
  next b=>exact .inr ⟨⟨i,hi,q⟩,fun d=>b (h.jnj i r hi c (q.trans d))⟩
 rintro (rfl|⟨⟨i,hi,rfl⟩,q⟩)
 ·exact ⟨r,c,qM⟩
 exact ⟨i,hi,vi fun b=>q (by rw [b])⟩
theorem PInv.step (h:PInv n m a lo hi L s)(l:r<m)(b:e<n)(o:s.T r e≠0)(hb:inBd lo hi (s.bs r) (mvx s e δ (m+1) (s.bs r))∧atB lo hi (s.bs r) (mvx s e δ (m+1) (s.bs r))):PInv n m a lo hi L ⟨s.toPT.piv r e,mvx s e δ (m+1)⟩:=by
 refine ⟨h.toPB.piv l b o,h.mvL b,fun c f=>?_⟩;show inBd lo hi ((PT.piv s.toPT r e).nb c) (mvx s e δ (m+1) ((PT.piv s.toPT r e).nb c))∧atB lo hi ((PT.piv s.toPT r e).nb c) (mvx s e δ (m+1) ((PT.piv s.toPT r e).nb c));by_cases q:c=e
 ·have d:swp s.nb e (s.bs r) c=s.bs r:=by rw [q];exact qM
  rw [show (PT.piv s.toPT r e).nb c=s.bs r from d];exact hb
 have d:swp s.nb e (s.bs r) c=s.nb c:=vi q;rw [show (PT.piv s.toPT r e).nb c=s.nb c from d,qT h.toPB b f q eU];exact h.bd c f
theorem PInv.stay (h:PInv n m a lo hi L s)(b:e<n)(hb:inBd lo hi (s.nb e) (s.x (s.nb e)+δ)∧atB lo hi (s.nb e) (s.x (s.nb e)+δ)):PInv n m a lo hi L ⟨s.toPT,mvx s e δ (m+1)⟩:=by
 refine ⟨h.toPB,h.mvL b,fun c d=>?_⟩;show inBd lo hi (s.nb c) (mvx s e δ (m+1) (s.nb c))∧atB lo hi (s.nb c) (mvx s e δ (m+1) (s.nb c));by_cases q:c=e
 ·rw [q,qU h.toPB b eU];exact hb
 rw [qT h.toPB b d q eU];exact h.bd c d
end
section
variable (n m:Nat)(a:Nat→Nat→Int)(lo hi:Nat→Option Rat)(L:(Nat→Rat)→Prop)
def rdOf (s:PS)(r e:Nat)(low:Bool):RD:=⟨s.x,Bas m s.bs,s.nb,fun c=>(s.T r c:Rat),s.d,e,s.bs r,low⟩
def Viol (s:PS)(r:Nat)(low:Bool)(g:Rat):Prop:=if low then ∃l,lo (s.bs r)=some l∧s.x (s.bs r)<l∧g=l-s.x (s.bs r) else ∃u,hi (s.bs r)=some u∧u<s.x (s.bs r)∧g=u-s.x (s.bs r)
structure Vio (s:PS)(r:Nat)(low:Bool)(g:Rat):Prop where
 hr:r<m
 v:Viol lo hi s r low g
 sm:∀i,i<m→s.bs i<s.bs r→inBd lo hi (s.bs i) (s.x (s.bs i))
structure RepS (s:PS)(r e:Nat)(low:Bool)(g:Rat):Prop extends Vio m lo hi s r low g where
 he:e<n
 su:suit lo hi (rdOf m s r e low) e
 sms:∀c,c<n→s.nb c<s.nb e→¬suit lo hi (rdOf m s r e low) c
def repN (s:PS)(r e:Nat)(g:Rat):PS:=⟨s.toPT.piv r e,mvx s e (g/((s.T r e:Rat)/s.d)) (m+1)⟩
def zgt (s s':PS):Prop:=PInv n m a lo hi L s∧∃r e low g,RepS n m lo hi s r e low g∧s'=repN m s r e g
end
section
variable {n m e r:Nat}{a:Nat→Nat→Int}{lo hi:Nat→Option Rat}{L:(Nat→Rat)→Prop}{s s':PS}{low:Bool}
theorem RepS.ne (h:RepS n m lo hi s r e low g):s.T r e≠0:=fun q=>by
 have:=h.su;unfold suit rdOf at this;simp only [q] at this;have h0:¬(0:Rat)<((0:Int):Rat):=by decide
 have b:¬((0:Int):Rat)<0:=by decide
 grind
theorem repX (h:PB n m a L s.toPT)(l:e<n)(p:r<m)(o:s.T r e≠0):mvx s e (g/((s.T r e:Rat)/s.d)) (m+1) (s.bs r)=s.x (s.bs r)+g:=by
 rw [mQ h l eU zo];have b:(s.T r e:Rat)≠0:=fun q=>o (Bv.1 q);have c:=h.d0;have f:(s.T r e:Rat)/s.d≠0:=fun q=>b (by have:=Ce (a:=(s.T r e:Rat)) c;rw [q] at this;grind);rw [Cd _ (g/_),Ce f]
theorem RepS.inv (h:RepS n m lo hi s r e low g)(d:∀v l u,lo v=some l→hi v=some u→l≤u)(f:PInv n m a lo hi L s):PInv n m a lo hi L (repN m s r e g):=by
 refine f.step h.hr h.he h.ne ?_;rw [repX f.toPB h.he h.hr h.ne];have c:=h.v;unfold Viol at c;split at c
 ·obtain ⟨l,b,o,rfl⟩:=c;rw [show s.x (s.bs r)+(l-s.x (s.bs r))=l by grind];exact ⟨⟨fun p q=>by rw [b] at q;cases q;exact Cg,fun u q=>d _ _ _ b q⟩,.inl b⟩
 obtain ⟨u,b,o,rfl⟩:=c;rw [show s.x (s.bs r)+(u-s.x (s.bs r))=u by grind];exact ⟨⟨fun l q=>d _ _ _ q b,fun w q=>by rw [b] at q;cases q;exact Cg⟩,.inr (.inl b)⟩
theorem RepS.stp (h:RepS n m lo hi s r e low g)(w:PInv n m a lo hi L s){f:RD}(H:∀v,f.B v↔Bas m (repN m s r e g).bs v)(hx:∀v,v<n+m→f.x v=(repN m s r e g).x v):StepR n (n+m) L lo hi (rdOf m s r e low) f:=by
 have d:=w.toPB;have A:=d.bv r h.hr;refine ⟨h.he,fun c o=>⟨w.nB o,d.nv c o⟩,d.inj,⟨⟨r,h.hr,rfl⟩,A⟩,fun v=>(H v).trans (d.Bpiv h.hr v),fun v b p F=>?_,fun v b p=>?_,?_,fun v b p=>?_,d.dpos,fun y I=>?_,w.xL,h.su,h.sms⟩
 ·rw [hx v b];rcases d.cov v b with ⟨c,o,rfl⟩|q
  ·exact qT d h.he o (fun q=>F (by rw [q];rfl)) eU
  exact eN q p
 ·rcases d.cov v b with ⟨c,o,rfl⟩|q
  ·exact (w.bd c o).1
  exact eN q p
 ·have b:=h.v;unfold Viol at b;show if low=true then ∃l,lo (s.bs r)=some l∧s.x (s.bs r)<l∧f.x (s.bs r)=l else ∃u,hi (s.bs r)=some u∧u<s.x (s.bs r)∧f.x (s.bs r)=u
  have G:f.x (s.bs r)=s.x (s.bs r)+g:=(hx _ A).trans (repX d h.he h.hr h.ne);rw [G];split at b
  ·next q=>
   rw [eS q];obtain ⟨l,C,D,rfl⟩:=b;exact ⟨l,C,D,by grind⟩
  next q=>
  rw [eP q];obtain ⟨l,C,D,rfl⟩:=b;exact ⟨l,C,D,by grind⟩
 ·obtain ⟨i,hi,rfl⟩:=p;exact h.sm i hi b
 exact (d.rep y).1 I r (by have:=h.hr;omega)
theorem zni (h:PB n m a L s.toPT)(x y:Nat→Rat)(hx:L x)(l:L y):L fun v=>x v-y v:=by
 have b:=(h.rep _).1 hx;have f:=(h.rep _).1 l;refine (h.rep _).2 fun i hi=>?_;rw [show (s.d:Rat)*(x (s.bs i)-y (s.bs i))=s.d*x (s.bs i)-s.d*y (s.bs i) by grind,b i hi,f i hi,←zdd];exact yg fun c _=>by grind
theorem vz (i:Nat){p:Nat}(b:0<p):(i%p+1=p→(i+1)%p=0)∧(i%p+1≠p→(i+1)%p=i%p+1):=by
 have c:=Nat.div_add_mod i p;have d:=Az i b;refine ⟨fun h=>?_,fun h=>?_⟩
 ·rw [show i+1=p*(i/p+1) by rw [Ap];omega,Nat.mul_mod_right]
 rw [show i+1=p*(i/p)+(i%p+1) by omega,Nat.mul_add_mod,Nat.mod_eq_of_lt zo]
theorem zmx (p:Nat)(τ:Nat→PS)(hp:0<p)(hs:∀q,q<p→zgt n m a lo hi L (τ q) (τ (q+1)))(hlh:∀v l u,lo v=some l→hi v=some u→l≤u)(hκ:kap m lo hi (τ p) (n+m)=kap m lo hi (τ 0) (n+m)):False:=by
 have hI:∀q,q≤p→PInv n m a lo hi L (τ q):=fun q hq=>by
  by_cases h:q=p
  ·obtain ⟨h1,r,e,low,g,h2,h3⟩:=hs (p-1) zo;rw [show p-1+1=q by omega] at h3;rw [h3];exact h2.inv hlh h1
  exact (hs q zo).1
 have hsame:=(hI p eU).same (hI 0 zo) hκ;have hc:∀i,∃D:RD,D.x=(τ (i%p)).x∧D.B=Bas m (τ (i%p)).bs∧∀D':RD,(∀v,D'.B v↔Bas m (τ (i%p+1)).bs v)→(∀v,v<n+m→D'.x v=(τ (i%p+1)).x v)→StepR n (n+m) L lo hi D D':=fun i=>by
  obtain ⟨h1,r,e,low,g,h2,h3⟩:=hs (i%p) (Az _ hp);exact ⟨_,rfl,rfl,fun D' hB hx=>h2.stp h1 (by rw [←h3];exact hB) (by rw [←h3];exact hx)⟩
 obtain ⟨F,hF⟩:=Ch hc;let f:=fun i=>F (i%p)
 have hf:∀i,(f i).x=(τ (i%p)).x∧(f i).B=Bas m (τ (i%p)).bs∧∀D':RD,(∀v,D'.B v↔Bas m (τ (i%p+1)).bs v)→(∀v,v<n+m→D'.x v=(τ (i%p+1)).x v)→StepR n (n+m) L lo hi (f i) D':=fun i=>by
  have:=hF (i%p);rw [Nat.mod_mod] at this;exact this
 refine zp3 (n:=n) (V:=n+m) (lo:=lo) (hi:=hi) (f:=f) hp (zni (hI 0 zo).toPB) (fun i=>?_) fun i=>?_
 ·have h1:=hf i;have h2:=hf (i+1);have hm:=Az i hp;refine h1.2.2 _ ?_ ?_
  ·intro v;rw [h2.2.1];by_cases q:i%p+1=p
   ·rw [q,(vz i hp).1 q];exact (hsame.1 v).symm
   rw [(vz i hp).2 q]
  intro v hv;rw [h2.1];by_cases q:i%p+1=p
  ·rw [q,(vz i hp).1 q];exact (hsame.2 v zo).symm
  rw [(vz i hp).2 q]
 show F ((i+p)%p)=F (i%p);rw [GY]
end
def ab (x:Rat):Rat:=if x<0 then -x else x
def rm (lo hi:Nat→Option Rat)(v:Nat)(x:Rat)(up:Bool):Option Rat:=if up then (hi v).map (· - x) else (lo v).map (x - ·)
def sgD (up:Bool):Rat:=if up then 1 else -1
section
variable (n m:Nat)(a:Nat→Nat→Int)(lo hi:Nat→Option Rat)(L:(Nat→Rat)→Prop)
def ent (s:PS)(up:Bool)(c:Nat):Prop:=if up then s.T m c<0∧cG hi (s.nb c) (s.x (s.nb c)) else 0<s.T m c∧cS lo (s.nb c) (s.x (s.nb c))
structure Ent (s:PS)(e:Nat)(up:Bool):Prop where
 he:e<n
 im:ent m lo hi s up e
 sm:∀c,c<n→s.nb c<s.nb e→∀u,¬ent m lo hi s u c
def cnd (s:PS)(e:Nat)(up:Bool)(r:Option Nat)(ρ:Rat):Prop:=
 match r with
 |none=>rm lo hi (s.nb e) (s.x (s.nb e)) up=some ρ
 |some i=>i<m∧s.T i e≠0∧∃g,rm lo hi (s.bs i) (s.x (s.bs i)) (up==decide (0<s.T i e))=some g∧ρ=g/ab ((s.T i e:Rat)/s.d)
def wvP (s:PS)(e:Nat)(r:Option Nat):Nat:=match r with|none=>s.nb e|some i=>s.bs i
structure OptS (s:PS)(e:Nat)(up:Bool)(r:Option Nat)(ρ:Rat):Prop extends Ent n m lo hi s e up where
 ch:cnd m lo hi s e up r ρ
 mn:∀r' ρ',cnd m lo hi s e up r' ρ'→ρ<ρ'∨ρ=ρ'∧wvP s e r≤wvP s e r'
def optN (s:PS)(e:Nat)(up:Bool)(r:Option Nat)(ρ:Rat):PS:=⟨match r with|none=>s.toPT|some i=>s.toPT.piv i e,mvx s e (ρ*sgD up) (m+1)⟩
def Feas (s:PS):Prop:=∀i,i<m→inBd lo hi (s.bs i) (s.x (s.bs i))
def zgu (s s':PS):Prop:=PInv n m a lo hi L s∧Feas m lo hi s∧∃e up r ρ,OptS n m lo hi s e up r ρ∧s'=optN m s e up r ρ
end
section
variable {n m e:Nat}{a:Nat→Nat→Int}{lo hi:Nat→Option Rat}{L:(Nat→Rat)→Prop}{s s':PS}{up:Bool}{r:Option Nat}
theorem zdt {v:Nat}{x g:Rat}(h:rm lo hi v x true=some g):hi v=some (x+g):=by
 unfold rm at h;rw [eS rfl] at h;cases q:hi v with
 |none=>rw [q] at h;cases h
 |some u=>rw [q] at h;cases h;rw [show x+(u-x)=u by grind]
theorem zdu {v:Nat}{x g:Rat}(h:rm lo hi v x false=some g):lo v=some (x-g):=by
 unfold rm at h;rw [eP Ba] at h;cases q:lo v with
 |none=>rw [q] at h;cases h
 |some u=>rw [q] at h;cases h;rw [show x-(x-u)=u by grind]
theorem zov {v:Nat}{x u:Rat}(h:hi v=some u):rm lo hi v x true=some (u-x):=by
 unfold rm;rw [eS rfl,h];rfl
theorem zqn {v:Nat}{x l:Rat}(h:lo v=some l):rm lo hi v x false=some (x-l):=by
 unfold rm;rw [eP Ba,h];rfl
theorem zph {v:Nat}{x g:Rat}(hb:inBd lo hi v x)(h:rm lo hi v x up=some g):0≤g:=by
 cases up with
 |true=>have:=hb.2 _ (zdt h);grind
 |false=>have:=hb.1 _ (zdu h);grind
theorem pO (x:Rat):(0:Rat)/x=0:=by rw [DO,B6]
theorem ab_z {d:Rat}:ab (((0:Int):Rat)/d)=0:=by rw [show ((0:Int):Rat)=0 from rfl,pO];rfl
theorem lk {k:Rat}(h:k≠0):0<ab k:=by unfold ab;split<;>grind
theorem zrj {k:Rat}{b:Bool}(h:b=true↔0<k):k*sgD up=ab k*sgD (up==b):=by
 have c:sgD true=1:=rfl;have d:sgD false= -1:=rfl;have f:k<0→ab k= -k:=fun q=>eS q;have l:¬k<0→ab k=k:=fun q=>eP q;cases up<;>cases b<;>simp only [Bool.false_eq_true,beq_self_eq_true,Bool.false_beq,Bool.true_beq,Bool.not_true,false_iff,true_iff] at h ⊢ <;>grind
theorem tE {g k:Rat}(h:k≠0):g/ab k*ab k=g:=Ce (by have:=lk h;grind)
theorem zii {v:Nat}{x k:Rat}{u:Bool}(hb:inBd lo hi v x)(h0:0≤k)(h:∀g,rm lo hi v x u=some g→k≤g):inBd lo hi v (x+k*sgD u):=by
 cases u with
 |true=>
  show inBd lo hi v (x+k*1);exact ⟨fun l q=>by have:=hb.1 l q;grind,fun u q=>by have:=h _ (zov q);grind⟩
 |false=>
  show inBd lo hi v (x+k* -1);exact ⟨fun l q=>by have:=h _ (zqn q);grind,fun u q=>by have:=hb.2 u q;grind⟩
theorem zq3 {v:Nat}{x g:Rat}{u:Bool}(h:rm lo hi v x u=some g):atB lo hi v (x+g*sgD u):=by
 cases u with
 |true=>exact .inr (.inl ((zdt h).trans (by show some (x+g)=some (x+g*1);rw [DP])))
 |false=>exact .inl ((zdu h).trans (by show some (x-g)=some (x+g* -1);congr 1;grind))
theorem PB.sgn (h:PB n m a L s.toPT){t:Int}:(decide (0<t)=true↔0<(t:Rat)/s.d)∧(t≠0→(t:Rat)/s.d≠0)∧(t<0→(t:Rat)/s.d<0):=by
 have b:=Ce (a:=(t:Rat)) h.d0;have c:=h.dpos;generalize (t:Rat)/s.d=q at*
 have f:(t:Rat)<0↔t<0:=by rw [show (0:Rat)=((0:Int):Rat) from rfl];exact Ds
 rw [decide_eq_true_iff,←Cc (a:=t),←f];refine ⟨⟨fun h=>?_,fun h=>?_⟩,fun h=>?_,fun h=>?_⟩
 ·rcases xY (b▸h) with q|q<;>grind
 ·rw [←b];exact BZ h c
 ·intro l;rw [l,B6] at b;exact h (Bv.1 b.symm)
 rcases yq (b▸h) with q|q<;>grind
theorem OptS.nn (h:OptS n m lo hi s e up r ρ)(c:PInv n m a lo hi L s)(y:Feas m lo hi s):0≤ρ:=by
 have f:=h.ch;cases r with
 |none=>exact zph (c.bd e h.he).1 f
 |some i=>
  obtain ⟨l,o,g,p,u⟩:i<m∧s.T i e≠0∧∃g,rm lo hi (s.bs i) (s.x (s.bs i)) (up==decide (0<s.T i e))=some g∧ρ=g/ab ((s.T i e:Rat)/s.d):=f;have A:=zph (y i l) p;have b:=(c.toPB.sgn (t:=s.T i e)).2.1 o;have v:=tE (g:=g) b;have w:=lk b;rw [←u] at v;refine CV.1 fun q=>?_;have:=BZ (show 0< -ρ by grind) w
  grind
theorem zh3 (b:PInv n m a lo hi L s)(c:e<n)(hi:i≤m):mvx s e (ρ*sgD up) (m+1) (s.bs i)=s.x (s.bs i)+ρ*ab ((s.T i e:Rat)/s.d)*sgD (up==decide (0<s.T i e)):=by
 rw [mQ b.toPB c eU zo];have:=zrj (up:=up) (b.toPB.sgn (t:=s.T i e)).1
 grind
theorem OptS.row (h:OptS n m lo hi s e up r ρ)(f:PInv n m a lo hi L s)(c:Feas m lo hi s)(b:i<m):inBd lo hi (s.bs i) (mvx s e (ρ*sgD up) (m+1) (s.bs i)):=by
 rw [zh3 f h.he zo];have v:=h.nn f c;by_cases q:s.T i e=0
 ·rw [q,ab_z,DV,B6,DW];exact c i b
 have p:=(f.toPB.sgn (t:=s.T i e)).2.1 q;have u:=lk p;refine zii (c i b) (DQ v (Bc u)) fun g w=>?_;have y:=h.mn (some i) (g/ab ((s.T i e:Rat)/s.d)) ⟨b,q,g,w,rfl⟩;have l:=tE (g:=g) p;generalize g/ab ((s.T i e:Rat)/s.d)=ρ' at*
 have o:ρ≤ρ':=by grind
 rw [←l];exact Rat.mul_le_mul_of_nonneg_right o (Bc u)
theorem OptS.own (h:OptS n m lo hi s e up r ρ)(b:PInv n m a lo hi L s)(c:Feas m lo hi s):inBd lo hi (s.nb e) (s.x (s.nb e)+ρ*sgD up):=
 zii (b.bd e h.he).1 (h.nn b c) fun g d=>by have:=h.mn none g d;grind
theorem OptS.inv (h:OptS n m lo hi s e up r ρ)(b:PInv n m a lo hi L s)(c:Feas m lo hi s):PInv n m a lo hi L (optN m s e up r ρ)∧Feas m lo hi (optN m s e up r ρ):=by
 have o:=h.ch;cases r with
 |none=>exact ⟨b.stay h.he ⟨h.own b c,zq3 o⟩,fun i p=>h.row b c p⟩
 |some i=>
  obtain ⟨f,l,g,u,v⟩:i<m∧s.T i e≠0∧∃g,rm lo hi (s.bs i) (s.x (s.bs i)) (up==decide (0<s.T i e))=some g∧ρ=g/ab ((s.T i e:Rat)/s.d):=o;refine ⟨b.step f h.he l ⟨h.row b c f,?_⟩,fun j w=>?_⟩
  ·rw [zh3 b h.he zo,v,tE ((b.toPB.sgn (t:=s.T i e)).2.1 l)];exact zq3 u
  show inBd lo hi (swp s.bs i (s.nb e) j) (mvx s e (ρ*sgD up) (m+1) (swp s.bs i (s.nb e) j));by_cases q:j=i
  ·rw [q,qM,qU b.toPB h.he eU];exact h.own b c
  rw [vi q];exact h.row b c w
theorem OptS.desc (h:OptS n m lo hi s e up r ρ)(f:PInv n m a lo hi L s):∃k,k<0∧mvx s e (ρ*sgD up) (m+1) (n+m)=s.x (n+m)+k*ρ:=by
 have c:=mQ (δ:=ρ*sgD up) f.toPB h.he (AL (m+1)) (B4 m);rw [f.bm] at c;have b:=h.im;unfold ent at b;have l:=f.toPB.sgn (t:=s.T m e);cases up with
 |true=>
  rw [eS rfl] at b;exact ⟨_,l.2.2 b.1,c.trans (by show _+_*(ρ*1)=_;rw [DP])⟩
 |false=>
  rw [eP Ba] at b;have:=l.1.1 (by rw [decide_eq_true_iff];exact b.1);exact ⟨-((s.T m e:Rat)/s.d),by grind,c.trans (by show _+_*(ρ* -1)=_;grind)⟩
theorem mvx0:∀k,mvx s e 0 k=s.x
 |0=>by
  funext v;show swp _ _ _ v=_;unfold swp;split
  ·next h=>rw [h,DW]
  rfl
 |k+1=>by
  show swp (mvx s e 0 k) _ _=_;rw [mvx0 k];funext v;unfold swp;split
  ·next h=>rw [h,DV,DW]
  rfl
def odOf (m:Nat)(s:PS)(e:Nat)(up:Bool)(i:Nat):OD:=⟨s.x,Bas m s.bs,s.nb,fun c=>(s.T m c:Rat),s.d,e,s.bs i,fun v=>mvx s e (sgD up) (m+1) v-s.x v⟩
theorem bn {c:Nat}:impr lo hi (odOf m s e up i) c↔∃u,ent m lo hi s u c:=by
 have f:((s.T m c:Rat)<0↔s.T m c<0):=by rw [show (0:Rat)=((0:Int):Rat) from rfl];exact Ds
 have l:((0:Rat)<(s.T m c:Rat)↔0<s.T m c):=Cc;constructor
 ·rintro (⟨b,d⟩|⟨b,d⟩)
  ·exact ⟨true,f.1 b,d⟩
  exact ⟨false,l.1 b,d⟩
 rintro ⟨u,q⟩;cases u with
 |true=>exact .inl ⟨f.2 q.1,q.2⟩
 |false=>exact .inr ⟨l.2 q.1,q.2⟩
theorem OptS.stp (h:OptS n m lo hi s e up (some i) 0)(w:PInv n m a lo hi L s)(K:Feas m lo hi s){G:OD}(Z:∀v,G.B v↔Bas m (optN m s e up (some i) 0).bs v)(hx:∀v,v<n+m→G.x v=s.x v):StepO n (n+m) (n+m) L lo hi (odOf m s e up i) G:=by
 have b:=w.toPB;obtain ⟨D,J,g,H,V⟩:i<m∧s.T i e≠0∧∃g,rm lo hi (s.bs i) (s.x (s.bs i)) (up==decide (0<s.T i e))=some g∧0=g/ab ((s.T i e:Rat)/s.d):=h.ch;have M:=b.bv i D;have O:mvx s e (sgD up) (m+1) (s.nb e)-s.x (s.nb e)=sgD up:=by rw [qU b h.he eU];grind
 have F:∀j,j<m→mvx s e (sgD up) (m+1) (s.bs j)-s.x (s.bs j)=ab ((s.T j e:Rat)/s.d)*sgD (up==decide (0<s.T j e)):=fun j A=>by
  have:=zh3 (ρ:=1) (up:=up) w h.he (i:=j) zo;rw [EL,EL] at this;rw [this]
  grind
 have P:g=0:=by
  have:=tE (g:=g) ((b.sgn (t:=s.T i e)).2.1 J);rw [←V,B6] at this;exact this.symm
 subst P;refine ⟨h.he,fun c o=>⟨w.nB o,b.nv c o⟩,fun v p I=>(b.cov v p).resolve_right I,b.inj,⟨⟨i,D,rfl⟩,M⟩,fun v=>(Z v).trans (b.Bpiv D v),fun v p=>hx v p,b.dpos,fun y hy=>?_,(bn).2 ⟨up,h.im⟩,fun c o S q=>?_,zni b _ _ (w.mvL h.he) w.xL,?_,fun c o N=>?_,?_,fun v p I=>?_⟩
 ·have:=(b.rep y).1 hy m eU;rw [b.bm] at this;exact this
 ·obtain ⟨u,q⟩:=(bn).1 q;exact h.sm c o S u q
 ·show (s.T m e:Rat)*(mvx s e (sgD up) (m+1) (s.nb e)-s.x (s.nb e))<0;rw [O];have f:=h.im;unfold ent at f;cases up with
  |true=>
   rw [eS rfl] at f;have:(s.T m e:Rat)<0:=by rw [show (0:Rat)=((0:Int):Rat) from rfl];exact Ds.2 f.1
   show _*(1:Rat)<0
   grind
  |false=>
   rw [eP Ba] at f;have:(0:Rat)<(s.T m e:Rat):=Cc.2 f.1;show _*(-1:Rat)<0
   grind
 ·show mvx s e (sgD up) (m+1) (s.nb c)-s.x (s.nb c)=0;rw [qT b h.he o N eU]
  grind
 ·show (0<mvx s e (sgD up) (m+1) (s.bs i)-s.x (s.bs i)→_)∧(mvx s e (sgD up) (m+1) (s.bs i)-s.x (s.bs i)<0→_);rw [F i D];have hk:=lk ((b.sgn (t:=s.T i e)).2.1 J);generalize (up==decide (0<s.T i e))=u at H;cases u with
  |true=>exact ⟨fun _=>⟨_,zdt H,by show _≤s.x (s.bs i);grind⟩,fun q=>by have:ab ((s.T i e:Rat)/s.d)*1<0:=q;grind⟩
  |false=>exact ⟨fun q=>by have:0<ab ((s.T i e:Rat)/s.d)* -1:=q;grind,fun _=>⟨_,zdu H,by show s.x (s.bs i)≤_;grind⟩⟩
 obtain ⟨j,A,rfl⟩:=I;show (0<mvx s e (sgD up) (m+1) (s.bs j)-s.x (s.bs j)→cG hi (s.bs j) (s.x (s.bs j)))∧(mvx s e (sgD up) (m+1) (s.bs j)-s.x (s.bs j)<0→cS lo (s.bs j) (s.x (s.bs j)));rw [F j A];have p:s.bs j<s.bs i:=p;by_cases q:s.T j e=0
 ·rw [q,ab_z,B6];exact ⟨fun q=>eN q Ca,fun q=>eN q Ca⟩
 have hk:=lk ((b.sgn (t:=s.T j e)).2.1 q);have C:∀g,rm lo hi (s.bs j) (s.x (s.bs j)) (up==decide (0<s.T j e))=some g→g≠0:=fun g hg q0=>by
  have:=h.mn (some j) 0 ⟨A,q,g,hg,by rw [q0,pO]⟩;rcases this with q|⟨_,q⟩
  ·exact eN q Ca
  have:s.bs i≤s.bs j:=q;omega
 generalize (up==decide (0<s.T j e))=u at C;cases u with
 |true=>
  refine ⟨fun _ u U=>?_,fun q=>by have:ab ((s.T j e:Rat)/s.d)*1<0:=q;grind⟩;have W:=C _ (zov U);have Y:=(K j A).2 u U
  grind
 |false=>
  refine ⟨fun q=>by have:0<ab ((s.T j e:Rat)/s.d)* -1:=q;grind,fun _ l R=>?_⟩;have W:=C _ (zqn R);have Y:=(K j A).1 l R
  grind
theorem OptS.own0 (h:OptS n m lo hi s e up none 0):False:=by
 have b:=h.im;have c:rm lo hi (s.nb e) (s.x (s.nb e)) up=some 0:=h.ch;unfold ent at b;cases up with
 |true=>have:=b.2 _ (zdt c);grind
 |false=>have:=b.2 _ (zdu c);grind
theorem zmy (p:Nat)(τ:Nat→PS)(hp:0<p)(hs:∀q,q<p→zgu n m a lo hi L (τ q) (τ (q+1)))(hκ:kap m lo hi (τ p) (n+m)=kap m lo hi (τ 0) (n+m)):False:=by
 have hI:∀q,q≤p→PInv n m a lo hi L (τ q):=fun q hq=>by
  by_cases h:q=p
  ·obtain ⟨h1,hF,e,up,r,ρ,h2,h3⟩:=hs (p-1) zo;rw [show p-1+1=q by omega] at h3;rw [h3];exact (h2.inv h1 hF).1
  exact (hs q zo).1
 have hsame:=(hI p eU).same (hI 0 zo) hκ;have hdesc:∀q,q<p→(τ (q+1)).x (n+m)≤(τ q).x (n+m):=fun q hq=>by
  obtain ⟨h1,hF,e,up,r,ρ,h2,h3⟩:=hs q hq;obtain ⟨k,hk,h4⟩:=h2.desc h1;have h5:=h2.nn h1 hF;rw [h3];show mvx (τ q) e (ρ*sgD up) (m+1) (n+m)≤_;rw [h4];have:=DQ (show 0≤ -k by grind) h5
  grind
 have hle:∀q,q≤p→(τ q).x (n+m)≤(τ 0).x (n+m)∧(τ p).x (n+m)≤(τ (p-q)).x (n+m):=fun q=>by
  induction q with
  |zero=>intro _;exact ⟨Cg,Cg⟩
  |succ q ih=>
   intro hq;have h1:=ih zo;have h2:=hdesc q zo;have h3:=hdesc (p-(q+1)) zo;rw [show p-(q+1)+1=p-q by omega] at h3;exact ⟨by grind,by grind⟩
 have hall:∀q,q≤p→(τ q).x (n+m)=(τ 0).x (n+m):=fun q hq=>by
  have h1:=(hle q hq).1;have h2:=(hle (p-q) zo).2;rw [show p-(p-q)=q by omega,hsame.2 _ eU] at h2
  grind
 have hc:∀i,∃D:OD,D.x=(τ (i%p)).x∧D.B=Bas m (τ (i%p)).bs∧(∀v,(τ (i%p+1)).x v=(τ (i%p)).x v)∧∀D':OD,(∀v,D'.B v↔Bas m (τ (i%p+1)).bs v)→(∀v,v<n+m→D'.x v=(τ (i%p)).x v)→StepO n (n+m) (n+m) L lo hi D D':=fun i=>by
  have hm:=Az i hp;obtain ⟨h1,hF,e,up,r,ρ,h2,h3⟩:=hs (i%p) hm;obtain ⟨k,hk,h4⟩:=h2.desc h1;have h5:=h2.nn h1 hF;have h6:(τ (i%p+1)).x (n+m)=(τ (i%p)).x (n+m)+k*ρ:=by rw [h3];exact h4
  rw [hall _ zo,hall _ zo] at h6;have h7:ρ=0:=by
   refine tp fun q=>?_;have:=BZ (show 0< -k by grind) (show 0<ρ by grind)
   grind
  subst h7;cases r with
  |none=>exact eN h2.own0 id
  |some j=>
   refine ⟨_,rfl,rfl,fun v=>?_,fun D' hB hx=>h2.stp h1 hF (by rw [←h3];exact hB) hx⟩;rw [h3];show mvx (τ (i%p)) e (0*sgD up) (m+1) v=_;rw [B6,mvx0]
 obtain ⟨F,hF⟩:=Ch hc;let f:=fun i=>F (i%p)
 have hf:∀i,(f i).x=(τ (i%p)).x∧(f i).B=Bas m (τ (i%p)).bs∧(∀v,(τ (i%p+1)).x v=(τ (i%p)).x v)∧∀D':OD,(∀v,D'.B v↔Bas m (τ (i%p+1)).bs v)→(∀v,v<n+m→D'.x v=(τ (i%p)).x v)→StepO n (n+m) (n+m) L lo hi (f i) D':=fun i=>by
  have:=hF (i%p);rw [Nat.mod_mod] at this;exact this
 refine zp4 (n:=n) (V:=n+m) (obj:=n+m) (L:=L) (lo:=lo) (hi:=hi) (f:=f) hp (fun i=>?_) fun i=>?_
 ·have h1:=hf i;have h2:=hf (i+1);have hm:=Az i hp;refine h1.2.2.2 _ ?_ ?_
  ·intro v;rw [h2.2.1];by_cases q:i%p+1=p
   ·rw [q,(vz i hp).1 q];exact (hsame.1 v).symm
   rw [(vz i hp).2 q]
  intro v hv;rw [h2.1,←h1.2.2.1 v];by_cases q:i%p+1=p
  ·rw [q,(vz i hp).1 q];exact (hsame.2 v zo).symm
  rw [(vz i hp).2 q]
 show F ((i+p)%p)=F (i%p);rw [GY]
end
end
theorem zdf {n:Nat}{f:Nat→Rat}(h:∀c,c<n→0≤f c):0≤smr n f:=by
 induction n with
 |zero=>exact Cg
 |succ n ih=>
  show 0≤smr n f+f n;have:=ih fun c b=>h c zo;have:=h n zo
  grind
section
variable {n m e r:Nat}{a:Nat→Nat→Int}{lo hi:Nat→Option Rat}{L:(Nat→Rat)→Prop}{s:PS}{up low:Bool}
theorem oK {t D:Rat}(c:0<t→0≤D)(d:t<0→D≤0):0≤t*D:=by
 refine CV.1 fun q=>?_;rcases yq q with ⟨b,f⟩|⟨b,f⟩
 ·have:=c b;grind
 have:=d b;grind
theorem PB.rowD (h:PB n m a L s.toPT)(hx:L s.x)(b:L y){i:Nat}(hi:i≤m):(s.d:Rat)*(y (s.bs i)-s.x (s.bs i))=smr n fun c=>(s.T i c:Rat)*(y (s.nb c)-s.x (s.nb c)):=
 (h.rep _).1 (zni h _ _ b hx) i hi
theorem aE {t:Int}:(t:Rat)<0↔t<0:=by rw [show (0:Rat)=((0:Int):Rat) from rfl];exact Ds
theorem PInv.opt (b:PInv n m a lo hi L s)(w:∀c u,c<n→¬ent m lo hi s u c)(D:L y)(hb:∀v,v<n+m→inBd lo hi v (y v)):s.x (n+m)≤y (n+m):=by
 have p:=b.toPB.rowD b.xL D (AL m);rw [b.bm] at p;have F:0≤(s.d:Rat)*(y (n+m)-s.x (n+m)):=by
  rw [p];refine zdf fun c f=>oK (fun q=>?_) fun q=>?_
  ·obtain ⟨l,B,A⟩:=mO fun o=>w c false f ⟨Cc.1 q,o⟩;have:=(hb _ (b.nv c f)).1 l B
   grind
  obtain ⟨u,C,A⟩:=mP fun o=>w c true f ⟨aE.1 q,o⟩;have:=(hb _ (b.nv c f)).2 u C
  grind
 refine CV.1 fun q=>?_;have:=BZ b.toPB.dpos (show 0<s.x (n+m)-y (n+m) by grind)
 grind
theorem Vio.inf (d:PInv n m a lo hi L s)(F:Vio m lo hi s r low g)(p:∀c,c<n→¬suit lo hi (rdOf m s r e low) c)(O:L y)(hb:∀v,v<n+m→inBd lo hi v (y v)):False:=by
 have G:=d.toPB.rowD d.xL O (Bh F.hr);have I:=hb _ (d.bv r F.hr);have o:=F.v;have H:=d.toPB.dpos;unfold Viol at o;unfold suit rdOf at p;cases low with
 |true=>
  rw [eS rfl] at o;obtain ⟨l,w,J,_⟩:=o;have K:=I.1 l w;have A:0≤smr n fun c=> -1*((s.T r c:Rat)*(y (s.nb c)-s.x (s.nb c))):=zdf fun c b=>by
   have:0≤(s.T r c:Rat)*(s.x (s.nb c)-y (s.nb c)):=oK (fun q=>by
     obtain ⟨u,D,B⟩:=mP fun f=>p c b (.inl ⟨q,f⟩);have:=(hb _ (d.nv c b)).2 u D
     grind) fun q=>by
     obtain ⟨l,C,B⟩:=mO fun f=>p c b (.inr ⟨q,f⟩);have:=(hb _ (d.nv c b)).1 l C
     grind
   grind
  rw [wL,←G] at A;have:=BZ H (show 0<y (s.bs r)-s.x (s.bs r) by grind)
  grind
 |false=>
  rw [eP Ba] at o;obtain ⟨l,w,J,_⟩:=o;have K:=I.2 l w;have A:0≤smr n fun c=>(s.T r c:Rat)*(y (s.nb c)-s.x (s.nb c)):=zdf fun c b=>oK (fun q=>by
     obtain ⟨l,C,B⟩:=mO fun f=>p c b (.inr ⟨q,f⟩);have:=(hb _ (d.nv c b)).1 l C
     grind) fun q=>by
     obtain ⟨u,D,B⟩:=mP fun f=>p c b (.inl ⟨q,f⟩);have:=(hb _ (d.nv c b)).2 u D
     grind
  rw [←G] at A;have:=BZ H (show 0<s.x (s.bs r)-y (s.bs r) by grind)
  grind
def rayV (t:PT)(e:Nat)(up:Bool)(k:Nat):Nat→Rat:=mvx ⟨t,fun _=>0⟩ e (sgD up) k
theorem qt (q:Rat):∀k v,mvx s e (q*sgD up) k v=s.x v+q*rayV s.toPT e up k v
 |0,v=>by
  show swp s.x (s.nb e) (s.x (s.nb e)+q*sgD up) v=s.x v+q*swp (fun _=>(0:Rat)) (s.nb e) (0+sgD up) v;unfold swp;split
  ·next h=>rw [h];grind
  grind
 |k+1,v=>by
  have h1:=qt q k (s.bs k);have b:=qt q k v;show swp (mvx s e (q*sgD up) k) (s.bs k) (mvx s e (q*sgD up) k (s.bs k)+(s.T k e:Rat)/s.d*(q*sgD up)) v=s.x v+q*swp (rayV s.toPT e up k) (s.bs k) (rayV s.toPT e up k (s.bs k)+(s.T k e:Rat)/s.d*sgD up) v;unfold swp;split
  ·next h=>rw [h,h1];grind
  exact b
theorem Ent.unb (b:PInv n m a lo hi L s)(A:Feas m lo hi s)(l:Ent n m lo hi s e up)(C:∀r ρ,¬cnd m lo hi s e up r ρ){q:Rat}(p:0<q):L (fun v=>s.x v+q*rayV s.toPT e up (m+1) v)∧(∀v,v<n+m→inBd lo hi v (s.x v+q*rayV s.toPT e up (m+1) v))∧s.x (n+m)+q*rayV s.toPT e up (m+1) (n+m)<s.x (n+m):=by
 have F:(fun v=>s.x v+q*rayV s.toPT e up (m+1) v)=mvx s e (q*sgD up) (m+1):=by
  funext v;exact (qt q (m+1) v).symm
 refine ⟨F▸b.mvL l.he,fun v I=>?_,?_⟩
 ·rw [←qt];rcases b.cov v I with ⟨c,B,rfl⟩|⟨i,o,rfl⟩
  ·by_cases hce:c=e
   ·rw [hce,qU b.toPB l.he eU];exact zii (b.bd e l.he).1 (Bc p) fun g u=>eN u (C none g)
   rw [qT b.toPB l.he B hce eU];exact (b.bd c B).1
  rw [zh3 b l.he zo];by_cases q0:s.T i e=0
  ·rw [q0,ab_z,DV,B6,DW];exact A i o
  have H:=lk ((b.toPB.sgn (t:=s.T i e)).2.1 q0);exact zii (A i o) (DQ (Bc p) (Bc H)) fun g u=>eN ⟨o,q0,g,u,rfl⟩ (C (some i) _)
 rw [←qt];have w:=mQ (δ:=q*sgD up) b.toPB l.he (AL (m+1)) (B4 m);rw [b.bm] at w;rw [w];have f:=l.im;have D:=b.toPB.sgn (t:=s.T m e);unfold ent at f;cases up with
 |true=>
  rw [eS rfl] at f;have G:=BZ (show 0< -((s.T m e:Rat)/s.d) by have:=D.2.2 f.1;grind) p;show _+_*(q*1)<_
  grind
 |false=>
  rw [eP Ba] at f;have G:=BZ (D.1.1 (by rw [decide_eq_true_iff];exact f.1)) p;show _+_*(q* -1)<_
  grind
end
theorem bV:∀{n:Nat} {A:Nat→Nat→Int} {M P k:Nat},k<n→(∀i j,i<n→j<n→i≠k→(A i j).natAbs≤M)→(∀j,j<n→(A k j).natAbs≤P)→(det n A).natAbs≤fct n*(M^(n-1)*P):=by
 intro n;induction n with
 |zero=>intro A M P k h;omega
 |succ n ih=>
  intro A M P k p h c;have l:(sm (n+1) fun r=>sgA r*A r 0*det n fun i j=>A (sk r i) (j+1)).natAbs≤(n+1)*(fct n*(M^n*P)):=cD fun r o=>by
   rw [AF,AF,zdl,BR];by_cases e:r=k
   ·subst e;have b:(det n fun i j=>A (sk r i) (j+1)).natAbs≤fct n*M^n:=df fun i j hi d=>h _ _ (by unfold sk;split<;>omega) zo zo9;have:=Ar (c 0 zo) b;rw [show fct n*(M^n*P)=P*(fct n*M^n) by grind];exact this
   have u:0<n:=zo;have b:(det n fun i j=>A (sk r i) (j+1)).natAbs≤fct n*(M^(n-1)*P):=ih (k:=ks r k) (by unfold ks;split<;>omega) (fun i j hi d f=>h _ _ (by unfold sk;split<;>omega) zo fun q=>f ((zhj e).1 q)) fun j d=>by
    have q:sk r (ks r k)=k:=(zhj e).2 rfl;show (A (sk r (ks r k)) (j+1)).natAbs≤P;rw [q];exact c _ zo
   have:=Ar (h r 0 o zo e) b;refine Aa this (Nat.le_of_eq ?_);rw [show M^n=M^(n-1)*M by rw [←Ac];congr 1;omega]
   grind
  show (sm (n+1) _).natAbs≤(n+1)*fct n*(M^n*P);rw [Ah];exact l
def pr (κ:Nat→Int):Nat→Int
 |0=>1
 |n+1=>pr κ n*κ n
theorem zka {κ:Nat→Int}:∀{n:Nat},(∀c,c<n→0<κ c)→0<pr κ n
 |0,_=>show (0:Int)<1 by decide
 |n+1,h=>Ed (zka fun c hc=>h c zo) (h n zo)
theorem bU {n:Nat}(A:Nat→Nat→Int){k:Nat}(b:k<n)(q:Int)(u:Nat→Int):det n (rw' A k fun j=>q*u j)=q*det n (rw' A k u):=by
 have h:=nj A k q 0 u u b;simp only [C8,E1] at h;exact h
theorem ni {n:Nat}(A:Nat→Nat→Int)(κ:Nat→Int):det n (fun i j=>κ i*A i j)=pr κ n*det n A:=by
 have h:∀p,p≤n→det n (fun i j=>if i<p then κ i*A i j else A i j)=pr κ p*det n A:=by
  intro p;induction p with
  |zero=>intro _;simp only [AQ,if_false];show _=1*_;rw [F5]
  |succ p ih=>
   intro f;have d:=bU (n:=n) (fun i j=>if i<p then κ i*A i j else A i j) (k:=p) zo (κ p) (A p);have b:(fun i j=>if i<p+1 then κ i*A i j else A i j)=rw' (fun i j=>if i<p then κ i*A i j else A i j) p (fun j=>κ p*A p j):=by
    funext i j;unfold rw';by_cases q:i=p
    ·rw [eS q,eS zo,q]
    rw [eP q];show _=if i<p then _ else _
    by_cases q2:i<p
    ·rw [eS q2,eS zo]
    rw [eP q2,eP zo]
   have c:rw' (fun i j=>if i<p then κ i*A i j else A i j) p (A p)=fun i j=>if i<p then κ i*A i j else A i j:=by
    funext i j;unfold rw';by_cases q:i=p
    ·rw [eS q];show _=if i<p then _ else _
     rw [eP zo,q]
    rw [eP q]
   rw [b,d,c,ih zo];show _=pr κ p*κ p*_
   grind
 rw [←h n eU];exact vU fun i j hi _=>(eS hi).symm
theorem cz {n:Nat}{f:Nat→Int}:((sm n f:Int):Rat)=smr n fun c=>(f c:Rat):=by
 induction n with
 |zero=>rfl
 |succ n ih=>show ((sm n f+f n:Int):Rat)=smr n _+_;rw [Rat.intCast_add,ih]
theorem vert {n:Nat}{A:Nat→Nat→Int}{d:Int}{k z:Nat→Int}{x:Nat→Rat}{f t:Nat→Int}{y:Rat}(G:d≠0)(H:∀c,c<n→(k c:Rat)*x c=z c)(u:∀j,j<n→d*f j=sm n fun c=>t c*A c j)(w:(d:Rat)*y=smr n fun c=>(t c:Rat)*x c):((det n fun c j=>k c*A c j:Int):Rat)*y=((sm n fun c=>det n (rw' (fun c j=>k c*A c j) c f)*z c:Int):Rat):=by
 have o:(d:Rat)≠0:=fun e=>G (Bv.1 e);refine wu o ?_;rw [ni,cz,←wL,show (d:Rat)*(((pr k n*det n A:Int):Rat)*y)=((pr k n*det n A:Int):Rat)*((d:Rat)*y) by grind,w,←wL];refine yg fun c b=>?_;have B:=zf0 (A:=A) b u;have l:=bU (fun c j=>k c*A c j) b (k c) f;have p:rw' (fun c j=>k c*A c j) c (fun j=>k c*f j)=fun i j=>k i*rw' A c f i j:=by
  funext i j;unfold rw';by_cases q:i=c
  ·rw [eS q,eS q,q]
  rw [eP q,eP q]
 rw [p,ni] at l;have C:=H c b;have D:((pr k n*det n (rw' A c f):Int):Rat)=((k c*det n (rw' (fun c j=>k c*A c j) c f):Int):Rat):=by rw [l]
 have F:((d*det n (rw' A c f):Int):Rat)=((t c*det n A:Int):Rat):=by rw [B]
 rw [AC,AC] at D F;rw [AC,AC,←C];generalize ((det n (rw' (fun c j=>k c*A c j) c f):Int):Rat)=X at*
 generalize ((det n (rw' A c f):Int):Rat)=Y at*
 generalize ((det n A:Int):Rat)=Z at*
 generalize ((pr k n:Int):Rat)=K at*
 grind
section
variable {n m:Nat}{a:Nat→Nat→Int}{L:(Nat→Rat)→Prop}{t:PT}
structure Vtx (n m:Nat)(a:Nat→Nat→Int)(x:Nat→Rat)(M:Nat)(D:Int):Prop where
 pos:0<D
 le:D.natAbs≤fct n*M^n
 val:∀v,v≤n+m→∀P,(∀j,j<n→(a v j).natAbs≤P)→∃N:Int,(D:Rat)*x v=N∧N.natAbs≤n*(fct n*(M^(n-1)*P)*M)
theorem PB.vtx (h:PB n m a L t)(hx:L x){k z:Nat→Int}(hk:∀c,c<n→0<k c)(hz:∀c,c<n→(k c:Rat)*x (t.nb c)=z c)(hM:∀c,c<n→∀j,j<n→(k c*a (t.nb c) j).natAbs≤M)(hzM:∀c,c<n→(z c).natAbs≤M):∃D,Vtx n m a x M D:=by
 have hd:t.d≠0:=by have:=h.tab.dp;omega
 let R:Nat→Nat→Int:=fun c j=>k c*a (t.nb c) j
 have hR:det n R≠0:=by
  show det n (fun c j=>k c*a (t.nb c) j)≠0;rw [ni (fun c=>a (t.nb c)) k];have h1:=zka hk;intro q;rcases Int.mul_eq_zero.1 q with q|q
  ·omega
  have:=h.tab.dd;omega
 have hv:∀v,v≤n+m→∃f:Nat→Int,(∀j,j<n→t.d*a v j=sm n fun c=>f c*a (t.nb c) j)∧(t.d:Rat)*x v=smr n fun c=>(f c:Rat)*x (t.nb c):=fun v hv=>by
  have hb:∀i,i≤m→t.bs i=v→∃f:Nat→Int,(∀j,j<n→t.d*a v j=sm n fun c=>f c*a (t.nb c) j)∧(t.d:Rat)*x v=smr n fun c=>(f c:Rat)*x (t.nb c):=fun i hi q=>by
   subst q;exact ⟨t.T i,h.tab.rep i hi,(h.rep x).1 hx i hi⟩
  by_cases q:v=n+m
  ·exact hb m eU (h.bm.trans q.symm)
  rcases h.cov v zo with ⟨c,hc,rfl⟩|⟨i,hi,q⟩
  ·refine ⟨fun c'=>if c'=c then t.d else 0,fun j hj=>?_,?_⟩
   ·rw [jF hc fun c' _ hne=>by show (if c'=c then t.d else 0)*_=_;rw [eP hne,C8]];show _=(if c=c then t.d else 0)*_;rw [eS rfl]
   rw [zde hc fun c' _ hne=>by show (((if c'=c then t.d else 0:Int)):Rat)*_=0;rw [eP hne];show (0:Rat)*_=0;grind];show _=((if c=c then t.d else 0:Int):Rat)*_;rw [eS rfl]
  exact hb i zo q
 have hcD:(det n R).natAbs≤fct n*M^n:=df fun i j hi hj=>hM i hi j hj;have hval:∀v,v≤n+m→∀P,(∀j,j<n→(a v j).natAbs≤P)→∃N:Int,((det n R:Int):Rat)*x v=N∧N.natAbs≤n*(fct n*(M^(n-1)*P)*M):=fun v hvv P hP=>by
  obtain ⟨f,h1,h2⟩:=hv v hvv;refine ⟨_,vert (A:=fun c=>a (t.nb c)) (x:=fun c=>x (t.nb c)) hd hz h1 h2,cD fun c hc=>?_⟩;rw [AF];refine Ar (bV hc (fun i j hi hj hne=>?_) fun j hj=>?_) (hzM c hc)
  ·show (rw' R c (a v) i j).natAbs≤M;unfold rw';rw [eP hne];exact hM i hi j hj
  show (rw' R c (a v) c j).natAbs≤P;unfold rw';rw [eS rfl];exact hP j hj
 by_cases hp:0<det n R
 ·exact ⟨det n R,hp,hcD,hval⟩
 refine ⟨-det n R,zo,zo,fun v hvv P hP=>?_⟩;obtain ⟨N,h1,h2⟩:=hval v hvv P hP;refine ⟨-N,?_,zo⟩;rw [FL,FL,←h1]
 grind
theorem PB.bT (h:PB n m a L t)(o:∀v,v<n+m→∀j,j<n→(a v j).natAbs≤M){i c:Nat}(hi:i≤m)(d:c<n)(p:∀j,j<n→(a (t.bs i) j).natAbs≤P):(t.T i c).natAbs≤fct n*(M^(n-1)*P):=by
 have w:(det n (rw' (fun c=>a (t.nb c)) c (a (t.bs i)))).natAbs≤fct n*(M^(n-1)*P):=bV d (fun u j f b l=>by unfold rw';rw [eP l];exact o _ (h.nv u f) j b) fun j b=>by unfold rw';rw [eS rfl];exact p j b
 rcases h.tab.ent hi d with e|e<;>rw [e]<;>omega
theorem PB.bD (h:PB n m a L t)(f:∀v,v<n+m→∀j,j<n→(a v j).natAbs≤M):t.d.natAbs≤fct n*M^n:=by
 have o:(det n (fun c=>a (t.nb c))).natAbs≤fct n*M^n:=df fun p j b l=>f _ (h.nv _ b) j l;rcases h.tab.dd with e|e<;>omega
end
def L0 (n m:Nat)(a:Nat→Nat→Int)(y:Nat→Rat):Prop:=∀i,i≤m→y (n+i)=smr n fun j=>(a (n+i) j:Rat)*y j
theorem PB.ini {n m:Nat}{a:Nat→Nat→Int}(f:∀v j,v<n→j<n→a v j=if v=j then 1 else 0):PB n m a (L0 n m a) ⟨fun c=>c,fun i=>n+i,fun i c=>a (n+i) c,1⟩:=by
 refine ⟨⟨Int.one_pos,.inl ?_,fun i hi j b=>?_⟩,fun c d=>?_,fun i hi=>?_,rfl,fun c p _ _ h=>h,fun i o _ _ h=>?_,fun c i d hi h=>?_,fun v u=>?_,fun y=>⟨fun h i hi=>?_,fun h i hi=>?_⟩⟩
 ·exact (vU fun i j hi b=>f i j hi b).trans (znx n)
 ·show 1*a (n+i) j=sm n fun c=>a (n+i) c*a c j;rw [jF b fun c d l=>by rw [f c j d b,eP l,Dq],f j j b b,eS rfl];omega
 ·show c<n+m;omega
 ·show n+i<n+m;omega
 ·have h:n+i=n+o:=h;omega
 ·have h:c=n+i:=h;omega
 ·by_cases q:v<n
  ·exact .inl ⟨v,q,rfl⟩
  exact .inr ⟨v-n,zo,show n+(v-n)=v by omega⟩
 ·show (1:Rat)*y (n+i)=_;rw [EL];exact h i hi
 have h:(1:Rat)*y (n+i)=smr n fun c=>(a (n+i) c:Rat)*y c:=h i hi;rw [EL] at h;exact h
structure Bnd (n m:Nat)(a:Nat→Nat→Int)(lo hi:Nat→Option Rat)(M N:Nat):Prop where
 aM:∀v,v<n+m→∀j,j<n→(a v j).natAbs≤M
 bq:∀v,v<n+m→∀q,(lo v=some q∨hi v=some q∨q=0)→∃k z:Int,0<k∧(k:Rat)*q=z∧k.natAbs≤N∧z.natAbs≤N∧∀j,j<n→(k*a v j).natAbs≤N
def vN (n M N:Nat):Nat:=n*(fct n*(N^(n-1)*M)*N)
def vD (n N:Nat):Nat:=fct n*N^n
section
variable {n m e i:Nat}{a:Nat→Nat→Int}{lo hi:Nat→Option Rat}{L:(Nat→Rat)→Prop}{t:PT}{s:PS}
theorem PB.vtxB (h:PB n m a L t)(b:Bnd n m a lo hi M N)(hx:L x)(hb:∀c,c<n→lo (t.nb c)=some (x (t.nb c))∨hi (t.nb c)=some (x (t.nb c))∨x (t.nb c)=0):∃D,Vtx n m a x N D:=by
 have l:∀c,∃kz:Int×Int,c<n→0<kz.1∧(kz.1:Rat)*x (t.nb c)=kz.2∧kz.1.natAbs≤N∧kz.2.natAbs≤N∧∀j,j<n→(kz.1*a (t.nb c) j).natAbs≤N:=fun c=>by
  by_cases d:c<n
  ·obtain ⟨k,z,l,o,p,u,w⟩:=b.bq _ (h.nv c d) _ (hb c d);exact ⟨(k,z),fun _=>⟨l,o,p,u,w⟩⟩
  exact ⟨(1,0),fun q=>eN q d⟩
 obtain ⟨F,f⟩:=Ch l;exact h.vtx hx (k:=fun c=>(F c).1) (z:=fun c=>(F c).2) (fun c d=>(f c d).1) (fun c d=>(f c d).2.1) (fun c d=>(f c d).2.2.2.2) fun c d=>(f c d).2.2.2.1
theorem atB.b {v:Nat}{q:Rat}(h:atB lo hi v q):lo v=some q∨hi v=some q∨q=0:=by
 rcases h with h|h|h
 ·exact .inl h
 ·exact .inr (.inl h)
 exact .inr (.inr h.2.2)
theorem PInv.vtx (h:PInv n m a lo hi L s)(b:Bnd n m a lo hi M N):∃D,Vtx n m a s.x N D:=
 h.toPB.vtxB b h.xL fun c d=>(h.bd c d).2.b
def QB (A B:Nat)(q:Rat):Prop:=∃x y:Int,0<y∧(y:Rat)*q=x∧x.natAbs≤A∧y.natAbs≤B
theorem Vtx.qb {D:Int}(h:Vtx n m a x N D){v:Nat}(f:v≤n+m)(d:∀j,j<n→(a v j).natAbs≤P):QB (vN n P N) (vD n N) (x v):=by
 obtain ⟨z,b,c⟩:=h.val v f P d;exact ⟨z,D,h.pos,b,c,h.le⟩
theorem QB.sub {A B f c:Nat}{p q:Rat}(h:QB A B p)(h':QB f c q):QB (A*c+f*B) (B*c) (p-q):=by
 obtain ⟨x,y,D,F,G,w⟩:=h;obtain ⟨C,d,l,o,u,b⟩:=h';refine ⟨x*d-C*y,y*d,Ed D l,?_,?_,?_⟩
 ·rw [AC,Hv,AC,AC,←F,←o]
  grind
 ·have:=GZ (x*d) (C*y);have H:=Ar G b;have I:=Ar u w;rw [AF,AF] at this;omega
 rw [AF];exact Ar w b
theorem Bnd.qb (b:Bnd n m a lo hi M N){v:Nat}(p:v<n+m)(o:lo v=some q∨hi v=some q∨q=0):QB N N q:=by
 obtain ⟨k,z,c,d,f,l,u⟩:=b.bq v p q o;exact ⟨z,k,c,d,l,f⟩
theorem PInv.stp (h:PInv n m a lo hi L s)(b:Bnd n m a lo hi M N)(f:e<n)(o:i<m)(u:s.T i e≠0)(l:lo (s.bs i)=some q∨hi (s.bs i)=some q):QB (vN n M N*N+N*vD n N) (vD n N*N) ((q-s.x (s.bs i))/((s.T i e:Rat)/s.d)):=by
 have F:=h.toPB.piv o f u;obtain ⟨D,C⟩:=F.vtxB (x:=mvx s e ((q-s.x (s.bs i))/((s.T i e:Rat)/s.d)) (m+1)) b (h.mvL f) fun c w=>by
  by_cases hce:c=e
  ·rw [show (s.toPT.piv i e).nb c=s.bs i from by rw [hce];exact qM,repX h.toPB f o u,show s.x (s.bs i)+(q-s.x (s.bs i))=q by grind];rcases l with l|l
   ·exact .inl l
   exact .inr (.inl l)
  rw [show (s.toPT.piv i e).nb c=s.nb c from vi hce,qT h.toPB f w hce eU];exact (h.bd c w).2.b
 have A:=C.qb (v:=s.nb e) (by have:=h.nv e f;omega) (b.aM _ (h.nv e f));have B:=b.qb (h.nv e f) ((h.bd e f).2.b);have p:=A.sub B;rw [qU h.toPB f eU] at p;rw [show (q-s.x (s.bs i))/((s.T i e:Rat)/s.d)=s.x (s.nb e)+(q-s.x (s.bs i))/((s.T i e:Rat)/s.d)-s.x (s.nb e) by grind];exact p
theorem Vtx.sum {D:Int}(h:Vtx n m a x N D){c:Nat→Rat}{K:Int}(o:0<K){w:Nat→Int}(A:∀j,(K:Rat)*c j=w j){W:Nat}(u:∀j,(w j).natAbs≤W)(p:∀v,v<n+m→∀j,j<n→(a v j).natAbs≤M):∀k,k≤n→QB (k*(W*vN n M N)) (K.natAbs*vD n N) (smr k fun j=>c j*x j):=by
 have b:∀j,∃z:Int,j<n→(D:Rat)*x j=z∧z.natAbs≤vN n M N:=fun j=>by
  by_cases d:j<n
  ·obtain ⟨z,b,l⟩:=h.val j zo M (p j zo);exact ⟨z,fun _=>⟨b,l⟩⟩
  exact ⟨0,fun q=>eN q d⟩
 obtain ⟨F,f⟩:=Ch b;intro k B;refine ⟨sm k fun j=>w j*F j,K*D,Ed o h.pos,?_,cD fun j d=>?_,?_⟩
 ·rw [cz,←wL];refine yg fun j d=>?_;rw [AC,AC,←A j,←(f j zo).1]
  grind
 ·rw [AF];exact Ar (u j) (f j zo).2
 rw [AF];exact Ar eU h.le
end
def aF (n:Nat)(z:Nat→Nat→Int)(v j:Nat):Int:=if v<n then (if v=j then 1 else 0) else z (v-n) j
def xF (n:Nat)(z:Nat→Nat→Int)(y:Nat→Rat)(v:Nat):Rat:=if v<n then y v else smr n fun j=>(z (v-n) j:Rat)*y j
def bF (n:Nat)(c r:Nat→Option Rat)(σ:Nat→Rat)(v:Nat):Option Rat:=if v<n then c v else (r (v-n)).map fun q=>q*σ (v-n)
section
variable {n m i j v:Nat}{z:Nat→Nat→Int}{lo hi:Nat→Option Rat}
theorem nQ:aF n z (n+i) j=z i j:=by unfold aF;rw [eP zo,BD]
theorem zgs (h:v<n):aF n z v j=if v=j then 1 else 0:=by unfold aF;rw [eS h]
theorem jo (h:v<n):xF n z y v=y v:=by unfold xF;rw [eS h]
theorem zjt:xF n z y (n+i)=smr n fun j=>(z i j:Rat)*y j:=by unfold xF;rw [eP zo,BD]
theorem nD {c r:Nat→Option Rat}(h:v<n):bF n c r σ v=c v:=by unfold bF;rw [eS h]
theorem gn {c r:Nat→Option Rat}:bF n c r σ (n+i)=(r i).map fun q=>q*σ i:=by unfold bF;rw [eP zo,BD]
theorem xF_L:L0 n m (aF n z) (xF n z y):=fun i _=>by
 rw [zjt];exact yg fun j b=>by rw [nQ,jo b]
def iniS (n:Nat)(z:Nat→Nat→Int)(y:Nat→Rat):PS:=⟨⟨fun c=>c,fun i=>n+i,z,1⟩,xF n z y⟩
theorem zih (hb:∀c,c<n→inBd lo hi c (y c)∧atB lo hi c (y c)):PInv n m (aF n z) lo hi (L0 n m (aF n z)) (iniS n z y):=by
 have h:=PB.ini (n:=n) (m:=m) (a:=aF n z) fun v j d _=>zgs d;have e:(fun i c=>aF n z (n+i) c)=z:=by funext i c;exact nQ
 rw [e] at h;refine ⟨h,xF_L,fun c b=>?_⟩;show inBd lo hi c (xF n z y c)∧atB lo hi c (xF n z y c);rw [jo b];exact hb c b
structure ScF (n DB M:Nat)(f:Nat→Rat)(z:Nat→Int)(σ:Rat):Prop where
 pos:0<σ
 eq:∀j,j<n→(z j:Rat)=σ*f j
 ex:∃D g:Nat,0<D∧0<g∧σ*(g:Rat)=(D:Rat)∧D≤DB∧g≤M∧∀j,j<n→g*(z j).natAbs≤M
structure NE (E P:Nat)(q:Rat):Prop where
 den:q.den≤E
 num:q.num.natAbs≤P
theorem zfs (q:Rat):(q.den:Rat)*q=(q.num:Rat):=by
 have c:(q.den:Rat)≠0:=fun e=>q.den_nz (Ee.1 e);have d:q=(q.num:Rat)/(q.den:Rat):=by rw [←Rat.mkRat_eq_div,Rat.mkRat_self]
 have b:=Ce (a:=(q.num:Rat)) c;rw [←d] at b;rw [Cd];exact b
theorem zn8 {P:Nat}{f:Nat→Nat→Rat}(O:∀i,i<m→ScF n DB M (f i) (z i) (σ i))(hM:1≤M)(H:1≤E)(l:E*M≤N)(I:P*DB≤N)(V:E≤N)(Y:P≤N)(J:∀v,v<n→∀q,cl v=some q∨ch v=some q→NE E P q)(R:∀i,i<m→∀q,rl i=some q∨rh i=some q→NE E P q):Bnd n m (aF n z) (bF n cl rl σ) (bF n ch rh σ) M N:=by
 have W:M≤N:=Aa (CM M H) l;refine ⟨fun v U j o=>?_,fun v U q u=>?_⟩
 ·by_cases h:v<n
  ·rw [zgs h];split<;>omega
  obtain ⟨i,rfl⟩:∃i,v=n+i:=⟨v-n,zo⟩;obtain ⟨D,g,_,K,_,_,_,c⟩:=(O i zo).ex;rw [nQ];exact Aa (CM _ K) (c j o)
 have w:∀q,NE E P q∨q=0→∃k s:Int,0<k∧(k:Rat)*q=s∧k.natAbs≤E∧s.natAbs≤P:=fun q h=>by
  rcases h with h|rfl
  ·refine ⟨q.den,q.num,by have:=q.den_pos;omega,?_,by have:=h.den;omega,h.num⟩;rw [Bn];exact zfs q
  exact ⟨1,0,by decide,DV _,H,gH⟩
 by_cases h:v<n
 ·rw [nD h,nD h] at u;obtain ⟨k,s,A,B,C,F⟩:=w q (by
   rcases u with b|b|b
   ·exact .inl (J v h q (.inl b))
   ·exact .inl (J v h q (.inr b))
   ·exact .inr b)
  refine ⟨k,s,A,B,zo,zo,fun j o=>?_⟩;rw [zgs h];split
  ·rw [Int.mul_one];omega
  rw [Dq];exact CO _
 obtain ⟨i,rfl⟩:∃i,v=n+i:=⟨v-n,zo⟩;have hi:i<m:=zo;rw [gn,gn] at u;obtain ⟨D,g,Z,K,A,B,C,F⟩:=(O i hi).ex;obtain ⟨p,T,rfl⟩:∃p,(NE E P p∨p=0)∧q=p*σ i:=by
  rcases u with b|b|b
  ·obtain ⟨p,c,d⟩:=A7.1 b;exact ⟨p,.inl (R i hi p (.inl c)),d.symm⟩
  ·obtain ⟨p,c,d⟩:=A7.1 b;exact ⟨p,.inl (R i hi p (.inr c)),d.symm⟩
  exact ⟨0,.inr rfl,by rw [b,B6]⟩
 obtain ⟨k,s,c,d,G,S⟩:=w p T;refine ⟨k*g,s*D,Ed c zo,?_,?_,?_,fun j o=>?_⟩
 ·rw [AC,AC,←d,Bn,Bn,←A]
  grind
 ·rw [AF,qe];exact Aa (Ar G C) l
 ·rw [AF,qe];exact Aa (Ar S B) I
 rw [nQ,Int.mul_assoc,AF,AF,qe];exact Aa (Ar G (F j o)) l
theorem zdr {f:Nat→Rat}{ζ:Nat→Int}{s:Rat}(h:∀j,j<n→(ζ j:Rat)=s*f j):(smr n fun j=>(ζ j:Rat)*y j)=s*smr n fun j=>f j*y j:=by
 rw [←wL];exact yg fun j b=>by rw [h j b];grind
theorem zrl {l u:Option Rat}{s x:Rat}(A:0<s):((∀a,(l.map fun q=>q*s)=some a→a≤s*x)∧∀a,(u.map fun q=>q*s)=some a→s*x≤a)↔(∀a,l=some a→a≤x)∧∀a,u=some a→x≤a:=by
 have d:∀{p q:Rat},p≤q↔s*p≤s*q:=fun {p q}=>⟨fun h=>Rat.mul_le_mul_of_nonneg_left h (Bc A),fun h=>CV.1 fun f=>by
  have o:=BZ A (show 0<p-q by grind)
  grind⟩
 constructor
 ·rintro ⟨w,f⟩;refine ⟨fun a c=>?_,fun a c=>?_⟩
  ·have:=w (a*s) (by rw [c];rfl);rw [Cd a s] at this;exact d.2 this
  have:=f (a*s) (by rw [c];rfl);rw [Cd a s] at this;exact d.2 this
 rintro ⟨w,f⟩;refine ⟨fun a c=>?_,fun a c=>?_⟩
 ·obtain ⟨b,o,rfl⟩:=A7.1 c;rw [Cd b s];exact d.1 (w b o)
 obtain ⟨b,o,rfl⟩:=A7.1 c;rw [Cd b s];exact d.1 (f b o)
theorem zqa {f:Nat→Nat→Rat}{w:Nat→Rat}(p:L0 n m (aF n z) w)(u:∀i,i<m→0<σ i)(A:∀i,i<m→∀j,j<n→(z i j:Rat)=σ i*f i j):(∀v,v<n+m→inBd (bF n cl rl σ) (bF n ch rh σ) v (w v))↔(∀v,v<n→inBd cl ch v (w v))∧∀i,i<m→inBd rl rh i (smr n fun j=>f i j*w j):=by
 have c:∀v,v<n→(inBd (bF n cl rl σ) (bF n ch rh σ) v (w v)↔inBd cl ch v (w v)):=fun v h=>by
  unfold inBd;rw [nD h,nD h]
 have d:∀i,i<m→(inBd (bF n cl rl σ) (bF n ch rh σ) (n+i) (w (n+i))↔inBd rl rh i (smr n fun j=>f i j*w j)):=fun i hi=>by
  have e:w (n+i)=σ i*smr n fun j=>f i j*w j:=by
   rw [p i zo,←zdr (A i hi)];exact yg fun j _=>by rw [nQ]
  unfold inBd;rw [gn,gn,e];exact zrl (u i hi)
 constructor
 ·exact fun h=>⟨fun v b=>(c v b).1 (h v zo),fun i hi=>(d i hi).1 (h (n+i) zo)⟩
 rintro ⟨l,o⟩ v b;by_cases q:v<n
 ·exact (c v q).2 (l v q)
 have:=(d (v-n) zo).2 (o (v-n) zo);rw [show n+(v-n)=v by omega] at this;exact this
theorem zp0 {f:Nat→Rat}{w:Nat→Rat}{s:Rat}(b:L0 n m (aF n z) w)(c:∀j,j<n→(z m j:Rat)=s*f j):w (n+m)=s*smr n fun j=>f j*w j:=by
 rw [b m eU,←zdr c];exact yg fun j _=>by rw [nQ]
end
end Go.Proofs.YtepkmadmigkgmaaGreatDoor
namespace Go.Proofs.YtepkmadmigkgmaaGreatDoor
open Go Go.GL
variable {m bs l n0 V D O N r n' c P b bS cx lx c1 c2 l1 l2 BB Mo M cap fx gx c' cX m' l4 c4 l5 c5 l6 c6 l7 c7 l9 c9 p E:Nat}{h h':HF}{d:Sol}{A:Adr}{L:(Nat→Rat)→Prop}{lo hi:Nat→Option Rat}{e ty:TypeId}{low b1 b2 dx sx b8:Bool}{ops:List Oper}{q g y:Rat}{v v0:Value}{w ms Z:List Nat}{qs sc:List Rat}{ax a1 a2 asc alo ahi aq ex a4 a5 a6 a7 a9 aX:Option Addr}{X:CtxF}{t:TF}{Q:SV→Prop}{o:Oper}{s:List UInt8}{bf f:Int}{α:Type}{U':Nat→Nat→Int}{al ld:List (Nat×Nat)}{ef:List (Nat×HF×List Nat)}{S:List (List UInt8)}
section
variable {i k:Nat}
def bdF (l:List (Bool×Rat))(v:Nat):Option Rat:=match l[v]? with|some (true,q)=>some q|_=>none
theorem xI {l:List (Bool×Rat)}{v:Nat}(h:l[v]?=some (true,q)):bdF l v=some q:=by unfold bdF;rw [h]
theorem pj {l:List (Bool×Rat)}{v:Nat}(h:l[v]?=some (false,q)):bdF l v=none:=by unfold bdF;rw [h]
structure SolP (n m:Nat)(d:Sol)(s:PS):Prop where
 nl:gP d.nb=n
 nb:∀c,c<n→d.nb[c]?=some (s.nb c)
 bl:gP d.ba=m
 ba:∀i,i<m→d.ba[i]?=some (s.bs i)
 vl:gP d.va=n+m
 va:∀v,v<n+m→d.va[v]?=some (s.x v)
 tl:gP d.ta=m+1
 ta:∀i,i≤m→∃r,d.ta[i]?=some r∧gP r.2=n∧∀c,c<n→r.2[c]?=some (s.T i c)
 de:d.den=s.d
 ll:gP d.lo=n+m
 lh:gP d.hi=n+m
 nm:n+m<900
 ls:gP d.sc=n+m
 dn:d.n=n
structure Lim (V T O D B:Nat):Prop where
 l1:V+B+1≤D
 l2:T+D+V+1≤2400
 l3:D+D≤2400
 l4:T≤O
 l5:T+O+1≤2400
structure SzP (n m V T O B:Nat)(d:Sol)(s:PS):Prop where
 va:∀v,v<n+m→Sz V (s.x v)
 lo:∀p∈d.lo,Sz B p.2
 hi:∀p∈d.hi,Sz B p.2
 tT:∀i,i<m→∀c,c<n→(s.T i c).natAbs<2^T
 tO:∀c,c<n→(s.T m c).natAbs<2^O
 dd:s.d.natAbs<2^T
section
variable {n T B:Nat}{s:PS}{a:Nat→Nat→Int}
def VioP (lo hi:Nat→Option Rat)(s:PS)(k:Nat)(f:Int)(g:Rat):Prop:=
 (f= -1∧∀i,i<k→inBd lo hi (s.bs i) (s.x (s.bs i)))∨∃i low,f=((i:Nat):Int)∧i<k∧Viol lo hi s i low g∧∀i',i'<k→s.bs i'<s.bs i→inBd lo hi (s.bs i') (s.x (s.bs i'))
theorem VioP.skip (h:VioP lo hi s k (i:Int) g)(w:s.bs i≤s.bs k):VioP lo hi s (k+1) (i:Int) g:=by
 rcases h with ⟨h,_⟩|⟨o,low,p,u,c,f⟩
 ·omega
 obtain rfl:i=o:=zo;refine .inr ⟨i,low,rfl,zo,c,fun j v b=>?_⟩;by_cases e:j=k
 ·subst e;omega
 exact f j zo b
theorem VioP.no {f:Int}(h:VioP lo hi s k f g)(y:inBd lo hi (s.bs k) (s.x (s.bs k))):VioP lo hi s (k+1) f g:=by
 have c:∀j,(j<k→inBd lo hi (s.bs j) (s.x (s.bs j)))→j<k+1→inBd lo hi (s.bs j) (s.x (s.bs j)):=fun j h b=>by
  by_cases e:j=k
  ·rw [e];exact y
  exact h zo
 rcases h with ⟨h,o⟩|⟨C,low,u,o,v,w⟩
 ·exact .inl ⟨h,fun j=>c j (o j)⟩
 exact .inr ⟨C,low,u,zo,v,fun j b p=>c j (fun b=>w j b p) b⟩
theorem VioP.take {f:Int}{g':Rat}(h:VioP lo hi s k f g)(o:f= -1∨∃i:Nat,f=(i:Int)∧s.bs k≤s.bs i)(u:Viol lo hi s k low g'):VioP lo hi s (k+1) (k:Int) g':=by
 refine .inr ⟨k,low,rfl,B4 _,u,fun j b w=>?_⟩;have b:j<k:=by
  by_cases e:j=k
  ·subst e;omega
  omega
 rcases h with ⟨h,c⟩|⟨v,low,y,c,C,p⟩
 ·exact c j b
 rcases o with o|⟨i,e,hi⟩
 ·omega
 obtain rfl:i=v:=zo;exact p j b zo
theorem Viol.mkL {l:Rat}(h:lo (s.bs i)=some l)(hx:s.x (s.bs i)<l):Viol lo hi s i true (l-s.x (s.bs i)):=by
 unfold Viol;rw [eS rfl];exact ⟨l,h,hx,rfl⟩
theorem Viol.mkH {u:Rat}(h:hi (s.bs i)=some u)(hx:u<s.x (s.bs i)):Viol lo hi s i false (u-s.x (s.bs i)):=by
 unfold Viol;rw [eP Ba];exact ⟨u,h,hx,rfl⟩
end
section
variable {n T B:Nat}{s:PS}
theorem zcl (k:Nat)(g:GG h n0)(sm:SM l h n0 bs d A)(R:SolP n m d s)(bv:∀i,i<m→s.bs i<n+m)(sz:SzP n m V T O B d s)(lm:Lim V T O D B):CX (cal (k+11)) 84 [mo (some ⟨bs,0,none⟩)] h n0 fun w u v=>∃f q g b a l c d1 e1 f1 g1 fd,w=.tuple #[gZ .i64 q,.agg #[jx b,gS a l c,jx d1,gS e1 f1 g1],jx fd]∧IW u v b a l c g.num∧IW u v d1 e1 f1 g1 (denZ g)∧VioP (bdF d.lo) (bdF d.hi) s m f g∧(fd=true∧0≤f∧q=f∨fd=false∧f= -1):=by
 obtain ⟨b0,a0,u0,c0,ty,st,i0⟩:=sm.st;have be:=sm.bs.1;have bf:=R.nm;have:=lm.l1;have:=lm.l3;have vl:=R.vl;have bl:=R.bl;have ll:=R.ll;have lh:=R.lh;refine zw (fn:=Tryz.f84) R4 ?_;refine Zi ?_;intro h1 p1 x1;refine Zi ?_;intro h2 p2 x2;refine zG ?_;refine sF (α:=Nat×Int×Rat×Bool×Option Addr×Nat×Nat×Bool×Option Addr×Nat×Nat) (fun z=>[(0,mo (some ⟨bs,0,none⟩)),(3,mo (some ⟨3*n0+2,0,none⟩)),(5,gZ .i64 z.2.1),(6,mo (some ⟨3*(n0+1)+2,0,none⟩)),(13,gS A.ba (gP d.ba) (gP d.ba)),(14,gZ .i64 (gP d.ba:Int)),(15,gZ .i64 (z.1:Int))]) (fun z u v w'=>w'=[]∧n0+1+1≤v∧ExtB (n0+1+1) [3*(n0+1)+2] h2 u∧u (3*(n0+1)+2)=some (.row [jx z.2.2.2.1,gS z.2.2.2.2.1 z.2.2.2.2.2.1 z.2.2.2.2.2.2.1,jx z.2.2.2.2.2.2.2.1,gS z.2.2.2.2.2.2.2.2.1 z.2.2.2.2.2.2.2.2.2.1 z.2.2.2.2.2.2.2.2.2.2] 92)∧IW u v z.2.2.2.1 z.2.2.2.2.1 z.2.2.2.2.2.1 z.2.2.2.2.2.2.1 z.2.2.1.num∧IW u v z.2.2.2.2.2.2.2.1 z.2.2.2.2.2.2.2.2.1 z.2.2.2.2.2.2.2.2.2.1 z.2.2.2.2.2.2.2.2.2.2 (denZ z.2.2.1)∧VioP (bdF d.lo) (bdF d.hi) s z.1 z.2.1 z.2.2.1∧z.1≤m) (fun z=>m-z.1) (0,-1,0,false,none,0,0,false,none,0,0) ⟨rfl,eU,ExtB.refl _ _ _,p2,(IW.zero _ _).as rfl,(IW.zero _ _).as rfl,.inl ⟨rfl,fun i hi=>eN hi (AQ _)⟩,gH⟩ ?_;rintro ⟨j,f,r,bS,aS,lS,kS,uS,vS,wS,xS⟩ t P n3 _ ⟨rfl,y3,Y3,p3,i3,j3,hv,hj⟩;have p3:P (3*(n0+1)+2)=some (.row [jx bS,gS aS lS kS,jx uS,gS vS wS xS] 92):=p3;have i3:IW P n3 bS aS lS kS r.num:=i3;have j3:IW P n3 uS vS wS xS (denZ r):=j3;have hv:VioP (bdF d.lo) (bdF d.hi) s j f r:=hv;have hj:j≤m:=hj;have y3:n0+1+1≤n3:=y3;have X3:Exo n0 h P:=⟨fun c hc=>(Y3 c zo (fun e=>by have:=qq.1 e;omega)).trans ((x2 c zo).trans (x1 c hc))⟩;have s3:=sm.ext (n':=n3) X3.go zo;refine zG ?_;by_cases q3:(j:Int)<(gP d.ba:Int)
 ·refine zG ?_;have G:j<m:=zo;have gv:=R.ba j G;have ai:=bv j G;have gx:=R.va _ ai;have aa:=sz.va _ ai;obtain ⟨pl,N⟩:∃x,d.lo[s.bs j]?=some x:=⟨_,kF zo⟩;obtain ⟨ph,M⟩:∃x,d.hi[s.bs j]?=some x:=⟨_,kF zo⟩;obtain ⟨k4,o4,e4,m4,r4,t4⟩:=natS.at s3.ba.rs gv;refine sI e4 r4 ?_;refine sL t4 m4 0 ?_;have go:(∃i:Nat,f=(i:Int)∧i<m∧s.bs i<s.bs j)∨f= -1∨(∃i:Nat,f=(i:Int)∧i<m∧s.bs j≤s.bs i):=by
   rcases hv with ⟨h1,_⟩|⟨i,low,h1,h2,P,_⟩
   ·exact .inr (.inl h1)
   by_cases hw:s.bs i<s.bs j
   ·exact .inl ⟨i,h1,zo,hw⟩
   exact .inr (.inr ⟨i,h1,zo,zo⟩)
  refine Zc ?_;simp only [yu,xg,zK,yY];refine yj (α:=Bool) (fun z=>[(0,mo (some ⟨bs,0,none⟩)),(3,mo (some ⟨3*n0+2,0,none⟩)),(5,gZ .i64 f),(6,mo (some ⟨3*(n0+1)+2,0,none⟩)),(7,gZ .i64 (j:Int)),(8,gZ .i64 (s.bs j:Int)),(13,gS A.ba (gP d.ba) (gP d.ba)),(14,gZ .i64 (gP d.ba:Int)),(15,gZ .i64 (j:Int)),(32,jx z)]) (fun z u v w'=>w'=[]∧P=u∧n3=v∧(z=true∧(∃i:Nat,f=(i:Int)∧i<m∧s.bs i<s.bs j)∨z=false∧(f= -1∨∃i:Nat,f=(i:Int)∧s.bs j≤s.bs i))) ?_ ?_
  ·rcases go with ⟨i,rfl,a4,hw⟩|rfl|⟨i,rfl,a4,hw⟩
   ·refine zG ?_;obtain ⟨k5,o5,e5,m5,r5,t5⟩:=natS.at s3.ba.rs (R.ba i a4);refine sI e5 r5 ?_;refine sL t5 m5 0 ?_;refine zG ?_;exact zA true (by (repeat (first|exact trivial|refine ⟨rfl,?_⟩))) ⟨rfl,rfl,rfl,.inl ⟨rfl,i,rfl,a4,hw⟩⟩
   ·refine zG ?_;exact zA false (by (repeat (first|exact trivial|refine ⟨rfl,?_⟩))) ⟨rfl,rfl,rfl,.inr ⟨rfl,.inl (by trivial)⟩⟩
   refine zG ?_;obtain ⟨k5,o5,e5,m5,r5,t5⟩:=natS.at s3.ba.rs (R.ba i a4);refine sI e5 r5 ?_;refine sL t5 m5 0 ?_;refine zG ?_;exact zA false (by (repeat (first|exact trivial|refine ⟨rfl,?_⟩))) ⟨rfl,rfl,rfl,.inr ⟨rfl,.inr ⟨i,rfl,hw⟩⟩⟩
  rintro z t _ _ _ ⟨rfl,rfl,rfl,⟨rfl,i,rfl,a4,hw⟩|⟨rfl,ag⟩⟩
  ·refine zG ?_;exact sK (j+1,(i:Int),r,bS,aS,lS,kS,uS,vS,wS,xS) ⟨rfl,y3,Y3,p3,i3,j3,hv.skip zo,G⟩
  refine zG ?_;obtain ⟨k6,o6,b6,a6,l6,c6,d6,e6,f6,u6,ev,mv,rv,tv,iv,jv⟩:=QS.at s3.va.rs gx;refine sI ev rv ?_;refine sL tv mv 0 ?_;refine sA ?_;intro h7 p7 x7;refine zG ?_;refine sS [jx b6,gS a6 l6 c6,jx d6,gS e6 f6 u6] ?_;intro h8 p8 o8;have al:=sz.lo _ (mp N);have ak:=sz.hi _ (mp M);obtain ⟨k9,o9,b9,a9,l9,c9,d9,e9,f9,g9,el,ml,rl,tl,il,jl⟩:=BS.at s3.lo.rs N;obtain ⟨bg,bh,b5,b4,l10,b7,b8,bb,bc,bd,eh,mh,rh,th,ih,jh⟩:=BS.at s3.hi.rs M;have T8:Tr n3 P (n3+1) h8:=zt;have g8:=(g.ext X3.go (by omega:n0≤n3)).t T8;have a7:=iv.t T8;have a8:=jv.t T8;refine zG ?_;refine yj (α:=Bool) (fun z=>[(0,mo (some ⟨bs,0,none⟩)),(3,mo (some ⟨3*n0+2,0,none⟩)),(5,gZ .i64 f),(6,mo (some ⟨3*(n0+1)+2,0,none⟩)),(7,gZ .i64 (j:Int)),(8,gZ .i64 (s.bs j:Int)),(9,mo (some ⟨3*n3+2,0,none⟩)),(13,gS A.ba (gP d.ba) (gP d.ba)),(14,gZ .i64 (gP d.ba:Int)),(15,gZ .i64 (j:Int)),(40,jx z)]) (fun z u v w'=>w'=[]∧n3+1≤v∧Ext (n3+1) h8 u∧(z=true∧(∃q,bdF d.lo (s.bs j)=some q∧s.x (s.bs j)<q)∨z=false∧∀q,bdF d.lo (s.bs j)=some q→q≤s.x (s.bs j))) ?_ ?_
  ·refine zl [0,1,3,7,0,31,63,127,255,511,511,1535,3583,7679,511,32255,65023,130559,262143,524287,1048575,2097151] rfl ?_;refine zH ?_;refine dI el rl ?_;refine zH ?_;refine dL tl ml 0 ?_;obtain ⟨xl,ql⟩:=pl;cases xl
   ·refine zJ ?_;exact zA false (by (repeat (first|exact trivial|refine ⟨rfl,?_⟩))) ⟨rfl,eU,Ext.refl _ _,.inr ⟨rfl,fun q o=>by rw [pj N] at o;cases o⟩⟩
   refine zH ?_;refine dI el rl ?_;refine zH ?_;refine dL tl ml 1 ?_;refine dC (xp _ a7 a8 (il.t zt) (jl.t zt) aa al zo).cx ?_;rintro _ ao av ⟨b1,rfl,p⟩ F C;rcases p with ⟨rfl,p⟩|⟨rfl,p⟩|⟨rfl,p⟩
   ·refine zJ ?_;exact zA true (by (repeat (first|exact trivial|refine ⟨rfl,?_⟩))) ⟨rfl,F,C,.inl ⟨rfl,_,xI N,p⟩⟩
   ·refine zJ ?_;exact zA false (by (repeat (first|exact trivial|refine ⟨rfl,?_⟩))) ⟨rfl,F,C,.inr ⟨rfl,fun q o=>by rw [xI N] at o;cases o;exact CV.1 fun h=>Ca (p▸h)⟩⟩
   refine zJ ?_;exact zA false (by (repeat (first|exact trivial|refine ⟨rfl,?_⟩))) ⟨rfl,F,C,.inr ⟨rfl,fun q o=>by rw [xI N] at o;cases o;exact Bc p⟩⟩
  rintro z t a3 y _ ⟨rfl,K,J,⟨rfl,H⟩|⟨rfl,H⟩⟩
  ·have K:n3+1≤y:=K;have J:Ext (n3+1) h8 a3:=J;obtain ⟨xl,ql⟩:=pl;cases xl
   ·exfalso;obtain ⟨q,o,_⟩:=H;rw [pj N] at o;cases o
   obtain ⟨q,o,H⟩:=H;rw [xI N] at o;cases o;refine zG ?_;refine zl [0,0,2,6,14,0,62,126,254,0,1022,2047,4095] rfl ?_;refine zH ?_;refine dI el rl ?_;refine zH ?_;refine dL tl ml 1 ?_;refine zH ?_;refine dC (subQ _ (g8.x zx) (il.t zt) (jl.t zt) (a7.t zt) (a8.t zt) al aa zo) ?_;rintro _ ap aw ⟨U,S,a5,W,Y,Z,a1,a2,rfl,ad,ae⟩ b3 b2;refine zH ?_;refine dS [jx U,gS S a5 W,jx Y,gS Z a1 a2] ?_;intro aq af ax;refine zJ ?_;exact sK (j+1,(j:Int),ql-s.x (s.bs j),U,S,a5,W,Y,Z,a1,a2) ⟨rfl,zo,zy,af,ad.t zt,ae.t zt,hv.take ag (Viol.mkL (xI N) H),G⟩
  have K:n3+1≤y:=K;have J:Ext (n3+1) h8 a3:=J;have am:=a7.ext J K;have an:=a8.ext J K;refine zG ?_;refine yj (α:=Bool) (fun z=>[(0,mo (some ⟨bs,0,none⟩)),(3,mo (some ⟨3*n0+2,0,none⟩)),(5,gZ .i64 f),(6,mo (some ⟨3*(n0+1)+2,0,none⟩)),(7,gZ .i64 (j:Int)),(8,gZ .i64 (s.bs j:Int)),(9,mo (some ⟨3*n3+2,0,none⟩)),(13,gS A.ba (gP d.ba) (gP d.ba)),(14,gZ .i64 (gP d.ba:Int)),(15,gZ .i64 (j:Int)),(73,jx z)]) (fun z u v w'=>w'=[]∧y≤v∧Ext y a3 u∧(z=true∧(∃q,bdF d.hi (s.bs j)=some q∧q<s.x (s.bs j))∨z=false∧∀q,bdF d.hi (s.bs j)=some q→s.x (s.bs j)≤q)) ?_ ?_
  ·refine zl [0,1,3,7,0,31,63,127,255,511,511,1535,3583,7679,511,32255,65023,130559,262143,524287,1048575,2097151] rfl ?_;refine zH ?_;refine dI eh rh ?_;refine zH ?_;refine dL th mh 0 ?_;obtain ⟨xh,qh⟩:=ph;cases xh
   ·refine zJ ?_;exact zA false (by (repeat (first|exact trivial|refine ⟨rfl,?_⟩))) ⟨rfl,eU,Ext.refl _ _,.inr ⟨rfl,fun q o=>by rw [pj M] at o;cases o⟩⟩
   refine zH ?_;refine dI eh rh ?_;refine zH ?_;refine dL th mh 1 ?_;refine dC (xp _ am an (ih.t zt) (jh.t zt) aa ak zo).cx ?_;rintro _ ao av ⟨b1,rfl,p⟩ F C;rcases p with ⟨rfl,p⟩|⟨rfl,p⟩|⟨rfl,p⟩
   ·refine zJ ?_;exact zA false (by (repeat (first|exact trivial|refine ⟨rfl,?_⟩))) ⟨rfl,F,C,.inr ⟨rfl,fun q o=>by rw [xI M] at o;cases o;exact Bc p⟩⟩
   ·refine zJ ?_;exact zA false (by (repeat (first|exact trivial|refine ⟨rfl,?_⟩))) ⟨rfl,F,C,.inr ⟨rfl,fun q o=>by rw [xI M] at o;cases o;exact CV.1 fun h=>Ca (p▸h)⟩⟩
   refine zJ ?_;exact zA true (by (repeat (first|exact trivial|refine ⟨rfl,?_⟩))) ⟨rfl,F,C,.inl ⟨rfl,_,xI M,p⟩⟩
  rintro z t ah aj _ ⟨rfl,ac,ab,⟨rfl,I⟩|⟨rfl,I⟩⟩
  ·have ac:y≤aj:=ac;have ab:Ext y a3 ah:=ab;obtain ⟨xh,qh⟩:=ph;cases xh
   ·exfalso;obtain ⟨q,o,_⟩:=I;rw [pj M] at o;cases o
   obtain ⟨q,o,I⟩:=I;rw [xI M] at o;cases o;refine zG ?_;refine zl [0,0,2,6,14,0,62,126,254,0,1022,2047,4095] rfl ?_;refine zH ?_;refine dI eh rh ?_;refine zH ?_;refine dL th mh 1 ?_;refine zH ?_;refine dC (subQ _ (g8.x zx) (ih.t zt) (jh.t zt) (a7.t zt) (a8.t zt) ak aa zo) ?_;rintro _ ap aw ⟨U,S,a5,W,Y,Z,a1,a2,rfl,ad,ae⟩ b3 b2;refine zH ?_;refine dS [jx U,gS S a5 W,jx Y,gS Z a1 a2] ?_;intro aq af ax;refine zJ ?_;exact sK (j+1,(j:Int),qh-s.x (s.bs j),U,S,a5,W,Y,Z,a1,a2) ⟨rfl,zo,zy,af,ad.t zt,ae.t zt,hv.take ag (Viol.mkH (xI M) I),G⟩
  have ac:y≤aj:=ac;have ab:Ext y a3 ah:=ab;refine zG ?_;exact sK (j+1,f,r,bS,aS,lS,kS,uS,vS,wS,xS) ⟨rfl,zo,zy,zp,i3.t zt,j3.t zt,hv.no ⟨H,I⟩,G⟩
 have au:j=m:=zo;subst au;refine zG ?_;refine zl [0,1,0,0,8,3,39,127] rfl ?_;rcases hv with ⟨rfl,h2⟩|⟨i,low,rfl,h2,P,h4⟩
 ·refine zH ?_;refine dr_I (ik:=.i64) (a:=0) R5 ?_;refine zH ?_;refine dS [jx bS,gS aS lS kS,jx uS,gS vS wS xS] ?_;intro ar az ay;refine zq ?_;exact ⟨-1,0,r,_,_,_,_,_,_,_,_,false,rfl,i3.t zt,j3.t zt,.inl ⟨rfl,h2⟩,.inr ⟨rfl,rfl⟩⟩
 refine zH ?_;refine dr_I (ik:=.i64) (a:=(i:Int)) ⟨rfl,rfl,rfl,rfl,(by show some (gZ .i64 (if ((i:Nat):Int)<0 then 0 else (i:Int)))=_;rw [eP zo])⟩ ?_;refine zH ?_;refine dS [jx bS,gS aS lS kS,jx uS,gS vS wS xS] ?_;intro ar az ay;refine zq ?_;exact ⟨i,i,r,_,_,_,_,_,_,_,_,true,rfl,i3.t zt,j3.t zt,.inr ⟨i,low,rfl,h2,P,h4⟩,.inl ⟨rfl,zo,rfl⟩⟩
end
end
theorem xz {x y:Int}{m:Nat}(f:0<y)(hx:x.natAbs<2^m)(c:y.natAbs<2^m):Sz m (AK x y):=by
 obtain ⟨d,e⟩:=pt (x:=x) f;refine ⟨?_,?_⟩
 ·rw [d];exact vh hx
 have b:=vh (y:=((rp x.natAbs y.natAbs:Nat):Int)) c;rw [←e,qe] at b;exact b
structure LdZ (n P k:Nat)(T:Nat→Nat→Int)(bf:Int):Prop where
 t:∀i j,i<n→j<n→(T i j).natAbs<2^(3*P+3)
 b:bf.natAbs<2^(2*P+1)
 t1:k≤1→∀i j,i<n→j<n→(T i j).natAbs<2^(2*P+1)
 b1:k≤1→bf.natAbs<2^P
structure LdP (n P:Nat)(D:Nat)(a0:Nat→Nat→Rat)(k:Nat)(T:Nat→Nat→Int)(bf:Int)(a:Nat→Nat→Rat):Prop where
 i:LdI n (tT n a0) (tS n a0) a0 k T bf a
 v:∃V0 V bv,(∀i j,i<n→j<n→(V0 i j).natAbs<2^P)∧LdI n V0 (fun _=>((D:Int):Rat)) a0 k V bv a
section
variable {n k:Nat}{a0 a:Nat→Nat→Rat}{T:Nat→Nat→Int}
end
section
variable {i j n:Nat}
def aQ (qs:List Rat):Nat→Nat→Rat:=fun _ j=>(qs[j]?).getD 0
theorem zgr {qs:List Rat}(h:qs[j]?=some q):aQ qs i j=q:=by unfold aQ;rw [h];rfl
theorem zmk (qs:List Rat):rowQ (gP qs) (aQ qs) 0=qs:=by
 refine BU fun j=>?_;unfold rowQ;rw [As];by_cases h:j<gP qs
 ·rw [Cq h,kF h];show some (aQ qs 0 j)=_;rw [zgr (kF h)]
 rw [Ae (by rw [BH];omega),Ae zo];rfl
def mixF {α:Type}(f g:Nat→α)(j N:Nat):List α:=(AI N).map fun i=>if i<j then f i else g i
theorem xE {f g:Nat→α}:gP (mixF f g j N)=N:=by unfold mixF;rw [mu,BH]
theorem xG {f g:Nat→α}(h:i<N):(mixF f g j N)[i]?=some (if i<j then f i else g i):=by
 unfold mixF;rw [As,Cq h];rfl
theorem pE {f g:Nat→α}(h:j<N):(mixF f g j N).set j (f j)=mixF f g (j+1) N:=by
 refine BU fun i=>?_;rw [DK,xE];by_cases h1:j=i
 ·subst h1;rw [eS rfl,eS h,xG h,eS (B4 _)]
 rw [eP h1];by_cases h2:i<N
 ·rw [xG h2,xG h2];by_cases h3:i<j
  ·rw [eS h3,eS zo]
  rw [eP h3,eP zo]
 rw [Ae (by rw [xE];omega),Ae (by rw [xE];omega)]
theorem iA {f:Nat→α}{z:α}:ns N z=mixF f (fun _=>z) 0 N:=by
 refine BU fun i=>?_;rw [List.getElem?_replicate];by_cases h:i<N
 ·rw [eS h,xG h,eP (AQ _)]
 rw [eP h,Ae (by rw [xE];omega)]
theorem cW {f g g':Nat→α}:mixF f g N N=mixF g' f 0 N:=by
 refine BU fun i=>?_;by_cases h:i<N
 ·rw [xG h,xG h,eS h,eP (AQ _)]
 rw [Ae (by rw [xE];omega),Ae (by rw [xE];omega)]
theorem eg {a:Nat}:∀{l:List Rat} {m:Nat},(∀q∈l,q.den<2^a)→0<m→lcmD l m≤m*2^(a*gP l)
 |[],m,_,_=>by
  show m≤m*2^(a*0);rw [Bp,Nat.pow_zero,AH];exact AL _
 |q::l,m,h,hm=>by
  have h1:Fp m q.den≤m*2^a:=Aa (EE (CP hm q.den_pos) (Nat.lcm_dvd (G0 _ _) (G8 _ _))) (s9 _ (Bh (h q AR)));have b:=eg (l:=l) (m:=Fp m q.den) (fun x c=>h x (Bz _ c)) (Nat.lcm_pos hm q.den_pos);show lcmD l (Fp m q.den)≤_;refine Aa b (Aa (o0 _ h1) ?_);rw [Ao,Ap,AH,Bj,Bf,Ah];exact AL _
section
variable {a:Nat}
theorem nk:deni (gP qs) (aQ qs) 0=lcmD qs 1:=by unfold deni;rw [zmk]
theorem kW (d:∀q∈qs,Sz a q)(e:a*gP qs+a+1≤P):deni (gP qs) (aQ qs) 0<2^P:=by
 rw [nk];have b:=eg (l:=qs) (m:=1) (fun q c=>(d q c).2) zd;rw [BR] at b;exact Aj b (Nat.pow_lt_pow_right zd zo)
theorem cO (d:∀q∈qs,Sz a q)(g:a*gP qs+a+1≤P)(hj:j<gP qs):(nfi (gP qs) (aQ qs) 0 j).natAbs<2^P:=by
 have c:=eg (l:=qs) (m:=1) (fun q b=>(d q b).2) zd;rw [BR,←nk] at c;have b:=d _ (List.getElem_mem hj);unfold nfi nfZ;rw [zgr (kF hj),AF];have e:((deni (gP qs) (aQ qs) 0:Nat):Int).tdiv ((qs[j]).den:Int)=((deni (gP qs) (aQ qs) 0/(qs[j]).den:Nat):Int):=rfl;rw [e,qe];have f:deni (gP qs) (aQ qs) 0/(qs[j]).den≤2^(a*gP qs):=Aa (Nat.div_le_self _ _) c;refine Af (Aj (s9 _ f) (Nat.mul_lt_mul_of_pos_right b.1 (D8 _))) ?_;rw [←Bf];exact sN zd zo
theorem zku (c:∀q∈qs,Sz a q)(b:a*gP qs+a+1≤P)(hj:j≤gP qs):gcF (nfi (gP qs) (aQ qs) 0) j<2^P:=by
 have h:=zkv (f:=nfi (gP qs) (aQ qs) 0) (m:=j) (B:=2^P-1) fun i d=>by
  have:=cO c b (j:=i) zo;omega
 have:=D8 P;omega
end
def scS (qs:List Rat):Rat:=if gcF (nfi (gP qs) (aQ qs) 0) (gP qs)=0 then 1 else tS (gP qs) (aQ qs) 0
structure ScR (qs:List Rat)(P:Nat)(zs:List Int)(s:Rat):Prop where
 len:gP zs=gP qs
 pos:0<s
 sz:Sz P s
 zb:∀z∈zs,z.natAbs<2^P
 eq:∀(j:Nat) (q:Rat) (z:Int),qs[j]?=some q→zs[j]?=some z→(z:Rat)=s*q
 fr:(s=1∧∀z∈zs,z=0)∨∃g:Nat,0<g∧s*(g:Rat)=(lcmD qs 1:Rat)∧∃z∈zs,z≠0
 ds:s=scS qs
theorem zik {f:Nat→Int}:∀{m:Nat},(∀j,j<m→f j=0)→gcF f m=0:=fun {m} h=>by
 have:=zkv (f:=f) (m:=m) (B:=0) fun j b=>by rw [h j b];exact AL _
 omega
theorem ScR.mk0 {qs:List Rat}{a P:Nat}(u:∀q∈qs,Sz a q)(p:a*gP qs+a+1≤P)(h0:gcF (nfi (gP qs) (aQ qs) 0) (gP qs)=0):ScR qs P (mixF (tT (gP qs) (aQ qs) 0) (nfi (gP qs) (aQ qs) 0) 0 (gP qs)) 1:=by
 have c:∀j,j<gP qs→nfi (gP qs) (aQ qs) 0 j=0:=fun j b=>by
  have:=ze0 (f:=nfi (gP qs) (aQ qs) 0) b;rw [h0,Nat.zero_dvd] at this;omega
 refine ⟨xE,by decide,⟨by show 1<2^P;exact GB zo,by show 1<2^P;exact GB zo⟩,fun z g=>?_,fun j q z m o=>?_,.inl ⟨rfl,fun z g=>?_⟩,(eS h0).symm⟩
 ·obtain ⟨i,d,rfl⟩:=AZ.1 g;rw [eP (AQ _),c i (Dj.1 d)];exact D8 _
 ·have b:=(nN.1 m).1;rw [xG b,eP (AQ _),c j b] at o;cases o;have e:=zkg (bY (N:=gP qs) (a:=aQ qs) (i:=0) b);have l:((nfi (gP qs) (aQ qs) 0 j:Int):Rat)=aQ qs 0 j*(deni (gP qs) (aQ qs) 0:Rat):=e;rw [c j b,zgr m] at l;rw [EL];rcases Hx.1 l.symm with h|h
  ·rw [h];rfl
  have s:=bW (N:=gP qs) (a:=aQ qs) (i:=0);have:=Ee.1 h;omega
 obtain ⟨i,d,rfl⟩:=AZ.1 g;rw [eP (AQ _),c i (Dj.1 d)]
theorem ScR.mk1 {qs:List Rat}{a P:Nat}(l:∀q∈qs,Sz a q)(f:a*gP qs+a+1≤P)(h0:¬gcF (nfi (gP qs) (aQ qs) 0) (gP qs)=0):ScR qs P (mixF (tT (gP qs) (aQ qs) 0) (nfi (gP qs) (aQ qs) 0) (gP qs) (gP qs)) (tS (gP qs) (aQ qs) 0):=by
 have g:cci (gP qs) (aQ qs) 0=gcF (nfi (gP qs) (aQ qs) 0) (gP qs):=by unfold cci ccF;rw [eP h0]
 have p:cci (gP qs) (aQ qs) 0<2^P:=by rw [g];exact zku l f eU
 refine ⟨xE,zj0,xz (by rw [g];omega) (by rw [qe];exact kW l f) (by rw [qe];exact p),fun z y=>?_,fun j q z c o=>?_,.inr ⟨cci (gP qs) (aQ qs) 0,by rw [g];omega,?_,?_⟩,(eP h0).symm⟩
 ·obtain ⟨i,d,rfl⟩:=AZ.1 y;have d:=Dj.1 d;rw [eS d];exact vh (cO l f d)
 ·have b:=(nN.1 c).1;rw [xG b,eS b] at o;cases o;rw [zo0 b,zgr c]
 ·have c:((cci (gP qs) (aQ qs) 0:Nat):Rat)≠0:=fun e=>by have:=Ee.1 e;omega
  rw [←nk];unfold tS;rw [Bs,Bn,Bn];exact Ce c
 refine tp fun u=>h0 (zik fun j b=>?_);have m:=zo0 (N:=gP qs) (a:=aQ qs) (i:=0) b;have v:tT (gP qs) (aQ qs) 0 j=0:=tp fun s=>u ⟨_,mp ((xG b).trans (congrArg some (eS b))),s⟩;rw [v] at m;have w:aQ qs 0 j=0:=(Hx.1 m.symm).resolve_left fun e=>by have:=zj0 (N:=gP qs) (a:=aQ qs) (i:=0);rw [e] at this;exact Ca this
 unfold nfi nfZ;rw [w];exact C8 _
theorem qa (k:Nat)(g:GG h n){lq cq:Nat}{qs:List Rat}(iq:QS h n (gS aq lq cq) qs){a P:Nat}(hz:∀q∈qs,Sz a q)(hP:a*gP qs+a+1≤P)(bx:P≤2496)(hL:gP qs≤1000):
  CX (cal (k+12)) 42 [gS aq lq cq] h n fun w v J=>∃B zs s b a l c d e f u,w=.tuple #[gS (some ⟨B,0,none⟩) lq lq,.agg #[jx b,gS a l c,jx d,gS e f u]]∧3*n≤B∧gro B=false∧OZ v J B zs∧Ty1 v B 86∧ScR qs P zs s∧IW v J b a l c s.num∧IW v J d e f u (denZ s):=by
 have c6:=iq.len;subst c6;have T:∀{x:Nat},x<2^P→x<BW:=fun h=>yU h bx;refine zw (fn:=Tryz.f42) R4 ?_;refine Zi ?_;intro h1 p1 x1;refine zG ?_;refine sC (zn3 _ (g.x zx) (iq.x zx) (D:=lcmD qs 1) (kt zd) (by rw [←nk];exact T (kW hz hP)) (fun q hq=>ku hq) zo) ?_;rintro _ h2 A ⟨b2,a2,l2,c2,rfl,i2⟩ y2 x2;rw [←nk] at i2;refine sA ?_;intro h3 p3 x3;refine sS [jx b2,gS a2 l2 c2] ?_;intro h4 p4 o4;refine zG ?_;refine sMk (L:=gP qs) [jx false,gS none 0 0] ?_ hL;intro h5 p5 x5;refine Zi ?_;intro I p6 x6;refine zG ?_;obtain ⟨V,b1⟩:∃B,B=3*A+2:=⟨_,rfl⟩;obtain ⟨m,ad⟩:∃B,B=3*(A+1)+2:=⟨_,rfl⟩;obtain ⟨H,b3⟩:∃B,B=3*(A+1+1)+2:=⟨_,rfl⟩;have gB:gro m=false:=by rw [ad];exact zB _
 have o5:OZ I (A+1+1+1) m (ns (gP qs) 0):=by
  rw [ad];exact (OR.fill (n:=A+1+1) zo p5 intP.kp ⟨_,_,_,_,rfl,IW.zero _ _⟩).xx intP.kp zx
 have t5:Ty1 I m 86:=⟨_,by rw [ad];exact zp⟩;have cg:I V=some (.row [jx b2,gS a2 l2 c2] 86):=by rw [b1];exact zp
 have ce:I (3*n+2)=_:=(zp:I (3*n+2)=_);have c0:=i2.t (show Tr A h2 (A+1+1+1) I from zt);have cu:=iq.x (show Tx n h (A+1+1+1) I from zx);have g6:=g.x (show Tx n h (A+1+1+1) I from zx);have cp:Exo n h I:=⟨(show Tx n h (A+1+1+1) I from zx).2⟩;rw [←b1,←ad,←b3];rw [←b3] at p6;clear p5 p4 p3 p1 x1 x2 x3 o4 x5 x6;refine sF (α:=Nat×Bool×Option Addr×Nat×Nat) (fun z=>[(3,mo (some ⟨3*n+2,0,none⟩)),(4,mo (some ⟨V,0,none⟩)),(5,gS (some ⟨m,0,none⟩) (gP qs) (gP qs)),(6,mo (some ⟨H,0,none⟩)),(16,gS aq (gP qs) cq),(17,gZ .i64 (gP qs:Int)),(18,gZ .i64 (z.1:Int))]) (fun z v J w'=>w'=[]∧(A+1+1+1)≤J∧ExtB (A+1+1+1) [m,H] I v∧OZ v J m (mixF (nfi (gP qs) (aQ qs) 0) (fun _=>0) z.1 (gP qs))∧Ty1 v m 86∧v H=some (.row [jx z.2.1,gS z.2.2.1 z.2.2.2.1 z.2.2.2.2] 86)∧IW v J z.2.1 z.2.2.1 z.2.2.2.1 z.2.2.2.2 ((gcF (nfi (gP qs) (aQ qs) 0) z.1:Nat):Int)∧Tr (A+1+1+1) I J v∧z.1≤gP qs) (fun z=>gP qs-z.1) (0,false,none,0,0) ⟨rfl,eU,ExtB.refl _ _ _,o5.as iA,t5,p6,IW.zero _ _,Tr.refl _ _,gH⟩ ?_;rintro ⟨j,bC,aC,lC,cC⟩ t o F _ ⟨rfl,y7,Y7,R,a5,p7,i7,T7,hj⟩;have y7:(A+1+1+1)≤F:=y7;have R:OZ o F m (mixF (nfi (gP qs) (aQ qs) 0) (fun _=>0) j (gP qs)):=R;have a5:Ty1 o m _:=a5;have p7:o H=some (.row [jx bC,gS aC lC cC] 86):=p7;have i7:IW o F bC aC lC cC ((gcF (nfi (gP qs) (aQ qs) 0) j:Nat):Int):=i7;have T7:Tr (A+1+1+1) I F o:=T7;have hj:j≤gP qs:=hj;have ch:o V=_:=(Y7 V zo (by simp;omega)).trans cg;have be:o (3*n+2)=_:=(Y7 (3*n+2) zo (by simp;omega)).trans ce;have X7:Exo n h o:=⟨fun c hc=>(Y7 c zo (by simp;omega)).trans (cp.go c hc)⟩;have b7:=c0.t T7;have af:gcF (nfi (gP qs) (aQ qs) 0) j<BW:=T (zku hz hP hj);refine zG ?_;by_cases q7:(j:Int)<(gP qs:Int)
 ·refine zG ?_;have G:j<gP qs:=zo;obtain ⟨q,gq⟩:∃q,qs[j]?=some q:=⟨_,kF G⟩;obtain ⟨k8,o8,b8,a8,l8,c8,d8,e8,f8,u8,bu,m8,r8,t8,i8,j8⟩:=QS.at (iq.ext (n':=F) X7.go zo) gq;have sq:=hz q (mp gq);refine sI bu r8 ?_;refine sL t8 m8 0 ?_;refine sA ?_;intro y p9 x9;refine zG ?_;refine sS [jx b8,gS a8 l8 c8,jx d8,gS e8 f8 u8] ?_;intro Z cb ai;refine zG ?_;refine sC (zmi _ (i8.t zt) (j8.t zt) (b7.t zt) (yU sq.1 zo) (yU sq.z zo) (by rw [qe];exact T (kW hz hP))) ?_;rintro _ K ah ⟨bo,bn,l11,bq,rfl,b6⟩ d0 cs;have bt:q.num*((deni (gP qs) (aQ qs) 0:Nat):Int).tdiv (q.den:Int)=nfi (gP qs) (aQ qs) 0 j:=by unfold nfi nfZ;rw [zgr gq]
  rw [bt] at b6;refine sI rfl G ?_;have p:∀c,c<3*F→K c=o c:=fun c hc=>by
   have e0:o c=o c:=rfl;exact zp
  have a1:=R.go intP.kp (show Tr F o ah K from zt) (p _ R.1);refine sZt (n0:=n) (j:=j) (q:=nfi (gP qs) (aQ qs) 0 j) [jx bo,gS bn l11 bq] a1 intP.kp (by rw [xE];exact G) (sb _) ⟨_,_,_,_,rfl,b6⟩ zo ?_;rw [pE G];intro a0 a3 aw cn;refine zG ?_;refine zl [0,0,0,6,14,31,63] rfl ?_;have ct:a0 H=_:=(aw.1 H zo).trans ((p H zo).trans p7);refine zH ?_;obtain ⟨ab,⟨ap,an,au,ab,rfl,U⟩,_,cl⟩:=a3.get (xG G) (off:=0+j*2) (sb _);rw [eS (B4 _)] at U;refine dI rfl G ?_;refine dL cl a3.1 0 ?_;have al:Tr F o ah a0:=Tr.s aw (show Tr F o ah K from zt);refine dC (gcdX _ ((g.ext X7.go zo).t al) (i7.t al) U (by rw [qe];exact af) (T (cO hz hP G))) ?_;rintro _ bw bd ⟨ay,ax,bb,az,rfl,bz⟩ bg ak;refine dS [jx ay,gS ax bb az] ?_;intro ac cd a4;refine zG ?_;have bh:∀c,c<3*F→c≠m→c≠H→ac c=o c:=fun c hc h1 h2=>(a4.1 c h2).trans ((ak c zo).trans ((aw.1 c h1).trans (p c hc)));have bk:Tr F o bd ac:=Tr.s a4 (Tr.e ak bg al);have b0:ac m=a0 m:=(a4.1 m zo).trans (ak m a3.1);exact sK (j+1,ay,ax,bb,az) ⟨rfl,zo,fun c hc hn=>(by
   simp only [Ad,og,or_false,not_or] at hn;exact (bh c zo hn.1 hn.2).trans (Y7 c hc (by simp [hn]))),a3.go intP.kp (show Tr ah a0 bd ac from Tr.s a4 (Tr.e ak bg (Tr.refl _ _))) b0,(by
    obtain ⟨C,W⟩:=a5;obtain ⟨C2,h2⟩:=cn _ ⟨C,(p _ R.1).trans W⟩;exact ⟨C2,b0.trans h2⟩),cd,(bz.t (Tr.s a4 (Tr.refl _ _))).as (by show _=((rp _ _:Nat):Int);rw [qe]),T7.trans bk,(by show j+1≤_;omega)⟩
 have G:j=gP qs:=zo;subst G;refine zG ?_;refine sC (yK _ i7) ?_;rintro _ O n8 ⟨b8,rfl,bp⟩ y8 x8;rcases bvs bp with ⟨rfl,q8⟩|⟨rfl,q8⟩
 ·have ae:¬gcF (nfi (gP qs) (aQ qs) 0) (gP qs)=0:=fun e=>q8 (by rw [e];rfl);have b4:cci (gP qs) (aQ qs) 0=gcF (nfi (gP qs) (aQ qs) 0) (gP qs):=by unfold cci ccF;rw [eP ae]
  rw [←b4] at i7 af;have b5:((cci (gP qs) (aQ qs) 0:Nat):Int)≠0:=by rw [b4];omega
  have X8:Exo n h O:=⟨fun c hc=>(x8 c zo).trans (X7.go c hc)⟩;have ci:O V=_:=(x8 V zo).trans ch;have av:O (3*n+2)=_:=(x8 _ zo).trans be;have cj:O H=_:=(x8 H zo).trans p7;have c1:=b7.t (show Tr F o n8 O from zt);have c4:=i7.t (show Tr F o n8 O from zt);refine zG ?_;refine sF (α:=Nat) (fun z=>[(3,mo (some ⟨3*n+2,0,none⟩)),(4,mo (some ⟨V,0,none⟩)),(5,gS (some ⟨m,0,none⟩) (gP qs) (gP qs)),(6,mo (some ⟨H,0,none⟩)),(40,gS (some ⟨m,0,none⟩) (gP qs) (gP qs)),(41,gZ .i64 (gP qs:Int)),(42,gZ .i64 (z:Int))]) (fun z v J w'=>w'=[]∧n8≤J∧ExtB n8 [m] O v∧OZ v J m (mixF (tT (gP qs) (aQ qs) 0) (nfi (gP qs) (aQ qs) 0) z (gP qs))∧Ty1 v m 86∧Tr n8 O J v∧z≤gP qs) (fun z=>gP qs-z) 0 ⟨rfl,eU,ExtB.refl _ _ _,(R.xx intP.kp zx).as cW,(by obtain ⟨C,W⟩:=a5;exact ⟨C,(x8 _ R.1).trans W⟩),Tr.refl _ _,gH⟩ ?_;rintro i t y Y _ ⟨rfl,y9,Y9,S,aj,T9,hi⟩;have y9:n8≤Y:=y9;have S:OZ y Y m (mixF (tT (gP qs) (aQ qs) 0) (nfi (gP qs) (aQ qs) 0) i (gP qs)):=S;have aj:Ty1 y m _:=aj;have T9:Tr n8 O Y y:=T9;have hi:i≤gP qs:=hi;have X9:Exo n h y:=⟨fun c hc=>(Y9 c zo (by simp;omega)).trans (X8.go c hc)⟩;have cw:y V=_:=(Y9 V zo (by simp;omega)).trans ci;have cf:y (3*n+2)=_:=(Y9 _ zo (by simp;omega)).trans av;have cx:y H=_:=(Y9 H zo (by simp;omega)).trans cj;have c3:=c1.t T9;have ba:=c4.t T9;refine zG ?_;by_cases q9:(i:Int)<(gP qs:Int)
  ·have M:i<gP qs:=zo;refine zG ?_;obtain ⟨aa,⟨ao,am,l10,aa,rfl,ag⟩,_,ck⟩:=S.get (xG M) (off:=0+i*2) (sb _);rw [eP (Nat.lt_irrefl _)] at ag;refine sI rfl M ?_;refine sL ck S.1 0 ?_;refine sA ?_;intro K cc cs;refine zG ?_;refine sS [jx ao,gS am l10 aa] ?_;intro a0 cv a3;refine zG ?_;refine sC (quoX _ (ag.t zt) (ba.t zt) (T (cO hz hP M)) (by rw [qe];exact af) b5) ?_;rintro _ ar bc ⟨ap,an,au,ab,rfl,U⟩ d1 cy;have U:IW ar bc ap an au ab (tT (gP qs) (aQ qs) 0 i):=U;refine sI rfl M ?_;have a7:∀c,c<3*Y→ar c=y c:=fun c hc=>by
    have e0:y c=y c:=rfl;exact zp
   refine sZt (n0:=n) (j:=i) (q:=tT (gP qs) (aQ qs) 0 i) [jx ap,gS an au ab] (S.go intP.kp (show Tr Y y bc ar from zt) (a7 _ S.1)) intP.kp (by rw [xE];exact M) (sb _) ⟨_,_,_,_,rfl,U⟩ zo ?_;rw [pE M];intro bw ca bf co;refine zG ?_;exact sK (i+1) ⟨rfl,zo,fun c hc hn=>(by
    simp only [Ad,og,or_false] at hn;exact (bf.1 c hn).trans ((a7 c zo).trans (Y9 c hc (by simp [hn])))),ca,(by
    obtain ⟨C,W⟩:=aj;exact co _ ⟨C,(a7 _ S.1).trans W⟩),T9.trans (Tr.s bf zt),(by show i+1≤_;omega)⟩
  have M:i=gP qs:=zo;subst M;refine zG ?_;refine sC (iL _ (g.ext X9.go zo) c3 ba (by rw [qe];exact T (kW hz hP)) (by rw [qe];exact af) b5) ?_;rintro _ Z c7 ⟨ao,am,l10,aa,br,bs,bv,cm,rfl,ag,c5⟩ cz cr;refine zG ?_;refine sS [jx ao,gS am l10 aa,jx br,gS bs bv cm] ?_;intro K cc a1;have p:∀c,c<3*Y→c≠3*n+2→K c=y c:=fun c hc hn=>(a1.1 c hn).trans (cr c hc);have bj:Tr Y y c7 K:=zt;have bm:Exo n h K:=⟨fun c hc=>(p c zo zo).trans (X9.go c hc)⟩;clear Y9 Y7;refine zq ?_ (hx:=⟨zo,bm.go⟩);exact ⟨m,_,_,_,_,_,_,_,_,_,_,rfl,zo,gB,S.go intP.kp bj (p m S.1 zo),(by obtain ⟨C,W⟩:=aj;exact ⟨C,(p m S.1 zo).trans W⟩),ScR.mk1 hz hP ae,ag.t (Tr.s a1 (Tr.refl _ _)),c5.t (Tr.s a1 (Tr.refl _ _))⟩
 have ae:gcF (nfi (gP qs) (aQ qs) 0) (gP qs)=0:=Int.ofNat.inj q8;refine zG ?_;refine sC (zj4 _ _ _) ?_;rintro _ y Y ⟨b9,a9,l9,c9,d9,e9,f9,u9,rfl,i9,j9⟩ y9 x9;have av:O (3*n+2)=_:=(x8 _ zo).trans be;have cf:y (3*n+2)=_:=(x9 _ zo).trans av;refine zG ?_;refine sS [jx b9,gS a9 l9 c9,jx d9,gS e9 f9 u9] ?_;intro Z cb ai;have a6:∀c,c<3*F→c≠3*n+2→Z c=o c:=fun c hc hn=>(ai.1 c hn).trans ((x9 c zo).trans (x8 c hc));have bi:Tr F o Y Z:=zt;have bl:Exo n h Z:=⟨fun c hc=>(a6 c zo zo).trans (X7.go c hc)⟩;clear Y7;refine zq ?_ (hx:=⟨zo,bl.go⟩);exact ⟨m,_,_,_,_,_,_,_,_,_,_,rfl,zo,gB,(R.go intP.kp bi (a6 m R.1 zo)).as cW,(by obtain ⟨C,W⟩:=a5;exact ⟨C,(a6 m R.1 zo).trans W⟩),ScR.mk0 hz hP ae,i9.t (Tr.s ai (Tr.refl _ _)),j9.t (Tr.s ai (Tr.refl _ _))⟩
end
theorem zdm {va:List Rat}{f:Nat→Rat}{N w:Nat}{x:Rat}(h:∀v,v<N→va[v]?=some (f v))(g:gP va=N):∀v,v<N→(va.set w x)[v]?=some (swp f w x v):=fun v b=>by
 rw [DK];unfold swp;by_cases e:w=v
 ·subst e;rw [eS rfl,eS zo,eS rfl]
 rw [eP e,eP fun q=>e q.symm];exact h v b
theorem SolP.mv {n m:Nat}{d:Sol}{s:PS}(b:SolP n m d s){va:List Rat}{x:Nat→Rat}(e:gP va=n+m)(h:∀v,v<n+m→va[v]?=some (x v)):SolP n m {d with va:=va} ⟨s.toPT,x⟩:=
 ⟨b.nl,b.nb,b.bl,b.ba,e,h,b.tl,b.ta,b.de,b.ll,b.lh,b.nm,b.ls,b.dn⟩
section
variable {n T B:Nat}{s:PS}{a:Nat→Nat→Int}
theorem zp6 (k:Nat)(g:GG h n0)(N:SM l h n0 bs d A)(F:SolP n m d s)(pb:PB n m a L s.toPT)(sz:SzP n m V T O B d s)(lm:Lim V T O D B)(hc:c<n){r:Rat}{b1 d1:Bool}{a1 e1:Option Addr}{l1 c1 f1 u1:Nat}(i1:IW h n0 b1 a1 l1 c1 r.num)(j1:IW h n0 d1 e1 f1 u1 (denZ r))(sr:Sz D r):
  CF (cal (k+12)) 89 [mo (some ⟨bs,0,none⟩),gZ .i64 (c:Int),.agg #[jx b1,gS a1 l1 c1,jx d1,gS e1 f1 u1]] h n0 fun _ P u w=>n0≤u∧∃f,gP f=n+m∧(∀v,v<n+m→f[v]?=some (mvx s c r m v))∧SM l P u bs {d with va:=f} A∧Tr n0 h u P∧(∀b,b<3*n0→¬BkOf (gS A.va (gP d.va) (gP d.va)) b→P b=h b)∧(∀c∈w,3*l≤c)∧(r=0∨∀b,BkOf (gS A.va (gP d.va) (gP d.va)) b→b∈w):=by
 obtain ⟨b0,a0,u0,c0,ty,st,i0⟩:=N.st;have ax:=N.bs.1;have ck:=F.nm;have:=lm.l1;have:=lm.l2;have vl:=F.vl;have bl:=F.bl;have gc:=F.nb c hc;have aa:=pb.nv c hc;have gx:=F.va _ aa;have sx:=sz.va _ aa;obtain ⟨k4,o4,e4,m4,r4,t4⟩:=natS.at N.nb.rs gc;obtain ⟨k2,o2,b2,a2,l2,c2,d2,e2,f2,g2,ev,mv,rv,tv,iv,jv⟩:=QS.at N.va.rs gx;refine rT (fn:=Tryz.f89) R4 ?_;refine zG ?_;refine sB [jx b1,gS a1 l1 c1,jx d1,gS e1 f1 u1] ?_;intro h1 p1 x1;refine zG ?_;refine sC (kD _ (i1.x zx) (j1.x zx)) ?_;rintro _ h3 n3 ⟨b3,rfl,an⟩ y3 x3;rcases bvs an with ⟨rfl,q3⟩|⟨rfl,q3⟩
 ·obtain ⟨bv,p,gv,lv,ov,bi⟩:=N.va.or rfl (show gP d.va≠0 by omega);injection p with p
  refine zG ?_;refine sI e4 r4 ?_;refine sL t4 m4 0 ?_;refine zG ?_;refine zl [0,1,3,7,0,0,32,96,224,0,992,2016,0,8160,16383,32767] rfl ?_;refine zH ?_;refine dI ev rv ?_;refine dL tv mv 0 ?_;refine zH ?_;refine dC (addQ _ (g.x zx) (iv.x zx) (jv.x zx) (i1.x zx) (j1.x zx) sx sr zo) ?_;rintro _ h5 U ⟨b5,a5,l5,c5,d5,e5,f5,u5,rfl,i5,j5⟩ y5 x5;have K:Exo n0 h h5:=⟨(show Tx n0 h U h5 from zx).2⟩;have ae:h5 (3*n0+2)=_:=(zp:h5 (3*n0+2)=_);have cl:=i1.ext (n':=U) K.go zo;have cm:=j1.ext (n':=U) K.go zo;refine dI (j:=s.nb c) p zo ?_;refine dZ (n0:=n0) (j:=s.nb c) [jx b5,gS a5 l5 c5,jx d5,gS e5 f5 u5] (ov.ext ratP.kp K.go zo) ratP.kp zo (sb _) ⟨_,_,_,_,_,_,_,_,rfl,i5,j5⟩ ?_;intro h6 o6 Y T6;have s6:=(N.ext (n':=U) K.go zo).mv p Y (Bb ..) (o6.gr ratP.kp (T6 _ (by
   obtain ⟨C,hC⟩:=bi;exact ⟨C,(K.go _ ov.1).trans hC⟩)) gv lv rfl |> fun q=>by rw [p];exact q)
  have az:bv∈addW n0 [bv] []:=wQ ov.1 gN;have ak:Tr n0 h U h6:=Tr.s Y ⟨zo,fun c hc=>.inl (K.go c hc)⟩;have ai:∀b,b<3*n0→¬BkOf (gS A.va (gP d.va) (gP d.va)) b→h6 b=h b:=fun b hb hn=>(Y.1 b (fun e=>hn ⟨0,gP d.va,gP d.va,by rw [p,e]⟩)).trans (K.go b hb);have cs:h6 bs=_:=(Y.1 bs (fun e=>by have:=N.bs.2;rw [e,gv] at this;cases this)).trans ((K.go bs ax).trans st);have bg:h6 (3*n0+2)=_:=(Y.1 (3*n0+2) (fun e=>by have:=zB n0;rw [e,gv] at this;cases this)).trans ae;have b6:=zdm (w:=s.nb c) (x:=s.x (s.nb c)+r) F.va vl;clear ae K Y;refine zG ?_;refine sF (α:=Nat×List Rat) (fun z=>[(0,mo (some ⟨bs,0,none⟩)),(1,gZ .i64 (c:Int)),(5,mo (some ⟨3*n0+2,0,none⟩)),(36,gS A.ba (gP d.ba) (gP d.ba)),(37,gZ .i64 (gP d.ba:Int)),(38,gZ .i64 (z.1:Int))]) (fun z P u w'=>U≤u∧SM l P u bs {d with va:=z.2} A∧gP z.2=n+m∧(∀v,v<n+m→z.2[v]?=some (mvx s c r z.1 v))∧Tr n0 h u P∧(∀b,b<3*n0→¬BkOf (gS A.va (gP d.va) (gP d.va)) b→P b=h b)∧P (3*n0+2)=some (.row [jx b1,gS a1 l1 c1,jx d1,gS e1 f1 u1] 92)∧bv∈w'∧(∀c∈w',3*l≤c)∧z.1≤m) (fun z=>m-z.1) (0,d.va.set (s.nb c) (s.x (s.nb c)+r)) ⟨eU,s6,by rw [Bb];exact vl,b6,ak,ai,bg,az,yL (fun c hc=>by rw [qq.1 hc];exact lv) (fun c hc=>eN hc og),gH⟩ ?_;rintro ⟨j,f⟩ t Z n7 w7 ⟨y7,y,S,R,J,K7,p7,M,ab,hj⟩;have y7:U≤n7:=y7;have y:SM l Z n7 bs {d with va:=f} A:=y;have S:gP f=n+m:=S;have R:∀v,v<n+m→f[v]?=some (mvx s c r j v):=R;have J:Tr n0 h n7 Z:=J;have K7:∀b,b<3*n0→¬BkOf (gS A.va (gP d.va) (gP d.va)) b→Z b=h b:=K7;have p7:Z (3*n0+2)=some (.row [jx b1,gS a1 l1 c1,jx d1,gS e1 f1 u1] 92):=p7;have hj:j≤m:=hj;obtain ⟨b8,a8,u8,c8,cu,ct,i8⟩:=y.st;have cj:=y.bs.1;refine zG ?_;by_cases q7:(j:Int)<(gP d.ba:Int)
  ·refine zG ?_;have I:j<m:=zo;have gw:=F.ba j I;have ac:=pb.bv j I;have aw:=R _ ac;have ex:mvx s c r j (s.bs j)=s.x (s.bs j):=oI (fun q=>pb.dis c j hc I q.symm) fun i hi q=>by have:=pb.jnj j i I zo q;omega
   have af:=sz.va _ ac;rw [←ex] at af;obtain ⟨r0,g0,_,au⟩:=F.ta j zo;have hT:=sz.tT j I c hc;have hd:=sz.dd;have ay:=pb.tab.dp;have a3:=F.de;obtain ⟨k9,o9,e9,m9,r9,t9⟩:=natS.at y.ba.rs gw;refine sI e9 r9 ?_;refine sL t9 m9 0 ?_;obtain ⟨cn,cr,br,bo,l10,bx,c4,c9,cc,cf,ew,mw,ah,tw,iw,jw⟩:=QS.at y.va.rs aw;obtain ⟨bw,H,av,be,ow,bj⟩:=y.va.or rfl (show gP f≠0 by omega);injection H with H
   obtain rfl:bw=bv:=by have e:=H.symm.trans p;cases e;rfl
   refine zG ?_;refine zl [0,1,3,7,0,0,32,96,224,0,992,2016,0,0,0,28672,0,126976,262112,524287,1048575] rfl ?_;refine zH ?_;refine dI ew ah ?_;refine dL tw mw 0 ?_;refine zH ?_;refine dC (zbz _ (g.t J) y g0 (au c hc) (yU hT zo) (by show d.den.natAbs<BW;rw [a3];exact yU hd zo) (by show d.den≠0;rw [a3];omega)) ?_;rintro _ cg cp ⟨bt,bp,l11,bz,c6,ca,cd,cv,rfl,a4,a6⟩ bn bm;have sc:Sz T (AK (s.T j c) s.d):=xz ay hT hd;rw [show ({d with va:=f}:Sol).den=s.d from a3] at a4 a6;rw [Bs] at a4 a6 sc;refine zH ?_;refine dC (mulQ _ (g.t (J.e bm bn)) a4 a6 ((i1.t J).x zx) ((j1.t J).x zx) sc sr zo) ?_;rintro _ ch cq ⟨bu,bq,co,c3,c7,cb,ce,cw,rfl,b7,bb⟩ cz cx;refine dC (addQ _ ((g.t J).x zx) (iw.x zx) (jw.x zx) b7 bb af (sc.mul sr) zo) ?_;rintro _ a7 ad ⟨am,al,bd,ao,ap,aq,ar,bk,rfl,b9,bc⟩ d0 cy;have G:Exo n7 Z a7:=⟨(show Tx n7 Z ad a7 from zx).2⟩;refine dI (j:=s.bs j) H zo ?_;refine dZ (n0:=n0) (j:=s.bs j) [jx am,gS al bd ao,jx ap,gS aq ar bk] (ow.ext ratP.kp G.go zo) ratP.kp zo (sb _) ⟨_,_,_,_,_,_,_,_,rfl,b9,bc⟩ ?_;intro ci bf W aj;have bh:=(y.ext (n':=ad) G.go zo).mv H W (Bb ..) (bf.gr ratP.kp (aj _ (by
    obtain ⟨C,hC⟩:=bj;exact ⟨C,(G.go _ ow.1).trans hC⟩)) av be rfl |> fun q=>by rw [H];exact q)
   have ag:=zdm (w:=s.bs j) (x:=mvx s c r j (s.bs j)+(s.T j c:Rat)/s.d*r) R S;refine zJ ?_;exact sK (j+1,f.set (s.bs j) (mvx s c r j (s.bs j)+(s.T j c:Rat)/s.d*r)) ⟨zo,bh,by show gP (f.set _ _)=_;rw [Bb];exact S,ag,Tr.s W (J.trans ⟨zo,fun c hc=>.inl (G.go c hc)⟩),fun b hb hn=>(W.1 b (fun e=>hn ⟨0,gP d.va,gP d.va,by rw [p,e]⟩)).trans ((G.go b zo).trans (K7 b hb hn)),(W.1 (3*n0+2) (fun e=>by have:=zB n0;rw [e,gv] at this;cases this)).trans ((G.go _ zo).trans p7),nM _ _ _ M,yL (fun c hc=>by rw [qq.1 hc];exact lv) ab,I⟩
  have b4:j=m:=zo;subst b4;refine zG ?_;refine ⟨rfl,[],rfl,⟨zo,f,S,R,y,J,K7,ab,.inr fun b hb=>by
   obtain ⟨o,l',c',e⟩:=hb;rw [p] at e;injection e with e
   injection e with e
   injection e with e
   exact e▸M⟩,fun hw=>by rw [show w7=[] from hw] at M;cases M⟩
 subst q3;have X3:Exo n0 h h3:=⟨(show Tx n0 h n3 h3 from zx).2⟩;have y3:n0+1≤n3:=y3;have a9:∀v,v<n+m→d.va[v]?=some (mvx s c 0 m v):=fun v hv=>by rw [mvx0];exact F.va v hv
 refine zG ?_;exact ⟨rfl,[],rfl,⟨zo,d.va,vl,a9,N.ext X3.go zo,⟨zo,fun c hc=>.inl (X3.go c hc)⟩,fun b hb _=>X3.go b hb,fun c hc=>eN hc og,.inl (by trivial)⟩,fun _=>⟨eU,d.va,vl,a9,N,Tr.refl _ _,(by intros;trivial),fun c hc=>eN hc og,.inl (by trivial)⟩⟩
end
section
variable {a n:Nat}
theorem absX (k:Nat){x:Int}(d:IW h n sx ax lx cx x):CX (cal (k+1)) 180 [.agg #[jx sx,gS ax lx cx]] h n (IV (x.natAbs:Int)):=by
 refine zw (fn:=Tryz.f180) R4 ?_;refine zG ?_;refine sB [jx sx,gS ax lx cx] ?_;intro h1 i o;refine sA ?_;intro e j p;refine zG ?_;refine sT #[jx false,gS ax lx cx] ?_;refine sS [jx false,gS ax lx cx] ?_;intro f l g;refine zq ?_;exact ⟨_,_,_,_,rfl,⟨(cA zo).symm,(d.t zt).2⟩⟩
theorem zad (x:Rat):(ab x).num=(x.num.natAbs:Int)∧(ab x).den=x.den:=by
 unfold ab;split
 ·next h=>
  have:=mt (CG (q:=x)).1 (B7.2 h);exact ⟨by rw [F2];omega,Rat.neg_den x⟩
 next h=>
 have:=(CG (q:=x)).2 (CV.1 h);exact ⟨zo,rfl⟩
theorem zr4 (k:Nat){x:Rat}(j:IW h n sx ax lx cx x.num)(l:IW h n dx ex fx gx (denZ x)):CX (cal (k+2)) 145 [.agg #[jx sx,gS ax lx cx,jx dx,gS ex fx gx]] h n (QV (ab x)):=by
 refine zw (fn:=Tryz.f145) R4 ?_;refine zG ?_;refine sB [jx sx,gS ax lx cx,jx dx,gS ex fx gx] ?_;intro h1 v A;refine sA ?_;intro h2 w B;refine zG ?_;refine zl [0,1,3,0,8,31,63] rfl ?_;refine zH ?_;refine dC (absX _ (j.x zx)) ?_;rintro _ o q ⟨e,d,g,f,rfl,i⟩ D C;refine zH ?_;refine dT #[jx e,gS d g f,jx dx,gS ex fx gx] ?_;refine dS [jx e,gS d g f,jx dx,gS ex fx gx] ?_;intro p y u;refine zq ?_;exact ⟨_,_,_,_,_,_,_,_,rfl,(i.t zt).as (zad x).1.symm,(l.t zt).as (by unfold denZ;rw [(zad x).2])⟩
theorem Sz.ab {x:Rat}(h:Sz a x):Sz a (ab x):=⟨by rw [(zad x).1];have:=h.1;omega,by rw [(zad x).2];exact h.2⟩
theorem Sz.subT {x y:Rat}(hx:Sz a x)(d:Sz b y):Sz (a+b+1) (x-y):=by rw [Rat.sub_eq_add_neg];exact hx.add d.neg
theorem cJ {f g:List (Bool×Rat)}{v:Nat}{x:Rat}{p q:Bool×Rat}{up:Bool}(d:f[v]?=some p)(e:g[v]?=some q):rm (bdF f) (bdF g) v x up=if (qd x p q up).1 then some (qd x p q up).2 else none:=by
 obtain ⟨i,l⟩:=p;obtain ⟨j,o⟩:=q;unfold rm qd;cases up
 ·rw [eP Ba,eP Ba];cases i
  ·rw [pj d];rfl
  rw [xI d];rfl
 rw [eS rfl,eS rfl];cases j
 ·rw [pj e];rfl
 rw [xI e];rfl
section
variable {k:Nat}{s:PS}{up:Bool}
def cndK (m k:Nat)(lo hi:Nat→Option Rat)(s:PS)(c:Nat)(up:Bool)(r:Option Nat)(ρ:Rat):Prop:=cnd m lo hi s c up r ρ∧∀i,r=some i→i<k
def LvP (m:Nat)(lo hi:Nat→Option Rat)(s:PS)(c:Nat)(up:Bool)(k:Nat)(b:Int)(f:Nat)(fd:Bool)(ρ:Rat):Prop:=
 (fd=false∧∀r ρ',¬cndK m k lo hi s c up r ρ')∨(fd=true∧∃r,cndK m k lo hi s c up r ρ∧(r=none∧b= -1∨∃i:Nat,r=some i∧b=(i:Int))∧f=wvP s c r∧∀r' ρ',cndK m k lo hi s c up r' ρ'→ρ<ρ'∨ρ=ρ'∧f≤wvP s c r')
theorem cndK.inc {r:Option Nat}{ρ:Rat}(h:cndK m k lo hi s c up r ρ):cndK m (k+1) lo hi s c up r ρ:=⟨h.1,fun i e=>by have:=h.2 i e;omega⟩
theorem cndK.dn {r:Option Nat}{ρ:Rat}(h:cndK m (k+1) lo hi s c up r ρ):cndK m k lo hi s c up r ρ∨r=some k:=by
 by_cases e:r=some k
 ·exact .inr e
 exact .inl ⟨h.1,fun i d=>by
  have:=h.2 i d;have:i≠k:=fun f=>e (by rw [d,f]);omega⟩
theorem LvP.no {b:Int}{f:Nat}{j:Bool}{ρ:Rat}(h:LvP m lo hi s c up k b f j ρ)(v:∀d,¬cnd m lo hi s c up (some k) d):LvP m lo hi s c up (k+1) b f j ρ:=by
 have l:∀{r d},cndK m (k+1) lo hi s c up r d→cndK m k lo hi s c up r d:=fun {r d} q=>q.dn.resolve_right fun e=>v d (e▸q.1);rcases h with ⟨g,i⟩|⟨g,r,i,o,p,u⟩
 ·exact .inl ⟨g,fun r d q=>i r d (l q)⟩
 exact .inr ⟨g,r,i.inc,o,p,fun w d q=>u w d (l q)⟩
theorem zf5 {r:Option Nat}{ρ e:Rat}(h:cnd m lo hi s c up r ρ)(h':cnd m lo hi s c up r e):ρ=e:=by
 cases r with
 |none=>exact Bx (Eq.trans (Eq.symm h) h')
 |some i=>
  obtain ⟨_,_,g,f,rfl⟩:=h;obtain ⟨_,_,j,d,rfl⟩:=h';rw [f] at d;cases d;rfl
theorem LvP.take {b:Int}{f:Nat}{l:Bool}{ρ j:Rat}(h:LvP m lo hi s c up k b f l ρ)(u:cnd m lo hi s c up (some k) j)(g:l=false∨j<ρ∨j=ρ∧s.bs k<f):LvP m lo hi s c up (k+1) (k:Int) (s.bs k) true j:=by
 refine .inr ⟨rfl,some k,⟨u,fun i e=>by cases e;omega⟩,.inr ⟨k,rfl,rfl⟩,rfl,fun w y q=>?_⟩;rcases q.dn with v|rfl
 ·rcases h with ⟨o,p⟩|⟨o,r,p,B,C,A⟩
  ·exact eN v (p w y)
  have d:=A w y v;rcases g with g|g|⟨g,F⟩
  ·rw [o] at g;cases g
  ·rcases d with d|⟨d,_⟩
   ·exact .inl (by grind)
   exact .inl (by grind)
  rcases d with d|⟨d,D⟩
  ·exact .inl (by rw [g];exact d)
  exact .inr ⟨g.trans d,zo⟩
 exact .inr ⟨zf5 u q.1,eU⟩
theorem LvP.keep {b:Int}{f:Nat}{e:Bool}{ρ g:Rat}(h:LvP m lo hi s c up k b f e ρ)(u:cnd m lo hi s c up (some k) g)(v:e=true)(i:ρ<g∨ρ=g∧f≤s.bs k):LvP m lo hi s c up (k+1) b f e ρ:=by
 rcases h with ⟨d,_⟩|⟨d,r,j,l,o,p⟩
 ·rw [v] at d;cases d
 refine .inr ⟨d,r,j.inc,l,o,fun w y q=>?_⟩;rcases q.dn with q|rfl
 ·exact p w y q
 rw [←zf5 u q.1];exact i
theorem LvP.start {f:Bool}{ρ:Rat}(h:rm lo hi (s.nb c) (s.x (s.nb c)) up=if f then some ρ else none):LvP m lo hi s c up 0 (-1) (s.nb c) f ρ:=by
 have g:∀{r d},cndK m 0 lo hi s c up r d→r=none:=fun {r d} q=>by
  cases r with
  |none=>rfl
  |some i=>have:=q.2 i rfl;omega
 cases f with
 |false=>
  refine .inl ⟨rfl,fun r d q=>?_⟩;obtain rfl:=g q;have q:rm lo hi (s.nb c) (s.x (s.nb c)) up=some d:=q.1;rw [h] at q;cases q
 |true=>
  refine .inr ⟨rfl,none,⟨h,fun i e=>by cases e⟩,.inl ⟨rfl,rfl⟩,rfl,fun j d q=>?_⟩;obtain rfl:=g q;exact .inr ⟨zf5 (r:=none) h q.1,eU⟩
end
end
def sgI (up:Bool):Int:=if up then 1 else -1
theorem zr5 {x y k:Rat}(b:k≠0)(h:x=y∨x= -y):x/ab k=y/k∨x/ab k= -(y/k):=by
 unfold ab;simp only [DO];have e:(-k)⁻¹ = -k⁻¹ :=by grind
 rcases h with rfl|rfl<;>split
 ·right;rw [e];grind
 ·left;rfl
 ·left;rw [e];grind
 right;grind
theorem zmg (b c:Bool): -9223372036854775808≤sgI b*sgI c∧sgI b*sgI c<9223372036854775808:=by cases b<;>cases c<;>decide
theorem zmh (b c:Bool):(c==b)=true↔0<sgI b*sgI c:=by cases b<;>cases c<;>decide
theorem zmd {t:Int}{d:Int}{s:Int}(f:0<(d:Rat))(h0:¬(t:Rat)/d=0)(h:s= -1∧((t:Rat)/d).num<0∨s=0∧((t:Rat)/d).num=0∨s=1∧0<((t:Rat)/d).num):s=sgI (decide (0<t)):=by
 have g:=Ce (a:=(t:Rat)) (show (d:Rat)≠0 by grind);generalize (t:Rat)/d=q at*
 rcases h with ⟨rfl,h⟩|⟨rfl,h⟩|⟨rfl,h⟩
 ·have e:q<0:=B7.1 fun e=>by have:=(CG (q:=q)).2 e;omega
  have b:¬0<t:=fun b=>by
   have i:(0:Rat)<t:=Cc.2 b;have:=BZ (show 0< -q by grind) f
   grind
  rw [cA b];rfl
 ·exact eN (Cr.1 h) h0
 have e:0<q:=B7.1 fun e=>by
  have:=mt (CG (q:= -q)).1;have b:0≤ -q:=by grind
  have:=(CG (q:= -q)).2 b;rw [F2] at this;omega
 have b:0<t:=Cc.1 (by rw [←g];exact BZ e f);rw [eH b];rfl
section
variable {n T B:Nat}{s:PS}{a:Nat→Nat→Int}{up:Bool}
theorem zia (k:Nat)(g:GG h n0)(sm:SM l h n0 bs d A)(H:SolP n m d s)(pb:PB n m a L s.toPT)(sz:SzP n m V T O B d s)(lm:Lim V T O D B)(hc:c<n)(hD:∀i,i<m→s.T i c≠0→∀q,(bdF d.lo (s.bs i)=some q∨bdF d.hi (s.bs i)=some q)→Sz D ((q-s.x (s.bs i))/((s.T i c:Rat)/s.d))):
  CX (cal (k+13)) 92 [mo (some ⟨bs,0,none⟩),gZ .i64 (c:Int),gZ .i64 (sgI up)] h n0 fun w I J=>∃b f ρ b1 a1 l1 c1 d1 e1 f1 g1 F,w=.tuple #[gZ .i64 b,.agg #[jx b1,gS a1 l1 c1,jx d1,gS e1 f1 g1],jx F]∧IW I J b1 a1 l1 c1 ρ.num∧IW I J d1 e1 f1 g1 (denZ ρ)∧LvP m (bdF d.lo) (bdF d.hi) s c up m b f F ρ∧Sz D ρ:=by
 obtain ⟨b0,a0,u0,c0,ty,st,i0⟩:=sm.st;have bh:=sm.bs.1;have cj:=H.nm;have:=lm.l1;have:=lm.l2;have:=lm.l3;have vl:=H.vl;have bl:=H.bl;have ll:=H.ll;have lh:=H.lh;have gc:=H.nb c hc;have ar:=pb.nv c hc;have gx:=H.va _ ar;have bp:up=true↔0<sgI up:=by cases up<;>decide
 obtain ⟨pl,R⟩:∃x,d.lo[s.nb c]?=some x:=⟨_,kF zo⟩;obtain ⟨ph,P⟩:∃x,d.hi[s.nb c]?=some x:=⟨_,kF zo⟩;have al:=sz.va _ ar;have N:=sz.lo _ (mp R);have M:=sz.hi _ (mp P);have G:=cJ (x:=s.x (s.nb c)) (up:=up) R P;have bn:Sz D (qd (s.x (s.nb c)) pl ph up).2:=by
  unfold qd;split
  ·exact (Sz.subT M al).mono zo
  exact (Sz.subT al N).mono zo
 obtain ⟨k4,o4,e4,m4,r4,t4⟩:=natS.at sm.nb.rs gc;refine zw (fn:=Tryz.f92) R4 ?_;refine Zi ?_;intro h1 p1 x1;refine zG ?_;refine sI e4 r4 ?_;refine sL t4 m4 0 ?_;refine zG ?_;refine sC (zpg _ (g.x zx) (sm.x zx) gx R P al N M zo bp) ?_;rintro _ h2 p ⟨b2,a2,l2,c2,d2,e2,f2,g2,rfl,i2,j2⟩ y2 x2;generalize hρ:(qd (s.x (s.nb c)) pl ph up).2=ρ0 at*
 generalize hfd:(qd (s.x (s.nb c)) pl ph up).1=fd0 at*
 refine Zi ?_;intro h3 p3 x3;refine sS [jx b2,gS a2 l2 c2,jx d2,gS e2 f2 g2] ?_;intro o p4 o4;have X4:Exo n0 h o:=⟨(show Tx n0 h (p+1) o from zx).2⟩;have T4:Tr n0 h (p+1) o:=zt;have i4:=i2.t (zt:Tr p h2 (p+1) o);have j4:=j2.t (zt:Tr p h2 (p+1) o);have cs:o (3*n0+2)=_:=(zp:o (3*n0+2)=_);have y2:n0+1≤p:=y2;have cy:o bs=_:=(X4.go bs bh).trans st;clear x1 x2 x3 o4 p3 p1 i2 j2;refine zG ?_;refine sF (α:=Nat×Int×Nat×Bool×Rat×Bool×Option Addr×Nat×Nat×Bool×Option Addr×Nat×Nat) (fun z=>[(0,mo (some ⟨bs,0,none⟩)),(1,gZ .i64 (c:Int)),(2,gZ .i64 (sgI up)),(7,mo (some ⟨3*n0+2,0,none⟩)),(9,gZ .i64 (z.2.2.1:Int)),(10,mo (some ⟨3*p+2,0,none⟩)),(11,jx z.2.2.2.1),(12,gZ .i64 z.2.1),(36,gS A.ba (gP d.ba) (gP d.ba)),(37,gZ .i64 (gP d.ba:Int)),(38,gZ .i64 (z.1:Int))]) (fun z I J w'=>w'=[]∧p+1≤J∧ExtB (p+1) [3*p+2] o I∧I (3*p+2)=some (.row [jx z.2.2.2.2.2.1,gS z.2.2.2.2.2.2.1 z.2.2.2.2.2.2.2.1 z.2.2.2.2.2.2.2.2.1,jx z.2.2.2.2.2.2.2.2.2.1,gS z.2.2.2.2.2.2.2.2.2.2.1 z.2.2.2.2.2.2.2.2.2.2.2.1 z.2.2.2.2.2.2.2.2.2.2.2.2] 92)∧IW I J z.2.2.2.2.2.1 z.2.2.2.2.2.2.1 z.2.2.2.2.2.2.2.1 z.2.2.2.2.2.2.2.2.1 z.2.2.2.2.1.num∧IW I J z.2.2.2.2.2.2.2.2.2.1 z.2.2.2.2.2.2.2.2.2.2.1 z.2.2.2.2.2.2.2.2.2.2.2.1 z.2.2.2.2.2.2.2.2.2.2.2.2 (denZ z.2.2.2.2.1)∧LvP m (bdF d.lo) (bdF d.hi) s c up z.1 z.2.1 z.2.2.1 z.2.2.2.1 z.2.2.2.2.1∧Sz D z.2.2.2.2.1∧z.1≤m) (fun z=>m-z.1) (0,-1,s.nb c,fd0,ρ0,b2,a2,l2,c2,d2,e2,f2,g2) ⟨rfl,eU,ExtB.refl _ _ _,p4,i4,j4,.start G,bn,gH⟩ ?_;rintro ⟨j,b,f,F,ρ,bS,aS,lS,kS,uS,vS,wS,xS⟩ t h5 n5 _ ⟨rfl,y5,Y5,p5,W,Y,hv,S,hj⟩;have p5:h5 (3*p+2)=some (.row [jx bS,gS aS lS kS,jx uS,gS vS wS xS] 92):=p5;have W:IW h5 n5 bS aS lS kS ρ.num:=W;have Y:IW h5 n5 uS vS wS xS (denZ ρ):=Y;have hv:LvP m (bdF d.lo) (bdF d.hi) s c up j b f F ρ:=hv;have S:Sz D ρ:=S;have hj:j≤m:=hj;have y5:p+1≤n5:=y5;have X5:Exo n0 h h5:=⟨fun c hc=>(Y5 c zo (fun e=>by have:=qq.1 e;omega)).trans (X4.go c hc)⟩;have s5:=sm.ext (n':=n5) X5.go zo;have g5:=g.ext X5.go (by omega:n0≤n5);refine zG ?_;by_cases q5:(j:Int)<(gP d.ba:Int)
 ·refine zG ?_;have v:j<m:=zo;have gw:=H.ba j v;have au:=pb.bv j v;have bg:=H.va _ au;have ak:=sz.va _ au;obtain ⟨r0,g0,_,be⟩:=H.ta j zo;have hT:=sz.tT j v c hc;have hd:=sz.dd;have bi:=pb.tab.dp;have af:=H.de;obtain ⟨k9,o9,e9,m9,r9,t9⟩:=natS.at s5.ba.rs gw;refine sI e9 r9 ?_;refine sL t9 m9 0 ?_;refine zG ?_;refine sC (zbz _ g5 s5 g0 (be c hc) (yU hT zo) (by rw [af];exact yU hd zo) (by rw [af];omega)) ?_;rintro _ h6 n6 ⟨b6,a6,l6,c6,d6,e6,f6,g6,rfl,i6,j6⟩ y6 x6;have sc:Sz T (AK (s.T j c) s.d):=xz bi hT hd;rw [af] at i6 j6;rw [Bs] at i6 j6 sc;refine Zi ?_;intro h7 p7 x7;refine zG ?_;refine sS [jx b6,gS a6 l6 c6,jx d6,gS e6 f6 g6] ?_;intro h8 p8 o8;refine zG ?_;refine sC (kD _ (i6.t zt) (j6.t zt)) ?_;rintro _ h9 n9 ⟨b9,rfl,b7⟩ y9 x9;rcases bvs b7 with ⟨rfl,q9⟩|⟨rfl,q9⟩
  ·refine zG ?_;refine sC (fD _ (i6.t zt) (j6.t zt)) ?_;rintro _ ce cl ⟨ay,rfl,c4⟩ d8 cz;have ag:ay=sgI (decide (0<s.T j c)):=zmd pb.dpos q9 c4;obtain ⟨pl,R⟩:∃x,d.lo[s.bs j]?=some x:=⟨_,kF zo⟩;obtain ⟨ph,P⟩:∃x,d.hi[s.bs j]?=some x:=⟨_,kF zo⟩;have N:=sz.lo _ (mp R);have M:=sz.hi _ (mp P);refine zG ?_;refine st_mul (a:=ay) (b:=sgI up) rfl rfl rfl rfl rfl rfl (by rw [ag];exact zmg _ _) ?_;subst ag;refine sC (zpg (up:=(up==decide (0<s.T j c))) _ (g5.x zx) (s5.x zx) bg R P ak N M zo (zmh _ _)) ?_;rintro _ an y ⟨b5,b4,l11,b8,bb,bc,bd,bf,rfl,ah,ai⟩ d9 d0;have G:=cJ (x:=s.x (s.bs j)) (up:=(up==decide (0<s.T j c))) R P;generalize hρ:(qd (s.x (s.bs j)) pl ph (up==decide (0<s.T j c))).2=ρ1 at*
   generalize hfd:(qd (s.x (s.bs j)) pl ph (up==decide (0<s.T j c))).1=fd1 at*
   refine Zi ?_;intro cf cq d3;refine zG ?_;refine sS [jx b5,gS b4 l11 b8,jx bb,gS bc bd bf] ?_;intro ad cr cn;refine zG ?_;cases fd1
   ·refine zG ?_;exact sK (j+1,b,f,F,ρ,bS,aS,lS,kS,uS,vS,wS,xS) ⟨rfl,zo,zy,zp,W.t zt,Y.t zt,hv.no (fun ρ' hq=>by
     obtain ⟨_,_,g',h1,_⟩:=hq;rw [G] at h1;cases h1),S,v⟩
   have U:s.T j c≠0:=fun e=>q9 (by rw [e];exact pO _);have az:=(pb.sgn (t:=s.T j c)).2.1 U;obtain ⟨ap,aq,bo⟩:cnd m (bdF d.lo) (bdF d.hi) s c up (some j) (ρ1/ab ((s.T j c:Rat)/s.d))∧Sz D (ρ1/ab ((s.T j c:Rat)/s.d))∧Sz D ρ1:=by
    have hb:∃q,(bdF d.lo (s.bs j)=some q∨bdF d.hi (s.bs j)=some q)∧(ρ1=q-s.x (s.bs j)∨ρ1= -(q-s.x (s.bs j))):=by
     generalize (up==decide (0<s.T j c))=u at G;cases u
     ·exact ⟨_,.inl (zdu G),.inr (by grind)⟩
     exact ⟨_,.inr (zdt G),.inl (by grind)⟩
    obtain ⟨q,bk,bm⟩:=hb;have h1:=hD j v U q bk;have h0:Sz D ρ1:=by
     rw [←hρ];unfold qd;split
     ·exact (Sz.subT M ak).mono zo
     exact (Sz.subT ak N).mono zo
    refine ⟨⟨v,U,ρ1,G,rfl⟩,?_,h0⟩;have o:ρ1/ab ((s.T j c:Rat)/s.d)=(q-s.x (s.bs j))/((s.T j c:Rat)/s.d)∨ρ1/ab ((s.T j c:Rat)/s.d)= -((q-s.x (s.bs j))/((s.T j c:Rat)/s.d)):=zr5 az bm;rcases o with o|o
    ·rw [o];exact h1
    rw [o];exact h1.neg
   have b3:Tr n5 h5 (y+1) ad:=zt;have ah:=ah.t (zt:Tr y an (y+1) ad);have ai:=ai.t (zt:Tr y an (y+1) ad);refine zG ?_;refine zl [0,0,2,7,15] rfl ?_;refine zH ?_;refine dC (zr4 _ (i6.t zt) (j6.t zt)) ?_;rintro _ cg cm ⟨c8,c7,ck,c9,ca,cb,cc,cd,rfl,bq,bu⟩ da d4;refine dC (divQ _ ((g5.t b3).x zx) (ah.t zt) (ai.t zt) bq bu bo sc.ab zo) ?_;rintro _ ae K ⟨a5,a4,aj,a7,a8,a9,aa,ac,rfl,av,aw⟩ db d5;refine dS [jx a5,gS a4 aj a7,jx a8,gS a9 aa ac] ?_;intro ao ct co;have br:=av.t (zt:Tr K ae K ao);have bw:=aw.t (zt:Tr K ae K ao);refine zJ ?_;refine sC (xp _ br bw (W.t zt) (Y.t zt) aq S zo).cx ?_;rintro _ Z ax ⟨cw,rfl,C⟩ dc d7;generalize hr1:ρ1/ab ((s.T j c:Rat)/s.d)=ρ2 at*
   have am:Tr K ae ax Z:=zt;have cu:Z (3*y+2)=_:=(zp:Z (3*y+2)=_);have bt:=av.t am;have bx:=aw.t am;refine zM ?_;simp only [yu,xg,zK,yY];refine yj (α:=Bool) (fun z=>[(0,mo (some ⟨bs,0,none⟩)),(1,gZ .i64 (c:Int)),(2,gZ .i64 (sgI up)),(7,mo (some ⟨3*n0+2,0,none⟩)),(9,gZ .i64 (f:Int)),(10,mo (some ⟨3*p+2,0,none⟩)),(11,jx F),(12,gZ .i64 b),(13,gZ .i64 (j:Int)),(14,gZ .i64 (s.bs j:Int)),(16,mo (some ⟨3*y+2,0,none⟩)),(36,gS A.ba (gP d.ba) (gP d.ba)),(37,gZ .i64 (gP d.ba:Int)),(38,gZ .i64 (j:Int)),(82,jx z)]) (fun z I J w'=>w'=[]∧Z=I∧ax=J∧(z=true∧(F=false∨ρ2<ρ∨ρ2=ρ∧s.bs j<f)∨z=false∧F=true∧(ρ<ρ2∨ρ=ρ2∧f≤s.bs j))) ?_ ?_
   ·cases F
    ·refine zG ?_;exact zA true (by (repeat (first|exact trivial|refine ⟨rfl,?_⟩))) ⟨rfl,rfl,rfl,.inl ⟨rfl,.inl (by trivial)⟩⟩
    rcases C with ⟨rfl,C⟩|⟨rfl,C⟩|⟨rfl,C⟩
    ·refine zG ?_;exact zA true (by (repeat (first|exact trivial|refine ⟨rfl,?_⟩))) ⟨rfl,rfl,rfl,.inl ⟨rfl,.inr (.inl C)⟩⟩
    ·by_cases a3:(s.bs j:Int)<(f:Int)
     ·refine zG ?_;exact zA true (by (repeat (first|exact trivial|refine ⟨rfl,?_⟩))) ⟨rfl,rfl,rfl,.inl ⟨rfl,.inr (.inr ⟨C,zo⟩)⟩⟩
     refine zG ?_;exact zA false (by (repeat (first|exact trivial|refine ⟨rfl,?_⟩))) ⟨rfl,rfl,rfl,.inr ⟨rfl,(by trivial),.inr ⟨C.symm,zo⟩⟩⟩
    refine zG ?_;exact zA false (by (repeat (first|exact trivial|refine ⟨rfl,?_⟩))) ⟨rfl,rfl,rfl,.inr ⟨rfl,(by trivial),.inl C⟩⟩
   rintro z t _ _ _ ⟨rfl,rfl,rfl,⟨rfl,a3⟩|⟨rfl,a3,c5⟩⟩
   ·refine zG ?_;refine zl [0,0,0,1,11,31,63] rfl ?_;refine zH ?_;refine dS [jx a5,gS a4 aj a7,jx a8,gS a9 aa ac] ?_;intro ch c3 cp;refine zJ ?_;exact sK (j+1,(j:Int),s.bs j,true,ρ2,a5,a4,aj,a7,a8,a9,aa,ac) ⟨rfl,zo,zy,c3,bt.t zt,bx.t zt,hv.take ap a3,aq,v⟩
   refine zG ?_;exact sK (j+1,b,f,F,ρ,bS,aS,lS,kS,uS,vS,wS,xS) ⟨rfl,zo,zy,zp,W.t zt,Y.t zt,hv.keep ap a3 c5,S,v⟩
  refine zG ?_;exact sK (j+1,b,f,F,ρ,bS,aS,lS,kS,uS,vS,wS,xS) ⟨rfl,zo,zy,zp,W.t zt,Y.t zt,hv.no fun ρ' hq=>(pb.sgn (t:=s.T j c)).2.1 hq.2.1 q9,S,v⟩
 have bj:j=m:=zo;subst bj;refine zG ?_;refine zl [0,0,0,1,11,31] rfl ?_;refine zH ?_;refine dS [jx bS,gS aS lS kS,jx uS,gS vS wS xS] ?_;intro ci cv bz;refine zq ?_ (hx:=⟨zo,fun c hc=>(bz.1 c zo).trans (X5.go c hc)⟩);exact ⟨_,_,_,_,_,_,_,_,_,_,_,_,rfl,W.t zt,Y.t zt,hv,S⟩
end
section
variable {h0:HF}{B U:Nat}{T:List Nat}
theorem AU.ext {h:HF}{n:Nat}{w:List Nat}(a:AU h0 n0 v0 h n w v T)(x:Ext n h h')(c:n≤n'):AU h0 n0 v0 h' n' w v T:=
 ⟨Aa a.hn c,fun b i f=>(x b (by have:=a.hn;omega)).trans (a.keep b i f),a.hw,Gro.ext a.g x c,a.or,a.wd⟩
theorem zjo {c x s d:Nat}(f:V+c*P=U)(b:s+B*c'=d+c)(h3:x+d*P=V+s*P):x+c'*(P*B)=U:=by
 have a:(s+B*c')*P=(d+c)*P:=by rw [b]
 rw [An,An] at a;rw [show c'*(P*B)=B*c'*P from by rw [pe P B,←Ah,pe c' B]];omega
theorem zog {P S X L:List Nat}{w c:Nat}(a:gP L=gP Z)(b:wv L+c*18446744073709551616^gP Z=wv Z+wv X*w):wv (P++(L++S))+c*18446744073709551616^(gP P+gP Z)=wv (P++(Z++S))+wv X*(18446744073709551616^gP P*w):=by
 rw [wZ,wZ,wZ P,wZ Z,a,Bf];generalize 18446744073709551616^gP Z=B at*
 generalize 18446744073709551616^gP P=C at*
 have e:=congrArg (C* ·) b;simp only [Ap] at e ⊢;rw [show c*(C*B)=C*(c*B) from Be _ _ _,show wv X*(C*w)=C*(wv X*w) from Be _ _ _];omega
section
variable {r:List Oper}{n:Nat}{d:Tmp}
theorem mkW (cs:List Value){c:Nat}(a:Za X ops t o d (cls o.op=2∧mkE X.E o.op (evF t)=some ⟨cs,e,false,some (l,c)⟩))
  (k:∀h',h' (3*n+2)=some (.row cs e)→Ext n h h'→EO X ops r ⟨upd t d (gS (some ⟨3*n+2,0,none⟩) l c),h',n+1,w⟩ Q):EO X ops (o::r) ⟨t,h,n,w⟩ Q:=by obtain ⟨a,f,i,b,g⟩:=a;exact pZ ⟨a,f,i,b,g⟩ (k _ (zg _ _ _) (Ext.upd zo))
end
theorem rQ (k:Nat){h:HF}{n:Nat}{F:Value}{X Y:List Nat}{aX aY:Option Addr}{lX lY cY:Nat}(g:GroU h n F T)(hT:WdD T)(hX:Sl h n 1 (gS aX lX cX) (u64s X))(hY:Sl h n 1 (gS aY lY cY) (u64s Y))(wX:WdD X)(wY:WdD Y)(oX:∀b,BkOf F b→Off b (gS aX lX cX))(oY:∀b,BkOf F b→Off b (gS aY lY cY))(hb:gP T<1000000∧gP X<1000000∧gP Y<1000000)(aq:gP X<40∨gP Y<40):
  CF (cal (k+3)) 178 [F,gS aX lX cX,gS aY lY cY] h n fun v h' n' w=>∃T',AU h n F h' n' w v T'∧wv T'=wv T+wv X*wv Y∧gP T'≤max (gP T) (gP X+gP Y)+40:=by
 refine zw (fn:=Tryz.f178) R4 ?_;have e1:=hX.lenW;have e2:=hY.lenW;subst e1 e2;refine Zd ?_;refine zM ?_;refine st_I (ik:=.i64) (a:=(gP X:Int)) R5 ?_;refine zM ?_;refine st_I (ik:=.i64) (a:=(gP Y:Int)) R5 ?_;refine lW R6 ?_;simp only [yu,xg,zK,yY];refine yj (α:=(Option Addr×Nat×List Nat)×(Option Addr×Nat×List Nat)) (fun z=>[(0,F),(1,gS z.1.1 (gP z.1.2.2) z.1.2.1),(2,gS z.2.1 (gP z.2.2.2) z.2.2.1)]) (fun z h' n' w=>h=h'∧n=n'∧w=[]∧Sl h n 1 (gS z.1.1 (gP z.1.2.2) z.1.2.1) (u64s z.1.2.2)∧Sl h n 1 (gS z.2.1 (gP z.2.2.2) z.2.2.1) (u64s z.2.2.2)∧WdD z.1.2.2∧WdD z.2.2.2∧(∀b,BkOf F b→Off b (gS z.1.1 (gP z.1.2.2) z.1.2.1))∧(∀b,BkOf F b→Off b (gS z.2.1 (gP z.2.2.2) z.2.2.1))∧gP z.2.2.2<40∧gP z.1.2.2<1000000∧wv z.1.2.2*wv z.2.2.2=wv X*wv Y∧gP z.1.2.2+gP z.2.2.2=gP X+gP Y) ?_ ?_
 ·by_cases hlt:gP X<gP Y
  ·rw [ze (by show jx _=_;rw [eH zo])];refine Zd ?_;exact zA ((aY,cY,Y),(aX,cX,X)) ⟨rfl,rfl,rfl,eT⟩ ⟨rfl,rfl,rfl,hY,hX,wY,wX,oY,oX,by show gP X<40;omega,by show gP Y<_;omega,pe _ _,Bj _ _⟩
  rw [za (by show jx _=_;rw [cA zo])];refine zN ?_;exact zA ((aX,cX,X),(aY,cY,Y)) ⟨rfl,rfl,rfl,eT⟩ ⟨rfl,rfl,rfl,hX,hY,wX,wY,oX,oY,by show gP Y<40;omega,by show gP X<_;omega,rfl,rfl⟩
 rintro ⟨⟨a,c,A⟩,⟨a',c',C⟩⟩ t _ _ _ ⟨rfl,rfl,rfl,hA,hC,wA,wC,oA,oC,ap,ar,N,R⟩;simp only at hA hC wA wC oA oC ap ar N R;rw [←N,←R];rw [←R] at*
 have b4:=hb.1;clear N R aq hb hX hY wX wY oX oY;refine Ze ?_;refine st_I (ik:=.i64) (a:=(gP C:Int)) R5 ?_;refine Zl ?_;refine ye (α:=Value×List Nat) (fun z=>[(0,z.1),(1,gS a (gP A) c),(2,gS a' (gP C) c')]) (fun z h' n' w=>AU h n F h' n' w z.1 z.2∧wv z.2=wv T∧gP z.2≤max (gP T) (gP A+gP C)) (fun z=>gP A+gP C-gP z.2) (F,T) ⟨rfl,rfl,rfl,eT⟩ ⟨.refl g hT,rfl,Nat.le_max_left _ _⟩ (by show gP A+gP C-gP T<LL;unfold LL;omega) ?_;rintro ⟨v1,q⟩ t h1 n1 w1 ⟨p,u,a6⟩;simp only at p u a6;obtain ⟨ae,rfl,_⟩:=Gro.shape p.g;refine Ze ?_;refine st_I (ik:=.i64) (a:=(gP q:Int)) R5 ?_;refine zM ?_;refine st_I (ik:=.i64) (a:=(gP A:Int)) R5 ?_;refine zM ?_;refine st_I (ik:=.i64) (a:=(gP C:Int)) R5 ?_;by_cases hlt:gP q<gP A+gP C
 ·refine Zh ?_;refine Ze ?_;refine mkW [gZ .u64 0] (l:=1) (c:=1) R5 ?_;intro h2 p2 x2;refine zc8 (p.ext x2 zs) R9 (yp p2 R2) zo ?_;intro v3 h3 w3 a3;refine zS (v:=v3) R4 rfl ?_;refine zN ?_;refine goOn (v3,q++[0]) (by show _-gP (q++[0])<_-gP q;rw [k0,nP];omega) ⟨rfl,rfl,rfl,eT⟩ ⟨a3,?_,?_⟩
  ·simp only;rw [yO,Bp,AJ,u]
  simp only;rw [k0,nP];omega
 refine Zz ?_;refine st_I (ik:=.i64) (a:=(gP C:Int)) R5 ?_;refine Zb ?_;refine ye (α:=Value×List Nat×Nat) (fun z=>[(0,z.1),(1,gS a (gP A) c),(36,gS a' (gP C) c'),(37,gZ .i64 (gP C:Int)),(38,gZ .i64 (z.2.2:Int))]) (fun z h' n' w=>AU h n F h' n' w z.1 z.2.1∧wv z.2.1=wv T+wv A*wv (C.take z.2.2)∧gP A+gP C≤gP z.2.1∧gP z.2.1≤max (gP T) (gP A+gP C)+z.2.2∧z.2.2≤gP C) (fun z=>gP C-z.2.2) (gS ae (gP q) (gP q),q,0) ⟨rfl,rfl,rfl,rfl,rfl,eT⟩ ⟨p,by simp [wv,dv] at u ⊢;exact u,by show _≤gP q;omega,a6,gH⟩ (by show gP C-0<LL;unfold LL;omega) ?_;clear u a6 p hlt;rintro ⟨v1,q,i⟩ t h1 n1 w1 ⟨p,u,az,a6,hi⟩;simp only at p u az a6 hi;refine zN ?_;by_cases hiC:i=gP C
 ·subst hiC;rw [List.take_length] at u;obtain ⟨ae,rfl,_⟩:=Gro.shape p.g;refine Zp ?_;exact retH _ ⟨rfl,(zi rfl),rfl⟩ ⟨q,p,u,zo⟩
 obtain ⟨y,hy⟩:∃x,C[i]?=some x:=⟨C[i]'zo,kF zo⟩;have b2:=wC.get hy;obtain ⟨b,rfl,a9,a0,O⟩:=GroU.row p.g zo;obtain ⟨P,Z,S,H,hP,hZ⟩:∃P Z S,q=P++(Z++S)∧gP P=i∧gP Z=gP A:=⟨q.take i,(q.drop i).take (gP A),(q.drop i).drop (gP A),by rw [Bm,Bm],by rw [sn];omega,by rw [sn,List.length_drop];omega⟩;have af:=p.sl hA oA;have ag:=p.sl hC oC;have ad:=p.off hA oA b ⟨_,_,_,rfl⟩;refine Zr ?_;refine yE (f:=fun d:Nat=>gZ .u64 (d:Int)) (j:=i) R7 ag R2 hy (fun _=>rfl) R4 fun _=>?_;refine Zm ?_;refine rt i (i+gP A) R9 rfl rfl zo ?_;rw [show 0+i*1=gP P from zo,show i+gP A-i=gP Z from zo];repeat refine zR ?_
 have ak:=li k (h:=h1) (n:=n1) (b:=b) (cZ:=gP q-i) (P:=P) (Z:=Z) (S:=S) a0 (by rw [←H];exact O) zo (fun d I=>p.wd d (by rw [H];simp [I])) af wA ad hZ zo b2;refine zF _ R5 ak ?_;rintro _ h2 n2 w2 ⟨L,cc,rfl,ay,⟨an,rfl,ao,am⟩,ah,aa,ai⟩;have a7:gP (P++(L++S))=gP q:=by rw [H];simp [aa]
 have a2:=p.trans (AU.row a9 a0 ao an am a7 (WdD.append (fun d I=>p.wd d (by rw [H];simp [I])) (WdD.append ah (fun d I=>p.wd d (by rw [H];simp [I])))));have M:=zog (S:=S) (P:=P) aa ai;rw [←H,hP,hZ,u] at M;generalize hT2:P++(L++S)=T2 at a2 M a7;have M:wv T2+cc*18446744073709551616^(i+gP A)=wv T+wv A*wv (C.take (i+1)):=by
  rw [zQ hy,Ap,M];omega
 clear u;refine Zu ?_;refine st_I (ik:=.i64) (a:=(gP A:Int)) R5 ?_;refine Zb ?_;rw [←a7];refine ye (α:=Value×List Nat×Nat×Nat) (fun z=>[(0,z.1),(1,gS a (gP A) c),(9,gZ .u64 (z.2.2.1:Int)),(10,gZ .i64 (z.2.2.2:Int)),(36,gS a' (gP C) c'),(37,gZ .i64 (gP C:Int)),(38,gZ .i64 (i:Int))]) (fun z h' n' w=>AU h n F h' n' w z.1 z.2.1∧wv z.2.1+z.2.2.1*18446744073709551616^z.2.2.2=wv T+wv A*wv (C.take (i+1))∧gP A+gP C≤gP z.2.1∧(gP z.2.1≤max (gP T) (gP A+gP C)+i∨(gP z.2.1≤max (gP T) (gP A+gP C)+i+1∧z.2.2.1=0))∧z.2.2.1<18446744073709551616∧z.2.2.2≤gP z.2.1) (fun z=>(gP z.2.1-z.2.2.2)+(if z.2.2.1=0 then 0 else 1)) (gS (some ⟨b,0,none⟩) (gP T2) (gP T2),T2,cc,i+gP A) ⟨rfl,rfl,rfl,by show gZ .i64 _=gZ .i64 _;rfl,rfl,rfl,rfl,eT⟩ ⟨by rw [a7];exact a2,M,by show _≤gP T2;omega,.inl (by show gP T2≤_;omega),ay,by show i+gP A≤gP T2;omega⟩ (by show (gP T2-(i+gP A))+_<LL;unfold LL;split<;>omega) ?_;clear p a2 M hT2 am ao an O a9 a0 af ag ad ak a7 ai aa ah H;rintro ⟨v3,D,c3,m⟩ t h3 n3 w3 ⟨a3,W,ac,al,aw,au⟩;simp only at a3 W ac al aw au;refine zN ?_;by_cases hc0:c3=0
 ·subst hc0;rw [Nat.zero_mul,AJ] at W;refine Zp ?_;refine goOn (v3,D,i+1) (by show gP C-(i+1)<gP C-i;omega) ⟨rfl,rfl,rfl,rfl,rfl,eT⟩ ⟨a3,W,ac,by show gP D≤_+(i+1);omega,by show i+1≤_;omega⟩
 have al:gP D≤max (gP T) (gP A+gP C)+i:=zo;refine Zt ?_;obtain ⟨b3,rfl,_⟩:=Gro.shape a3.g;refine Zc ?_;refine st_I (ik:=.i64) (a:=(gP D:Int)) R5 ?_;refine zc5 R6 ?_;simp only [yu,xg,zK,yY];refine yj (α:=Value×List Nat) (fun z=>[(0,z.1),(1,gS a (gP A) c),(9,gZ .u64 (c3:Int)),(10,gZ .i64 (m:Int)),(36,gS a' (gP C) c'),(37,gZ .i64 (gP C:Int)),(38,gZ .i64 (i:Int))]) (fun z h' n' w=>AU h n F h' n' w z.1 z.2∧wv z.2=wv D∧m<gP z.2∧gP A+gP C≤gP z.2∧(gP z.2=gP D∨(gP z.2=gP D+1∧m=gP D∧z.2[m]?=some 0))) ?_ ?_
 ·by_cases hat:m=gP D
  ·rw [ze (by show jx _=_;rw [eH zo])];refine Ze ?_;refine mkW [gZ .u64 0] (l:=1) (c:=1) R5 ?_;intro h4 p4 x4;refine zc8 (a3.ext x4 zs) R9 (yp p4 R2) zo ?_;intro v5 h5 w5 a5;refine zS (v:=v5) R4 rfl ?_;refine zN ?_;refine zA (v5,D++[0]) ⟨rfl,rfl,rfl,rfl,rfl,rfl,rfl,eT⟩ ⟨a5,?_,?_,?_,.inr ⟨?_,hat,?_⟩⟩
   ·simp only;rw [yO,Bp,AJ]
   ·simp only;rw [k0,nP];omega
   ·simp only;rw [k0,nP];omega
   ·simp only;rw [k0,nP]
   simp only;rw [hat,List.getElem?_append_right eU,Nat.sub_self];rfl
  rw [za (by show jx _=_;rw [cA zo])];refine zN ?_;exact zA (_,D) ⟨rfl,rfl,rfl,rfl,rfl,rfl,rfl,eT⟩ ⟨a3,rfl,by show m<gP D;omega,ac,.inl rfl⟩
 rintro ⟨v4,G⟩ t h4 n4 w4 ⟨a4,aj,ab,b0,K⟩;simp only at a4 aj ab b0 K;rw [←aj] at W;obtain ⟨b,rfl,a9,a0,O⟩:=GroU.row a4.g zo;obtain ⟨d,I⟩:∃x,G[m]?=some x:=⟨G[m]'zo,kF zo⟩;have b5:=a4.wd.get I;refine Zj ?_;refine yE (f:=fun d:Nat=>gZ .u64 (d:Int)) (j:=m) R7 (Gro.sl a4.g) R2 I (fun _=>rfl) R4 fun _=>?_;repeat refine zR ?_
 refine vt (x:=d) (y:=c3) (c:=0) R5 zd ?_;obtain ⟨s,hs⟩:∃x,x=(d+c3+0)%18446744073709551616:=⟨_,rfl⟩;obtain ⟨c5,ax⟩:∃x,x=(d+c3+0)/18446744073709551616:=⟨_,rfl⟩;rw [←hs,←ax];repeat refine zR ?_
 refine zl6 (j:=m) (v:=gZ .u64 (s:Int)) R9 ⟨ab,by rw [zL];exact ab⟩ O (fun _=>rfl) rfl rfl rfl (fun _=>rfl) rfl fun _=>?_;rw [yk];refine Zo ?_;have a8:gP (G.set m s)=gP G:=Bb;have a5:=a4.trans (AU.row (h':=upd h4 b (some (.row (u64s (G.set m s)) 196))) (w:=[b]) (L:=G.set m s) a9 a0 (fun k hk b1=>zm b1) (fun c hc=>qq.1 hc) (zg _ _ _) a8 (WdD.set a4.wd zo));refine goOn (_,G.set m s,c5,m+1) ?_ ⟨rfl,rfl,rfl,rfl,rfl,rfl,rfl,eT⟩ ⟨a5,?_,?_,?_,?_,?_⟩
 ·show (gP (G.set m s)-(m+1))+(if c5=0 then 0 else 1)<(gP D-m)+(if c3=0 then 0 else 1);rw [a8,eP hc0];rcases K with K|⟨K,av,J⟩
  ·split<;>omega
  rw [I] at J;injection J with J
  rw [eS zo];omega
 ·simp only;rw [Ac];exact zjo W zo (zqi s I)
 ·show _≤gP (G.set m s);omega
 ·show (gP (G.set m s))≤_∨_;rw [a8];rcases K with K|⟨K,av,J⟩
  ·exact .inl zo
  rw [I] at J;injection J with J
  exact .inr ⟨zo,by show c5=0;omega⟩
 ·show c5<_;omega
 show m+1≤gP (G.set m s);omega
end
section
variable {len lo n:Nat}{h0:HF}{T:List Nat}
def SumO (lo:Nat)(h:HF)(n bS:Nat)(z:Int)(m:Nat):Prop:=∃vP vN P N e,3*lo≤bS∧bS<3*n∧gro bS=false∧h bS=some (.row [vP,vN] e)∧Gro h lo n 196 1 vP (gP P) (u64s P)∧Gro h lo n 196 1 vN (gP N) (u64s N)∧WdD P∧WdD N∧(∀b,BkOf vP b→¬BkOf vN b)∧z=(wv P:Int)-wv N∧gP P≤m∧gP N≤m
theorem SumO.ext {z:Int}(s:SumO lo h n bS z m)(x:Ext n h h')(a:n≤n'):SumO lo h' n' bS z m:=by
 obtain ⟨o,l,P,N,e,b,c,d,f,g,i,j⟩:=s;exact ⟨o,l,P,N,e,b,zo,d,(x _ c).trans f,g.ext x a,i.ext x a,j⟩
theorem SumO.start (a:3*lo≤bS)(c:bS<3*n)(h3:gro bS=false)(d:h bS=some (.row [gS none 0 0,gS none 0 0] e)):SumO lo h n bS 0 0:=
 ⟨_,_,[],[],e,a,c,h3,d,.nil,.nil,WdD.nil,WdD.nil,fun b ⟨_,_,_,h⟩=>(by cases h),rfl,eU,eU⟩
theorem AU.gro (a:AU h0 n0 v0 h n w v T)(i:lo≤n0)(f:∀b,BkOf v0 b→3*lo≤b):Gro h lo n 196 1 v (gP T) (u64s T):=by
 have g:Gro h 0 n 196 1 v (gP T) (u64s T):=a.g;have d:=a.or;generalize (gP T)=tl at g;generalize u64s T=tc at g;cases g with
 |nil=>exact .nil
 | @at_ b _ _ hg _ hb hr hl ho2=>
  refine .at_ hg ?_ hb hr hl ho2;rcases d with e|c
  ·exact f _ ⟨_,_,_,e.symm⟩
  have c:3*n0≤b:=c;omega
theorem Gro.bk {C:List Value}(g:Gro h lo n e 1 v len C):∀b,BkOf v b→3*lo≤b∧b<3*n∧gro b=true:=by
 rintro b ⟨o,l,c,e⟩;cases g with
 |nil=>cases e
 |at_ hg hlo hb hr hl ho=>cases e;exact ⟨hlo,hb,hg⟩
theorem Gro.weak {C:List Value}(g:Gro h lo n e 1 v len C):Gro h 0 n e 1 v len C:=by
 cases g with
 |nil=>exact .nil
 |at_ hg hlo hb hr hl ho=>exact .at_ hg zo hb hr hl ho
theorem Gro.beside {u:Value}{C:List Value}(g:Gro h0 lo n0 e 1 u len C)(d:Keep v n0 h0 h)(a:∀b,BkOf u b→¬BkOf v b)(f:n0≤n):Gro h lo n e 1 u len C:=by
 cases g with
 |nil=>exact .nil
 |at_ hg hlo hb hr hl ho=>exact .at_ hg hlo zo ((d _ hb fun o l c e=>a _ ⟨_,_,_,rfl⟩ ⟨o,l,c,e⟩).trans hr) hl ho
theorem SumO.mono {z:Int}(s:SumO lo h n bS z m)(hm:m≤m'):SumO lo h n bS z m':=by
 obtain ⟨q,p,P,N,e,b,c,d,f,g,i,j,l,o,a,u,y⟩:=s;exact ⟨q,p,P,N,e,b,c,d,f,g,i,j,l,o,a,zo,zo⟩
theorem Gro.off {C:List Value}{x:Option BF}(g:Gro h lo n e 1 v len C)(hb:gro bS=false):Gro (upd h bS x) lo n e 1 v len C:=by
 cases g with
 |nil=>exact .nil
 |at_ hg hlo hbn hr hl ho=>exact .at_ hg hlo hbn ((zm fun e=>by rw [e,hb] at hg;cases hg).trans hr) hl ho
theorem zl1 {x y:Int}{p:Nat}(h:(decide (x<0)==decide (y<0))=true):(p:Int)-n+x*y=((p+x.natAbs*y.natAbs:Nat):Int)-n:=by
 have e:x*y=((x.natAbs*y.natAbs:Nat):Int):=by
  rw [Br];by_cases hx:x<0
  ·have a:y<0:=by
    rw [eH hx] at h;exact of_decide_eq_true (by simpa using h)
   rw [show (x.natAbs:Int)= -x by omega,show (y.natAbs:Int)= -y by omega,Int.neg_mul_neg]
  have a:¬y<0:=by
   rw [cA hx] at h;exact of_decide_eq_false (by simpa using h)
  rw [show (x.natAbs:Int)=x by omega,show (y.natAbs:Int)=y by omega]
 rw [e];omega
theorem zl2 {x y:Int}{p:Nat}(h:¬(decide (x<0)==decide (y<0))=true):(p:Int)-n+x*y=(p:Int)-((n+x.natAbs*y.natAbs:Nat):Int):=by
 have e:x*y= -((x.natAbs*y.natAbs:Nat):Int):=by
  rw [Br];by_cases hx:x<0
  ·have a:¬y<0:=fun a=>h (by rw [eH hx,eH a];rfl);rw [show (x.natAbs:Int)= -x by omega,show (y.natAbs:Int)=y by omega,F0,Dk]
  have a:y<0:=by
   refine tp fun a=>h (by rw [cA hx,cA a];rfl)
  rw [show (x.natAbs:Int)=x by omega,show (y.natAbs:Int)= -y by omega,Int.mul_neg,Dk]
 rw [e];omega
theorem nO (k:Nat){z:Int}{x y:Int}(hs:SumO lo h n bS z m)(a3:lo≤n)(ix:IW h lo b1 a1 l1 c1 x)(iy:IW h lo b2 a2 l2 c2 y)(sx:l1<40)(sy:l2<40)(hm:m≤1000):
  CF (cal (k+4)) 140 [mo (some ⟨bS,0,none⟩),.agg #[jx b1,gS a1 l1 c1],.agg #[jx b2,gS a2 l2 c2]] h n fun _ h' n' w=>SumO lo h' n' bS (z+x*y) (m+130)∧n≤n'∧Ext lo h h'∧(x*y=0∨bS∈w)∧∀c∈w,3*lo≤c:=by
 obtain ⟨rfl,X,sX,nX,vX⟩:=ix;obtain ⟨rfl,Y,sY,nY,vY⟩:=iy;have eX:=sX.lenW;have eY:=sY.lenW;subst eX eY;refine rT (fn:=Tryz.f140) R4 ?_;have U:x*y=0→SumO lo h n bS (z+x*y) (m+130):=fun e=>by rw [e,E1];exact hs.mono zo
 refine zN ?_;refine tK [jx (decide (x<0)),gS a1 (gP X) c1] R5 ?_;intro h5 p5 x5;refine tK [jx (decide (y<0)),gS a2 (gP Y) c2] R5 ?_;intro h6 p6 x6;have q5:=(x6 (3*n+2) zo).trans p5;have p:Ext n h h6:=x5.trans x6 (Al n);have I:∀(t:TF),x*y=0→(rI .ret=true∧∃vs,resF env ⟨t,h6,n+1+1,[]⟩ (Tryz.f140).results.toList=some vs∧(SumO lo h6 (n+1+1) bS (z+x*y) (m+130)∧n≤n+1+1∧Ext lo h h6∧(x*y=0∨bS∈([]:List Nat))∧∀c∈([]:List Nat),3*lo≤c)∧(True→SumO lo h n bS (z+x*y) (m+130)∧n≤n∧Ext lo h h∧(x*y=0∨bS∈([]:List Nat))∧∀c∈([]:List Nat),3*lo≤c)):=fun t e=>
  ⟨rfl,[],rfl,⟨(U e).ext p zo,zo,p.mono a3,.inl e,fun c M=>eN M og⟩,fun _=>⟨U e,eU,Ext.refl _ _,.inl e,fun c M=>eN M og⟩⟩
 refine Ze ?_;refine zT R6 q5 R2 ?_;refine zM ?_;by_cases hX0:gP X=0
 ·have hx:x=0:=by rw [vT.1 hX0] at vX;have:wv []=0:=rfl;omega
  refine Zt ?_;exact I _ (by rw [hx,C8])
 repeat refine zR ?_
 refine zT R6 p6 R2 ?_;refine zM ?_;by_cases hY0:gP Y=0
 ·have hy:y=0:=by rw [vT.1 hY0] at vY;have:wv []=0:=rfl;omega
  refine Zt ?_;exact I _ (by rw [hy,Dq])
 refine Zz ?_;refine zT R6 q5 R2 ?_;refine zM ?_;refine zT R6 p6 R2 ?_;refine st_B (a:= !(decide (x<0)==decide (y<0))) R5 ?_;obtain ⟨Z,V,P,N,e,h1,h2,G,h4,D,B,wP,wN,hd,hz,lP,lN⟩:=hs;have q6:=(p bS h2).trans h4;have a5:=sX.ext (p.mono a3) (show lo≤n+1+1 by omega);have a6:=sY.ext (p.mono a3) (show lo≤n+1+1 by omega);have F:∀{v:Value} {len:Nat} {C:List Value} {e:TypeId} (_:Gro h lo n e 1 v len C) (a:Option Addr) (l c:Nat) {cs:List Value} (_:Sl h lo 1 (gS a l c) cs),∀b,BkOf v b→Off b (gS a l c):=fun g a l c _ s b L=>s.below.off (g.bk b L).1;clear I U;refine zN ?_;by_cases hsg:(decide (x<0)==decide (y<0))=true
 ·rw [za (by show jx _=_;rw [hsg];rfl)];refine zl [0,0,2,6,14,0,32,0,128,510,1023,2047,4095] rfl ?_;refine dr_P R5 ?_;refine dr_P R5 ?_;refine dr_P R5 ?_;refine dr_P R5 ?_;refine yd R6 (zX rfl q6 R2) R2 ?_;refine dr_P R5 ?_;refine yd R6 (zX rfl q5 R2) R2 ?_;refine dr_P R5 ?_;refine yd R6 (zX rfl p6 R2) R2 ?_;refine wa _ R7 (rQ k (D.weak.ext p zo) wP a5 a6 nX.1 nY.1 (F D a1 (gP X) c1 sX) (F D a2 (gP Y) c2 sY) zo zo) ?_;rintro v7 h7 S w7 ⟨d,f,e7,l7⟩;obtain ⟨j,rfl,_⟩:=Gro.shape f.g;have H:=f.hn;refine ⟨rfl,H,?_⟩;have q7:h7 bS=some (.row [Z,V] e):=(f.keep bS zo fun o l c i=>by
   have:=(D.bk bS ⟨o,l,c,i⟩).2.2;rw [G] at this;cases this).trans q6
  refine dr_P R5 ?_;refine dr_P R5 ?_;refine mX (W:=[bS]) rfl rfl rfl (xn (h:=h7) (n:=S) rfl rfl rfl rfl q7 zb) rfl rfl rfl eU ?_;rw [lz];refine zN ?_;have g7:=f.gro (lo:=lo) zo fun b L=>(D.bk b L).1;have g8:=g7.off G (x:=some (.row [gS j (gP d) (gP d),V] e));have a0:=((B.ext p zo).beside (n:=S) f.keep (fun b u A=>hd b A u) H).off G (x:=some (.row [gS j (gP d) (gP d),V] e));have q:bS∈addW n [bS] (addW n w7 []):=wQ h2 (qq.2 rfl);refine ⟨rfl,[],rfl,⟨⟨_,V,d,N,e,h1,zo,G,zg _ _ _,g8,a0,f.wd,wN,?_,?_,zo,zo⟩,by show n≤S;omega,fun b L=>?_,.inr q,fun c M=>?_⟩,fun R=>?_⟩
  ·intro b u A;have q1:=B.bk b A;have a4:gS j (gP d) (gP d)=Z∨xC (n+1+1) (gS j (gP d) (gP d)):=f.or;rcases a4 with i|O
   ·exact hd b (i▸u) A
   obtain ⟨o,l,c,i⟩:=u;have i:gS j (gP d) (gP d)=gS (some ⟨b,o,none⟩) l c:=i;rw [i] at O;have O:3*(n+1+1)≤b:=O;omega
  ·rw [e7,vX,vY,hz];exact zl1 hsg
  ·refine (zm zo).trans ((f.keep b zo fun o l c i=>?_).trans (p b zo));have:=(D.bk b ⟨o,l,c,i⟩).1;omega
  ·rcases tI _ _ c M with ⟨J,_⟩|J
   ·rw [qq.1 J];exact h1
   rcases tI _ _ c J with ⟨K,_⟩|K
   ·exact (D.bk c (f.hw c K)).1
   exact eN K og
  have R:addW n [bS] (addW n w7 [])=[]:=R;rw [R] at q;exact eN q og
 rw [ze (by show jx _=_;rw [Bool.eq_false_iff.2 hsg];rfl)];refine zl [0,0,2,6,14,0,32,0,128,510,1023,2047,4095] rfl ?_;refine dr_P R5 ?_;refine dr_P R5 ?_;refine dr_P R5 ?_;refine dr_P R5 ?_;refine yd R6 (zX rfl q6 R2) R2 ?_;refine dr_P R5 ?_;refine yd R6 (zX rfl q5 R2) R2 ?_;refine dr_P R5 ?_;refine yd R6 (zX rfl p6 R2) R2 ?_;refine wa _ R7 (rQ k (B.weak.ext p zo) wN a5 a6 nX.1 nY.1 (F B a1 (gP X) c1 sX) (F B a2 (gP Y) c2 sY) zo zo) ?_;rintro v7 h7 S w7 ⟨d,f,e7,l7⟩;obtain ⟨j,rfl,_⟩:=Gro.shape f.g;have H:=f.hn;refine ⟨rfl,H,?_⟩;have q7:h7 bS=some (.row [Z,V] e):=(f.keep bS zo fun o l c i=>by
  have:=(B.bk bS ⟨o,l,c,i⟩).2.2;rw [G] at this;cases this).trans q6
 refine dr_P R5 ?_;refine dr_P R5 ?_;refine mX (W:=[bS]) rfl rfl rfl (xn (h:=h7) (n:=S) rfl rfl rfl rfl q7 zb) rfl rfl rfl eU ?_;rw [lz];refine zN ?_;have g7:=f.gro (lo:=lo) zo fun b L=>(B.bk b L).1;have g8:=g7.off G (x:=some (.row [Z,gS j (gP d) (gP d)] e));have a0:=((D.ext p zo).beside (n:=S) f.keep (hd) H).off G (x:=some (.row [Z,gS j (gP d) (gP d)] e));have q:bS∈addW n [bS] (addW n w7 []):=wQ h2 (qq.2 rfl);refine ⟨rfl,[],rfl,⟨⟨Z,_,P,d,e,h1,zo,G,zg _ _ _,a0,g8,wP,f.wd,?_,?_,zo,zo⟩,by show n≤S;omega,fun b L=>?_,.inr q,fun c M=>?_⟩,fun R=>?_⟩
 ·intro b u A;have q1:=D.bk b u;have a4:gS j (gP d) (gP d)=V∨xC (n+1+1) (gS j (gP d) (gP d)):=f.or;rcases a4 with i|O
  ·exact hd b u (i▸A)
  obtain ⟨o,l,c,i⟩:=A;have i:gS j (gP d) (gP d)=gS (some ⟨b,o,none⟩) l c:=i;rw [i] at O;have O:3*(n+1+1)≤b:=O;omega
 ·rw [e7,vX,vY,hz];exact zl2 hsg
 ·refine (zm zo).trans ((f.keep b zo fun o l c i=>?_).trans (p b zo));have:=(B.bk b ⟨o,l,c,i⟩).1;omega
 ·rcases tI _ _ c M with ⟨J,_⟩|J
  ·rw [qq.1 J];exact h1
  rcases tI _ _ c J with ⟨K,_⟩|K
  ·exact (B.bk c (f.hw c K)).1
  exact eN K og
 have R:addW n [bS] (addW n w7 [])=[]:=R;rw [R] at q;exact eN q og
end
section
variable {lo n:Nat}
theorem zmz (k:Nat)(h:HF)(n:Nat)(b:Bool)(a:Option Addr)(l c:Nat):CF (cal (k+2)) 143 [.agg #[jx b,gS a l c]] h n fun v g j w=>v=.agg #[jx (!b&&decide (0<l)),gS a l c]∧n≤j∧w=[]∧Ext n h g:=by
 refine zw (fn:=Tryz.f143) R4 ?_;refine zN ?_;refine tK [jx b,gS a l c] R5 ?_;intro A p y;refine wt [jx false,gS none 0 0] R6 ?_;intro i q e;have d:=(e (3*n+2) zo).trans p;refine Ze ?_;refine zT R6 d R2 ?_;refine st_B (a:= !b) R5 ?_;refine zM ?_;refine zT R6 d R2 ?_;refine zF _ R5 (rx k i (n+1+1) (!b) a l c) ?_;rintro _ B D _ ⟨rfl,rfl,rfl,f⟩;have u:=(f (3*(n+1)+2) zo).trans q;refine mq [jx (!b&&decide (0<l)),gS a l c] R5 u R3 zb rfl (by show 3*n≤_;omega) ?_;intro C s o;refine zN ?_;exact uq R5 s rfl ⟨rfl,by show n≤n+1+1+1;omega,rfl,Ext.st ((y.trans e (Al n)).trans f zo) o zo⟩
theorem ff (k:Nat){z:Int}{x y:Int}(l:SumO lo h n bS z m)(d:lo≤n)(q:IW h lo b1 a1 l1 c1 x)(M:IW h lo b2 a2 l2 c2 y)(S:l1<40)(T:l2<40)(hm:m≤1000):
  CF (cal (k+5)) 141 [mo (some ⟨bS,0,none⟩),.agg #[jx b1,gS a1 l1 c1],.agg #[jx b2,gS a2 l2 c2]] h n fun _ u D w=>SumO lo u D bS (z-x*y) (m+130)∧n≤D∧Ext lo h u∧(x*y=0∨bS∈w)∧∀c∈w,3*lo≤c:=by
 have p:x=0↔l1=0:=by rw [q.2.zero];omega
 have s:=q.1;have L:∀{g:HF} (_:Ext lo h g),IW g lo (!b1&&decide (0<l1)) a1 l1 c1 (-x):=fun U=>⟨by
  rw [s];by_cases a:l1=0
  ·rw [a,p.2 a];rfl
  ·have:x≠0:=fun e=>a (p.1 e);rw [eH (show 0<l1 by omega),Bool.and_true];by_cases hx:x<0
   ·rw [eH hx,cA (show ¬ -x<0 by omega)];rfl
   ·rw [cA hx,eH (show -x<0 by omega)];rfl,by rw [Int.natAbs_neg];exact q.2.ext U eU⟩
 clear s p;refine rT (fn:=Tryz.f141) R4 ?_;refine zN ?_;refine tK [jx b1,gS a1 l1 c1] R5 ?_;intro h5 O V;refine tK [jx b2,gS a2 l2 c2] R5 ?_;intro v P I;have R:=(I (3*n+2) zo).trans O;have H:Ext n h v:=V.trans I (Al n);refine zN ?_;refine zl [0,0,2,0,15] rfl ?_;refine dr_P R5 ?_;refine yd R6 (yw R2 R rfl zb rfl) R2 ?_;refine wa _ R7 (zmz (k+2) v (n+1+1) b1 a1 l1 c1) ?_;rintro _ K n7 _ ⟨rfl,Z,rfl,W⟩;refine ⟨rfl,Z,?_⟩;have b:Ext n h K:=H.trans W zo;refine yd R6 (yw R2 P rfl zb rfl) R2 ?_;refine wa _ R7 (nO k (l.ext b zo) zo (L (b.mono d)) (M.ext (b.mono d) eU) S T hm) ?_;rintro v8 h8 N G ⟨F,y8,Y,A,C⟩;refine ⟨rfl,y8,?_⟩;rw [lz];have J:z+ -x*y=z-x*y:=by rw [F0,Int.sub_eq_add_neg]
 rw [J] at F;have B:bS<3*n:=by
  obtain ⟨_,_,_,_,_,_,g,_⟩:=l;exact g
 have f:x*y=0∨bS∈addW n G []:=by
  rcases A with a|a
  ·left;rw [F0] at a;omega
  exact .inr (wQ B a)
 refine ⟨rfl,[],rfl,⟨F,by show n≤N;omega,(b.mono d).trans Y eU,f,fun c j=>?_⟩,fun o=>?_⟩
 ·rcases tI _ _ c j with ⟨i,_⟩|i
  ·exact C c i
  exact eN i og
 have o:addW n G []=[]:=o;rw [o] at f;have a:x*y=0:=f.resolve_right og;exact ⟨by rw [a,Int.sub_zero];exact l.mono zo,eU,Ext.refl _ _,.inl a,fun c j=>eN j og⟩
end
theorem nq (k:Nat){h:HF}{n:Nat}{p q:Option Addr}{N s O u:Nat}{A C:List Nat}(B:Sl h n 1 (gS p N s) (u64s A))(i:Sl h n 1 (gS q O u) (u64s C))(P:NW A)(R:NW C)(hb:gP A<100000000)(G:wv C≤wv A):
  CF (cal (k+2)) 179 [gS p N s,gS q O u] h n fun v U n' w=>∃L,ResW n h v U n' w L∧wv L=wv A-wv C:=by
 refine zw (fn:=Tryz.f179) R4 ?_;have S:=B.lenW;have T:=i.lenW;subst S T;have o:gP C≤gP A:=by
  rcases Nat.lt_or_ge (gP A) (gP C) with j|j
  ·have:=P.len_lt R j;omega
  exact j
 refine Zd ?_;refine zM ?_;refine st_I (ik:=.i64) (a:=(gP A:Int)) R5 ?_;refine vB (len:=gP A) (cap:=gP A) R9 zo ?_;rw [show zn (gZ .u64 0)=[gZ .u64 0] from rfl,xO];generalize hh:upd h (3*n+2) _=h1;have d:∃e,h1 (3*n+2)=some (.row (u64s (ns (gP A) 0)) e):=⟨_,by rw [←hh,zg]⟩;obtain ⟨e,d⟩:=d;have f:Ext n h h1:=by rw [←hh];exact Ext.upd zo
 clear hh;refine Zu ?_;refine lZ (m:=gP A) (cs:=u64s A) R7 (uX (B.ext f (Al n))) eU d (by rw [zL,zL,ru];omega) (xW _) (by show 3*n≤3*n+2;omega) ?_;rw [List.drop_eq_nil_of_le (by rw [zL,zL,ru];omega),List.append_nil];generalize hh:upd h1 (3*n+2) _=h2;have H:h2 (3*n+2)=some (.row (u64s A) e):=by rw [←hh,zg]
 have g:Ext n h h2:=fun b hb=>by rw [←hh,zm zo];exact f b hb
 clear hh;refine Zu ?_;refine zF _ R5 (mB k (n:=n+1) (cX:=gP A) zo H eU P.1 (i.ext g (Al n)) R.1 (i.below.off zo) o zo G) ?_;rintro _ V n3 w3 ⟨L,⟨K,rfl,M,I⟩,D,F,a0⟩;try simp only [tH]
 rw [zV (w:=[]) fun y Z=>by rw [K y Z];show 3*n≤3*n+2;omega];refine Zb ?_;refine zM ?_;have J:=xi k (h:=V) (n:=n+1) (a:=some ⟨3*n+2,0,none⟩) (len:=gP A) (cap:=gP A) (l:=L) zo (fun _ e=>by injection e with e;rw [←e]) (xr zo I F);refine zF _ R5 J ?_;rintro _ _ _ _ ⟨rfl,rfl,rfl,rfl,Y⟩;refine Zb ?_;obtain ⟨t1,t2⟩:=xD D;exact retH _ ⟨rfl,(zi rfl),rfl⟩ ⟨_,⟨rfl,Al n,fun c W=>(M c zo zo).trans (g c W),Y,t1⟩,by rw [t2];omega⟩
section
variable {len lo n:Nat}
theorem Gro.form {C:List Value}(g:Gro h lo n e 1 v len C):∃a,v=gS a len len∧(∀b,a=some b→b.spot=none):=by
 cases g with
 |nil=>exact ⟨none,rfl,fun b h=>by cases h⟩
 |at_ hg hlo hb hr hl ho=>exact ⟨_,rfl,fun b h=>by injection h with h;rw [←h]⟩
theorem zot (k:Nat){z:Int}(T:SumO lo h n bS z m)(hm:m≤10000):CX (cal (k+4)) 142 [mo (some ⟨bS,0,none⟩)] h n (IV z):=by
 obtain ⟨vP,vN,P,N,e,h1,K,h3,M,C,B,wP,wN,hd,hz,lP,lN⟩:=T;obtain ⟨aP,rfl,Z⟩:=C.form;obtain ⟨aN,rfl,Y⟩:=B.form;refine zw (fn:=Tryz.f142) R4 ?_;refine zN ?_;refine wt [jx false,gS none 0 0] R6 ?_;intro h5 F o;have G:=(o bS K).trans M;have W:=C.sl.ext o (Al n);have V:=B.sl.ext o (Al n);obtain ⟨w,I⟩:=xD wP;obtain ⟨u,H⟩:=xD wN;have tP:=xU P;have tN:=xU N;refine zN ?_;refine zl [0,1,3,7,15,0,32,96,224,511,1023,2047] rfl ?_;refine dr_P R5 ?_;refine dr_P R5 ?_;refine dr_P R5 ?_;refine yd R6 (zX rfl G R2) R2 ?_;refine wa _ R7 (xi (k+2) (l:=P) zo Z W) ?_;rintro _ _ _ _ ⟨rfl,rfl,rfl,rfl,zP⟩;refine ⟨rfl,eU,?_⟩;refine dr_P R5 ?_;refine dr_P R5 ?_;refine dr_P R5 ?_;refine yd R6 (zX rfl G R2) R2 ?_;refine wa _ R7 (xi (k+2) (l:=N) zo Y V) ?_;rintro _ _ _ _ ⟨rfl,rfl,rfl,rfl,zNg⟩;refine ⟨rfl,eU,?_⟩;refine dr_S R5 ?_;refine dr_S R5 ?_;rw [lz];refine Zn ?_;refine yi _ R5 (uF k zP zNg w u zo) ?_;rintro _ rfl;rw [I,H];by_cases hle:wv N≤wv P
 ·have S:0≤cmpZ (wv P) (wv N):=by unfold cmpZ;split<;>(try split)<;>omega
  refine Zx ?_;refine zF _ R5 (nq (k+1) zP zNg w u zo zo) ?_;rintro v6 q a _ ⟨L,⟨rfl,y6,p,d,s⟩,A⟩;obtain ⟨f,c,g,rfl,_⟩:=d.len;refine zF _ R5 (rx (k+2) q a false f c g) ?_;rintro _ O U _ ⟨rfl,rfl,rfl,b⟩;have j:=(b (3*n+2) zo).trans ((p (3*n+2) zo).trans F);refine mq [jx false,gS f c g] R5 j R3 zb rfl (by show 3*n≤_;omega) ?_;intro R y i;refine zN ?_;refine uq R5 y rfl ⟨rfl,by show n≤a+1;omega,Ext.st ((o.trans p (Al n)).trans b zo) i zo,_,_,_,_,rfl,?_,?_⟩
  ·rw [cA zo]
  exact WW.only (cs:=[jx false,gS none 0 0]) ⟨L,d.ext b (Al a),s,zo⟩ j rfl i
 have S:cmpZ (wv P) (wv N)<0:=by unfold cmpZ;split<;>(try split)<;>omega
 refine Zl ?_;refine Zc ?_;refine zF _ R5 (nq (k+1) zNg zP u w zo zo) ?_;rintro v6 q a _ ⟨L,⟨rfl,y6,p,d,s⟩,A⟩;obtain ⟨f,c,g,rfl,_⟩:=d.len;refine zF _ R5 (rx (k+2) q a true f c g) ?_;rintro _ O U _ ⟨rfl,rfl,rfl,b⟩;have D:0<c:=by
  have:=d.lenW;subst this;refine Nat.pos_of_ne_zero fun J=>?_;rw [vT.1 J] at A;have:wv []=0:=rfl;omega
 rw [eH D];have j:=(b (3*n+2) zo).trans ((p (3*n+2) zo).trans F);refine mq [jx true,gS f c g] R5 j R3 zb rfl (by show 3*n≤_;omega) ?_;intro R y i;refine zN ?_;refine uq R5 y rfl ⟨rfl,by show n≤a+1;omega,Ext.st ((o.trans p (Al n)).trans b zo) i zo,_,_,_,_,rfl,?_,?_⟩
 ·rw [eH zo]
 exact WW.only (cs:=[jx false,gS none 0 0]) ⟨L,d.ext b (Al a),s,zo⟩ j rfl i
end
def rowL (N:Nat)(f:Nat→Int):List Int:=(AI N).map f
theorem yv {N:Nat}{f:Nat→Int}:gP (rowL N f)=N:=by unfold rowL;rw [mu,BH]
theorem vu {N j:Nat}{f:Nat→Int}(h:j<N):(rowL N f)[j]?=some (f j):=by unfold rowL;rw [As,Cq h];rfl
theorem fI {N:Nat}{f:Nat→Int}{zs:List Int}(c:gP zs=N)(h:∀j,j<N→zs[j]?=some (f j)):zs=rowL N f:=by
 refine BU fun j=>?_;by_cases hj:j<N
 ·rw [h j hj,vu hj]
 rw [Ae zo,Ae (by rw [yv];omega)]
theorem zht {N j:Nat}{f:Nat→Int}{q:Int}:(rowL N f).set j q=rowL N (swp f j q):=by
 refine fI (by rw [Bb,yv]) fun i c=>?_;rw [DK,yv];unfold swp;by_cases e:j=i
 ·subst e;rw [eS rfl,eS c,eS rfl]
 rw [eP e,eP fun q=>e q.symm,vu c]
def upU (U:Nat→Nat→Int)(i j:Nat)(q:Int):Nat→Nat→Int:=fun a=>if a=i then swp (U i) j q else U a
structure Tb (h:HF)(n m N:Nat)(B:Nat→Nat)(U:Nat→Nat→Int):Prop where
 o:∀a,a≤m→OZ h n (B a) (rowL N (U a))
 g:∀a,a≤m→gro (B a)=false
 j:∀a b,a≤m→b≤m→B a=B b→a=b
section
variable {n i j:Nat}{B:Nat→Nat}{U:Nat→Nat→Int}{q:Int}
theorem Tb.go (t:Tb h n m N B U)(T:Tr n h n' h')(e:∀a,a≤m→h' (B a)=h (B a)):Tb h' n' m N B U:=⟨fun a c=>(t.o a c).go intP.kp T (e a c),t.g,t.j⟩
theorem Tb.x (t:Tb h n m N B U)(T:Tx n h n' h'):Tb h' n' m N B U:=⟨fun a c=>(t.o a c).xx intP.kp T,t.g,t.j⟩
theorem Tb.as (t:Tb h n m N B U)(e:∀a b,a≤m→b<N→U a b=U' a b):Tb h n m N B U':=⟨fun a c=>(t.o a c).as (fI yv fun j f=>by rw [vu f,e a j c f]),t.g,t.j⟩
theorem Tb.set (t:Tb h n m N B U)(hi:i≤m)(o:OZ h' n (B i) ((rowL N (U i)).set j q))(S:Sto (B i) h h'):Tb h' n m N B (upU U i j q):=by
 refine ⟨fun a c=>?_,t.g,t.j⟩;unfold upU;split
 ·next e=>rw [e,←zht];exact o
 next e=>exact (t.o a c).go intP.kp (Tr.s S (Tr.refl _ _)) (S.1 _ fun f=>e (t.j a i c hi f))
theorem Tb.el (t:Tb h n m N B U)(hi:i≤m)(hj:j<N):∃b1 a1 l1 c1,At h (B i) (0+j*2) [jx b1,gS a1 l1 c1]∧IW h n b1 a1 l1 c1 (U i j):=by
 obtain ⟨c,⟨g,f,u,c,rfl,p⟩,_,v⟩:=(t.o i hi).get (vu hj) (off:=0+j*2) (sb _);exact ⟨g,f,u,c,v,p⟩
end
def upE (T:Nat→Nat→Int)(d:Int)(r e i j:Nat):Nat→Nat→Int:=fun a b=>if (a<i∨a=i∧b<j)∧a≠r∧b≠e then (T a b*T r e-T a e*T r b).tdiv d else T a b
section
variable {T:Nat→Nat→Int}{d:Int}{e i j a:Nat}
theorem zgz:upE T d r e 0 0=T:=by
 funext a b;unfold upE;rw [eP zo]
theorem pS (h:a=r∨b=e∨a=i∧j≤b):upE T d r e i j a b=T a b:=by
 unfold upE;rw [eP zo]
theorem dR (hi:i≠r)(hj:j≠e):upU (upE T d r e i j) i j ((T i j*T r e-T i e*T r j).tdiv d)=upE T d r e i (j+1):=by
 funext a b;unfold upU swp upE;by_cases h:a=i
 ·rw [eS h];by_cases h2:b=j
  ·rw [eS h2,eS zo,h,h2]
  rw [eP h2,h];by_cases h3:b<j∧b≠e
  ·rw [eS zo,eS zo]
  rw [eP zo,eP zo]
 rw [eP h];by_cases h3:a<i∧a≠r∧b≠e
 ·rw [eS zo,eS zo]
 rw [eP zo,eP zo]
theorem zlp:upE T d r e i e=upE T d r e i (e+1):=by
 funext a b;unfold upE;by_cases h3:(a<i∨a=i∧b<e)∧a≠r∧b≠e
 ·rw [eS h3,eS zo]
 rw [eP h3,eP zo]
theorem zg0 (hi:i≠r)(hj:j≠e)(h:T i j=0)(h':T i e=0∨T r j=0):upE T d r e i j=upE T d r e i (j+1):=by
 rw [←dR hi hj];have c:(T i j*T r e-T i e*T r j).tdiv d=0:=by rcases h' with h'|h'<;>rw [h,h']<;>simp
 rw [c];funext a b;unfold upU swp;split
 ·next q=>
  show _=if b=j then _ else _
  split
  ·next q2=>rw [q,q2,pS (.inr (.inr ⟨rfl,eU⟩)),h]
  rw [q]
 rfl
theorem zlm (hb:b<N):upE T d r e i N a b=upE T d r e (i+1) 0 a b:=by
 unfold upE;by_cases h3:(a<i∨a=i)∧a≠r∧b≠e
 ·rw [eS zo,eS zo]
 rw [eP zo,eP zo]
theorem zln:upE T d r e r 0 a b=upE T d r e (r+1) 0 a b:=by
 unfold upE;by_cases h3:a<r∧b≠e
 ·rw [eS zo,eS zo]
 rw [eP zo,eP zo]
end
structure Apa (l m bs:Nat)(d:Sol)(A:Adr)(B:Nat→Nat):Prop where
 bs:3*l≤bs
 lo:∀i,i≤m→3*l≤B i
 inj:∀i j,i≤m→j≤m→B i=B j→i=j
 ta:∀i,i≤m→∃zs,d.ta[i]?=some (B i,zs)
 dj:∀b,BkOf (gS A.nb (gP d.nb) (gP d.nb)) b→¬BkOf (gS A.ba (gP d.ba) (gP d.ba)) b
section
variable {n:Nat}{s:PS}{B:Nat→Nat}
theorem Apa.at (f:Apa l m bs d A B)(p:SolP n m d s){i:Nat}(hi:i≤m):d.ta[i]?=some (B i,rowL n (s.T i)):=by
 obtain ⟨zs,e⟩:=f.ta i hi;obtain ⟨r,c,g,o⟩:=p.ta i hi;rw [e] at c;cases c;have q:zs=rowL n (s.T i):=fI g o;rw [e,q]
theorem Apa.tb (c:Apa l m bs d A B)(g:SM l h n0 bs d A)(o:SolP n m d s):Tb h n0 m n B s.T:=
 ⟨fun a f=>(g.rw _ (mp (c.at o f))).1,fun a f=>(g.rw _ (mp (c.at o f))).2,c.inj⟩
theorem Apa.ne (v:Apa l m bs d A B)(o:SM l h n0 bs d A)(D:SolP n m d s)(C:0<n){i:Nat}(hi:i≤m):B i≠bs:=fun e=>by
 obtain ⟨b,a,u,c,L,F,_⟩:=o.st;obtain ⟨H,G,K,I,p,_⟩:=(v.tb o D).el hi C;rw [e] at p;obtain ⟨f,J,g,w,_,y⟩:=p;rw [F] at g;cases g;cases w;cases y
end
theorem Rec.key {C:List Value}{p:List (Nat×List Int)}{h h':HF}{n n':Nat}(g:Rec 1 (fun c d=>rwP c d h n) C p):∀{f:List (Nat×List Int)},f.map (fun r=>(r.1,gP r.2))=p.map (fun r=>(r.1,gP r.2))→Rec 1 (fun c d=>rwP c d h' n') C f:=by
 induction g with
 |nil=>
  intro f e;cases f with
  |nil=>exact .nil
  |cons x y=>cases e
 |cons hl o hr ih=>
  intro f e;cases f with
  |nil=>cases e
  |cons x y=>
   injection e with e1 e2
   injection e1 with e3 e4
   refine .cons hl ?_ (ih e2);show _=_;have o:_=_:=o;rw [o,e3,e4]
theorem GR.key {lo n:Nat}{h:HF}{e:TypeId}{v:Value}{f c:List (Nat×List Int)}(g:GR 1 rwP lo h n e v f)(k:c.map (fun r=>(r.1,gP r.2))=f.map (fun r=>(r.1,gP r.2))):GR 1 rwP lo h n e v c:=by
 obtain ⟨C,o,p,u⟩:=g;have w:gP c=gP f:=by have:=congrArg gP k;rw [mu,mu] at this;exact this
 exact ⟨C,by rw [w];exact o,p.key k,u⟩
theorem SM.piv {l n0 n' bs m H I:Nat}{h h':HF}{d:Sol}{A:Adr}{B:Nat→Nat}{L:Int}{p w:List Nat}{o:List (Nat×List Int)}{b:Bool}{a:Option Addr}{u c:Nat}{ty:TypeId}(f:SM l h n0 bs d A)(W:∀a,a≤m→gro (B a)=false)(Z:A.ba=some ⟨H,0,none⟩)(hw:A.nb=some ⟨I,0,none⟩)(T:Tr n0 h n' h')(K:∀b,b<3*n0→b≠bs→(∀a,a≤m→b≠B a)→b≠H→b≠I→h' b=h b)
  (st:h' bs=some (.row [gZ .i64 (d.n:Int),gS A.sc (gP d.sc) (gP d.sc),gS A.lo (gP d.lo) (gP d.lo),gS A.hi (gP d.hi) (gP d.hi),gS A.va (gP d.va) (gP d.va),gS A.ba (gP d.ba) (gP d.ba),gS A.nb (gP d.nb) (gP d.nb),gS A.ta (gP d.ta) (gP d.ta),jx b,gS a u c] ty))(i:IW h' n' b a u c L)(O:gP p=gP d.ba)(R:gP w=gP d.nb)(ob:GR 1 natP l h' n' 3 (gS A.ba (gP d.ba) (gP d.ba)) p)(on:GR 1 natP l h' n' 3 (gS A.nb (gP d.nb) (gP d.nb)) w)(k:o.map (fun r=>(r.1,gP r.2))=d.ta.map (fun r=>(r.1,gP r.2)))(V:∀r∈o,OZ h' n' r.1 r.2∧gro r.1=false):SM l h' n' bs {d with den:=L,ba:=p,nb:=w,ta:=o} A:=by
 have S:gP o=gP d.ta:=by have:=congrArg gP k;rw [mu,mu] at this;exact this
 have F:∀{sz:Nat} {D:Type} {P:List Value→D→HF→Nat→Prop} {ds:List D} {v:Value} {e:TypeId},GR sz P l h n0 e v ds→(∀b,BkOf v b→b≠H∧b≠I)→∀b,BkOf v b→h' b=h b:=fun g J b y=>by
  have C:=g.bk b y;exact K b C.2.1 (fun q=>by rw [q,f.bs.2] at C;cases C.2.2.1) (fun a Y q=>by rw [q,W a Y] at C;cases C.2.2.1) (J b y).1 (J b y).2
 have G:∀{sz:Nat} {D:Type} {P:List Value→D→HF→Nat→Prop} {ds:List D} {v:Value} {e:TypeId},GR sz P l h n0 e v ds→e≠3→∀b,BkOf v b→b≠H∧b≠I:=fun g M b y=>
  ⟨fun q=>g.ne f.ba M b y ⟨0,gP d.ba,gP d.ba,by rw [Z,q]⟩,fun q=>g.ne f.nb M b y ⟨0,gP d.nb,gP d.nb,by rw [hw,q]⟩⟩
 refine ⟨⟨b,a,u,c,ty,?_,i⟩,⟨by have:=f.bs.1;have:=T.1;omega,f.bs.2⟩,f.sc.go ratP.kp T (F f.sc (G f.sc zd)),f.lo.go bndZ.kp T (F f.lo (G f.lo zd)),f.hi.go bndZ.kp T (F f.hi (G f.hi zd)),f.va.go ratP.kp T (F f.va (G f.va zd)),?_,?_,?_,V,f.dj⟩
 ·show h' bs=some (.row [_,_,_,_,_,gS A.ba (gP p) (gP p),gS A.nb (gP w) (gP w),gS A.ta (gP o) (gP o),_,_] ty);rw [O,R,S];exact st
 ·show GR _ _ _ _ _ _ (gS A.ba (gP p) (gP p)) _;rw [O];exact ob
 ·show GR _ _ _ _ _ _ (gS A.nb (gP w) (gP w)) _;rw [R];exact on
 show GR _ _ _ _ _ _ (gS A.ta (gP o) (gP o)) _;rw [S];exact (f.ta.go rwP.kp T (F f.ta (G f.ta zd))).key k
section
variable {c:List Value}{i:Nat}
theorem WW.l39P {h:HF}{n:Nat}{a:Option Addr}{l c m:Nat}(i:WW h n a l c m)(hm:m<BW):l<40:=by
 obtain ⟨L,f,g,rfl⟩:=i;have:=g.len39 hm;have:=f.lenW;omega
theorem za9 {a b c f:Int}{O T:Nat}(p:a.natAbs<2^O)(q:b.natAbs<2^T)(h3:c.natAbs<2^O)(u:f.natAbs<2^T)(h:O+T+1≤2496):(0+a*b-c*f).natAbs<BW:=by
 have g:=Dh p q;have o:=Dh h3 u;rw [←Bf] at g o;refine yU (e:=O+T+1) ?_ h;have:=GZ (a*b) (c*f);rw [AF,AF] at this;rw [Int.zero_add,Ac];omega
theorem At.k {h:HF}{b o:Nat}(a:At h b o c)(e:h' b=h b):At h' b o c:=by
 obtain ⟨y,f,g,p⟩:=a.ex;exact ⟨y,f,e.trans g,p⟩
def upB (T:Nat→Nat→Int)(d:Int)(m r e j:Nat):Nat→Nat→Int:=fun a b=>if a=r∧b<j then -T r b else upE T d r e (m+1) 0 a b
section
variable {T:Nat→Nat→Int}{d:Int}{e j a:Nat}
theorem zg3:upB T d m r e 0=upE T d r e (m+1) 0:=by
 funext a b;unfold upB;rw [eP zo]
theorem zlt:upB T d m r e j r j=T r j:=by
 unfold upB;rw [eP zo,pS (.inl rfl)]
theorem zg4:upU (upB T d m r e j) r j (-T r j)=upB T d m r e (j+1):=by
 funext a b;unfold upU swp;by_cases h:a=r
 ·rw [eS h];show (if b=j then _ else _)=_;unfold upB;by_cases h2:b=j
  ·rw [eS h2,eS zo,h2]
  rw [eP h2,h];by_cases h3:b<j
  ·rw [eS zo,eS zo]
  rw [eP zo,eP zo]
 rw [eP h];unfold upB;rw [eP zo,eP zo]
def upC (T:Nat→Nat→Int)(d:Int)(m r e j:Nat):Nat→Nat→Int:=upU (upB T d m r e j) r e d
def upD (U:Nat→Nat→Int)(i j:Nat):Nat→Nat→Int:=fun a b=>if a<i∨a=i∧b<j then -U a b else U a b
theorem zg1 {U:Nat→Nat→Int}:upD U 0 0=U:=by
 funext a b;unfold upD;rw [eP zo]
theorem zlr {U:Nat→Nat→Int}:upD U i j i j=U i j:=by
 unfold upD;rw [eP zo]
theorem zg2 {U:Nat→Nat→Int}:upU (upD U i j) i j (-U i j)=upD U i (j+1):=by
 funext a b;unfold upU swp;by_cases h:a=i
 ·rw [eS h];show (if b=j then _ else _)=_;unfold upD;by_cases h2:b=j
  ·rw [eS h2,eS zo,h,h2]
  rw [eP h2,h];by_cases h3:b<j
  ·rw [eS zo,eS zo]
  rw [eP zo,eP zo]
 rw [eP h];unfold upD;by_cases h3:a<i
 ·rw [eS zo,eS zo]
 rw [eP zo,eP zo]
theorem zlq {U:Nat→Nat→Int}(hb:b<N):upD U i N a b=upD U (i+1) 0 a b:=by
 unfold upD;by_cases h3:a<i∨a=i
 ·rw [eS zo,eS zo]
 rw [eP zo,eP zo]
theorem zls {U:Nat→Nat→Int}(f:a≤m):upD U (m+1) 0 a b= -U a b:=by
 unfold upD;rw [eS zo]
theorem zjy (f:a≤m)(hb:b<N):sgn (T r e)*upC T d m r e N a b=pT T d r e a b:=by
 unfold upC pT upU swp;by_cases h:a=r
 ·rw [eS h,eS h];show _*(if b=e then _ else _)=_;by_cases h2:b=e
  ·rw [eS h2,eS h2]
  rw [eP h2,eP h2];unfold upB;rw [eS ⟨rfl,hb⟩]
 rw [eP h,eP h];unfold upB upE;rw [eP zo];by_cases h2:b=e
 ·rw [eP zo,eS h2,h2]
 rw [eS zo,eP h2]
end
def taL (m N:Nat)(B:Nat→Nat)(U:Nat→Nat→Int):List (Nat×List Int):=(AI (m+1)).map fun i=>(B i,rowL N (U i))
theorem zcs {m:Nat}{B:Nat→Nat}{U:Nat→Nat→Int}:gP (taL m N B U)=m+1:=by unfold taL;rw [mu,BH]
theorem zct {m:Nat}{B:Nat→Nat}{U:Nat→Nat→Int}(h:i≤m):(taL m N B U)[i]?=some (B i,rowL N (U i)):=by
 unfold taL;rw [As,Cq zo];rfl
theorem zl0 {l n m bs:Nat}{d:Sol}{A:Adr}{s:PS}{B:Nat→Nat}{U:Nat→Nat→Int}(f:SolP n m d s)(g:Apa l m bs d A B):(taL m n B U).map (fun r=>(r.1,gP r.2))=d.ta.map (fun r=>(r.1,gP r.2)):=by
 refine BU fun i=>?_;rw [As,As];by_cases h:i≤m
 ·rw [zct h,g.at f h];show some (B i,gP (rowL n (U i)))=some (B i,gP (rowL n (s.T i)));rw [yv,yv]
 rw [Ae (by rw [zcs];omega),Ae (by have:=f.tl;omega)]
section
variable {n T e:Nat}{s:PS}{a:Nat→Nat→Int}{B:Nat→Nat}
theorem zkc (k:Nat)(sm:SM l h n0 bs d A)(sp:SolP n m d s)(pb:PB n m a L s.toPT)(sz:SzP n m V T O BB d s)(lm:Lim V T O D BB)(ap:Apa l m bs d A B)(hr:r<m)(he:e<n)(ht:s.T r e≠0):
  CF (cal (k+12)) 90 [mo (some ⟨bs,0,none⟩),gZ .i64 (r:Int),gZ .i64 (e:Int)] h n0 fun _ h' u w=>n0≤u∧SM l h' u bs {d with den:=((s.T r e).natAbs:Int),ba:=d.ba.set r (s.nb e),nb:=d.nb.set e (s.bs r),ta:=taL m n B (pT s.T s.d r e)} A∧Tr n0 h u h'∧(∀b,b<3*n0→b≠bs→(∀a,a≤m→b≠B a)→¬BkOf (gS A.ba (gP d.ba) (gP d.ba)) b→¬BkOf (gS A.nb (gP d.nb) (gP d.nb)) b→h' b=h b)∧(∀c∈w,3*l≤c)∧(∀b,BkOf (gS A.nb (gP d.nb) (gP d.nb)) b→b∈w):=by
 obtain ⟨b0,a0,u0,c0,ty,st,i0⟩:=sm.st;have bg:=sm.bs.1;have ik:=sp.nm;have tl:=sp.tl;have nl:=sp.nl;have bl:=sp.bl;have tb:=ap.tb sm sp;have bh:=fun i hi=>ap.ne sm sp (i:=i) zo hi;have e6:=sp.de;have ig:=pb.tab.dp;have g0:=sz.dd;have ii:=lm.l2;have g1:=lm.l4;have ij:=lm.l5;have av:∀i c,i≤m→c<n→(s.T i c).natAbs<2^O:=fun i c hi hc=>by
  by_cases q:i=m
  ·rw [q];exact sz.tO c hc
  exact Af (sz.tT i zo c hc) (sN zd g1)
 obtain ⟨bt,aq,lt,ct,tt,it⟩:=tb.el (Bh hr) he;have fz:=(tb.o r (Bh hr)).1;obtain ⟨k1,o1,e1,m1,r1,t1⟩:=rwS.at sm.ta.rs (ap.at sp (Bh hr));refine rT (fn:=Tryz.f90) R4 ?_;refine zG ?_;refine sI e1 r1 ?_;refine sL t1 m1 0 ?_;refine zG ?_;refine sI rfl (show e<gP (rowL n (s.T r)) by rw [yv];exact he) ?_;refine sL tt fz 0 ?_;refine Zi ?_;intro h1 p1 x1;refine zG ?_;refine sS [jx bt,gS aq lt ct] ?_;intro h2 p2 o2;have T2:Tr n0 h (n0+1) h2:=zt;have K2:∀b,b<3*n0→(∀a,a≤m→b≠B a)→h2 b=h b:=fun b hb _=>(o2.1 b zo).trans (x1 b hb);have gt:Tb h2 (n0+1) m n B (upE s.T s.d r e 0 0):=by rw [zgz];exact tb.go T2 fun a ha=>(o2.1 _ (by have:=(tb.o a ha).1;omega)).trans (x1 _ (tb.o a ha).1)
 have e7:∀{b},BkOf (gS A.ta (gP d.ta) (gP d.ta)) b→∀a,a≤m→b≠B a:=fun hb a ha q=>by
  have:=(sm.ta.bk _ hb).2.2.1;rw [q,tb.g a ha] at this;cases this
 have iu:h2 bs=_:=(K2 bs bg fun a ha q=>bh a ha q.symm).trans st;clear x1 p1 o2;refine zG ?_;refine sF (α:=Nat) (fun z=>[(0,mo (some ⟨bs,0,none⟩)),(1,gZ .i64 (r:Int)),(2,gZ .i64 (e:Int)),(6,gS (some ⟨B r,0,none⟩) (gP (rowL n (s.T r))) (gP (rowL n (s.T r)))),(7,mo (some ⟨3*n0+2,0,none⟩)),(34,gS A.ta (gP d.ta) (gP d.ta)),(35,gZ .i64 (gP d.ta:Int)),(36,gZ .i64 (z:Int))]) (fun z h' u Z=>n0+1≤u∧Tb h' u m n B (upE s.T s.d r e z 0)∧Tr n0 h u h'∧(∀b,b<3*n0→(∀a,a≤m→b≠B a)→h' b=h b)∧h' (3*n0+2)=some (.row [jx bt,gS aq lt ct] 86)∧(∀c∈Z,∃a,a≤m∧c=B a)∧z≤m+1) (fun z=>m+1-z) 0 ⟨eU,gt,T2,K2,p2,fun c hc=>eN hc og,gH⟩ ?_
 ·rintro i t h3 n3 w3 ⟨y3,ac,T3,K3,p3,d1,hi⟩;have y3:n0+1≤n3:=y3;have ac:Tb h3 n3 m n B (upE s.T s.d r e i 0):=ac;have T3:Tr n0 h n3 h3:=T3;have K3:∀b,b<3*n0→(∀a,a≤m→b≠B a)→h3 b=h b:=K3;have p3:h3 (3*n0+2)=some (.row [jx bt,gS aq lt ct] 86):=p3;have hi:i≤m+1:=hi;refine zG ?_;by_cases q3:(i:Int)<(gP d.ta:Int)
  ·have y:i≤m:=zo;obtain ⟨k4,o4,e4,m4,r4,t4⟩:=rwS.at sm.ta.rs (ap.at sp y);have t4:=t4.k (K3 k4 m4 (e7 ⟨o4,_,_,by rw [e4]⟩));obtain ⟨b5,a5,l5,c5,t5,i5⟩:=ac.el y he;have fx:=(ac.o i y).1;refine zG ?_;refine sI e4 r4 ?_;refine sL t4 (show k4<3*n3 by omega) 0 ?_;refine zG ?_;refine sI rfl (show e<gP (rowL n (s.T i)) by rw [yv];exact he) ?_;refine sL t5 fx 0 ?_;refine Zi ?_;intro h6 p6 x6;refine zG ?_;refine sS [jx b5,gS a5 l5 c5] ?_;intro h7 p7 o7;have T7:Tr n3 h3 (n3+1) h7:=zt;have k7:Exo n3 h3 h7:=⟨fun b hb=>(o7.1 b zo).trans (x6 b hb)⟩;have ep:=ac.go T7 fun a ha=>k7.go _ (ac.o a ha).1;have ej:=(k7.go (3*n0+2) zo).trans p3;have dy:Tr n0 h (n3+1) h7:=T3.trans T7;have du:∀b,b<3*n0→(∀a,a≤m→b≠B a)→h7 b=h b:=fun b hb hn=>(k7.go b zo).trans (K3 b hb hn);have g7:=i5.t T7;clear x6 p6 o7;by_cases q4:(i:Int)=(r:Int)
   ·refine zG ?_;exact sK (i+1) ⟨zo,ep.as fun a b _ _=>by rw [show i=r by omega];exact zln,dy,du,ej,d1,by show i+1≤_;omega⟩
   have e8:i≠r:=zo;refine zG ?_;refine sF (α:=Nat) (fun z=>[(0,mo (some ⟨bs,0,none⟩)),(1,gZ .i64 (r:Int)),(2,gZ .i64 (e:Int)),(6,gS (some ⟨B r,0,none⟩) (gP (rowL n (s.T r))) (gP (rowL n (s.T r)))),(7,mo (some ⟨3*n0+2,0,none⟩)),(9,gS (some ⟨B i,0,none⟩) (gP (rowL n (s.T i))) (gP (rowL n (s.T i)))),(10,mo (some ⟨3*n3+2,0,none⟩)),(34,gS A.ta (gP d.ta) (gP d.ta)),(35,gZ .i64 (gP d.ta:Int)),(36,gZ .i64 (i:Int)),(48,gS (some ⟨B i,0,none⟩) (gP (rowL n (s.T i))) (gP (rowL n (s.T i)))),(49,gZ .i64 (gP (rowL n (s.T i)):Int)),(50,gZ .i64 (z:Int))]) (fun z h' u Z=>n3+1≤u∧Tb h' u m n B (upE s.T s.d r e i z)∧Tr (n3+1) h7 u h'∧(∀b,b<3*(n3+1)→b≠B i→h' b=h7 b)∧(∀c∈Z,∃a,a≤m∧c=B a)∧z≤n) (fun z=>n-z) 0 ⟨eU,ep,Tr.refl _ _,fun _ _ _=>rfl,d1,gH⟩ ?_;rintro j t Y v w8 ⟨y8,I,T8,K8,aw,hj⟩;have y8:n3+1≤v:=y8;have I:Tb Y v m n B (upE s.T s.d r e i j):=I;have T8:Tr (n3+1) h7 v Y:=T8;have K8:∀b,b<3*(n3+1)→b≠B i→Y b=h7 b:=K8;have hj:j≤n:=hj;have fy:B i<3*n0:=(tb.o i y).1;have be:Tr n0 h v Y:=dy.trans T8;have bc:∀b,b<3*n0→(∀a,a≤m→b≠B a)→Y b=h b:=fun b hb hn=>(K8 b zo (hn i y)).trans (du b hb hn);have bj:=(K8 (3*n0+2) zo zo).trans ej;have gj:=(K8 (3*n3+2) zo (by have:=fy;omega)).trans p7;have eL:gP (rowL n (s.T i))=n:=yv;refine zG ?_;by_cases q8:(j:Int)<(gP (rowL n (s.T i)):Int)
   ·have H:j<n:=zo;obtain ⟨b9,a9,l9,c9,t9,i9⟩:=I.el y H;rw [pS (.inr (.inr ⟨rfl,eU⟩))] at i9;have cv:=(I.o i y).1;refine zG ?_;refine sI rfl (show j<gP (rowL n (s.T i)) by omega) ?_;refine sL t9 cv 0 ?_;refine Zi ?_;intro ar b1 bm;refine zG ?_;refine sS [jx b9,gS a9 l9 c9] ?_;intro J gf bi;have an:Tr v Y (v+1) J:=zt;have ay:Exo v Y J:=⟨fun b hb=>(bi.1 b zo).trans (bm b hb)⟩;have c1:=I.go an fun a ha=>ay.go _ (I.o a ha).1;have i1:=(ay.go (3*n0+2) zo).trans bj;have i2:=(ay.go (3*n3+2) zo).trans gj;have b7:=i9.t an;have bq:=g7.t (T8.trans an);rw [pS (.inr (.inl rfl))] at bq;obtain ⟨cp,co,d5,cr,eo,ab⟩:=c1.el (Bh hr) H;rw [pS (.inl rfl)] at ab;have cu:=(c1.o r (Bh hr)).1;clear bm b1 bi;simp only [yu,xg,zK,yY];refine yj (α:=Bool) (fun z=>[(0,mo (some ⟨bs,0,none⟩)),(1,gZ .i64 (r:Int)),(2,gZ .i64 (e:Int)),(6,gS (some ⟨B r,0,none⟩) (gP (rowL n (s.T r))) (gP (rowL n (s.T r)))),(7,mo (some ⟨3*n0+2,0,none⟩)),(9,gS (some ⟨B i,0,none⟩) (gP (rowL n (s.T i))) (gP (rowL n (s.T i)))),(10,mo (some ⟨3*n3+2,0,none⟩)),(11,gZ .i64 (j:Int)),(12,mo (some ⟨3*v+2,0,none⟩)),(34,gS A.ta (gP d.ta) (gP d.ta)),(35,gZ .i64 (gP d.ta:Int)),(36,gZ .i64 (i:Int)),(48,gS (some ⟨B i,0,none⟩) (gP (rowL n (s.T i))) (gP (rowL n (s.T i)))),(49,gZ .i64 (gP (rowL n (s.T i)):Int)),(50,gZ .i64 (j:Int)),(72,jx z)]) (fun z h' u Z=>w8=Z∧v+1≤u∧Ext (v+1) J h'∧(z=true∧(j=e∨j≠e∧s.T i j=0∧(s.T i e=0∨s.T r j=0))∨z=false∧j≠e)) ?_ ?_
    ·have ce:(j:Int)≠(e:Int)→j≠e:=fun h q=>h (by rw [q]);by_cases q9:(j:Int)=(e:Int)
     ·refine zG ?_;exact zA true (by (repeat (first|exact trivial|refine ⟨rfl,?_⟩))) ⟨rfl,eU,Ext.refl _ _,.inl ⟨rfl,.inl zo⟩⟩
     refine zG ?_;refine sC (yK _ b7) ?_;rintro _ c4 a2 ⟨cq,rfl,ey⟩ b6 bn;rcases bvs ey with ⟨rfl,da⟩|⟨rfl,da⟩
     ·refine zG ?_;exact zA false (by (repeat (first|exact trivial|refine ⟨rfl,?_⟩))) ⟨rfl,b6,bn,.inr ⟨rfl,ce q9⟩⟩
     refine zG ?_;refine sC (yK _ (bq.x zx)) ?_;rintro _ a6 eg ⟨i6,rfl,ez⟩ j1 iz;rcases bvs ez with ⟨rfl,em⟩|⟨rfl,em⟩
     ·refine zG ?_;refine sI rfl (show j<gP (rowL n (s.T r)) by rw [yv];exact H) ?_;refine sL eo cu 0 ?_;refine zG ?_;refine sC (yK _ (ab.x zx)) ?_;rintro _ R F ⟨i7,rfl,f0⟩ dq j0;rcases bvs f0 with ⟨rfl,db⟩|⟨rfl,db⟩
      ·refine zG ?_;exact zA false (by (repeat (first|exact trivial|refine ⟨rfl,?_⟩))) ⟨rfl,(show Tx (v+1) J F R from zx).1,(show Tx (v+1) J F R from zx).2,.inr ⟨rfl,ce q9⟩⟩
      refine zG ?_;exact zA true (by (repeat (first|exact trivial|refine ⟨rfl,?_⟩))) ⟨rfl,(show Tx (v+1) J F R from zx).1,(show Tx (v+1) J F R from zx).2,.inl ⟨rfl,.inr ⟨ce q9,da,.inr db⟩⟩⟩
     refine zG ?_;exact zA true (by (repeat (first|exact trivial|refine ⟨rfl,?_⟩))) ⟨rfl,(show Tx (v+1) J eg a6 from zx).1,(show Tx (v+1) J eg a6 from zx).2,.inl ⟨rfl,.inr ⟨ce q9,da,.inl em⟩⟩⟩
    rintro z t G f _ ⟨rfl,a3,b2,hz⟩;have a3:v+1≤f:=a3;have b2:Ext (v+1) J G:=b2;have aa:Tr v Y f G:=an.e b2 a3;have c3:Exo (v+1) J G:=⟨b2⟩;have P:=c1.x ⟨a3,b2⟩;have d3:Exo v Y G:=⟨fun b hb=>(b2 b zo).trans (ay.go b hb)⟩;have ex:∀b,b<3*n0→(∀a,a≤m→b≠B a)→G b=h b:=fun b hb hn=>(d3.go b zo).trans (bc b hb hn);rcases hz with ⟨rfl,hz⟩|⟨rfl,hz⟩
    ·refine zG ?_;exact sK (j+1) ⟨zo,P.as fun a b _ _=>by rcases hz with rfl|⟨hz,h1,h2⟩;rw [zlp];rw [zg0 e8 hz h1 h2],T8.trans aa,fun b (hb:b<3*(n3+1)) hn=>(d3.go b zo).trans (K8 b hb hn),aw,by show j+1≤n;omega⟩
    have e3:Tr n0 h f G:=be.trans aa;refine Zi ?_;intro M gi ae;have gk:SumO f M (f+1) (3*f+2) 0 0:=SumO.start zo zo (zB f) gi;have ax:IW M f b9 a9 l9 c9 (s.T i j):=(b7.x ⟨a3,c3.go⟩).ext ae eU;have az:IW M f bt aq lt ct (s.T r e):=(it.t e3).ext ae eU;have ec:IW M f b5 a5 l5 c5 (s.T i e):=(bq.x ⟨a3,c3.go⟩).ext ae eU;have ed:IW M f cp co d5 cr (s.T r j):=(ab.x ⟨a3,c3.go⟩).ext ae eU;refine zG ?_;refine zF _ R5 (nO _ gk zs ax az (ax.2.l39P (yU (av _ _ y H) zo)) (az.2.l39P (yU (av _ _ (Bh hr) he) zo)) zo) ?_;rintro _ ag io ix ⟨gl,j2,b3,_,f4⟩;rw [zV (fun b hb=>by have:=f4 b hb;show 3*n0≤b;omega)];have b3:Ext f M ag:=b3;have bz:ag bs=_:=(b3 bs zo).trans ((ae bs zo).trans ((ex bs bg fun a ha q=>bh a ha q.symm).trans st));have fa:=eo.ext c3.go cu;refine zG ?_;refine zl [0,0,0,6,14,31] rfl ?_;refine zH ?_;refine dI rfl (show j<gP (rowL n (s.T r)) by rw [yv];exact H) ?_;refine dL fa (show B r<3*f by omega) 0 ?_;refine zH ?_;refine wa _ R7 (ff _ gl zo (ec.ext b3 eU) (ed.ext b3 eU) (ec.2.l39P (yU (av _ _ y he) zo)) (ed.2.l39P (yU (av _ _ (Bh hr) H) zo)) zo) ?_;rintro _ fw ip iy ⟨gm,gy,ci,_,f5⟩;refine ⟨rfl,gy,?_⟩;have ci:Ext f ag fw:=ci;rw [lz,zV (fun b hb=>by have:=f5 b hb;show 3*n0≤b;omega)];refine zG ?_;refine zl [0,0,0,0,8,24,56,124,255,511] rfl ?_;refine zH ?_;refine dC (zot _ gm zo) ?_;rintro _ c6 eh ⟨i8,i4,il,ic,rfl,g5⟩ j3 et;have i3:c6 bs=_:=(et bs zo).trans ((ci bs zo).trans bz);refine zH ?_;have ee:Exo f G c6:=⟨fun b hb=>(et b zo).trans ((ci b zo).trans ((b3 b zo).trans (ae b hb)))⟩;have f6:IW c6 eh b0 a0 u0 c0 s.d:=((i0.t e3).ext ee.go zo).as e6;refine dC (quoX _ g5 f6 (za9 (av _ _ y H) (sz.tT r hr e he) (av _ _ y he) (sz.tT r hr j H) zo) (yU g0 zo) zo) ?_;rintro _ cs d6 ⟨fo,fk,gb,fr,rfl,g6⟩ j4 dn;have dn:Ext eh c6 cs:=dn;have d7:f≤d6:=zo;have d4:Exo f G cs:=⟨fun b hb=>(dn b zo).trans (ee.go b hb)⟩;have dk:=P.x (n':=d6) ⟨d7,d4.go⟩;have fh:Tr f G d6 cs:=⟨d7,fun c hc=>.inl (d4.go c hc)⟩;have ou:=dk.o i y;refine zH ?_;refine dI rfl (show j<gP (rowL n (s.T i)) by omega) ?_;refine dZ (n0:=n0) (j:=j) [jx fo,gS fk gb fr] ou intP.kp (by rw [yv];exact H) (sb _) ⟨_,_,_,_,rfl,g6⟩ ?_;intro ie ge cl _;have dl:=dk.set y ge cl;rw [Int.zero_add,dR e8 hz] at dl;refine zG ?_;exact sK (j+1) ⟨zo,dl,Tr.s cl (T8.trans (aa.trans fh)),fun b (hb:b<3*(n3+1)) hn=>(cl.1 b hn).trans ((d4.go b zo).trans ((d3.go b zo).trans (K8 b hb hn))),yL (fun c hc=>⟨i,y,qq.1 hc⟩) aw,by show j+1≤n;omega⟩
   have H:j=n:=zo;subst H;refine zG ?_;exact sK (i+1) ⟨zo,I.as fun a b _ hb=>zlm hb,be,bc,bj,aw,by show i+1≤_;omega⟩
  have cx:i=m+1:=zo;subst cx;rw [←zg3] at ac;refine zG ?_;have eR:gP (rowL n (s.T r))=n:=yv;refine sF (α:=Nat) (fun z=>[(0,mo (some ⟨bs,0,none⟩)),(1,gZ .i64 (r:Int)),(2,gZ .i64 (e:Int)),(6,gS (some ⟨B r,0,none⟩) (gP (rowL n (s.T r))) (gP (rowL n (s.T r)))),(7,mo (some ⟨3*n0+2,0,none⟩)),(93,gS (some ⟨B r,0,none⟩) (gP (rowL n (s.T r))) (gP (rowL n (s.T r)))),(94,gZ .i64 (gP (rowL n (s.T r)):Int)),(95,gZ .i64 (z:Int))]) (fun z h' u Z=>n3≤u∧Tb h' u m n B (upB s.T s.d m r e z)∧Tr n3 h3 u h'∧(∀b,b<3*n3→b≠B r→h' b=h3 b)∧(∀c∈Z,∃a,a≤m∧c=B a)∧z≤n) (fun z=>n-z) 0 ⟨eU,ac,Tr.refl _ _,fun _ _ _=>rfl,d1,gH⟩ ?_
  ·rintro j t Y v w8 ⟨y8,I,T8,K8,aw,hj⟩;have y8:n3≤v:=y8;have I:Tb Y v m n B (upB s.T s.d m r e j):=I;have T8:Tr n3 h3 v Y:=T8;have K8:∀b,b<3*n3→b≠B r→Y b=h3 b:=K8;have hj:j≤n:=hj;have W:=Bh hr;have be:Tr n0 h v Y:=T3.trans T8;have bc:∀b,b<3*n0→(∀a,a≤m→b≠B a)→Y b=h b:=fun b hb hn=>(K8 b zo (hn r W)).trans (K3 b hb hn);have bj:=(K8 (3*n0+2) zo zo).trans p3;refine zG ?_;by_cases q8:(j:Int)<(gP (rowL n (s.T r)):Int)
   ·have H:j<n:=zo;obtain ⟨b9,a9,l9,c9,t9,i9⟩:=I.el W H;rw [zlt] at i9;have cv:=(I.o r W).1;refine zG ?_;refine sI rfl (show j<gP (rowL n (s.T r)) by omega) ?_;refine sL t9 cv 0 ?_;refine Zi ?_;intro ar b1 bm;refine zG ?_;refine sS [jx b9,gS a9 l9 c9] ?_;intro J gf bi;have an:Tr v Y (v+1) J:=zt;have ay:Exo v Y J:=⟨fun b hb=>(bi.1 b zo).trans (bm b hb)⟩;have b7:=i9.t an;clear bm b1 bi;refine zG ?_;refine sC (negX _ b7) ?_;rintro _ au a7 ⟨cp,co,d5,cr,rfl,ab⟩ b4 ch;have a1:Exo v Y au:=⟨fun b hb=>(ch b zo).trans (ay.go b hb)⟩;have a8:=I.x (n':=a7) ⟨zo,a1.go⟩;refine sI rfl (show j<gP (rowL n (s.T r)) by omega) ?_;refine sZ (n0:=n0) (j:=j) [jx cp,gS co d5 cr] (a8.o r W) intP.kp (by rw [yv];exact H) (sb _) ⟨_,_,_,_,rfl,ab⟩ ?_;intro c4 gc ck;have df:=a8.set W gc ck;rw [zg4] at df;refine zG ?_;exact sK (j+1) ⟨zo,df,Tr.s ck (T8.trans ⟨zo,fun c hc=>.inl (a1.go c hc)⟩),fun b (hb:b<3*n3) hn=>(ck.1 b hn).trans ((a1.go b zo).trans (K8 b hb hn)),yL (fun c hc=>⟨r,W,qq.1 hc⟩) aw,by show j+1≤n;omega⟩
   have H:j=n:=zo;subst H;have cw:∀a,a≤m→bs≠B a:=fun a ha q=>bh a ha q.symm;have gn:=(bc bs bg cw).trans st;refine zG ?_;refine sI rfl (show e<gP (rowL j (s.T r)) by omega) ?_;refine sZ (n0:=n0) (j:=e) [jx b0,gS a0 u0 c0] (I.o r W) intP.kp (by rw [yv];exact he) (sb _) ⟨_,_,_,_,rfl,i0.t be⟩ ?_;intro h9 o9 S9;have eq:=I.set W o9 S9;have en:=(S9.1 bs (cw r W)).trans gn;have ek:=(S9.1 (3*n0+2) (by have:=(tb.o r W).1;omega)).trans bj;have fd:=Tr.s S9 be;refine zG ?_;refine sSx (n0:=n0) [gZ .i64 (d.n:Int),gS A.sc (gP d.sc) (gP d.sc),gS A.lo (gP d.lo) (gP d.lo),gS A.hi (gP d.hi) (gP d.hi),gS A.va (gP d.va) (gP d.va),gS A.ba (gP d.ba) (gP d.ba),gS A.nb (gP d.nb) (gP d.nb),gS A.ta (gP d.ta) (gP d.ta),jx bt,gS aq lt ct] en ?_;intro ar b1 al;have cm:=Tr.s al fd;have d2:=it.t cm;have dv:∀b,b<3*n0→b≠bs→(∀a,a≤m→b≠B a)→ar b=h b:=fun b hb h1 h2=>(al.1 b h1).trans ((S9.1 b (h2 r W)).trans (bc b hb h2));have d9:=(al.1 (3*n0+2) zo).trans ek;have aj:=eq.go (Tr.s al (Tr.refl _ _)) fun a ha=>al.1 _ (bh a ha);have bp:∀c∈addW n0 [bs] (addW n0 [B r] w8),c=bs∨∃a,a≤m∧c=B a:=yL (fun c hc=>.inl (qq.1 hc)) (yL (fun c hc=>.inr ⟨r,W,qq.1 hc⟩) fun c hc=>.inr (aw c hc));have c8:bs∈addW n0 [bs] (addW n0 [B r] w8):=wQ bg gN;generalize addW n0 [bs] (addW n0 [B r] w8)=w10 at bp c8 ⊢;clear eq en ek bj S9 al o9 I;rw [e6] at aj;have aj:Tb ar v m j B (upC s.T s.d m r e j):=aj;simp only [yu,xg,zK,yY];refine yj (α:=Bool) (fun z=>[(0,mo (some ⟨bs,0,none⟩)),(1,gZ .i64 (r:Int)),(2,gZ .i64 (e:Int)),(7,mo (some ⟨3*n0+2,0,none⟩)),(119,jx z)]) (fun z h' u Z=>w10=Z∧v≤u∧Ext v ar h'∧(z=true∧s.T r e<0∨z=false∧0<s.T r e)) ?_ ?_
   ·refine zG ?_;refine sC (zav _ (d2.t zt)) ?_;rintro _ J im ⟨ir,rfl,ai⟩ eu er;rcases ai with ⟨rfl,ai⟩|⟨rfl,ai⟩|⟨rfl,ai⟩
    ·refine zG ?_;exact zA true (by (repeat (first|exact trivial|refine ⟨rfl,?_⟩))) ⟨rfl,eu,er,.inl ⟨rfl,ai⟩⟩
    ·exact eN ai ht
    refine zG ?_;exact zA false (by (repeat (first|exact trivial|refine ⟨rfl,?_⟩))) ⟨rfl,eu,er,.inr ⟨rfl,ai⟩⟩
   rintro z t au a7 _ ⟨rfl,b4,ch,hz⟩;have b4:v≤a7:=b4;have a1:Exo v ar au:=⟨ch⟩;have cn:Tr n0 h a7 au:=cm.trans ⟨b4,fun c hc=>.inl (a1.go c hc)⟩;have cj:∀b,b<3*n0→b≠bs→(∀a,a≤m→b≠B a)→au b=h b:=fun b hb h1 h2=>(a1.go b zo).trans (dv b hb h1 h2);have f8:=(a1.go (3*n0+2) zo).trans d9;have bx:=(a1.go bs zo).trans b1;have a8:=aj.x ⟨b4,a1.go⟩;have ab:=d2.ext a1.go b4;clear ch;clear b1 d9 aj d2 dv cm a1;refine yj (α:=Bool×Option Addr×Nat×Nat) (fun _=>[(0,mo (some ⟨bs,0,none⟩)),(1,gZ .i64 (r:Int)),(2,gZ .i64 (e:Int))]) (fun z h' u Z=>a7≤u∧h' bs=some (.row [gZ .i64 (d.n:Int),gS A.sc (gP d.sc) (gP d.sc),gS A.lo (gP d.lo) (gP d.lo),gS A.hi (gP d.hi) (gP d.hi),gS A.va (gP d.va) (gP d.va),gS A.ba (gP d.ba) (gP d.ba),gS A.nb (gP d.nb) (gP d.nb),gS A.ta (gP d.ta) (gP d.ta),jx z.1,gS z.2.1 z.2.2.1 z.2.2.2] ty)∧IW h' u z.1 z.2.1 z.2.2.1 z.2.2.2 ((s.T r e).natAbs:Int)∧Tb h' u m j B (pT s.T s.d r e)∧Tr n0 h u h'∧(∀b,b<3*n0→b≠bs→(∀a,a≤m→b≠B a)→h' b=h b)∧(∀c∈Z,c=bs∨∃a,a≤m∧c=B a)∧bs∈Z) ?_ ?_
   ·rcases hz with ⟨rfl,hz⟩|⟨rfl,hz⟩
    ·refine zG ?_;refine sC (negX _ ab) ?_;rintro _ c4 a2 ⟨cq,e0,ef,e2,rfl,ea⟩ b6 bn;have cg:Exo a7 au c4:=⟨bn⟩;have b6:a7≤a2:=b6;have dc:=(bn bs zo).trans bx;refine zG ?_;refine sSx (n0:=n0) [gZ .i64 (d.n:Int),gS A.sc (gP d.sc) (gP d.sc),gS A.lo (gP d.lo) (gP d.lo),gS A.hi (gP d.hi) (gP d.hi),gS A.va (gP d.va) (gP d.va),gS A.ba (gP d.ba) (gP d.ba),gS A.nb (gP d.nb) (gP d.nb),gS A.ta (gP d.ta) (gP d.ta),jx cq,gS e0 ef e2] dc ?_;intro a6 gg am;have fe:Tr n0 h a2 a6:=Tr.s am (cn.trans ⟨b6,fun c hc=>.inl (cg.go c hc)⟩);have dw:∀b,b<3*n0→b≠bs→(∀a,a≤m→b≠B a)→a6 b=h b:=fun b hb h1 h2=>(am.1 b h1).trans ((cg.go b zo).trans (cj b hb h1 h2));have dg:=(a8.x ⟨b6,cg.go⟩).go (Tr.s am (Tr.refl _ _)) fun a ha=>am.1 _ (bh a ha);rw [←zg1 (U:=upC s.T s.d m r e j)] at dg;have g3:=ea.t (Tr.s am (Tr.refl a2 c4));have cy:∀c∈addW n0 [bs] w10,c=bs∨∃a,a≤m∧c=B a:=yL (fun c hc=>.inl (qq.1 hc)) bp;have ca:bs∈addW n0 [bs] w10:=wQ bg gN;clear bn cg dc am ea f8 bx a8 cn cj;generalize addW n0 [bs] w10=w14 at cy ca ⊢;refine zG ?_;refine sF (α:=Nat) (fun z=>[(0,mo (some ⟨bs,0,none⟩)),(1,gZ .i64 (r:Int)),(2,gZ .i64 (e:Int)),(128,gS A.ta (gP d.ta) (gP d.ta)),(129,gZ .i64 (gP d.ta:Int)),(130,gZ .i64 (z:Int))]) (fun z h' u Z=>a2≤u∧Tb h' u m j B (upD (upC s.T s.d m r e j) z 0)∧Tr a2 a6 u h'∧(∀b,b<3*a2→(∀a,a≤m→b≠B a)→h' b=a6 b)∧(∀c∈Z,c=bs∨∃a,a≤m∧c=B a)∧bs∈Z∧z≤m+1) (fun z=>m+1-z) 0 ⟨eU,dg,Tr.refl _ _,fun _ _ _=>rfl,cy,ca,gH⟩ ?_;rintro i t R F iv ⟨dq,b8,bf,ak,cz,cb,hi⟩;have dq:a2≤F:=dq;have b8:Tb R F m j B (upD (upC s.T s.d m r e j) i 0):=b8;have bf:Tr a2 a6 F R:=bf;have ak:∀b,b<3*a2→(∀a,a≤m→b≠B a)→R b=a6 b:=ak;have hi:i≤m+1:=hi;refine zG ?_;by_cases db:(i:Int)<(gP d.ta:Int)
     ·have y:i≤m:=zo;obtain ⟨k4,o4,e4,m4,r4,t4⟩:=rwS.at sm.ta.rs (ap.at sp y);have e9:=e7 ⟨o4,_,_,by rw [e4]⟩;have f2:k4≠bs:=fun q=>by
       have h1:=(sm.ta.bk k4 ⟨o4,_,_,by rw [e4]⟩).2.2.1;rw [q,sm.bs.2] at h1;cases h1
      have t4:=t4.k ((ak k4 zo e9).trans (dw k4 m4 f2 e9));refine zG ?_;refine sI e4 r4 ?_;refine sL t4 (show k4<3*F by omega) 0 ?_;refine zG ?_;have eL:gP (rowL j (s.T i))=j:=yv;refine sF (α:=Nat) (fun z=>[(0,mo (some ⟨bs,0,none⟩)),(1,gZ .i64 (r:Int)),(2,gZ .i64 (e:Int)),(17,gS (some ⟨B i,0,none⟩) (gP (rowL j (s.T i))) (gP (rowL j (s.T i)))),(128,gS A.ta (gP d.ta) (gP d.ta)),(129,gZ .i64 (gP d.ta:Int)),(130,gZ .i64 (i:Int)),(134,gS (some ⟨B i,0,none⟩) (gP (rowL j (s.T i))) (gP (rowL j (s.T i)))),(135,gZ .i64 (gP (rowL j (s.T i)):Int)),(136,gZ .i64 (z:Int))]) (fun z h' u Z=>F≤u∧Tb h' u m j B (upD (upC s.T s.d m r e j) i z)∧Tr F R u h'∧(∀b,b<3*F→b≠B i→h' b=R b)∧(∀c∈Z,c=bs∨∃a,a≤m∧c=B a)∧bs∈Z∧z≤j) (fun z=>j-z) 0 ⟨eU,b8,Tr.refl _ _,fun _ _ _=>rfl,cz,cb,gH⟩ ?_;rintro c t G f iw ⟨a3,P,aa,c2,d0,cc,hc⟩;have a3:F≤f:=a3;have P:Tb G f m j B (upD (upC s.T s.d m r e j) i c):=P;have aa:Tr F R f G:=aa;have c2:∀b,b<3*F→b≠B i→G b=R b:=c2;have hc:c≤j:=hc;refine zG ?_;by_cases q16:(c:Int)<(gP (rowL j (s.T i)):Int)
      ·have c7:c<j:=zo;obtain ⟨fl,fi,g9,fp,gp,eb⟩:=P.el y c7;rw [zlr] at eb;have f1:=(P.o i y).1;refine zG ?_;refine sI rfl (show c<gP (rowL j (s.T i)) by omega) ?_;refine sL gp f1 0 ?_;refine Zi ?_;intro id gh es;refine zG ?_;refine sS [jx fl,gS fi g9 fp] ?_;intro e5 iq ei;have fg:Tr f G (f+1) e5:=zt;have g8:Exo f G e5:=⟨fun b hb=>(ei.1 b zo).trans (es b hb)⟩;have g4:=eb.t fg;clear es gh ei;refine zG ?_;refine sC (negX _ g4) ?_;rintro _ M ah ⟨fm,fj,ga,fq,rfl,ax⟩ dr ae;have az:Exo f G M:=⟨fun b hb=>(ae b zo).trans (g8.go b hb)⟩;have bb:=P.x (n':=ah) ⟨zo,az.go⟩;refine sI rfl (show c<gP (rowL j (s.T i)) by omega) ?_;refine sZ (n0:=n0) (j:=c) [jx fm,gS fj ga fq] (bb.o i y) intP.kp (by rw [yv];exact c7) (sb _) ⟨_,_,_,_,rfl,ax⟩ ?_;intro fv d8 K;have dh:=bb.set y d8 K;rw [zg2] at dh;refine zG ?_;exact sK (c+1) ⟨zo,dh,Tr.s K (aa.trans ⟨zo,fun c hc=>.inl (az.go c hc)⟩),fun b (hb:b<3*F) hn=>(K.1 b hn).trans ((az.go b zo).trans (c2 b hb hn)),yL (fun c hc=>.inr ⟨i,y,qq.1 hc⟩) d0,nM _ _ _ cc,by show c+1≤j;omega⟩
      have c7:c=j:=zo;subst c7;refine zG ?_;exact sK (i+1) ⟨zo,P.as fun a b _ hb=>zlq hb,bf.trans aa,fun b (hb:b<3*a2) hn=>(c2 b zo (hn i y)).trans (ak b hb hn),d0,cc,by show i+1≤_;omega⟩
     have cx:i=m+1:=zo;subst cx;refine zG ?_;have e1:sgn (s.T r e)= -1:=eS hz;exact zA (cq,e0,ef,e2) (by (repeat (first|exact trivial|refine ⟨rfl,?_⟩))) ⟨(show a7≤F by omega),(ak bs zo cw).trans gg,(g3.t bf).as zo,b8.as fun a b ha hb=>by rw [zls ha,←zjy ha hb,e1];omega,fe.trans bf,fun b hb h1 h2=>(ak b zo h2).trans (dw b hb h1 h2),cz,cb⟩
    refine zG ?_;have e1:sgn (s.T r e)=1:=eP zo;exact zA (bt,aq,lt,ct) (by (repeat (first|exact trivial|refine ⟨rfl,?_⟩))) ⟨eU,bx,ab.as zo,a8.as fun a b ha hb=>by rw [←zjy ha hb,e1,F5],cn,cj,bp,c8⟩
   rintro ⟨bd,ad,ud,cd⟩ t M ah dm ⟨dr,f9,ax,bb,ao,af,f3,gz⟩;have dr:a7≤ah:=dr;have ao:Tr n0 h ah M:=ao;have af:∀b,b<3*n0→b≠bs→(∀a,a≤m→b≠B a)→M b=h b:=af;have S:∀{b},gro b=true→b≠bs∧∀a,a≤m→b≠B a:=fun hb=>⟨fun q=>(by rw [q,sm.bs.2] at hb;cases hb),fun a ha q=>(by rw [q,tb.g a ha] at hb;cases hb)⟩;have fu:=sp.nb e he;have ft:=sp.ba r hr;obtain ⟨bv,ev,gv,lv,ov,gu⟩:=sm.ba.or rfl (show gP d.ba≠0 by omega);obtain ⟨bw,ew,gw,lw,ow,gx⟩:=sm.nb.or rfl (show gP d.nb≠0 by omega);injection ev with ev
   injection ew with ew
   have cf:bv≠bw:=fun q=>ap.dj bw ⟨0,gP d.nb,gP d.nb,by rw [ew]⟩ ⟨0,gP d.ba,gP d.ba,by rw [ev,q]⟩;have br:=ov.go natP.kp ao (af bv ov.1 (S gv).1 (S gv).2);have bu:=ow.go natP.kp ao (af bw ow.1 (S gw).1 (S gw).2);obtain ⟨ia,rfl,_,gq⟩:=bu.get fu (off:=0+e*1) zo;obtain ⟨ib,rfl,_,gs⟩:=br.get ft (off:=0+r*1) zo;have f7:n0≤ah:=ao.1;refine zG ?_;refine zl [0,1,3,7,0,0,32,96,224,0,0,1024,3072,7168,0,31744,64512,0,131072,393216,917504,0,4063232,8257536,16776703,33553919,67108863,134217727] rfl ?_;refine zH ?_;refine dI ew (show e<gP d.nb by omega) ?_;refine dL gq bu.1 0 ?_;refine zH ?_;refine dI ev (show r<gP d.ba by omega) ?_;refine dL gs br.1 0 ?_;refine dI ev (show r<gP d.ba by omega) ?_;refine dZ (n0:=n0) (j:=r) [gZ .i64 (s.nb e:Int)] br natP.kp zo (sb _) rfl ?_;intro fv d8 K fb;refine zH ?_;refine dI ew (show e<gP d.nb by omega) ?_;refine dZ (n0:=n0) (j:=e) [gZ .i64 (s.bs r:Int)] (bu.go natP.kp (Tr.s K (Tr.refl _ _)) (K.1 bw (fun q=>cf q.symm))) natP.kp zo (sb _) rfl ?_;intro ag gd a4 fc;refine zG ?_;have dz:Tr n0 h ah ag:=Tr.s a4 (Tr.s K ao);have di:=bb.go (Tr.s a4 (Tr.s K (Tr.refl _ _))) fun a ha=>(a4.1 _ fun q=>(S gw).2 a ha q.symm).trans (K.1 _ fun q=>(S gv).2 a ha q.symm);have dx:∀b,b<3*n0→b≠bs→(∀a,a≤m→b≠B a)→b≠bv→b≠bw→ag b=h b:=fun b hb h1 h2 h3 h4=>(a4.1 b h4).trans ((K.1 b h3).trans (af b hb h1 h2));have bz:=(a4.1 bs fun q=>(S gw).1 q.symm).trans ((K.1 bs fun q=>(S gv).1 q.symm).trans f9);have ds:Ty1 M bv 3:=by
    obtain ⟨C,hC⟩:=gu;exact ⟨C,(af bv ov.1 (S gv).1 (S gv).2).trans hC⟩
   have dt:Ty1 M bw 3:=by
    obtain ⟨C,hC⟩:=gx;exact ⟨C,(af bw ow.1 (S gw).1 (S gw).2).trans hC⟩
   have ob:=(d8.go natP.kp (Tr.s a4 (Tr.refl _ _)) (a4.1 bv cf)).gr natP.kp (by
    obtain ⟨C,hC⟩:=fb _ ds;exact ⟨C,(a4.1 bv cf).trans hC⟩) gv lv (L:=gP d.ba) (Bb ..)
   have on:=gd.gr natP.kp (fc _ (by
    obtain ⟨C,hC⟩:=dt;exact ⟨C,(K.1 bw fun q=>cf q.symm).trans hC⟩)) gw lw (L:=gP d.nb) (Bb ..)
   rw [←ev] at ob;rw [←ew] at on;have fs:SM l ag ah bs {d with den:=((s.T r e).natAbs:Int),ba:=d.ba.set r (s.nb e),nb:=d.nb.set e (s.bs r),ta:=taL m j B (pT s.T s.d r e)} A:=sm.piv tb.g ev ew dz dx bz (ax.t (Tr.s a4 (Tr.s K (Tr.refl _ _)))) (Bb ..) (Bb ..) ob on (zl0 sp ap) fun p hp=>by
    obtain ⟨q,hq,rfl⟩:=AZ.1 hp;have hq:=Dj.1 hq;exact ⟨di.o q zo,di.g q zo⟩
   have g2:∀c∈addW n0 [bw] (addW n0 [bv] dm),3*l≤c:=yL (fun c hc=>by rw [qq.1 hc];exact lw) (yL (fun c hc=>by rw [qq.1 hc];exact lv) fun c hc=>by
    rcases f3 c hc with rfl|⟨a,ha,rfl⟩
    ·exact ap.bs
    ·exact ap.lo a ha)
   have bo:bw∈addW n0 [bw] (addW n0 [bv] dm):=wQ ow.1 gN;refine ⟨rfl,[],rfl,⟨f7,fs,dz,fun b hb h1 h2 h3 h4=>dx b hb h1 h2 (fun q=>h3 ⟨0,gP d.ba,gP d.ba,by rw [ev,q]⟩) (fun q=>h4 ⟨0,gP d.nb,gP d.nb,by rw [ew,q]⟩),g2,fun b hb=>?_⟩,fun hw=>by rw [show addW n0 [bw] (addW n0 [bv] dm)=[] from hw] at bo;cases bo⟩;obtain ⟨o,l',c',q⟩:=hb;rw [ew] at q;injection q with q
   injection q with q
   injection q with q
   exact q▸bo
end
end
theorem cF {l:List Nat}{f:Nat→Nat}{N w x:Nat}(h:∀v,v<N→l[v]?=some (f v))(b:gP l=N):∀v,v<N→(l.set w x)[v]?=some (swp f w x v):=fun v a=>by
 rw [DK];unfold swp;by_cases e:w=v
 ·subst e;rw [eS rfl,eS zo,eS rfl]
 rw [eP e,eP fun q=>e q.symm];exact h v a
def Sol.piv (d:Sol)(m n:Nat)(B:Nat→Nat)(t:PT)(r e:Nat):Sol:={d with den:=((t.T r e).natAbs:Int),ba:=d.ba.set r (t.nb e),nb:=d.nb.set e (t.bs r),ta:=taL m n B (pT t.T t.d r e)}
section
variable {n e:Nat}{s:PS}{B:Nat→Nat}
theorem SolP.piv (a:SolP n m d s):SolP n m (d.piv m n B s.toPT r e) ⟨s.toPT.piv r e,s.x⟩:=
 ⟨(Bb ..).trans a.nl,cF a.nb a.nl,(Bb ..).trans a.bl,cF a.ba a.bl,a.vl,a.va,zcs,fun i f=>⟨_,zct f,yv,fun c b=>vu b⟩,rfl,a.ll,a.lh,a.nm,a.ls,a.dn⟩
theorem Apa.piv (a:Apa l m bs d A B){t:PT}:Apa l m bs (d.piv m n B t r e) A B:=
 ⟨a.bs,a.lo,a.inj,fun i c=>⟨_,zct c⟩,by
  show ∀b,BkOf (gS A.nb (gP (d.nb.set e (t.bs r))) (gP (d.nb.set e (t.bs r)))) b→¬BkOf (gS A.ba (gP (d.ba.set r (t.nb e))) (gP (d.ba.set r (t.nb e)))) b;rw [Bb,Bb];exact a.dj⟩
theorem Apa.mv (a:Apa l m bs d A B){va:List Rat}:Apa l m bs {d with va:=va} A B:=⟨a.bs,a.lo,a.inj,a.ta,a.dj⟩
end
theorem zqz {l:List (Bool×Rat)}{v:Nat}{x:Rat}{p:Bool×Rat}(h:l[v]?=some p):cG (bdF l) v x↔(p.1=false∨x<p.2):=by
 obtain ⟨b,q⟩:=p;unfold cG;cases b
 ·rw [pj h];exact ⟨fun _=>.inl rfl,fun _ u a=>by cases a⟩
 rw [xI h];exact ⟨fun h=>.inr (h q rfl),fun h u a=>by cases a;exact h.resolve_left (fun q=>by cases q)⟩
theorem zqy {l:List (Bool×Rat)}{v:Nat}{x:Rat}{p:Bool×Rat}(h:l[v]?=some p):cS (bdF l) v x↔(p.1=false∨p.2<x):=by
 obtain ⟨b,q⟩:=p;unfold cS;cases b
 ·rw [pj h];exact ⟨fun _=>.inl rfl,fun _ u a=>by cases a⟩
 rw [xI h];exact ⟨fun h=>.inr (h q rfl),fun h u a=>by cases a;exact h.resolve_left (fun q=>by cases q)⟩
section
variable {n k:Nat}{s:PS}
theorem zg7 {e:Nat}(d:Viol lo hi s r low g):suit lo hi (rdOf m s r e low) c↔(0<sgI (decide (0<s.T r c))*g.num∧s.T r c≠0∧cG hi (s.nb c) (s.x (s.nb c))∨sgI (decide (0<s.T r c))*g.num<0∧s.T r c≠0∧cS lo (s.nb c) (s.x (s.nb c))):=by
 have o:((s.T r c:Rat)<0↔s.T r c<0):=aE;have p:((0:Rat)<(s.T r c:Rat)↔0<s.T r c):=Cc;unfold suit rdOf;dsimp only;rw [o,p];unfold Viol at d;have w:sgI (decide (0<s.T r c))=if 0<s.T r c then 1 else -1:=by
  unfold sgI;by_cases q:0<s.T r c
  ·rw [eH q,eS rfl,eS q]
  rw [cA q,eP zd,eP q]
 rw [w];cases low with
 |true=>
  rw [eS rfl] at d ⊢;obtain ⟨l,u,v,rfl⟩:=d;have i:0<(l-s.x (s.bs r)).num:=by
   have b:0<l-s.x (s.bs r):=by grind
   have:=(CG (q:=l-s.x (s.bs r))).2 (Bc b);have:(l-s.x (s.bs r)).num≠0:=fun q=>by rw [Cr.1 q] at b;exact Ca b
   omega
  generalize (l-s.x (s.bs r)).num=z at i;split<;>constructor<;>rintro (⟨j,a⟩|⟨j,a⟩)
  ·exact .inl ⟨zo,zo,a⟩
  ·omega
  ·exact .inl ⟨zo,a.2⟩
  ·omega
  ·omega
  ·exact .inr ⟨zo,zo,a⟩
  ·omega
  exact .inr ⟨zo,a.2⟩
 |false=>
  rw [eP Ba] at d ⊢;obtain ⟨l,u,v,rfl⟩:=d;have i:(l-s.x (s.bs r)).num<0:=by
   have b:l-s.x (s.bs r)<0:=by grind
   have:=mt (CG (q:=l-s.x (s.bs r))).1 (B7.2 b);omega
  generalize (l-s.x (s.bs r)).num=z at i;split<;>constructor<;>rintro (⟨j,a⟩|⟨j,a⟩)
  ·omega
  ·exact .inr ⟨zo,zo,a⟩
  ·omega
  ·exact .inr ⟨zo,a.2⟩
  ·exact .inl ⟨zo,zo,a⟩
  ·omega
  ·exact .inl ⟨zo,a.2⟩
  omega
def SuP (n m:Nat)(lo hi:Nat→Option Rat)(s:PS)(r:Nat)(low:Bool)(k:Nat)(f:Int):Prop:=
 (f= -1∧∀c,c<k→¬suit lo hi (rdOf m s r 0 low) c)∨∃c:Nat,f=(c:Int)∧c<k∧suit lo hi (rdOf m s r 0 low) c∧∀c',c'<k→s.nb c'<s.nb c→¬suit lo hi (rdOf m s r 0 low) c'
theorem SuP.no (h:SuP n m lo hi s r low k f)(d:¬suit lo hi (rdOf m s r 0 low) k):SuP n m lo hi s r low (k+1) f:=by
 rcases h with ⟨h,b⟩|⟨c,j,b,l,o⟩
 ·refine .inl ⟨h,fun c p=>?_⟩;by_cases e:c=k
  ·rw [e];exact d
  exact b c zo
 refine .inr ⟨c,j,zo,l,fun a p i=>?_⟩;by_cases e:a=k
 ·rw [e];exact d
 exact o a zo i
theorem SuP.skip (h:SuP n m lo hi s r low k (c:Int))(q:s.nb c≤s.nb k):SuP n m lo hi s r low (k+1) (c:Int):=by
 rcases h with ⟨h,i⟩|⟨d,o,i,j,l⟩
 ·omega
 obtain rfl:c=d:=zo;refine .inr ⟨c,rfl,zo,j,fun a p b=>?_⟩;by_cases e:a=k
 ·subst e;omega
 exact l a zo b
theorem SuP.take (h:SuP n m lo hi s r low k f)(o:suit lo hi (rdOf m s r 0 low) k)(i:f= -1∨∃c:Nat,f=(c:Int)∧s.nb k≤s.nb c):SuP n m lo hi s r low (k+1) (k:Int):=by
 refine .inr ⟨k,rfl,B4 _,o,fun a b p=>?_⟩;have b:a<k:=by
  by_cases e:a=k
  ·subst e;omega
  omega
 rcases h with ⟨h,d⟩|⟨j,q,d,u,l⟩
 ·exact d a b
 rcases i with i|⟨c,e,hi⟩
 ·omega
 obtain rfl:c=j:=zo;exact l a b zo
end
structure Cap (n M Mo N V T O D B:Nat):Prop where
 t:fct n*(M^(n-1)*M)<2^T
 d:fct n*M^n<2^T
 o:fct n*(M^(n-1)*Mo)<2^O
 v1:vN n M N<2^V
 v2:vD n N<2^V
 s1:vN n M N*N+N*vD n N<2^D
 s2:vD n N*N<2^D
 b:N<2^B
theorem QB.sz {A B a:Nat}{q:Rat}(h:QB A B q)(i:A<2^a)(j:B<2^a):Sz a q:=by
 obtain ⟨x,y,b,c,f,g⟩:=h;have e:q=AK x y:=by
  rw [Bs,←c];have:(y:Rat)≠0:=fun e=>by have:=Bv.1 e;omega
  rw [Cd];exact (Rat.mul_div_cancel this).symm
 rw [e];exact xz b zo zo
section
variable {n T B:Nat}{s:PS}{a:Nat→Nat→Int}
structure Fix (n m M Mo N V T O D B:Nat)(a:Nat→Nat→Int)(d:Sol):Prop where
 b:Bnd n m a (bdF d.lo) (bdF d.hi) M N
 o:∀j,j<n→(a (n+m) j).natAbs≤Mo
 c:Cap n M Mo N V T O D B
 l:Lim V T O D B
 lo:∀p∈d.lo,Sz B p.2
 hi:∀p∈d.hi,Sz B p.2
 le:∀v l u,bdF d.lo v=some l→bdF d.hi v=some u→l≤u
theorem Fix.szp (x:Fix n m M Mo N V T O D B a d)(e:PInv n m a (bdF d.lo) (bdF d.hi) L s):SzP n m V T O B d s:=by
 obtain ⟨p,g⟩:=e.vtx x.b;refine ⟨fun v l=>(g.qb zo (x.b.aM v l)).sz x.c.v1 x.c.v2,x.lo,x.hi,fun i j c f=>?_,fun c f=>?_,Aj (e.toPB.bD x.b.aM) x.c.d⟩
 ·exact Aj (e.toPB.bT x.b.aM zo f (x.b.aM _ (e.bv i j))) x.c.t
 exact Aj (e.toPB.bT x.b.aM eU f (by rw [e.bm];exact x.o)) x.c.o
theorem Fix.stp (x:Fix n m M Mo N V T O D B a d)(e:PInv n m a (bdF d.lo) (bdF d.hi) L s){c i:Nat}(g:c<n)(hi:i<m)(f:s.T i c≠0){q:Rat}(j:bdF d.lo (s.bs i)=some q∨bdF d.hi (s.bs i)=some q):Sz D ((q-s.x (s.bs i))/((s.T i c:Rat)/s.d)):=
 (e.stp x.b g hi f j).sz x.c.s1 x.c.s2
end
theorem zgx {lo hi:Nat→Option Rat}{s:PS}{r:Nat}{low:Bool}{g:Rat}(h:Viol lo hi s r low g):g.num≠0∧(low=true↔0<g.num):=by
 unfold Viol at h;cases low with
 |true=>
  rw [eS rfl] at h;obtain ⟨l,_,c,rfl⟩:=h;have b:0<l-s.x (s.bs r):=by grind
  have:=(CG (q:=l-s.x (s.bs r))).2 (Bc b);have:(l-s.x (s.bs r)).num≠0:=fun q=>by rw [Cr.1 q] at b;exact Ca b
  exact ⟨this,fun _=>zo,fun _=>rfl⟩
 |false=>
  rw [eP Ba] at h;obtain ⟨l,_,c,rfl⟩:=h;have b:l-s.x (s.bs r)<0:=by grind
  have:=mt (CG (q:=l-s.x (s.bs r))).1 (B7.2 b);exact ⟨zo,fun q=>(by cases q),fun q=>zo⟩
theorem zle {l:List (Bool×Rat)}{v a:Nat}{q:Rat}(b:∀p∈l,Sz a p.2)(h:bdF l v=some q):Sz a q:=by
 unfold bdF at h;split at h
 ·next p e=>cases h;exact b _ (mp e)
 cases h
structure Same (d d':Sol):Prop where
 n:d'.n=d.n
 sc:d'.sc=d.sc
 lo:d'.lo=d.lo
 hi:d'.hi=d.hi
theorem Same.refl (d:Sol):Same d d:=⟨rfl,rfl,rfl,rfl⟩
structure Ste (l n m bs:Nat)(a:Nat→Nat→Int)(L:(Nat→Rat)→Prop)(A:Adr)(B:Nat→Nat)(d0:Sol)(h:HF)(n0:Nat)(d:Sol)(s:PS):Prop where
 sm:SM l h n0 bs d A
 sp:SolP n m d s
 iv:PInv n m a (bdF d0.lo) (bdF d0.hi) L s
 ap:Apa l m bs d A B
 eq:Same d0 d
section
variable {n T:Nat}{s:PS}{a:Nat→Nat→Int}{B:Nat→Nat}
theorem Fix.same {f:Sol}(x:Fix n m M Mo N V T O D BB a d)(e:Same d f):Fix n m M Mo N V T O D BB a f:=by
 obtain ⟨v,w,b,c⟩:=e;obtain ⟨g,i,j,o,p,q,u⟩:=x;refine ⟨?_,i,j,o,?_,?_,?_⟩
 ·rw [b,c];exact g
 ·rw [b];exact p
 ·rw [c];exact q
 rw [b,c];exact u
theorem zmn (k:Nat)(g:GG h n0)(S:Ste l n m bs a L A B d h n0 d s)(x:Fix n m M Mo N V T O D BB a d)(hn:0<n)(ce:n+m≤11):
  CF (cal (k+15)) 37 [mo (some ⟨bs,0,none⟩)] h n0 fun w h' n' W=>∃d' s',n0≤n'∧Ste l n m bs a L A B d h' n' d' s'∧Tr n0 h n' h'∧(∀b,b<3*l→h' b=h b)∧(∀c∈W,3*l≤c)∧(w=.tuple #[gZ .i64 0,gZ .i64 0,jx true]∧Feas m (bdF d.lo) (bdF d.hi) s'∨∃(r:Nat) (low:Bool) (q:Rat),w=.tuple #[gZ .i64 (r:Int),gZ .i64 (sgI low),jx false]∧Vio m (bdF d.lo) (bdF d.hi) s' r low q∧∀c,c<n→¬suit (bdF d.lo) (bdF d.hi) (rdOf m s' r 0 low) c):=by
 obtain ⟨bw,ew,gw,lw,ow,dn⟩:=S.sm.nb.or rfl (show gP d.nb≠0 by have:=S.sp.nl;omega);injection ew with ew
 have hl:3*l≤3*n0:=by have:=S.ap.bs;have:=S.sm.bs.1;omega
 have h4:4^(n+m)≤4^11:=sN zd ce;refine rT (fn:=Tryz.f37) R4 ?_;refine zG ?_;refine sF (α:=Nat×Sol×PS) (fun _=>[(0,mo (some ⟨bs,0,none⟩))]) (fun z h' n' w'=>n0≤n'∧Ste l n m bs a L A B d h' n' z.2.1 z.2.2∧Tr n0 h n' h'∧(∀b,b<3*l→h' b=h b)∧(∀c∈w',3*l≤c)∧(z=(0,d,s)∨bw∈w')∧nT (zgt n m a (bdF d.lo) (bdF d.hi) L) (fun s=>kap m (bdF d.lo) (bdF d.hi) s (n+m)) z.1 z.2.2) (fun z=>4^(n+m)-z.1) (0,d,s) ⟨eU,S,Tr.refl _ _,fun _ _=>rfl,fun c hc=>eN hc og,.inl rfl,nT.start⟩ ?_ (hm:=by show _<LL;unfold LL;(try dsimp only);omega);rintro ⟨q,I,u⟩ t h1 n1 w1 ⟨y1,y,T1,K1,ar,an,b8⟩;have y1:n0≤n1:=y1;have y:Ste l n m bs a L A B d h1 n1 I u:=y;have T1:Tr n0 h n1 h1:=T1;have hq:q<4^(n+m):=b8.lt fun s=>iI _;have x1:=x.same y.eq;have el:=y.eq.lo;have eh:=y.eq.hi;have I1:PInv n m a (bdF I.lo) (bdF I.hi) L u:=by rw [el,eh];exact y.iv
 have J:=x1.szp I1;refine zG ?_;refine sC (zcl _ (g.t T1) y.sm y.sp y.iv.bv J x.l) ?_;rintro _ h2 P ⟨f,qf,Z,b2,a2,l2,c2,d2,e2,f2,g2,fd,rfl,i2,j2,hv,hf⟩ y2 x2;rw [el,eh] at hv;have S2:Ste l n m bs a L A B d h2 P I u:=⟨y.sm.ext x2 y2,y.sp,y.iv,y.ap,y.eq⟩;have T2:Tr n0 h P h2:=T1.trans ⟨y2,fun c hc=>.inl (x2 c hc)⟩;have K2:∀b,b<3*l→h2 b=h b:=fun b hb=>(x2 b zo).trans (K1 b hb);have y2:n1≤P:=y2;clear x2;refine Zi ?_;intro h3 p3 x3;refine zG ?_;refine sS [jx b2,gS a2 l2 c2,jx d2,gS e2 f2 g2] ?_;intro h4 p4 o4;have k4:Exo P h2 h4:=⟨fun c hc=>(o4.1 c zo).trans (x3 c hc)⟩;have i4:=i2.t (zt:Tr P h2 (P+1) h4);have j4:=j2.t (zt:Tr P h2 (P+1) h4);have S4:Ste l n m bs a L A B d h4 (P+1) I u:=⟨S2.sm.ext k4.go zs,y.sp,y.iv,y.ap,y.eq⟩;have T4:Tr n0 h (P+1) h4:=T2.trans ⟨Al _,fun c hc=>.inl (k4.go c hc)⟩;have K4:∀b,b<3*l→h4 b=h b:=fun b hb=>(k4.go b zo).trans (K2 b hb);clear x3 p3 o4 k4;refine zG ?_;rcases hf with ⟨rfl,hf,rfl⟩|⟨rfl,rfl⟩
 ·rcases hv with ⟨hv,_⟩|⟨r,low,rfl,U,a3,bf⟩
  ·omega
  have dj:=y.sp.nl;have db:=S4.sm.bs.1;obtain ⟨b9,a9,u9,c9,dm,dl,_⟩:=S4.sm.st;refine zG ?_;refine sF (α:=Nat×Int) (fun z=>[(0,mo (some ⟨bs,0,none⟩)),(5,gZ .i64 (r:Int)),(6,mo (some ⟨3*P+2,0,none⟩)),(8,gZ .i64 z.2),(23,gS A.nb (gP I.nb) (gP I.nb)),(24,gZ .i64 (gP I.nb:Int)),(25,gZ .i64 (z.1:Int))]) (fun z h' n' w'=>w1=w'∧P+1≤n'∧Ext (P+1) h4 h'∧SuP n m (bdF d.lo) (bdF d.hi) u r low z.1 z.2∧z.1≤n) (fun z=>n-z.1) (0,-1) ⟨rfl,eU,Ext.refl _ _,.inl ⟨rfl,fun c hc=>eN hc (AQ _)⟩,gH⟩ ?_ (hm:=by have:=y.sp.nm;show _<LL;unfold LL;(try dsimp only);omega);rintro ⟨j,f⟩ t H G _ ⟨rfl,y5,x5,hu,hj⟩;have y5:P+1≤G:=y5;have hu:SuP n m (bdF d.lo) (bdF d.hi) u r low j f:=hu;have hj:j≤n:=hj;have k5:Exo (P+1) h4 H:=⟨x5⟩;have R:Ste l n m bs a L A B d H G I u:=⟨S4.sm.ext k5.go y5,y.sp,y.iv,y.ap,y.eq⟩;have T5:Tr n0 h G H:=T4.trans ⟨y5,fun c hc=>.inl (k5.go c hc)⟩;have p5:=(k5.go (3*P+2) zo).trans p4;have i5:=i4.ext k5.go y5;have j5:=j4.ext k5.go y5;have bg:=R.sm.st;obtain ⟨b0,a0,u0,c0,ty,bg,_⟩:=bg;have dc:=R.sm.bs.1;clear x5;refine zG ?_;by_cases q5:(j:Int)<(gP I.nb:Int)
  ·have aa:j<n:=zo;have gv:=y.sp.nb j aa;obtain ⟨k6,o6,e6,m6,r6,t6⟩:=natS.at R.sm.nb.rs gv;refine zG ?_;refine sI e6 r6 ?_;refine sL t6 m6 0 ?_;have go:(∃i:Nat,f=(i:Int)∧i<n∧u.nb i<u.nb j)∨f= -1∨(∃i:Nat,f=(i:Int)∧i<n∧u.nb j≤u.nb i):=by
    rcases hu with ⟨h1,_⟩|⟨i,h1,h2,h3,_⟩
    ·exact .inr (.inl h1)
    by_cases hw:u.nb i<u.nb j
    ·exact .inl ⟨i,h1,zo,hw⟩
    exact .inr (.inr ⟨i,h1,zo,zo⟩)
   refine Zc ?_;simp only [yu,xg,zK,yY];refine yj (α:=Bool) (fun z=>[(0,mo (some ⟨bs,0,none⟩)),(5,gZ .i64 (r:Int)),(6,mo (some ⟨3*P+2,0,none⟩)),(8,gZ .i64 f),(9,gZ .i64 (j:Int)),(10,gZ .i64 (u.nb j:Int)),(23,gS A.nb (gP I.nb) (gP I.nb)),(24,gZ .i64 (gP I.nb:Int)),(25,gZ .i64 (j:Int)),(42,jx z)]) (fun z h' n' w'=>w1=w'∧H=h'∧G=n'∧(z=true∧(∃i:Nat,f=(i:Int)∧i<n∧u.nb i<u.nb j)∨z=false∧(f= -1∨∃i:Nat,f=(i:Int)∧u.nb j≤u.nb i))) ?_ ?_
   ·rcases go with ⟨i,rfl,a7,hw⟩|rfl|⟨i,rfl,a7,hw⟩
    ·refine zG ?_;obtain ⟨k7,o7,e7,m7,r7,t7⟩:=natS.at R.sm.nb.rs (y.sp.nb i a7);refine sI e7 r7 ?_;refine sL t7 m7 0 ?_;refine zG ?_;exact zA true (by (repeat (first|exact trivial|refine ⟨rfl,?_⟩))) ⟨rfl,rfl,rfl,.inl ⟨rfl,i,rfl,a7,hw⟩⟩
    ·refine zG ?_;exact zA false (by (repeat (first|exact trivial|refine ⟨rfl,?_⟩))) ⟨rfl,rfl,rfl,.inr ⟨rfl,.inl (by trivial)⟩⟩
    refine zG ?_;obtain ⟨k7,o7,e7,m7,r7,t7⟩:=natS.at R.sm.nb.rs (y.sp.nb i a7);refine sI e7 r7 ?_;refine sL t7 m7 0 ?_;refine zG ?_;exact zA false (by (repeat (first|exact trivial|refine ⟨rfl,?_⟩))) ⟨rfl,rfl,rfl,.inr ⟨rfl,.inr ⟨i,rfl,hw⟩⟩⟩
   rintro z t _ _ _ ⟨rfl,rfl,rfl,⟨rfl,i,rfl,a7,hw⟩|⟨rfl,bb⟩⟩
   ·refine zG ?_;exact sK (j+1,(i:Int)) ⟨rfl,y5,k5.go,hu.skip zo,(by show j+1≤n;omega)⟩
   obtain ⟨k8,o8,e8,m8,r8,t8⟩:=rwS.at R.sm.ta.rs (y.ap.at y.sp (Bh U));obtain ⟨cv,cr,l10,cy,cm,ch⟩:=(R.ap.tb R.sm R.sp).el (Bh U) aa;have bi:=((R.ap.tb R.sm R.sp).o r (Bh U)).1;refine zG ?_;refine yj (α:=Int) (fun z=>[(0,mo (some ⟨bs,0,none⟩)),(5,gZ .i64 (r:Int)),(6,mo (some ⟨3*P+2,0,none⟩)),(8,gZ .i64 f),(9,gZ .i64 (j:Int)),(10,gZ .i64 (u.nb j:Int)),(11,gZ .i64 z),(23,gS A.nb (gP I.nb) (gP I.nb)),(24,gZ .i64 (gP I.nb:Int)),(25,gZ .i64 (j:Int))]) (fun z h' n' w'=>w1=w'∧G≤n'∧Ext G H h'∧(z=1∧u.T r j≠0∧0<sgI (decide (0<u.T r j))*Z.num∨z=0∧(u.T r j=0∨Z.num=0)∨z= -1∧u.T r j≠0∧sgI (decide (0<u.T r j))*Z.num<0)) ?_ ?_
   ·refine zl [0,1,3,7,0,31,63,0,255,511,1023,0,4095,8191,16383] rfl ?_;refine zH ?_;refine dI e8 r8 ?_;refine dL t8 m8 0 ?_;refine zH ?_;refine dI rfl (show j<gP (rowL n (u.T r)) by rw [yv];exact aa) ?_;refine dL cm bi 0 ?_;refine dC (zav _ ch) ?_;rintro _ aj ay ⟨ag,rfl,Y⟩ ah ac;refine zH ?_;refine dC (fD _ (i5.x zx) (j5.x zx)) ?_;rintro _ C F ⟨dk,rfl,K⟩ cp cn;rcases Y with ⟨rfl,Y⟩|⟨rfl,Y⟩|⟨rfl,Y⟩
    ·rcases K with ⟨rfl,K⟩|⟨rfl,K⟩|⟨rfl,K⟩
     ·refine zH ?_;refine dr_I (ik:=.i64) (a:=1) R5 ?_;refine zJ ?_;exact zA (1) (by (repeat (first|exact trivial|refine ⟨rfl,?_⟩))) ⟨rfl,(show Tx G H F C from zx).1,(show Tx G H F C from zx).2,.inl ⟨rfl,zo,(by rw [cA (show ¬0<u.T r j by omega)];show 0<(-1:Int)*Z.num;omega)⟩⟩
     ·refine zH ?_;refine dr_I (ik:=.i64) (a:=0) R5 ?_;refine zJ ?_;exact zA (0) (by (repeat (first|exact trivial|refine ⟨rfl,?_⟩))) ⟨rfl,(show Tx G H F C from zx).1,(show Tx G H F C from zx).2,.inr (.inl ⟨rfl,.inr K⟩)⟩
     refine zH ?_;refine dr_I (ik:=.i64) (a:= -1) R5 ?_;refine zJ ?_;exact zA (-1) (by (repeat (first|exact trivial|refine ⟨rfl,?_⟩))) ⟨rfl,(show Tx G H F C from zx).1,(show Tx G H F C from zx).2,.inr (.inr ⟨rfl,zo,(by rw [cA (show ¬0<u.T r j by omega)];show (-1:Int)*Z.num<0;omega)⟩)⟩
    ·rcases K with ⟨rfl,K⟩|⟨rfl,K⟩|⟨rfl,K⟩
     ·refine zH ?_;refine dr_I (ik:=.i64) (a:=0) R5 ?_;refine zJ ?_;exact zA (0) (by (repeat (first|exact trivial|refine ⟨rfl,?_⟩))) ⟨rfl,(show Tx G H F C from zx).1,(show Tx G H F C from zx).2,.inr (.inl ⟨rfl,.inl Y⟩)⟩
     ·refine zH ?_;refine dr_I (ik:=.i64) (a:=0) R5 ?_;refine zJ ?_;exact zA (0) (by (repeat (first|exact trivial|refine ⟨rfl,?_⟩))) ⟨rfl,(show Tx G H F C from zx).1,(show Tx G H F C from zx).2,.inr (.inl ⟨rfl,.inl Y⟩)⟩
     refine zH ?_;refine dr_I (ik:=.i64) (a:=0) R5 ?_;refine zJ ?_;exact zA (0) (by (repeat (first|exact trivial|refine ⟨rfl,?_⟩))) ⟨rfl,(show Tx G H F C from zx).1,(show Tx G H F C from zx).2,.inr (.inl ⟨rfl,.inl Y⟩)⟩
    rcases K with ⟨rfl,K⟩|⟨rfl,K⟩|⟨rfl,K⟩
    ·refine zH ?_;refine dr_I (ik:=.i64) (a:= -1) R5 ?_;refine zJ ?_;exact zA (-1) (by (repeat (first|exact trivial|refine ⟨rfl,?_⟩))) ⟨rfl,(show Tx G H F C from zx).1,(show Tx G H F C from zx).2,.inr (.inr ⟨rfl,zo,(by rw [eH (show 0<u.T r j from Y)];show (1:Int)*Z.num<0;omega)⟩)⟩
    ·refine zH ?_;refine dr_I (ik:=.i64) (a:=0) R5 ?_;refine zJ ?_;exact zA (0) (by (repeat (first|exact trivial|refine ⟨rfl,?_⟩))) ⟨rfl,(show Tx G H F C from zx).1,(show Tx G H F C from zx).2,.inr (.inl ⟨rfl,.inr K⟩)⟩
    refine zH ?_;refine dr_I (ik:=.i64) (a:=1) R5 ?_;refine zJ ?_;exact zA (1) (by (repeat (first|exact trivial|refine ⟨rfl,?_⟩))) ⟨rfl,(show Tx G H F C from zx).1,(show Tx G H F C from zx).2,.inl ⟨rfl,zo,(by rw [eH (show 0<u.T r j from Y)];show 0<(1:Int)*Z.num;omega)⟩⟩
   rintro z t ak b1 _ ⟨rfl,ai,bh,hz⟩;have ai:G≤b1:=ai;have bh:Ext G H ak:=bh;have aq:=y.iv.nv j aa;have gx:=y.sp.va _ aq;obtain ⟨pl,gl⟩:∃x,I.lo[u.nb j]?=some x:=⟨_,kF (by have:=y.sp.ll;omega)⟩;obtain ⟨ph,gh⟩:∃x,I.hi[u.nb j]?=some x:=⟨_,kF (by have:=y.sp.lh;omega)⟩;have cg:=zqz (x:=u.x (u.nb j)) gh;have cs:=zqy (x:=u.x (u.nb j)) gl;rw [eh] at cg;rw [el] at cs;have a1:=zg7 (m:=m) (c:=j) (e:=0) a3;have cd:=x.l.l1;have dh:=x.l.l3;rcases hz with ⟨rfl,hz,au⟩|⟨rfl,hz⟩|⟨rfl,hz,au⟩
   ·refine zG ?_;refine sC (aG _ (R.sm.x zx) gx gh (J.va _ aq) (J.hi _ (mp gh)) zo) ?_;rintro _ a6 ab ⟨c7,rfl,ad⟩ cq co;rcases bvs ad with ⟨rfl,a5⟩|⟨rfl,a5⟩
    ·refine zG ?_;exact sK (j+1,f) ⟨rfl,zo,k5.go.trans (show Tx G H ab a6 from zx).2 y5,hu.no (fun q=>by rcases a1.1 q with ⟨_,_,q⟩|⟨q,_⟩;exact a5 (cg.1 q);omega),(by show j+1≤n;omega)⟩
    refine zG ?_;exact sK (j+1,(j:Int)) ⟨rfl,zo,k5.go.trans (show Tx G H ab a6 from zx).2 y5,hu.take (a1.2 (.inl ⟨au,hz,cg.2 a5⟩)) bb,(by show j+1≤n;omega)⟩
   ·refine zG ?_;exact sK (j+1,f) ⟨rfl,zo,k5.go.trans (show Tx G H b1 ak from zx).2 y5,hu.no (fun q=>by rcases hz with hz|hz;rcases a1.1 q with ⟨_,q,_⟩|⟨_,q,_⟩<;>exact q hz;rcases a1.1 q with ⟨q,_⟩|⟨q,_⟩<;>(rw [hz,Dq] at q;omega)),(by show j+1≤n;omega)⟩
   refine zG ?_;refine sC (lg _ (R.sm.x zx) gx gl (J.va _ aq) (J.lo _ (mp gl)) zo) ?_;rintro _ a6 ab ⟨c7,rfl,ad⟩ cq co;rcases bvs ad with ⟨rfl,a5⟩|⟨rfl,a5⟩
   ·refine zG ?_;exact sK (j+1,f) ⟨rfl,zo,k5.go.trans (show Tx G H ab a6 from zx).2 y5,hu.no (fun q=>by rcases a1.1 q with ⟨q,_⟩|⟨_,_,q⟩;omega;exact a5 (cs.1 q)),(by show j+1≤n;omega)⟩
   refine zG ?_;exact sK (j+1,(j:Int)) ⟨rfl,zo,k5.go.trans (show Tx G H ab a6 from zx).2 y5,hu.take (a1.2 (.inr ⟨au,hz,cs.2 a5⟩)) bb,(by show j+1≤n;omega)⟩
  have aa:j=n:=zo;have be:Z.num≠0∧(low=true↔0<Z.num):=zgx a3;rcases hu with ⟨rfl,af⟩|⟨c,rfl,hc,a1,bl⟩
  ·refine zG ?_;refine sC (fD _ i5 j5) ?_;rintro _ aj ay ⟨ag,rfl,Y⟩ ah ac;have c3:Ste l n m bs a L A B d aj ay I u:=⟨R.sm.ext ac ah,y.sp,y.iv,y.ap,y.eq⟩;have bj:ag=sgI low:=by
    cases low
    ·have:¬0<Z.num:=fun q=>by cases be.2.2 q
     show ag= -1;omega
    have:=be.2.1 rfl;show ag=1;omega
   subst bj;have hV:Vio m (bdF d.lo) (bdF d.hi) u r low Z:=⟨U,a3,bf⟩;have af:∀c,c<n→¬suit (bdF d.lo) (bdF d.hi) (rdOf m u r 0 low) c:=fun c hc=>af c zo;refine zG ?_;refine ⟨rfl,[_,_,_],rfl,⟨I,u,zo,c3,T5.trans ⟨ah,fun c hc=>.inl (ac c hc)⟩,fun b hb=>(ac b zo).trans ((k5.go b zo).trans (K4 b hb)),ar,.inr ⟨r,low,Z,rfl,hV,af⟩⟩,fun hw=>?_⟩;have hw:w1=[]:=hw;rcases an with e|a8
   ·cases e;exact ⟨_,_,eU,S,Tr.refl _ _,(by intros;trivial),fun c hc=>eN hc og,.inr ⟨r,low,Z,rfl,hV,af⟩⟩
   rw [hw] at a8;cases a8
  have a4:c<n:=zo;have hR:RepS n m (bdF d.lo) (bdF d.hi) u r c low Z:=⟨⟨U,a3,bf⟩,a4,a1,fun c' df=>bl c' zo⟩;have al:=hR.ne;obtain ⟨bq,bd,rfl⟩:∃q,(bdF d.lo (u.bs r)=some q∨bdF d.hi (u.bs r)=some q)∧Z=q-u.x (u.bs r):=by
   unfold Viol at a3;split at a3
   ·obtain ⟨l,h1,_,h2⟩:=a3;exact ⟨l,.inl h1,h2⟩
   obtain ⟨l,h1,_,h2⟩:=a3;exact ⟨l,.inr h1,h2⟩
  have b5:=x.stp y.iv a4 U al bd;have cd:=x.l.l1;have dg:=x.l.l2;have cf:Sz BB bq:=by
   rcases bd with h|h
   ·exact zle x.lo h
   exact zle x.hi h
  have cc:Sz D (bq-u.x (u.bs r)):=(Sz.subT cf (J.va _ (y.iv.bv r U))).mono zo;have cb:=y.iv.toPB.tab.dp;have am:=y.sp.de;refine zG ?_;refine zl [0,0,0,0,0,0,56,124,255] rfl ?_;refine zH ?_;refine dC (zbz _ (g.t T5) R.sm (y.ap.at y.sp (Bh U)) (vu a4) (yU (J.tT r U c a4) zo) (by rw [am];exact yU J.dd zo) (by rw [am];omega)) ?_;rintro _ aj ay ⟨cw,ct,l11,cz,d3,d5,d7,d9,rfl,av,aw⟩ ah ac;have sc:Sz T (AK (u.T r c) u.d):=xz cb (J.tT r U c a4) J.dd;rw [am] at av aw;rw [Bs] at av aw sc;refine dC (divQ _ ((g.t T5).x zx) (i5.x zx) (j5.x zx) av aw cc sc zo) ?_;rintro _ C F ⟨cx,cu,di,d0,d4,d6,d8,da,rfl,ci,cj⟩ cp cn;have ax:Exo G H C:=⟨(show Tx G H F C from zx).2⟩;have az:G≤F:=(show Tx G H F C from zx).1;have b6:Ste l n m bs a L A B d C F I u:=⟨R.sm.ext ax.go az,y.sp,y.iv,y.ap,y.eq⟩;have b7:Tr n0 h F C:=T5.trans ⟨az,fun c hc=>.inl (ax.go c hc)⟩;refine wa _ R7 (zp6 _ (g.t b7) b6.sm y.sp y.iv.toPB J x.l a4 ci cj b5) ?_;rintro _ ak b1 dq ⟨ai,va,bx,bt,ae,c5,bz,bn,_⟩;refine ⟨rF rfl rfl,ai,?_⟩;have IN:=hR.inv (by rw [←el,←eh];exact x1.le) y.iv;have bu:∀v,v<n+m→va[v]?=some (mvx u c ((bq-u.x (u.bs r))/((u.T r c:Rat)/u.d)) (m+1) v):=fun v hv=>(bt v hv).trans (congrArg some (vi (by rw [y.iv.bm];omega)).symm);have b3:=y.sp.mv bx bu;have cl:=x.szp (s:=repN m u r c (bq-u.x (u.bs r))) IN;have br:SzP n m V T O BB {I with va:=va} ⟨u.toPT,mvx u c ((bq-u.x (u.bs r))/((u.T r c:Rat)/u.d)) (m+1)⟩:=⟨cl.va,J.lo,J.hi,J.tT,J.tO,J.dd⟩;refine zJ ?_;refine zF _ R5 (zkc _ ae b3 y.iv.toPB br x.l y.ap.mv U a4 al) ?_;rintro _ bc ck dr ⟨ds,bp,c6,c1,bo,b4⟩;have c4:Ste l n m bs a L A B d bc ck ({I with va:=va}.piv m n B u.toPT r c) (repN m u r c (bq-u.x (u.bs r))):=⟨bp,b3.piv,IN,y.ap.mv.piv,⟨y.eq.n,y.eq.sc,y.eq.lo,y.eq.hi⟩⟩;have ca:=b8.next (fun p τ hp hs hk=>zmx p τ hp hs x.le hk) ⟨y.iv,r,c,low,_,hR,rfl⟩
  have hT:=(b7.trans c5).trans c6;have ao:∀{v:Value},(∀b,BkOf v b→3*l≤b)→∀b,b<3*l→¬BkOf v b:=fun hv b hb c8=>by have:=hv b c8;omega
  have KF:∀b,b<3*l→bc b=h b:=fun b hb=>(c1 b zo (fun e=>by have:=y.ap.bs;omega) (fun a ha e=>by have:=y.ap.lo a ha;omega) (ao (fun b hb=>(ae.ba.bk b hb).1) b hb) (ao (fun b hb=>(ae.nb.bk b hb).1) b hb)).trans ((bz b zo (ao (fun b hb=>(b6.sm.va.bk b hb).1) b hb)).trans ((ax.go b zo).trans ((k5.go b zo).trans (K4 b hb))));refine zG ?_;exact sK (q+1,_,_) ⟨zo,c4,hT,KF,yL bo (yL bn ar),.inr (wQ ow.1 (b4 bw ⟨0,gP I.nb,gP I.nb,by rw [ew]⟩)),ca⟩
 have hF:Feas m (bdF d.lo) (bdF d.hi) u:=by
  rcases hv with ⟨_,h⟩|⟨i,low,h,_⟩
  ·exact h
  omega
 refine zG ?_;refine ⟨rfl,[_,_,_],rfl,⟨I,u,zo,S4,T4,K4,ar,.inl ⟨rfl,hF⟩⟩,fun hw=>?_⟩;have hw:w1=[]:=hw;rcases an with e|a8
 ·cases e;exact ⟨_,_,eU,S,Tr.refl _ _,(by intros;trivial),fun c hc=>eN hc og,.inl ⟨rfl,hF⟩⟩
 rw [hw] at a8;cases a8
end
section
variable {a j:Nat}
theorem ko (V:Nat):V<10^gP (decT V):=by
 have h:∀V,V<10^gP (decD V):=by
  intro V;induction V using Nat.strongRecOn with
  |_ V ih=>
   by_cases h0:V=0
   ·subst h0;rw [xo];exact F6
   rw [wy h0,k0];have:=ih (V/10) zo;rw [show gP (decD (V/10))+[V%10].length=gP (decD (V/10))+1 from rfl,Ac];omega
 unfold decT;split
 ·rename_i h0;rw [h0];decide
 rw [mu,kY];exact h V
theorem Txt.of {m:Nat}(h:gP s≤m)(hm:m<500)(g:10^m≤2^a)(f:1≤a):Txt a s:=by
 refine ⟨zo,?_⟩;by_cases hn:vF s
 ·have u:=qr hn;generalize zj s=q at u;have c:=congrArg gP u;unfold ratT at c;simp only [k0] at c;constructor
  ·exact Af (Af (ko _) (sN zd (show _≤m by omega))) g
  by_cases h2:q.den=1
  ·rw [h2];exact Af (by decide:(1:Nat)<2^1) (sN zd f)
  rw [eP h2,Ao] at c;exact Af (Af (ko _) (sN zd (show _≤m by omega))) g
 rw [xX hn];exact Sz.zero a f
theorem txt8 (h:(gP s:Int)≤8):Txt 27 s:=.of (m:=8) zo zd zd zd
theorem zre (h:(gP s:Int)≤12):Txt 40 s:=.of (m:=12) zo zd zd zd
def slP (c:List Value)(S:List (List UInt8))(h:HF)(n:Nat):Prop:=∃a l k,c=[gS a l k]∧Sl h n 1 (gS a l k) (strs S)
def SLS (h:HF)(n:Nat)(v:Value)(LL:List (List (List UInt8))):Prop:=RS 1 slP h n v LL
theorem SLS.len {h:HF}{n:Nat}{a:Option Addr}{len:Nat}{c:List (List (List UInt8))}(r:SLS h n (gS a len cap) c):len=gP c:=RS.len' zd r
theorem SLS.at {h:HF}{n:Nat}{a:Option Addr}{len:Nat}{B:List (List (List UInt8))}{d:List (List UInt8)}(r:SLS h n (gS a len cap) B)(hj:B[j]?=some d):∃g f u A v,a=some ⟨g,f,none⟩∧g<3*n∧j<len∧At h g (f+j*1) [gS u A v]∧Sl h n 1 (gS u A v) (strs d):=by
 obtain ⟨g,f,c,C,D,F,G,_,u,A,v,rfl,s⟩:=RS.at' zd r hj;exact ⟨g,f,u,A,v,C,D,F,G,s⟩
theorem zo8 {h:HF}{n:Nat}{t:List UInt8}(c:h b=some (.row [jy ⟨⟨s⟩⟩,jy ⟨⟨t⟩⟩] e))(hb:b<3*n):Sl h n 1 (gS (some ⟨b,0,none⟩) 2 2) (strs [s,t]):=.at_ hb c rfl eU eU rfl
theorem wz (k:Nat){h:HF}{n:Nat}(g:GG h n):VF (cal (k+1)) 9 [] h n fun v=>v=jx true:=⟨_,_,_,_,zga k g.1 n,rfl,rfl,rfl,rfl⟩
section
variable {r:List Oper}{i n:Nat}{d:Tmp}
theorem zjw (cs:List Value){c:Nat}(f:Za X ops t o d (cls o.op=2∧mkE X.E o.op (evF t)=some ⟨cs,e,false,some (l,c)⟩))
  (k:∀h',h' (3*n+2)=some (.row cs e)→Ext n h h'→ED X ops r ms (i+1) ⟨⟨upd t d (gS (some ⟨3*n+2,0,none⟩) l c),h',n+1,w⟩,(i,3*n+2)::al,ld,ef⟩ Q):ED X ops (o::r) (m::ms) i ⟨⟨t,h,n,w⟩,al,ld,ef⟩ Q:=by obtain ⟨f,u,A,g,v⟩:=f;exact zkz f u A g v (k _ (zg _ _ _) (Ext.upd zo))
end
theorem mI (k:Nat){h:HF}{n:Nat}(m:Int)(C:Sl h n 1 (gS ax lx cx) (strs S))(hb:gP S<100000000):VF (cal (k+1)) 30 [gZ .i64 m,gS ax lx cx] h n fun v=>∃b:Bool,v=jx b∧(b=true↔∀s∈S,(gP s:Int)≤m):=by
 have N:=z8 C;refine zO (fn:=Tryz.f30) R4 ?_;refine zG ?_;refine sF (α:=Nat) (fun z=>[(0,gZ .i64 m),(1,gS ax lx cx),(5,gZ .i64 (z:Int))]) (fun z H J K=>K=[]∧n≤J∧ExtB n [] h H∧z≤gP S∧∀s∈S.take z,(gP s:Int)≤m) (fun z=>gP S-z) 0 ⟨rfl,eU,ExtB.refl _ _ _,gH,(fun s I=>eN I gN)⟩ ?_;rintro j t L O _ ⟨rfl,R,A,hj,c⟩;have hj:j≤gP S:=hj;have c:∀s∈S.take j,(gP s:Int)≤m:=c;refine zG ?_;by_cases q12:(j:Int)<(lx:Int)
 ·refine zG ?_;obtain ⟨u,f⟩:∃d,(S)[j]?=some d:=⟨_,kF zo⟩;obtain ⟨M,P,B,D,F,G⟩:=vM C f;refine sI B F ?_;refine sL G D 0 ?_;refine st_I (ik:=.i64) (a:=(gP u:Int)) R5 ?_;refine zG ?_;by_cases q14:(gP u:Int)>m
  ·refine zf ?_;exact zno fun g=>by have:=g _ (mp f);omega
  refine zG ?_;exact sK (j+1) ⟨rfl,zo,A,(by show j+1≤gP S;omega),(ot c f zo)⟩
 refine zf ?_;exact zye (by have g:=c;rw [pq zo] at g;exact g)
theorem zhm (k:Nat){h:HF}{n:Nat}{al:Option Addr}{u cl:Nat}{c:List (List (List UInt8))}(J:SLS h n (gS al u cl) c)(hb:gP c<100000000):VF (cal (k+2)) 21 [gS al u cl] h n fun v=>∃b:Bool,v=jx b∧(b=true→∀S∈c,gP S≤10∧∀s∈S,(gP s:Int)≤12):=by
 have a1:=J.len;refine zO (fn:=Tryz.f21) R4 ?_;refine zG ?_;refine sF (α:=Nat) (fun z=>[(0,gS al u cl),(3,gZ .i64 (z:Int))]) (fun z L O P=>P=[]∧n≤O∧ExtB n [] h L∧z≤gP c∧∀S∈c.take z,gP S≤10∧∀s∈S,(gP s:Int)≤12) (fun z=>gP c-z) 0 ⟨rfl,eU,ExtB.refl _ _ _,gH,(fun s M=>eN M gN)⟩ ?_;rintro j t Y a2 _ ⟨rfl,a6,R,hj,f⟩;have hj:j≤gP c:=hj;have f:∀S∈c.take j,gP S≤10∧∀s∈S,(gP s:Int)≤12:=f;refine zG ?_;by_cases q12:(j:Int)<(u:Int)
 ·refine zG ?_;obtain ⟨W,B⟩:∃d,(c)[j]?=some d:=⟨_,kF zo⟩;obtain ⟨a0,a4,T,K,V,A,D,G,H,C⟩:=SLS.at J B;have N:=z8 C;refine sI A G ?_;refine sL H D 0 ?_;refine zG ?_;by_cases q14:(K:Int)>10
  ·refine zf ?_;exact ⟨_,rfl,fun g=>(by cases g)⟩
  refine zG ?_;refine sI A G ?_;refine sL H D 0 ?_;refine sC ((mI _ (12) (C.x zx) zo).cx) ?_;rintro _ Z a3 ⟨U,rfl,I⟩ a7 a5;rcases bvs I with ⟨rfl,F⟩|⟨rfl,F⟩
  ·refine zf ?_;exact ⟨_,rfl,fun g=>(by cases g)⟩
  refine zG ?_;exact sK (j+1) ⟨rfl,zo,zy,(by show j+1≤gP c;omega),(ot f B ⟨zo,F⟩)⟩
 refine zf ?_;exact ⟨_,rfl,fun _=>by have g:=f;rw [pq zo] at g;exact g⟩
section
variable {x:Rat}{q:Nat}
theorem yb (x:Rat):zj (ratT x)=x:=pA rfl
theorem addR (k:Nat){h:HF}{n:Nat}(g:GG h n)(u:Sz p x)(A:Sz q y)(B:p≤1890)(C:q≤1890)(c:p+q+1≤2496){z:Rat}(f:x+y=z)(F:Sz r z)(D:r≤1920):VF (cal (k+11)) 27 [jy ⟨⟨ratT x⟩⟩,jy ⟨⟨ratT y⟩⟩] h n fun v=>v=jy ⟨⟨ratT z⟩⟩:=by
 have:=addS k g (a:=ratT x) (b:=ratT y) (TL.ratT (u.mono B)) (TL.ratT (A.mono C)) (p:=p) (q:=q) (r:=r) (by rw [yb];exact u) (by rw [yb];exact A) c (by rw [yb,yb,f];exact F) D;rw [yb,yb,f] at this;exact this
theorem mulR (k:Nat){h:HF}{n:Nat}(g:GG h n)(c:Sz p x)(f:Sz q y)(u:p≤1890)(A:q≤1890)(B:p+q≤1900):VF (cal (k+11)) 14 [jy ⟨⟨ratT x⟩⟩,jy ⟨⟨ratT y⟩⟩] h n fun v=>v=jy ⟨⟨ratT (x*y)⟩⟩:=by
 have:=mulS k g (a:=ratT x) (b:=ratT y) (TL.ratT (c.mono u)) (TL.ratT (f.mono A)) (p:=p) (q:=q) (r:=p+q) (by rw [yb];exact c) (by rw [yb];exact f) zo (by rw [yb,yb];exact c.mul f) zo;rw [yb,yb] at this;exact this
theorem cmpR (k:Nat){h:HF}{n:Nat}(g:GG h n)(f:Sz p x)(u:Sz q y)(A:p≤1890)(B:q≤1890)(c:p+q+1≤2496):VF (cal (k+11)) 25 [jy ⟨⟨ratT x⟩⟩,jy ⟨⟨ratT y⟩⟩] h n fun v=>∃s:Int,v=gZ .i64 s∧(s= -1∧x<y∨s=0∧x=y∨s=1∧y<x):=by
 have:=cmpS k g (a:=ratT x) (b:=ratT y) (TL.ratT (f.mono A)) (TL.ratT (u.mono B)) (p:=p) (q:=q) (by rw [yb];exact f) (by rw [yb];exact u) c;rw [yb,yb] at this;exact this
end
end
section
variable {j:Nat}
def dpr:List Rat→Nat
 |[]=>1
 |q::l=>q.den*dpr l
section
variable {n:Nat}
theorem iX:∀{l:List Rat},(∀q∈l,NE E P q)→1≤dpr l∧dpr l≤E^gP l
 |[],_=>⟨eU,eU⟩
 |q::l,h=>by
  obtain ⟨h1,h2⟩:=iX (l:=l) fun x c=>h x (Bz _ c);have a:=(h q AR).den;have b:=q.den_pos;refine ⟨CP b h1,?_⟩;show q.den*dpr l≤E^(gP l+1);rw [Ac,pe];exact Ar h2 a
theorem iW:∀{l:List Rat} {q:Rat},(∀q∈l,NE E P q)→q∈l→∃r,dpr l=q.den*r∧r≤E^(gP l-1)
 |[],q,_,h=>eN h og
 |p::l,q,h,hq=>by
  have hl:∀q∈l,NE E P q:=fun x e=>h x (Bz _ e);rcases Ad.1 hq with rfl|a
  ·exact ⟨dpr l,rfl,(iX hl).2⟩
  obtain ⟨r,b,c⟩:=iW hl a;have f:=List.length_pos_of_mem a;have d:=(h p AR).den;refine ⟨p.den*r,?_,?_⟩
  ·show p.den*dpr l=_;rw [b,←Ah,←Ah,pe p.den]
  refine Aa (Ar d c) ?_;show E*E^(gP l-1)≤E^gP l;rw [pe,←Ac,show (gP l-1).succ=gP l by omega];exact AL _
theorem ed:∀{l:List Rat} {q:Rat},q∈l→q.den∣dpr l
 |[],_,h=>eN h og
 |p::l,q,h=>by
  rcases Ad.1 h with rfl|hm
  ·exact G0 _ _
  exact Nat.dvd_trans (ed hm) (G8 _ _)
theorem zel {l:List Rat}(h:∀q∈l,NE E P q):0<lcmD l 1∧lcmD l 1≤E^gP l:=
 ⟨kt zd,Aa (EE (iX h).1 (kv (fun q a=>ed a) (Hm _))) (iX h).2⟩
theorem zek {l:List Rat}(h:∀q∈l,NE E P q)(a:q∈l):∃w:Int,((lcmD l 1:Nat):Rat)*q=w∧w.natAbs≤P*E^(gP l-1):=by
 obtain ⟨k,c⟩:=ku (m:=1) a;obtain ⟨t,f⟩:=kv (D:=dpr l) (m:=1) (fun q a=>ed a) (Hm _);obtain ⟨r,i,o⟩:=iW h a;have d:k≤r:=by
  have e:q.den*(k*t)=q.den*r:=by rw [←Ah,←c,←f,i]
  have e:=Nat.eq_of_mul_eq_mul_left q.den_pos e;have g:0<t:=by
   rcases Nat.eq_zero_or_pos t with b|b
   ·rw [b,Bp] at f;have:=(iX h).1;omega
   exact b
  rw [←e];exact BG _ g
 refine ⟨q.num*k,?_,?_⟩
 ·rw [c,Rat.natCast_mul,AC,Bn,←zfs q]
  grind
 rw [AF,qe];exact Ar (h q a).num (Aa d o)
def atZ (zs:List Int)(j:Nat):Int:=(zs[j]?).getD 0
def atR (qs:List Rat)(j:Nat):Rat:=(qs[j]?).getD 0
theorem aW {zs:List Int}{z:Int}(h:zs[j]?=some z):atZ zs j=z:=by unfold atZ;rw [h];rfl
theorem wg (h:qs[j]?=some q):atR qs j=q:=by unfold atR;rw [h];rfl
theorem ScR.scF {A:Nat}{zs:List Int}{s:Rat}(h:ScR qs A zs s)(o:∀q∈qs,NE E P q)(D:1≤E)(G:1≤P)(I:gP qs=n):ScF n (E^n) (P*E^(n-1)) (atR qs) (atZ zs) s:=by
 subst I;have d:∀k,1≤E^k:=fun k=>Nat.pow_pos D;have F:1≤P*E^(gP qs-1):=CP G (d _);have e:∀j,j<gP qs→(atZ zs j:Rat)=s*atR qs j:=fun j a=>by
  have b:=kF a;have c:=kF (l:=zs) (i:=j) (by rw [h.len];exact a);rw [aW c,wg b];exact h.eq j _ _ b c
 refine ⟨h.pos,e,?_⟩;rcases h.fr with ⟨rfl,b⟩|⟨g,H,b,z,K,y⟩
 ·refine ⟨1,1,F6,F6,DP _,d _,F,fun j a=>?_⟩;have c:=kF (l:=zs) (i:=j) (by rw [h.len];exact a);rw [aW c,b _ (mp c)];exact CO _
 have m:∀j,j<gP qs→g*(atZ zs j).natAbs≤P*E^(gP qs-1):=fun j a=>by
  have p:=kF a;obtain ⟨w,J,f⟩:=zek o (mp p);have B:((g*atZ zs j:Int):Rat)=(w:Rat):=by
   rw [←J,←b,AC,e j a,wg p,Bn]
   grind
  have C:=Rat.intCast_inj.1 B;rw [←C,AF,qe] at f;exact f
 obtain ⟨j,a⟩:=List.mem_iff_getElem?.1 K;have v:j<gP qs:=by have:=(nN.1 a).1;rw [h.len] at this;exact this
 have u:=m j v;rw [aW a] at u;exact ⟨lcmD qs 1,g,(zel o).1,H,b,(zel o).2,Aa (BG _ (Int.natAbs_pos.2 y)) u,m⟩
end
theorem ne8 (h:(gP s:Int)≤8):NE (10^6) (10^8) (zj s):=by
 by_cases hn:vF s
 ·have b:=qr hn;generalize zj s=q at b;have a:=congrArg gP b;unfold ratT at a;simp only [k0] at a;have c:∀V,1≤gP (decT V):=fun V=>List.length_pos_iff.2 (wx V).2.2;have d:=c q.num.natAbs;constructor
  ·by_cases h2:q.den=1
   ·rw [h2];decide
   rw [eP h2,Ao] at a;exact Bh (Af (ko _) (sN zd (show _≤6 by omega)))
  exact Bh (Af (ko _) (sN zd (show _≤8 by omega)))
 rw [xX hn];exact ⟨by decide,by decide⟩
theorem cap8 {n:Nat}(a:1≤n)(b:n≤5):Cap n (10^32) (10^32) (10^38) 750 540 540 880 127:=by
 have h:n=1∨n=2∨n=3∨n=4∨n=5:=zo;rcases h with rfl|rfl|rfl|rfl|rfl<;>exact ⟨by decide+kernel,by decide+kernel,by decide+kernel,by decide+kernel,by decide+kernel,by decide+kernel,by decide+kernel,by decide+kernel⟩
theorem lim8:Lim 750 540 540 880 127:=⟨by decide,by decide,by decide,by decide,by decide⟩
theorem jW {n:Nat}(a:1≤n)(b:n≤5):10^8*(10^6)^(n-1)≤10^32∧(10^6)^n≤10^30:=by
 have h:n=1∨n=2∨n=3∨n=4∨n=5:=zo;rcases h with rfl|rfl|rfl|rfl|rfl<;>exact ⟨by decide+kernel,by decide+kernel⟩
theorem ScF.mono {n DB M a b:Nat}{f:Nat→Rat}{z:Nat→Int}{σ:Rat}(h:ScF n DB M f z σ)(u:DB≤a)(l:M≤b):ScF n a b f z σ:=by
 obtain ⟨D,g,c,d,e,o,p,i⟩:=h.ex;exact ⟨h.pos,h.eq,D,g,c,d,e,zo,zo,fun j m=>Aa (i j m) l⟩
end
section
variable {n:Nat}{lo hi:List (Bool×Rat)}
theorem zof (k:Nat)(g:GG h n)(st:h bs=some (.row [gZ .i64 (N:Int),gS asc m m,gS alo m m,gS ahi m m,gS a4 l4 c4,gS a5 l5 c5,gS a6 l6 c6,gS a7 l7 c7,jx b8,gS a9 l9 c9] ty))(aq:bs<3*n)(f:gro bs=false)(hl:l≤n)(U:GR 4 ratP l h n 92 (gS asc m m) sc)(gl:GR 5 bndZ l h n 128 (gS alo m m) lo)(gh:GR 5 bndZ l h n 128 (gS ahi m m) hi)(dj:∀b,BkOf (gS ahi m m) b→¬BkOf (gS alo m m) b)
  (ms:gP sc=m)(ml:gP lo=m)(mh:gP hi=m)(hm:m<999999){aA:Option Addr}{lA kA:Nat}{x1 b1 d1 x2 b2 d2 H O:Bool}{a1 e1 a2 e2 F R:Option Addr}{l1 c1 f1 u1 l2 c2 f2 u2 l3 J T u3:Nat}{q1 q2 r:Rat}(i1:IW h n b1 a1 l1 c1 q1.num)(j1:IW h n d1 e1 f1 u1 (denZ q1))(i2:IW h n b2 a2 l2 c2 q2.num)(j2:IW h n d2 e2 f2 u2 (denZ q2))(i3:IW h n H F l3 J r.num)(j3:IW h n O R T u3 (denZ r)){a b:Nat}(z1:Sz a q1)(z2:Sz a q2)(z3:Sz b r)(ap:a+b≤2496):
  CF (cal (k+11)) 82 [mo (some ⟨bs,0,none⟩),.agg #[gS aA lA kA,jx x1,jx b1,gS a1 l1 c1,jx d1,gS e1 f1 u1,jx x2,jx b2,gS a2 l2 c2,jx d2,gS e2 f2 u2],.agg #[jx H,gS F l3 J,jx O,gS R T u3]] h n fun _ y n' w=>n≤n'∧∃o al v,y bs=some (.row [gZ .i64 (N:Int),gS o (m+1) (m+1),gS al (m+1) (m+1),gS v (m+1) (m+1),gS a4 l4 c4,gS a5 l5 c5,gS a6 l6 c6,gS a7 l7 c7,jx b8,gS a9 l9 c9] ty)∧GR 4 ratP l y n' 92 (gS o (m+1) (m+1)) (sc++[r])∧GR 5 bndZ l y n' 128 (gS al (m+1) (m+1)) (lo++[(x1,q1*r)])∧GR 5 bndZ l y n' 128 (gS v (m+1) (m+1)) (hi++[(x2,q2*r)])∧(∀b,BkOf (gS v (m+1) (m+1)) b→¬BkOf (gS al (m+1) (m+1)) b)∧(∀b,BkOf (gS o (m+1) (m+1)) b→3*n≤b)∧Tr n h n' y∧(∀b,b<3*n→b≠bs→¬BkOf (gS asc m m) b→¬BkOf (gS alo m m) b→¬BkOf (gS ahi m m) b→y b=h b)∧(∀c∈w,c=bs∨3*l≤c):=by
 refine rT (fn:=Tryz.f82) R4 ?_;refine zG ?_;refine sB [gS aA lA kA,jx x1,jx b1,gS a1 l1 c1,jx d1,gS e1 f1 u1,jx x2,jx b2,gS a2 l2 c2,jx d2,gS e2 f2 u2] ?_;intro h1 p1 y1;refine sB [jx H,gS F l3 J,jx O,gS R T u3] ?_;intro h2 p2 y2;refine zG ?_;refine zl [0,0,2,6,14,0,32,126,255,511,1023] rfl ?_;refine zH ?_;refine dMs [jx H,gS F l3 J,jx O,gS R T u3] ?_;intro A p3 y3;have D:Exo n h A:=⟨(show Tx n h (n+1+1+1) A from zx).2⟩;refine dGA (n0:=n) (q:=r) [jx H,gS F l3 J,jx O,gS R T u3] (U.ext ratP.kp D.go zo) ratP.kp ⟨_,_,_,_,_,_,_,_,rfl,i3.ext D.go zo,j3.ext D.go zo⟩ (yp p3 R2) zo zo (fun W hW=>by (repeat (first|rfl|(refine rF rfl ?_)))) ?_;intro v4 h4 W4 b0 g4 T4 E4 K4 F4;obtain ⟨o,rfl⟩:=g4.shape (L:=m+1) (by rw [k0,ms];rfl);have nS:∀k,¬BkOf (gS asc m m) (3*k+2):=fun k=>U.nbk (zB _);have s4:=(K4 bs zo (U.nbk f)).trans ((D.go bs aq).trans st);refine zH ?_;refine dSx (n0:=n) [gZ .i64 (N:Int),gS o (m+1) (m+1),gS alo m m,gS ahi m m,gS a4 l4 c4,gS a5 l5 c5,gS a6 l6 c6,gS a7 l7 c7,jx b8,gS a9 l9 c9] s4 ?_;intro d p5 o5;have j:Tr n h (n+1+1+1+1) d:=Tr.s o5 ((show Tr n h (n+1+1+1) A from zt).trans T4);have k5:∀c,c<3*(n+1+1+1)→c≠bs→¬BkOf (gS asc m m) c→d c=A c:=fun c hc h1 h2=>(o5.1 c h1).trans (K4 c hc h2);have au:d (3*n+2)=_:=(k5 (3*n+2) zo zo (nS _)).trans zp;have av:d (3*(n+1)+2)=_:=(k5 (3*(n+1)+2) zo zo (nS _)).trans zp;have am:=g4.go ratP.kp (Tr.s o5 (Tr.refl _ _)) fun b hb=>o5.1 b (by have:=F4 b hb;omega);have K5:∀b,b<3*n→b≠bs→¬BkOf (gS asc m m) b→d b=h b:=fun b hb h1 h2=>(k5 b zo h1 h2).trans (D.go b hb);have aj:=gl.kb bndZ.kp j f K5 (gl.ne U zd);have az:=gh.kb bndZ.kp j f K5 (gh.ne U zd);clear p1 y1 p2 y2 p3 y3;refine zG ?_;refine zl [0,0,2,6,14,0,32,96,0,256,768,0,3840,8160,16352,32766,65535,131071,262143] rfl ?_;refine zH ?_;refine dC (mulQ _ (g.t j) (i1.t j) (j1.t j) (i3.t j) (j3.t j) z1 z3 ap) ?_;rintro _ h6 B ⟨b6,v6,a8,K,d6,e6,f6,u6,rfl,i6,j6⟩ y6 x6;refine dT #[jx x1,jx b6,gS v6 a8 K,jx d6,gS e6 f6 u6] ?_;refine dMs [jx x1,jx b6,gS v6 a8 K,jx d6,gS e6 f6 u6] ?_;intro h7 p7 x7;have X7:Exo (n+1+1+1+1) d h7:=⟨(show Tx (n+1+1+1+1) d (B+1) h7 from zx).2⟩;refine dGA (n0:=n) (q:=(x1,q1*r)) [jx x1,jx b6,gS v6 a8 K,jx d6,gS e6 f6 u6] (aj.ext bndZ.kp X7.go zo) bndZ.kp ⟨_,_,_,_,_,_,_,_,rfl,i6.ext x7 zs,j6.ext x7 zs⟩ (yp p7 R2) zo zo (fun W hW=>by (repeat (first|rfl|(refine rF rfl ?_)))) ?_;intro v8 h8 W8 b4 g8 T8 E8 K8 F8;obtain ⟨al,rfl⟩:=g8.shape (L:=m+1) (by rw [k0,ml];rfl);have nL:∀k,¬BkOf (gS alo m m) (3*k+2):=fun k=>gl.nbk (zB _);have s8:=(K8 bs zo (gl.nbk f)).trans ((X7.go bs zo).trans p5);refine zH ?_;refine dSx (n0:=n) [gZ .i64 (N:Int),gS o (m+1) (m+1),gS al (m+1) (m+1),gS ahi m m,gS a4 l4 c4,gS a5 l5 c5,gS a6 l6 c6,gS a7 l7 c7,jx b8,gS a9 l9 c9] s8 ?_;intro i p9 o9;have T9:Tr (n+1+1+1+1) d (B+1+1) i:=Tr.s o9 ((show Tr (n+1+1+1+1) d (B+1) h7 from ⟨zo,fun c hc=>.inl (X7.go c hc)⟩).trans T8);have k9:∀c,c<3*(n+1+1+1+1)→c≠bs→¬BkOf (gS alo m m) c→i c=d c:=fun c hc h1 h2=>(o9.1 c h1).trans ((K8 c zo h2).trans (X7.go c hc));have bg:i (3*n+2)=_:=(k9 (3*n+2) zo zo (nL _)).trans au;have bh:i (3*(n+1)+2)=_:=(k9 (3*(n+1)+2) zo zo (nL _)).trans av;have an:=am.kb ratP.kp T9 f k9 (am.ne aj zd);have ak:=g8.go bndZ.kp (Tr.s o9 (Tr.refl _ _)) fun b hb=>o9.1 b (by have:=F8 b hb;omega);have ai:=az.kb bndZ.kp T9 f k9 dj;have e:=j.trans T9;have n9:n+1+1+1+1≤B+1+1:=zo;have bf:n+1+1+1+1≤B:=y6;clear au av p5 p7 x6 x7 y6;generalize B+1+1=m9 at*
 refine zG ?_;refine zl [0,0,2,6,14,0,32,96,0,256,768,0,3840,8160,16352,32766,65535,131071,262143] rfl ?_;refine zH ?_;refine dC (mulQ _ (g.t e) (i2.t e) (j2.t e) (i3.t e) (j3.t e) z2 z3 ap) ?_;rintro _ bd aa ⟨G,ac,a0,I,M,P,S,ab,rfl,b5,b7⟩ bl bj;refine dT #[jx x2,jx G,gS ac a0 I,jx M,gS P S ab] ?_;refine dMs [jx x2,jx G,gS ac a0 I,jx M,gS P S ab] ?_;intro V b9 aw;have p:Exo m9 i V:=⟨(show Tx m9 i (aa+1) V from zx).2⟩;refine dGA (n0:=n) (q:=(x2,q2*r)) [jx x2,jx G,gS ac a0 I,jx M,gS P S ab] (ai.ext bndZ.kp p.go zo) bndZ.kp ⟨_,_,_,_,_,_,_,_,rfl,b5.ext aw zs,b7.ext aw zs⟩ (yp b9 R2) zo zo (fun W hW=>by (repeat (first|rfl|(refine rF rfl ?_)))) ?_;intro bi be af ax ag ay bc ae ad;obtain ⟨v,rfl⟩:=ag.shape (L:=m+1) (by rw [k0,mh];rfl);have bb:=(ae bs zo (gh.nbk f)).trans ((p.go bs zo).trans p9);refine zH ?_;refine dSx (n0:=n) [gZ .i64 (N:Int),gS o (m+1) (m+1),gS al (m+1) (m+1),gS v (m+1) (m+1),gS a4 l4 c4,gS a5 l5 c5,gS a6 l6 c6,gS a7 l7 c7,jx b8,gS a9 l9 c9] bb ?_;intro ao ba u;have C:Tr m9 i (aa+1+1) ao:=Tr.s u ((show Tr m9 i (aa+1) V from ⟨zo,fun c hc=>.inl (p.go c hc)⟩).trans ay);have Z:∀c,c<3*m9→c≠bs→¬BkOf (gS ahi m m) c→ao c=i c:=fun c hc h1 h2=>(u.1 c h1).trans ((ae c zo h2).trans (p.go c hc));refine zG ?_;have ar:bs∈addW n [bs] (addW n af (addW n [bs] (addW n W8 (addW n [bs] (addW n W4 []))))):=wQ aq gN;refine ⟨rfl,[],rfl,⟨zo,o,al,v,ba,an.kb ratP.kp C f Z (an.ne ai zd),ak.kb bndZ.kp C f Z (fun b hb Y=>?_),ag.go bndZ.kp (Tr.s u (Tr.refl _ _)) (fun b hb=>u.1 b (by have:=ad b hb;omega)),fun b hb Y=>?_,fun b hb=>by have:=F4 b hb;omega,e.trans C,fun b hb h1 h2 A h4=>(Z b zo h1 h4).trans ((k9 b zo h1 A).trans (K5 b hb h1 h2)),yL (fun c hc=>.inl (qq.1 hc)) (yL (fun c hc=>.inr (ax c hc)) (yL (fun c hc=>.inl (qq.1 hc)) (yL (fun c hc=>.inr (b4 c hc)) (yL (fun c hc=>.inl (qq.1 hc)) (yL (fun c hc=>.inr (b0 c hc)) (fun c hc=>eN hc og))))))⟩,fun hw=>?_⟩
 ·have h1:=F8 b hb;have h2:=(gh.bk b Y).2.1;omega
 ·have h1:=ad b hb;have h2:=(ak.bk b Y).2.1;omega
 have hw:addW n [bs] (addW n af (addW n [bs] (addW n W8 (addW n [bs] (addW n W4 [])))))=[]:=hw;rw [hw] at ar;cases ar
end
structure SN (l:Nat)(h:HF)(n bt:Nat)(d:Sol)(A:Adr):Prop extends SM l h n bt d A where
 dh:∀b,BkOf (gS A.hi (gP d.hi) (gP d.hi)) b→¬BkOf (gS A.lo (gP d.lo) (gP d.lo)) b
 db:∀b,BkOf (gS A.nb (gP d.nb) (gP d.nb)) b→¬BkOf (gS A.ba (gP d.ba) (gP d.ba)) b
 rl:∀r∈d.ta,3*l≤r.1∧r.1≠bt
 rj:(d.ta.map (·.1)).Nodup
 lb:3*l≤bt
theorem len1 {α:Type}(l:List α)(x:α):gP (l++[x])=gP l+1:=by rw [k0];rfl
section
variable {n u:Nat}{b:Bool}{a:Option Addr}
theorem SN.ext (s:SN l h n bs d A)(x:Ext n h h')(e:n≤n'):SN l h' n' bs d A:=⟨s.toSM.ext x e,s.dh,s.db,s.rl,s.rj,s.lb⟩
theorem SM.rwk (s:SM l h n bs d A){v:Value}{e:TypeId}{D:Type}{sz:Nat}{P:List Value→D→HF→Nat→Prop}{i:List D}(g:GR sz P l h n e v i)(T:Tr n h n' h')(K:∀c,c<3*n→c≠bs→¬BkOf v c→h' c=h c)(j:∀r∈d.ta,r.1≠bs):∀r∈d.ta,OZ h' n' r.1 r.2∧gro r.1=false:=
 fun r f=>⟨(s.rw r f).1.go intP.kp T (K _ (s.rw r f).1.1 (j r f) (g.nbk (s.rw r f).2)),(s.rw r f).2⟩
theorem SN.aNb (s:SN l h n bs d A){x:Nat}(T:Tr n h n' h')(K:∀c,c<3*n→c≠bs→¬BkOf (gS A.nb (gP d.nb) (gP d.nb)) c→h' c=h c)(g:GR 1 natP l h' n' 3 (gS aX (gP d.nb+1) (gP d.nb+1)) (d.nb++[x]))(F:∀b,BkOf (gS aX (gP d.nb+1) (gP d.nb+1)) b→3*n≤b)
  (p:h' bs=some (.row [gZ .i64 (d.n:Int),gS A.sc (gP d.sc) (gP d.sc),gS A.lo (gP d.lo) (gP d.lo),gS A.hi (gP d.hi) (gP d.hi),gS A.va (gP d.va) (gP d.va),gS A.ba (gP d.ba) (gP d.ba),gS aX (gP d.nb+1) (gP d.nb+1),gS A.ta (gP d.ta) (gP d.ta),jx b,gS a u c] ty))(i:IW h' n' b a u c d.den):SN l h' n' bs {d with nb:=d.nb++[x]} {A with nb:=aX}:=by
 have e:=len1 d.nb x;have f:=s.bs.2;refine ⟨⟨⟨b,a,u,c,ty,?_,i⟩,⟨by have:=s.bs.1;have:=T.1;omega,f⟩,s.sc.kb ratP.kp T f K (s.sc.ne s.nb zd),s.lo.kb bndZ.kp T f K (s.lo.ne s.nb zd),s.hi.kb bndZ.kp T f K (s.hi.ne s.nb zd),s.va.kb ratP.kp T f K (s.va.ne s.nb zd),s.ba.kb natP.kp T f K (fun b m j=>s.db b j m),?_,s.ta.kb rwP.kp T f K (s.ta.ne s.nb zd),s.rwk s.nb T K fun r o=>(s.rl r o).2,s.dj⟩,s.dh,?_,s.rl,s.rj,s.lb⟩
 ·show h' bs=some (.row [_,_,_,_,_,_,gS aX (gP (d.nb++[x])) (gP (d.nb++[x])),_,_,_] ty);rw [e];exact p
 ·show GR _ _ _ _ _ _ (gS aX (gP (d.nb++[x])) (gP (d.nb++[x]))) _;rw [e];exact g
 show ∀b,BkOf (gS aX (gP (d.nb++[x])) (gP (d.nb++[x]))) b→¬BkOf (gS A.ba (gP d.ba) (gP d.ba)) b;rw [e];intro b m j;have:=F b m;have:=(s.ba.bk b j).2.1;omega
theorem SN.aBa (s:SN l h n bs d A){x:Nat}(T:Tr n h n' h')(K:∀c,c<3*n→c≠bs→¬BkOf (gS A.ba (gP d.ba) (gP d.ba)) c→h' c=h c)(g:GR 1 natP l h' n' 3 (gS aX (gP d.ba+1) (gP d.ba+1)) (d.ba++[x]))(F:∀b,BkOf (gS aX (gP d.ba+1) (gP d.ba+1)) b→3*n≤b)
  (p:h' bs=some (.row [gZ .i64 (d.n:Int),gS A.sc (gP d.sc) (gP d.sc),gS A.lo (gP d.lo) (gP d.lo),gS A.hi (gP d.hi) (gP d.hi),gS A.va (gP d.va) (gP d.va),gS aX (gP d.ba+1) (gP d.ba+1),gS A.nb (gP d.nb) (gP d.nb),gS A.ta (gP d.ta) (gP d.ta),jx b,gS a u c] ty))(i:IW h' n' b a u c d.den):SN l h' n' bs {d with ba:=d.ba++[x]} {A with ba:=aX}:=by
 have e:=len1 d.ba x;have f:=s.bs.2;refine ⟨⟨⟨b,a,u,c,ty,?_,i⟩,⟨by have:=s.bs.1;have:=T.1;omega,f⟩,s.sc.kb ratP.kp T f K (s.sc.ne s.ba zd),s.lo.kb bndZ.kp T f K (s.lo.ne s.ba zd),s.hi.kb bndZ.kp T f K (s.hi.ne s.ba zd),s.va.kb ratP.kp T f K (s.va.ne s.ba zd),?_,s.nb.kb natP.kp T f K s.db,s.ta.kb rwP.kp T f K (s.ta.ne s.ba zd),s.rwk s.ba T K fun r o=>(s.rl r o).2,s.dj⟩,s.dh,?_,s.rl,s.rj,s.lb⟩
 ·show h' bs=some (.row [_,_,_,_,_,gS aX (gP (d.ba++[x])) (gP (d.ba++[x])),_,_,_,_] ty);rw [e];exact p
 ·show GR _ _ _ _ _ _ (gS aX (gP (d.ba++[x])) (gP (d.ba++[x]))) _;rw [e];exact g
 show ∀b,BkOf (gS A.nb (gP d.nb) (gP d.nb)) b→¬BkOf (gS aX (gP (d.ba++[x])) (gP (d.ba++[x]))) b;rw [e];intro b j m;have:=F b m;have:=(s.nb.bk b j).2.1;omega
theorem SN.aVa (s:SN l h n bs d A){x:Rat}(T:Tr n h n' h')(K:∀c,c<3*n→c≠bs→¬BkOf (gS A.va (gP d.va) (gP d.va)) c→h' c=h c)(g:GR 4 ratP l h' n' 92 (gS aX (gP d.va+1) (gP d.va+1)) (d.va++[x]))(F:∀b,BkOf (gS aX (gP d.va+1) (gP d.va+1)) b→3*n≤b)
  (p:h' bs=some (.row [gZ .i64 (d.n:Int),gS A.sc (gP d.sc) (gP d.sc),gS A.lo (gP d.lo) (gP d.lo),gS A.hi (gP d.hi) (gP d.hi),gS aX (gP d.va+1) (gP d.va+1),gS A.ba (gP d.ba) (gP d.ba),gS A.nb (gP d.nb) (gP d.nb),gS A.ta (gP d.ta) (gP d.ta),jx b,gS a u c] ty))(i:IW h' n' b a u c d.den):SN l h' n' bs {d with va:=d.va++[x]} {A with va:=aX}:=by
 have e:=len1 d.va x;have f:=s.bs.2;refine ⟨⟨⟨b,a,u,c,ty,?_,i⟩,⟨by have:=s.bs.1;have:=T.1;omega,f⟩,s.sc.kb ratP.kp T f K (fun b m j=>s.dj b j m),s.lo.kb bndZ.kp T f K (s.lo.ne s.va zd),s.hi.kb bndZ.kp T f K (s.hi.ne s.va zd),?_,s.ba.kb natP.kp T f K (s.ba.ne s.va zd),s.nb.kb natP.kp T f K (s.nb.ne s.va zd),s.ta.kb rwP.kp T f K (s.ta.ne s.va zd),s.rwk s.va T K fun r o=>(s.rl r o).2,?_⟩,s.dh,s.db,s.rl,s.rj,s.lb⟩
 ·show h' bs=some (.row [_,_,_,_,gS aX (gP (d.va++[x])) (gP (d.va++[x])),_,_,_,_,_] ty);rw [e];exact p
 ·show GR _ _ _ _ _ _ (gS aX (gP (d.va++[x])) (gP (d.va++[x]))) _;rw [e];exact g
 show ∀b,BkOf (gS aX (gP (d.va++[x])) (gP (d.va++[x]))) b→¬BkOf (gS A.sc (gP d.sc) (gP d.sc)) b;rw [e];intro b m j;have:=F b m;have:=(s.sc.bk b j).2.1;omega
theorem SN.aTa (s:SN l h n bs d A){x:Nat×List Int}(T:Tr n h n' h')(K:∀c,c<3*n→c≠bs→¬BkOf (gS A.ta (gP d.ta) (gP d.ta)) c→h' c=h c)(g:GR 1 rwP l h' n' 90 (gS aX (gP d.ta+1) (gP d.ta+1)) (d.ta++[x]))(o:OZ h' n' x.1 x.2)(m:gro x.1=false)(hx:x.1≠bs∧3*l≤x.1∧∀r∈d.ta,r.1<x.1)
  (B:h' bs=some (.row [gZ .i64 (d.n:Int),gS A.sc (gP d.sc) (gP d.sc),gS A.lo (gP d.lo) (gP d.lo),gS A.hi (gP d.hi) (gP d.hi),gS A.va (gP d.va) (gP d.va),gS A.ba (gP d.ba) (gP d.ba),gS A.nb (gP d.nb) (gP d.nb),gS aX (gP d.ta+1) (gP d.ta+1),jx b,gS a u c] ty))(i:IW h' n' b a u c d.den):SN l h' n' bs {d with ta:=d.ta++[x]} {A with ta:=aX}:=by
 have e:=len1 d.ta x;have j:=s.bs.2;have y:=s.rwk s.ta T K fun r f=>(s.rl r f).2;refine ⟨⟨⟨b,a,u,c,ty,?_,i⟩,⟨by have:=s.bs.1;have:=T.1;omega,j⟩,s.sc.kb ratP.kp T j K (s.sc.ne s.ta zd),s.lo.kb bndZ.kp T j K (s.lo.ne s.ta zd),s.hi.kb bndZ.kp T j K (s.hi.ne s.ta zd),s.va.kb ratP.kp T j K (s.va.ne s.ta zd),s.ba.kb natP.kp T j K (s.ba.ne s.ta zd),s.nb.kb natP.kp T j K (s.nb.ne s.ta zd),?_,fun r f=>?_,s.dj⟩,s.dh,s.db,fun r f=>?_,?_,s.lb⟩
 ·show h' bs=some (.row [_,_,_,_,_,_,_,gS aX (gP (d.ta++[x])) (gP (d.ta++[x])),_,_] ty);rw [e];exact B
 ·show GR _ _ _ _ _ _ (gS aX (gP (d.ta++[x])) (gP (d.ta++[x]))) _;rw [e];exact g
 ·rcases AY.1 f with f|f
  ·exact y r f
  rw [qq.1 f];exact ⟨o,m⟩
 ·rcases AY.1 f with f|f
  ·exact s.rl r f
  rw [qq.1 f];exact ⟨hx.2.1,hx.1⟩
 show ((d.ta++[x]).map (·.1)).Nodup;rw [List.map_append,List.nodup_append];refine ⟨s.rj,List.nodup_cons.2 ⟨og,List.nodup_nil⟩,fun p v q w=>?_⟩;obtain ⟨r,f,rfl⟩:=AZ.1 v;have:=hx.2.2 r f;have C:q=x.1:=qq.1 w;omega
theorem zq5 (k:Nat)(g:GG h n)(s:SN l h n bs d A)(hl:l≤n){m:Nat}(G:gP d.sc=m)(O:gP d.lo=m)(N:gP d.hi=m)(hm:m<999999){aA:Option Addr}{lA kA:Nat}{x1 b1 d1 x2 b2 d2 b3 d3:Bool}{Z e1 a2 e2 a3 e3:Option Addr}{l1 c1 f1 u1 l2 c2 f2 u2 l3 c3 f3 u3:Nat}{f i r:Rat}(i1:IW h n b1 Z l1 c1 f.num)(j1:IW h n d1 e1 f1 u1 (denZ f))(i2:IW h n b2 a2 l2 c2 i.num)(j2:IW h n d2 e2 f2 u2 (denZ i))(i3:IW h n b3 a3 l3 c3 r.num)(j3:IW h n d3 e3 f3 u3 (denZ r)){a b:Nat}(z1:Sz a f)(z2:Sz a i)(z3:Sz b r)(a8:a+b≤2496):
  CF (cal (k+11)) 82 [mo (some ⟨bs,0,none⟩),.agg #[gS aA lA kA,jx x1,jx b1,gS Z l1 c1,jx d1,gS e1 f1 u1,jx x2,jx b2,gS a2 l2 c2,jx d2,gS e2 f2 u2],.agg #[jx b3,gS a3 l3 c3,jx d3,gS e3 f3 u3]] h n fun _ h' n' w=>n≤n'∧(∃A',SN l h' n' bs {d with sc:=d.sc++[r],lo:=d.lo++[(x1,f*r)],hi:=d.hi++[(x2,i*r)]} A')∧Tr n h n' h'∧(∀b,b<3*n→b≠bs→gro b=false→h' b=h b)∧(∀b,b<3*l→h' b=h b)∧(∀c∈w,3*l≤c):=by
 obtain ⟨b0,a0,u0,c0,ty,st,iD⟩:=s.st;have V:=s.bs.2;have q:=s.sc;have p:=s.lo;have o:=s.hi;have U:=s.dh;rw [G,O,N] at st;rw [G] at q;rw [O] at p U;rw [N] at o U;refine wc (zof k g st s.bs.1 V hl q p o U G O N hm i1 j1 i2 j2 i3 j3 z1 z2 z3 a8) ?_;rintro _ h' n' w ⟨y,H,J,I,p8,a7,a6,a5,a4,F8,T,Y,aa⟩;have R:∀{D:Type} {sz:Nat} {P:List Value→D→HF→Nat→Prop} {v:Value} {e:TypeId} {l':List D},KP sz P→GR sz P l h n e v l'→(∀b,BkOf v b→¬BkOf (gS A.sc m m) b)→(∀b,BkOf v b→¬BkOf (gS A.lo m m) b)→(∀b,BkOf v b→¬BkOf (gS A.hi m m) b)→GR sz P l h' n' e v l':=fun kp g W B h3=>g.go kp T fun b j=>Y b (g.bk b j).2.1 (fun e=>by have:=(g.bk b j).2.2.1;rw [e,V] at this;cases this) (W b j) (B b j) (h3 b j);have S:=s.dj;rw [G] at S;have M:=len1 d.sc r;have L:=len1 d.lo (x1,f*r);have K:=len1 d.hi (x2,i*r);rw [G] at M;rw [O] at L;rw [N] at K;have kf:∀b,b<3*n→b≠bs→gro b=false→h' b=h b:=fun b j W B=>Y b j W (q.nbk B) (p.nbk B) (o.nbk B);refine ⟨y,⟨⟨H,J,I,A.va,A.ba,A.nb,A.ta⟩,⟨⟨b0,a0,u0,c0,ty,?_,iD.t T⟩,⟨by have:=s.bs.1;omega,V⟩,?_,?_,?_,R ratP.kp s.va S (s.va.ne p zd) (s.va.ne o zd),R natP.kp s.ba (s.ba.ne q zd) (s.ba.ne p zd) (s.ba.ne o zd),R natP.kp s.nb (s.nb.ne q zd) (s.nb.ne p zd) (s.nb.ne o zd),R rwP.kp s.ta (s.ta.ne q zd) (s.ta.ne p zd) (s.ta.ne o zd),fun r C=>⟨(s.rw r C).1.go intP.kp T (kf _ (s.rw r C).1.1 (s.rl r C).2 (s.rw r C).2),(s.rw r C).2⟩,?_⟩,?_,s.db,s.rl,s.rj,s.lb⟩,T,kf,fun b j=>Y b zo (fun e=>by have:=s.lb;omega) (fun F=>by have:=(q.bk b F).1;omega) (fun F=>by have:=(p.bk b F).1;omega) (fun F=>by have:=(o.bk b F).1;omega),fun c hc=>by rcases aa c hc with rfl|h;exact s.lb;exact h⟩
 ·show h' bs=some (.row [_,gS H (gP (d.sc++[r])) (gP (d.sc++[r])),gS J (gP (d.lo++[(x1,f*r)])) (gP (d.lo++[(x1,f*r)])),gS I (gP (d.hi++[(x2,i*r)])) (gP (d.hi++[(x2,i*r)])),_,_,_,_,_,_] ty);rw [M,L,K];exact p8
 ·show GR _ _ _ _ _ _ (gS H (gP (d.sc++[r])) (gP (d.sc++[r]))) _;rw [M];exact a7
 ·show GR _ _ _ _ _ _ (gS J (gP (d.lo++[(x1,f*r)])) (gP (d.lo++[(x1,f*r)]))) _;rw [L];exact a6
 ·show GR _ _ _ _ _ _ (gS I (gP (d.hi++[(x2,i*r)])) (gP (d.hi++[(x2,i*r)]))) _;rw [K];exact a5
 ·show ∀b,BkOf (gS A.va (gP d.va) (gP d.va)) b→¬BkOf (gS H (gP (d.sc++[r])) (gP (d.sc++[r]))) b;rw [M];intro b j a9;have:=F8 b a9;have:=(s.va.bk b j).2.1;omega
 show ∀b,BkOf (gS I (gP (d.hi++[(x2,i*r)])) (gP (d.hi++[(x2,i*r)]))) b→¬BkOf (gS J (gP (d.lo++[(x1,f*r)])) (gP (d.lo++[(x1,f*r)]))) b;rw [K,L];exact a4
end
end Go.Proofs.YtepkmadmigkgmaaGreatDoor
