import Derived.KernelRfl
import Derived.Test.YtfajmfoofmienaaGreatDoorSlkB
open Bool renaming and_self→EF,eq_false_iff→IC,false_eq_true→FE,not_false→Gf,not_true→JF,or_true→H7
open Classical renaming byContradiction→DU
open Go.IntKind renaming wrap→D8
open Go.Proofs.Tryz renaming f117→at6,f150→at5,f192→at7,f195→at8
open Go.Proofs.YtfajmfoofmienaaGreatDoor.KN renaming refl→FU,upd→GD
open Go.Proofs.YtfajmfoofmienaaGreatDoor.KQ renaming nil→IB,snoc→G7,zeros→am9
open Go.Proofs.YtfajmfoofmienaaGreatDoor.NW renaming last→ak7,nil→KF
open Go.Proofs.YtfajmfoofmienaaGreatDoor.Norm renaming nil→IA
open Go.Value renaming bool→Dk,int→U,pointer→Dn,slice→Y,string→Dl
open Int renaming gcd→Kj,natAbs_natCast→DQ,natAbs_neg→F3,natAbs_of_nonneg→HZ,natAbs_tdiv→HL,natCast_mul→E0,neg_neg→Hl,neg_tdiv→aa7,ofNat_natAbs_of_nonpos→G5,sign_eq_one_of_pos→GX,tdiv_neg→aa8,tdiv_nonneg→I6,tmod_nonneg→J0,toNat_natCast→Ez
open List renaming all_eq_true→Fy,append_assoc→DN,append_nil→DZ,drop_drop→ES,drop_eq_nil_of_le→Ga,drop_left'→GC,drop_length→Fo,drop_replicate→Ih,drop_zero→EE,foldl→ap5,foldl_cons→I5,getElem?_append_left→En,getElem?_append_right→DL,getElem?_drop→Em,getElem?_eq_getElem→Dm,getElem?_eq_some_iff→Du,length→O,length_append→Do,length_cons→D3,length_drop→Ea,length_eq_one_iff→GY,length_eq_zero_iff→DA,length_nil→GB,length_pos_iff→Hz,length_replicate→DV,length_singleton→Dy,length_take→DW,mem_append→Ec,mem_cons→DR,mem_cons_self→Fj,mem_map→EX,mem_of_getElem?→Dq,mem_of_mem_take→EB,mem_singleton→Dx,nil_append→El,not_mem_nil→Ds,replicate→Dp,replicate_append_replicate→Hx,replicate_succ→Fx,replicate_zero→FK,set_append_right→Eo,take_append_drop→Ep,take_left'→HK,take_length→DO,take_of_length_le→DK,take_succ_eq_append_getElem→FZ
open Nat renaming add_assoc→HO,add_comm→EY,add_mul→DE,add_mul_div_left→HW,add_mul_div_right→IK,add_mul_mod_self_right→Gx,add_sub_cancel→FR,add_zero→Ej,beq→Eh,ble→DX,ble_eq_true_of_le→Dv,div_add_mod→EP,div_div_eq_div_mul→Gb,div_eq_of_lt→Fz,div_le_self→FL,div_lt_iff_lt_mul→Ff,div_one→HY,eq_of_beq_eq_true→Eb,eq_zero_or_pos→FF,gcd→DH,gcd_comm→FJ,gcd_le_left→Io,gcd_rec→Jy,gcd_zero_right→HH,le_div_iff_mul_le→Ge,le_mul_of_pos_right→Gr,le_of_ble_eq_true→D5,le_of_lt→HG,le_refl→Fu,le_sub_one_of_lt→Kb,le_succ→DM,le_trans→Ed,lt_of_le_of_lt→DP,lt_of_lt_of_le→DY,lt_or_ge→EG,lt_succ_self→G1,lt_trans→ID,lt_trichotomy→Hh,min_eq_left→Ev,mod_eq_of_lt→Dz,mod_lt→EA,mul_add→D4,mul_assoc→DG,mul_comm→Dt,mul_div_mul_right→IJ,mul_le_mul→Es,mul_le_mul_left→DT,mul_le_mul_right→Dw,mul_left_comm→ER,mul_lt_mul_of_pos_right→FG,mul_mod_mul_right→HP,mul_one→Ek,mul_pos→Fw,mul_right_comm→Gi,mul_succ→Jf,mul_zero→Fp,one_mul→EM,pow_add→EH,pow_le_pow_left→Ig,pow_le_pow_right→DJ,pow_mul→Hj,pow_pos→Er,pow_succ→DI,pow_zero→FD,sub_self→Ee,succ_mul→Fb,zero_add→D7,zero_le→Hf,zero_mod→aa6,zero_mul→EI
open Rat renaming den_intCast→Hc,divInt→Ef,num_intCast→GU
open UInt8 renaming ofNat→EV,toNat_inj→HM
set_option maxHeartbeats 8000000
set_option linter.unusedVariables false
set_option linter.unusedSimpArgs false
namespace Go.Proofs.YtfajmfoofmienaaGreatDoor
open Go Go.GL
variable {ops r:List Oper}{h h':HF}{n bytes size m i len top c1 c2 l1 l2 bt sz n' lo n0 Z4 c' cX cY b c g j V d l P k N:Nat}{w ms ln Z0 A C L W S X:List Nat}{t:TF}{Q:SV→Prop}{o:Oper}{al:List (Nat×Nat)}{ef:List (Nat×HF×List Nat)}{E:Env}{e e2 ty xT e3:TypeId}{z d1 d2 z2 n1 n2 v:Value}{args new cs:List Value}{body:Code}{ik' ik:IntKind}{a1 a2 aY a:Option Addr}{fn:Func}{hi x:Operand}{ji:Int}{s:List UInt8}{q:Rat}{f:FuncId}
variable {u:Nat}{sT:TypeId}{ld:List Nat}
section
theorem UQ(n:Nat):gro (3*n+2)=false:=by
 exact Cr
theorem UR{x:Value}(hu:E.und sT=some (.slice e))(o:E.inf e=some (size,bytes,z))(y:O (zr z)=size)(l:1≤size∧1≤bytes)(w:argS h size x m new)(d:m*bytes≤1099511627776)(u:gro b=false)(v:O new=m*size):
  ∃v' h' n',yP E h n sT (Y (some ⟨b,0,none⟩) 0 0) x=some (.val v' h' n' [])∧n≤n'∧KN n h h'∧(b<3*n→Sl h' n' size v' new)∧(∀c,c≤n→3*c≤b→yh c v')∧∃a,v'=Y a m m:=by
 obtain⟨f,hc⟩:=w;have c1:DX (m*bytes) 1099511627776=true:=Dv d;have c2:Eh (O (zr z)) size=true:=by rw[y];exact Ct
 have i:DX 1 size=true:=Dv l.1;have j:DX 1 bytes=true:=Dv l.2;by_cases hm:m=0
 .subst hm;have p:new=[]:=DA.1 (by rw[v];simp);subst p;refine⟨Y (some ⟨b,0,none⟩) 0 0,h,n,?_,Dh,FU _ _,fun d=>.nil (.inr ⟨_,_,_,rfl,d⟩),fun c _ g=>g,_,rfl⟩;simp only[yP,hu,o,f,hc,D7,c1,c2,i,j,EF,show DX 0 0=true from rfl,uM]
 have q:DX m 0=false:=by
  cases d:DX m 0 with
  |false=>rfl
  |true=>have:=D5 d;omega
 have s:yo h size 0 (Y (some ⟨b,0,none⟩) 0 0)=some []:=by simp[yo]
 refine⟨Y (some ⟨3*n+1,0,none⟩) m m,_,n+1,?_,DM _,GD (b:=3*n+1) (x:=some (.row new e)) Z,fun _=>.at_ Z (ze _ _ _) rfl Dh Z ta,fun c g _=>by show 3*c≤3*n+1;omega,_,rfl⟩;simp only[yP,hu,o,f,hc,D7,c1,c2,i,j,q,s,EF,gY,u,El]
set_option maxRecDepth 100000
theorem fw(k:Nat)(c:Sl h n 1 (Y a1 l1 c1) (u32s A))(i:Sl h n 1 (Y a2 l2 c2) (u32s C))(o:Norm A)(g:Norm C)(p:C≠[])(Z4:O A<1000000000):
  CF (KO (k+3)) 145 [Y a1 l1 c1,Y a2 l2 c2] h n (DivR n h A C):=by
 refine zl (fn:=Tryz.f145) R4 ?_;have I:=c.lenU;have J:=i.lenU;subst I J;have G:=g.pos p;refine Zu ?_;refine ye _ R5 (fH (k+1) c i o g Z) ?_;rintro _ rfl;by_cases hlt:val A<val C
 .rw[vW hlt];refine Zq ?_;refine ud (cs:=[]) R5 ?_;repeat refine zR ?_
  obtain⟨v',h',n',N,g2,P,R,S,a,rfl⟩:=UR (E:=KT) (h:=upd h (3*n+2) (some (.row [] 151))) (n:=n+1) (sT:=47) (b:=3*n+2) rfl rfl rfl zd (uW (c.ext (GD Z) (DM n))) Z (UQ n) (by rw[ym,Ek]);refine yX R5 N<|Zb ?_;refine retH [Y none 0 0,Y a (O A) (O A)] R3 ⟨rfl,by show n≤n';omega,(GD Z).trans P (DM n),none,0,[],a,_,A,rfl,.nil (.inl rfl),R Z,IA,o,?_,?_,trivial,S n (DM n) Z⟩
  .rw[Fz hlt];rfl
  rw[Dz hlt]
 have Z0:0≤cmpZ (val A) (val C):=by
  unfold cmpZ;rw[CT hlt];split<;>decide
 generalize cmpZ (val A) (val C)=cz at Z0;refine Zk ?_;by_cases hone:O C=1
 .obtain⟨d,rfl⟩:∃d,C=[d]:=GY.1 hone;have a0:d≠0:=g.last (l:=[]);have a3:d<4294967296:=g.1 d cA;have q:val [d]=d:=by simp[val]
  refine Zr ?_;refine ya (j:=0) (dv:=d) R7 i R2 rfl (fun _=>rfl) R4 fun _=>?_;refine zk _ R5 (mp k (d:=d) Z o.1 Z c) ?_;rintro _ T f _⟨rfl,v,F,a,s,L,rfl,w,nL,D,u,_⟩;refine Zj ?_;refine ud (cs:=[U .u32 ((val A%d:Nat):Int)]) R5 ?_;have B:=ur (k+1) (l:=[val A%d]) (h:=upd T (3*f+2) (some (.row [U .u32 ((val A%d:Nat):Int)] 151))) (n:=f+1) cA (Sl.own (Z1:=[val A%d]) (ze _ _ _) Z rfl Dh);refine zk _ R5 B ?_;rintro _ _ _ _⟨K,M,rfl,rfl,y⟩;subst K M;refine Zb ?_;have W:val A%d<d:=EA _ Z;refine retH [Y a (O L) s,Y (some ⟨3*f+2,0,none⟩) (O (z0 [val A%d])) 1] R3 ⟨rfl,by show n≤f+1;omega,F.trans (GD Z) v,a,s,L,_,_,z0 [val A%d],rfl,w.ext (GD Z) zs,y,nL,Norm.trim (fun x Z3=>by simp at Z3;omega),by rw[D,q],?_,u,by show 3*n≤3*f+2;omega⟩;rw[wt,q];simp[val]
 have H:O C≠0:=fun e=>p (DA.1 e);obtain⟨m,V⟩:∃m,O C=m+2:=⟨O C-2,Z⟩;repeat refine zR ?_
 simp only[zX,yi,zm,yj];rw[za rfl];simp only[zX,zm];exact UP c i o g V Z4 Z rfl V2
end
section
variable {X:CtxF}{d:Tmp}
theorem st_mul{ty e:TypeId}{x y:Operand}{a b:Int}(j:zh ops t o=true)(f:o.dst=some d)(g:zu X.nt (some d)=true)(c:o.op=.binOp .mul ty x y e)(l:KM t x=U .i64 a)(m:KM t y=U .i64 b)(i: -9223372036854775808≤a*b∧a*b<9223372036854775808)
  (k:EO X ops r ⟨upd t d (U .i64 (a*b)),h,n,w⟩ Q):EO X ops (o::r) ⟨t,h,n,w⟩ Q:=by
 refine zA ⟨j,f,g,(by rw[c];rfl),?_⟩ k;rw[c];show binE X.E .mul ty (KM t x) (KM t y)=_;rw[l,m];show some (U .i64 (D8 .i64 (a*b)))=_;rw[xI i]
end
theorem PK(k:Nat){h:HF}{n:Nat}{I J:Value}{x:Int}{l:List Nat}(S:IntR h n I J x l)(P:O l<1000000000):VF (KO (k+1)) 107 [.agg #[I,J]] h n fun v=>∃b:Nat,v=U .i64 (b:Int)∧(b=0↔x.natAbs=0)∧(b=1↔x.natAbs=1):=by
 refine zB (fn:=Tryz.f107) R4 ?_;obtain⟨rfl,q,p,y⟩:=S;obtain⟨a,Z3,g,rfl,_⟩:=q.len;have Z1:=q.lenU;subst Z1;refine zN ?_;refine xV (cs:=[Dk (decide (x<0)),Y a (O l) g]) R5<|Zj ?_;refine zi R6 (ze _ _ _) (v:=Y a (O l) g) R2 ?_;by_cases h0:l=[]
 .subst h0;refine Zo ?_;refine retF _ rfl (zj rfl) R2 ⟨0,rfl,?_,?_⟩<;>rw[←y]<;>simp[val]
 obtain⟨i,f,rfl⟩:=snoc h0;have M:f≠0:=p.last;have N:f<4294967296:=p.1 f cA;have C:O (i++[f])=O i+1:=by simp
 rw[C]at P q;simp only[C];have H:=q.ext (GD (b:=3*n+2) (x:=some (.row [Dk (decide (x<0)),Y a (O i+1) g] 49)) Z) (DM n);refine Zv ?_;refine zi R6 (ze _ _ _) (v:=Y a (O i+1) g) R2<|zM ?_;refine rZ R6 Z<|st_mul rfl rfl rfl rfl rfl rfl Z ?_;refine Zj ?_;refine zi R6 (ze _ _ _) (v:=Y a (O i+1) g) R2 ?_;repeat refine zR ?_
 refine zi R6 (ze _ _ _) (v:=Y a (O i+1) g) R2 ?_;repeat refine zR ?_
 refine ya (j:=O i) (dv:=f) R7 H ⟨rfl,Z⟩ cA (fun _=>rfl) R4 fun _=>?_;refine Zb ?_;generalize hh1:upd h (3*n+2) _=h1;refine zK (α:=Nat×Nat) (fun z=>[(3,U .i64 ((32*O i+z.1:Nat):Int)),(4,U .u32 (z.2:Int))]) (fun z Z0 Z4 V=>Z4=n+1∧V=[]∧z.2=f/2^z.1∧(z.1=0∨f/2^(z.1-1)≠0)∧z.1≤32) (fun z=>33-z.1) (0,f) ⟨aD,rfl,Df⟩ ⟨rfl,rfl,cA,.inl rfl,Di⟩ (by show 33-0<LL;decide) ?_;rintro⟨c,B⟩ t2 h2 _ _ ⟨rfl,rfl,m,u,R⟩;simp only at m u R;subst m;refine zN ?_;by_cases hz:f/2^c=0
 .refine Zm ?_;have K:c≠0:=fun e=>by rw[e,FD,HY]at hz;exact M hz
  have A:x.natAbs=val i+4294967296^O i*f:=by rw[←y,rt];simp[val]
  refine retF _ rfl (zj rfl) R2 ⟨32*O i+c,rfl,?_,?_⟩
  .have G:0<4294967296^O i*f:=Fw (Er Z) Z;omega
  have G:0<4294967296^O i*f:=Fw (Er Z) Z;by_cases hi0:O i=0
  .rw[DA.1 hi0]at A⊢;simp only[val,GB,FD,EM,D7,Fp]at A⊢;rw[A];constructor
   .rintro rfl;rw[Nat.pow_one]at hz;omega
   rintro rfl;rcases u with F|F
   .exact oU F K
   apply DU;intro T;apply F;exact Fz (Nat.one_lt_two_pow Z)
  have W:4294967296^1*1≤4294967296^O i*f:=Es (DJ Z Z) Z;omega
 have D:c+1≤32:=by
  apply DU;intro T;have:c=32:=Z;subst this;exact hz (Fz N)
 have L:f/2^c≤f:=FL _ _;generalize m:f/2^c=B at hz L⊢;refine Zo ?_;refine zM ?_;refine kB (a:=B) (s:=1) R6 Z<|Zb ?_;refine goOn (c+1,B/2^1) (by show 33-(c+1)<33-c;omega) ⟨dO,rfl,Df⟩ ⟨rfl,rfl,?_,.inr (by show f/2^(c+1-1)≠0;rw[FR,m];exact hz),D⟩;show B/2^1=f/2^(c+1);rw[←m,Gb,←EH]
theorem pD{x:Int}{neg:Bool}(g:Sl h n 1 (Y a (O L) c) (u32s L))(e:Norm L)(hv:val L=x.natAbs)(d:x≠0→neg=decide (x<0)):IntR h n (Dk (neg&&decide (0<O L))) (Y a (O L) c) x L:=by
 refine⟨?_,g,e,hv⟩;have f:=e.zero;rw[←DA]at f;by_cases hx:x=0
 .have:¬0<O L:=Z;rw[aA this,hx,Bool.and_false];rfl
 have:0<O L:=Z;rw[kA this,Bool.and_true,d hx]
theorem N1(k:Nat){s i:Value}{x:Int}{l:List Nat}(I:IntR h n s i x l):CF (KO (k+2)) 104 [.agg #[s,i]] h n fun v u D w=>w=[]∧n≤D∧KN n h u∧∃c1',v=.agg #[c1',i]∧IntR u D c1' i (-x) l:=by
 refine zl (fn:=Tryz.f104) R4 ?_;obtain⟨rfl,g,j,q⟩:=I;obtain⟨a,K,d,rfl,_⟩:=g.len;have G:=g.lenU;subst G;refine zN ?_;refine xV (cs:=[Dk (decide (x<0)),Y a (O l) d]) R5<|z6 R5<|zN ?_;generalize hh:upd (upd h (3*n+2) _) (3*(n+1)+2) _=h1;have m:∃e,h1 (3*n+2)=some (.row [Dk (decide (x<0)),Y a (O l) d] e):=⟨_,AC⟩;have p:∃e,h1 (3*(n+1)+2)=some (.row [Dk false,Y none 0 0] e):=⟨_,kS⟩;have B:KN n h h1:=by rw[←hh];intro b y;rw[zg Z,zg Z]
 obtain⟨M,m⟩:=m;obtain⟨F,p⟩:=p;repeat refine zR ?_
 refine zi R6 m (v:=Dk (decide (x<0))) R2 ?_;repeat refine zR ?_
 refine zi R6 m (v:=Y a (O l) d) R2<|zk _ R5 (uL k _ _ (!decide (x<0)) a (O l) d) ?_;rintro _ H N _⟨rfl,rfl,rfl,o⟩;refine zw [Dk (!decide (x<0)&&decide (0<O l)),Y a (O l) d] R7 rfl (by rw[o _ Z];exact p) rfl eL ?_;refine zN ?_;have f:KN n h (upd H (3*(n+1)+2) (some (.row [Dk (!decide (x<0)&&decide (0<O l)),Y a (O l) d] F))):=fun b y=>by rw[zg Z,o b Z];exact B b y
 refine xu R5 (ze _ _ _) rfl ⟨rfl,by show n≤n+1+1+1;omega,f,_,rfl,pD (g.ext f Z) j (by rw[q];omega) (fun J=>?_)⟩;by_cases hx:x<0
 .rw[kA hx,aA Z];rfl
 rw[aA hx,kA Z];rfl
theorem US{P:Value→HF→Nat→List Nat→Prop}{e:Ex}{t:TF}{a i:Tmp}{g s:TypeId}{j f l:Nat}{d:List Value}(y:rV e=true)(F:fn.results.toList=[.cell a ty,.cell i g])(u:t a=Dn (some ⟨b,0,none⟩))(m:t i=Dn (some ⟨j,0,none⟩))(B:GL.isAgg KT ty=some true)(p:GL.isAgg KT g=some true)(D:KT.inf ty=some (sz,bt,z))(q:KT.inf g=some (f,l,z2))(v:h b=some (.row cs s))(o:h j=some (.row d e2))(J:O cs=sz)(I:O d=f)(hp:P (.tuple #[.agg cs.toArray,.agg d.toArray]) h n w):RetH fn P e ⟨t,h,n,w⟩:=by
 refine retH [.agg cs.toArray,.agg d.toArray] ⟨y,?_,rfl⟩ hp;rw[F];have G:=zF ⟨B,D⟩ v rfl (show 0+sz≤O cs by omega) (show(cs.drop 0).take sz=cs by rw[EE,DK Z]);have H:=zF ⟨p,q⟩ o rfl (show 0+f≤O d by omega) (show(d.drop 0).take f=d by rw[EE,DK Z]);simp only[resF,u,m,G,H]
theorem gu(k:Nat){Z0 c2:Value}{x y:Int}(hx:IntR h n Z0 c2 x A)(hy:IntR h n d1 d2 y C)(f:y≠0)(D:O A<1000000000):
  CF (KO (k+4)) 108 [.agg #[Z0,c2],.agg #[d1,d2]] h n fun v Z1 Z3 w=>w=[]∧n≤Z3∧KN n h Z1∧∃q1 q2 r1 r2 g i,v=.tuple #[.agg #[q1,q2],.agg #[r1,r2]]∧IntR Z1 Z3 q1 q2 (x.tdiv y) g∧IntR Z1 Z3 r1 r2 (x.tmod y) i∧yh n q2∧yh n r2:=by
 refine zl (fn:=Tryz.f108) R4 ?_;obtain⟨rfl,R,nA,vA⟩:=hx;obtain⟨rfl,S,nC,vC⟩:=hy;obtain⟨a,la,H,rfl,_⟩:=R.len;obtain⟨c,lc,I,rfl,_⟩:=S.len;have e1:=R.lenU;have e2:=S.lenU;subst e1 e2;have a0:C≠[]:=fun e=>f (by have:=nC.zero.2 e;omega);refine zN ?_;refine xV (cs:=[Dk (decide (x<0)),Y a (O A) H]) R5<|xV (cs:=[Dk (decide (y<0)),Y c (O C) I]) R5<|z6 R5<|z6 R5<|zN ?_;generalize hh:upd (upd (upd (upd h (3*n+2) _) (3*(n+1)+2) _) (3*(n+1+1)+2) _) (3*(n+1+1+1)+2) _=d;have o:∃e,d (3*n+2)=some (.row [Dk (decide (x<0)),Y a (O A) H] e):=⟨_,by rw[←hh,zg Z,zg Z,zg Z,ze]⟩;have p:∃e,d (3*(n+1)+2)=some (.row [Dk (decide (y<0)),Y c (O C) I] e):=⟨_,AT⟩;have s:∃e,d (3*(n+1+1)+2)=some (.row [Dk false,Y none 0 0] e):=⟨_,by rw[←hh,zg Z,ze];rfl⟩;have u:∃e,d (3*(n+1+1+1)+2)=some (.row [Dk false,Y none 0 0] e):=⟨_,kS⟩;have B:KN n h d:=by rw[←hh];intro b D;rw[zg Z,zg Z,zg Z,zg Z]
 obtain⟨t1,o⟩:=o;obtain⟨t2,p⟩:=p;obtain⟨t3,s⟩:=s;obtain⟨t4,u⟩:=u;repeat refine zR ?_
 refine zi R6 o (v:=Y a (O A) H) R2 ?_;repeat refine zR ?_
 refine zi R6 p (v:=Y c (O C) I) R2<|zk _ R5 (fw k (R.ext B (show n≤n+1+1+1+1 by omega)) (S.ext B (show n≤n+1+1+1+1 by omega)) nA nC a0 D) ?_;rintro _ h2 n2 _⟨rfl,a3,j,F,J,g,G,K,i,rfl,a1,a2,nq,nr,vq,vr,M,N⟩;refine Zb ?_;refine zn [0,1,0,4,15,0,63,0,128,0,1023,2047,4095] rfl ?_;have q:h2 (3*n+2)=_:=(j _ Z).trans o;have Z4:h2 (3*(n+1)+2)=_:=(j _ Z).trans p;repeat refine zD ?_
 refine zS R6 (zL rfl q (v:=Dk (decide (x<0))) R2) R2 ?_;repeat refine zD ?_
 refine zS R6 (zL rfl Z4 (v:=Dk (decide (y<0))) R2) R2<|dr_B (a:=decide (x<0) != decide (y<0)) R5 ?_;repeat refine zD ?_
 refine yy _ R7 (uL (k+2) _ _ (decide (x<0) != decide (y<0)) F (O g) J) ?_;rintro _ h3 n3 _⟨rfl,rfl,rfl,l⟩;refine⟨rfl,Z,?_⟩;repeat refine zD ?_
 refine zS R6 (zL rfl q (v:=Dk (decide (x<0))) R2) ⟨(vn cA),rfl⟩ ?_;repeat refine zD ?_
 refine yy _ R7 (uL (k+2) _ _ (decide (x<0)) G (O i) K) ?_;rintro _ P n4 _⟨rfl,rfl,rfl,m⟩;refine⟨rfl,Z,?_⟩;have V:P (3*(n+1+1)+2)=_:=(m _ Z).trans ((l _ Z).trans ((j _ Z).trans s));have W:P (3*(n+1+1+1)+2)=_:=(m _ Z).trans ((l _ Z).trans ((j _ Z).trans u));refine xK (cs:=[Dk ((decide (x<0) != decide (y<0))&&decide (0<O g)),Y F (O g) J]) R7 rfl V zb eL R3 ?_;refine xK (cs:=[Dk (decide (x<0)&&decide (0<O i)),Y G (O i) K]) R7 rfl ((zg Z).trans W) zb eL R3 ?_;refine zN ?_;have T:KN n h (upd (upd P (3*(n+1+1)+2) (some (.row [Dk ((decide (x<0) != decide (y<0))&&decide (0<O g)),Y F (O g) J] t3))) (3*(n+1+1+1)+2) (some (.row [Dk (decide (x<0)&&decide (0<O i)),Y G (O i) K] t4))):=fun b D=>by
  rw[zg Z,zg Z,m b Z,l b Z,j b Z];exact B b D
 refine US rfl rfl rfl rfl rfl rfl rfl rfl ((zg Z).trans (ze _ _ _)) (ze _ _ _) rfl rfl ⟨rfl,by show n≤n2+1+1;omega,T,_,_,_,_,g,i,rfl,?_,?_,?_,?_⟩
 .refine pD (((((a1.ext l zs).ext m zs).old M Z).old M Z)) nq ?_ fun h0=>?_
  .rw[vq,vA,vC,HL];rfl
  by_cases hx0:x<0<;>by_cases f:y<0
  .rw[kA hx0,kA f,aA (by have:=Int.tdiv_nonneg_of_nonpos_of_nonpos (a:=x) (b:=y) Z Z;omega)];rfl
  .have d:=I6 (a:= -x) (b:=y) Z Z;rw[aa7]at d;rw[kA hx0,aA f,kA Z];rfl
  .have d:=I6 (a:=x) (b:= -y) Z Z;rw[aa8]at d;rw[aA hx0,kA f,kA Z];rfl
  rw[aA hx0,aA f,aA (by have:=I6 (a:=x) (b:=y) Z Z;omega)];rfl
 .refine pD (((((a2.ext l zs).ext m zs).old N Z).old N Z)) nr ?_ fun h0=>?_
  .rw[vr,vA,vC,Int.natAbs_tmod]
  by_cases hx0:x<0
  .have d:=J0 (a:= -x) y Z;rw[Int.neg_tmod]at d;rw[kA hx0,kA Z]
  rw[aA hx0,aA (by have:=J0 (a:=x) y Z;omega)]
 .exact M.mono Z
 exact N.mono Z
def LK(m x y:Nat):Prop:=if m%2=0 then y<2^(m/2)else x<2^(m/2+1)∧y<x
theorem LK.pos{x y:Nat}(h:LK m x y)(c:0<y):0<m:=by
 apply DU;intro a;have:m=0:=Z;subst this;unfold LK at h;simp at h;omega
theorem UT{x y:Nat}(a:0<y)(h:y<x):2*(x%y)<x:=by
 have d:=EA x a;have e:=EP x y;have c:1≤x/y:=(Ge a).2 Z;have f:y*1≤y*(x/y):=DT y c;omega
theorem LK.next{x y:Nat}(h:LK (m+1) x y)(a:0<y):LK m y (x%y):=by
 unfold LK at h⊢;by_cases hm:(m+1)%2=0
 .rw[De hm]at h;rw[CT Z];rw[show m/2+1=(m+1)/2 from Z];exact⟨h,EA x a⟩
 rw[CT hm]at h;rw[De Z];have c:=UT a h.2;rw[show(m+1)/2+1=m/2+1 from Z,DI]at h;omega
def La(b:Nat):Value→Prop
 | Y (some a) _ _=>a.block≠b
 |_=>True
theorem Sl.off{c:List Value}{x:Option BF}(s:Sl h n sz v c)(d:La b v):Sl (upd h b x) n sz v c:=
 s.keep (fun a l f e=>by subst e;exact zg d) Dh
theorem Below.off(h:Below m v)(a:3*m≤b):La b v:=by
 unfold Below at h;unfold La;split<;>simp_all;omega
theorem yh.off(h:yh m v)(a:b<3*m):La b v:=by
 unfold yh at h;unfold La;split<;>simp_all;omega
theorem UU(k:Nat){c1 V:Value}{x y:Int}(hx:IntR h n c1 V x A)(hy:IntR h n d1 d2 y C)(j:O A<1000000000∧O C<1000000000):
  CF (KO (k+4)) 106 [.agg #[c1,V],.agg #[d1,d2]] h n fun v s B w=>w=[]∧n≤B∧KN n h s∧∃g1 g2 L,v=.agg #[g1,g2]∧IntR s B g1 g2 ((DH x.natAbs y.natAbs:Nat):Int) L∧O L<1000000000∧∀b,b<3*n→La b V→La b d2→La b g2:=by
 refine zl (fn:=Tryz.f106) R4 ?_;obtain⟨rfl,R,nA,vA⟩:=hx;obtain⟨rfl,S,nC,vC⟩:=hy;obtain⟨a,la,p,rfl,_⟩:=R.len;obtain⟨c,lc,q,rfl,_⟩:=S.len;have e1:=R.lenU;have e2:=S.lenU;subst e1 e2;refine zN ?_;refine xV (cs:=[Dk (decide (x<0)),Y a (O A) p]) R5<|xV (cs:=[Dk (decide (y<0)),Y c (O C) q]) R5<|z6 R5<|zN ?_;generalize hh:upd (upd (upd h (3*n+2) _) (3*(n+1)+2) _) (3*(n+1+1)+2) _=i;have J:∃e,i (3*n+2)=some (.row [Dk (decide (x<0)),Y a (O A) p] e):=⟨_,AT⟩;have K:∃e,i (3*(n+1)+2)=some (.row [Dk (decide (y<0)),Y c (O C) q] e):=⟨_,AC⟩;have M:∃e,i (3*(n+1+1)+2)=some (.row [Dk false,Y none 0 0] e):=⟨_,kS⟩;have N:KN n h i:=by rw[←hh];intro b j;rw[zg Z,zg Z,zg Z]
 obtain⟨t1,J⟩:=J;obtain⟨t2,K⟩:=K;obtain⟨t3,M⟩:=M;rw[yH rfl];repeat refine zR ?_
 refine zi R6 J (v:=Y a (O A) p) R2 ?_;repeat refine zR ?_
 refine zi R6 K (v:=Y c (O C) q) R2<|Zb ?_;refine zK (α:=(Option Addr×Nat×List Nat)×(Option Addr×Nat×List Nat)×Nat) (fun z=>[(4,Dn (some ⟨3*(n+1+1)+2,0,none⟩)),(5,Y z.1.1 (O z.1.2.2) z.1.2.1),(6,Y z.2.1.1 (O z.2.1.2.2) z.2.1.2.1)])
  (fun z s B w'=>n+1+1+1≤B∧w'=[]∧KN (n+1+1+1) i s∧Sl s B 1 (Y z.1.1 (O z.1.2.2) z.1.2.1) (u32s z.1.2.2)∧Sl s B 1 (Y z.2.1.1 (O z.2.1.2.2) z.2.1.2.1) (u32s z.2.1.2.2)∧Norm z.1.2.2∧Norm z.2.1.2.2∧O z.1.2.2<1000000000∧O z.2.1.2.2<1000000000∧LK z.2.2 (val z.1.2.2) (val z.2.1.2.2)∧DH (val z.1.2.2) (val z.2.1.2.2)=DH x.natAbs y.natAbs∧(∀b,b<3*(n+1+1+1)→La b (Y a (O A) p)→La b (Y c (O C) q)→La b (Y z.1.1 (O z.1.2.2) z.1.2.1))∧(∀b,b<3*(n+1+1+1)→La b (Y a (O A) p)→La b (Y c (O C) q)→La b (Y z.2.1.1 (O z.2.1.2.2) z.2.1.2.1))) (fun z=>z.2.2)
  ((a,p,A),(c,q,C),2*(32*O C)) V3 ⟨by show n+1+1+1≤n+1+1+1;omega,rfl,FU _ _,R.ext N (show n≤n+1+1+1 by omega),S.ext N (show n≤n+1+1+1 by omega),nA,nC,j.1,j.2,?_,by rw[vA,vC],fun _ _ i _=>i,fun _ _ _ h2=>h2⟩ (by show 2*(32*O C)<LL;unfold LL;omega) ?_
 .show LK (2*(32*O C)) (val A) (val C);unfold LK;rw[De Z,show 2*(32*O C)/2=32*O C from Z,Hj];exact NN nC.1
 rintro⟨⟨Z4,G,o⟩,⟨c',a0,g⟩,m⟩ t h2 n2 _ ⟨a1,rfl,Z1,H,I,P,f,F,T,Z0,Z3,oA,oC⟩;simp only at H I P f F T Z0 Z3 oA oC;refine zN ?_;by_cases hC0:g=[]
 .subst hC0;refine Zv ?_;refine zk _ R5 (uL (k+2) _ _ false Z4 (O o) G) ?_;rintro _ h3 n3 _⟨rfl,rfl,rfl,d⟩;refine zw [Dk (false&&decide (0<O o)),Y Z4 (O o) G] R7 rfl (by rw[d _ Z,Z1 _ Z];exact M) rfl eL ?_;refine zN ?_;have W:KN n h (upd h3 (3*(n+1+1)+2) (some (.row [Dk (false&&decide (0<O o)),Y Z4 (O o) G] t3))):=fun b j=>by rw[zg Z,d b Z,Z1 b Z];exact N b j
  refine xu R5 (ze _ _ _) rfl ⟨rfl,by show n≤n2+1;omega,W,_,_,o,rfl,pD ((H.ext d zs).off (oA _ Z (R.below.off Z) (S.below.off Z))) P ?_ (fun h0=>?_),F,fun b j=>oA b Z⟩
  .rw[←Z3];simp[val]
  rw[aA Z]
 have a4:0<O g:=Hz.2 hC0;have l:=f.pos hC0;refine Zr ?_;refine zk _ R5 (fw k H I P f hC0 F) ?_;rintro _ h3 n3 _⟨rfl,a2,d,aq,cq,Lq,ar,cr,D,rfl,a7,a3,nq,nr,vq,vr,fq,fr⟩;refine Zl ?_;have a6:=Z0.pos l;obtain⟨u,rfl⟩:∃u,m=u+1:=⟨m-1,Z⟩;have a5:O D≤O g:=f.len_le nr (by rw[vr];exact HG (EA _ l));refine goOn ((c',a0,g),(ar,cr,D),u) (by show u<u+1;omega) V3 ⟨by show n+1+1+1≤n3;omega,rfl,Z1.trans d a1,I.ext d a2,a3,f,nr,T,by show O D<1000000000;omega,?_,?_,oC,fun b j _ _=>fr.off Z⟩
 .show LK u (val g) (val D);rw[vr];exact Z0.next l
 show DH (val g) (val D)=_;rw[vr,←Z3,FJ (val g),←Jy,FJ]
theorem IntR.off{c a:Value}{x:Int}{l:List Nat}{y:Option BF}(r:IntR h n c a x l)(d:La b a):IntR (upd h b y) n c a x l:=⟨r.neg,r.sl.off d,r.norm,r.val⟩
theorem IntR.len_le{e f:Value}{x y:Int}{l c:List Nat}(r:IntR h n e f x l)(d:IntR h' n' d1 d2 y c)(a:y.natAbs≤x.natAbs):O c≤O l:=r.norm.len_le d.norm (by rw[r.val,d.val];exact a)
theorem IntR.ones{c a:Value}{x:Int}{l:List Nat}(r:IntR h n c a x l):ones [c,a]=true:=by
 rw[r.neg];show GL.ones (a::_)=true;rw[r.sl.ones];rfl
def Away(n:Nat)(c0 v:Value):Prop:=(v=c0∧Below n v)∨yh (n+1+1+1) v
theorem Away.off{a:Value}(h:Away n a v)(c:3*n≤b)(d:b<3*(n+1+1+1)):La b v:=by
 rcases h with h|h
 .exact h.2.off c
 exact h.off d
theorem Away.or{a:Value}(h:Away n a v):v=a∨yh n v:=by
 rcases h with h|h
 .exact .inl h.1
 exact .inr (h.mono Z)
structure FrS (n:Nat)(c0 d0:Value)(h h':HF)(n':Nat)(c1 c2 d1 d2:Value)(x y:Int)(A C:List Nat):Prop where
 n3:n+1+1+1≤n'
 ext:KN n h h'
 b2:∃e,h' (3*n+2)=some (.row [c1,c2] e)
 b3:∃e,h' (3*(n+1)+2)=some (.row [d1,d2] e)
 b4:∃e,h' (3*(n+1+1)+2)=some (.row [Dk false,Y none 0 0,Dk false,Y none 0 0] e)
 ix:IntR h' n' c1 c2 x A
 iy:IntR h' n' d1 d2 y C
 ox:Away n c0 c2
 oy:Away n d0 d2
theorem FrS.exts{e d0:Value}{c:HF}{d:Nat}{f i:Value}{x y:Int}(s:FrS n e d0 h h' n' f i d1 d2 x y A C)(a:KN n' h' c)(j:n'≤d):FrS n e d0 h c d f i d1 d2 x y A C:=by
 obtain⟨G,ext,⟨p,l⟩,⟨q,m⟩,⟨u,o⟩,w,B,D,F⟩:=s;exact⟨Z,ext.trans a Z,⟨p,by rw[a _ Z];exact l⟩,⟨q,by rw[a _ Z];exact m⟩,⟨u,by rw[a _ Z];exact o⟩,w.ext a j,B.ext a j,D,F⟩
theorem FrS.putx{c d0:Value}{q u:Value}{x y:Int}(s:FrS n c d0 h h' n' q u d1 d2 x y A C){d a:Value}{l:Int}{f:List Nat}(i:IntR h' n' d a l f)(o:Away n c a)(e:TypeId):FrS n c d0 h (upd h' (3*n+2) (some (.row [d,a] e))) n' d a d1 d2 l y f C:=by
 obtain⟨J,ext,⟨H,G⟩,⟨w,m⟩,⟨B,p⟩,I,F,K,j⟩:=s;exact⟨Z,fun b D=>by rw[zg Z];exact ext b D,⟨e,ze _ _ _⟩,⟨w,by rw[zg Z];exact m⟩,⟨B,by rw[zg Z];exact p⟩,i.off (o.off Z Z),F.off (j.off Z Z),o,j⟩
theorem FrS.puty{f d0:Value}{j l:Value}{x y:Int}(s:FrS n f d0 h h' n' j l d1 d2 x y A C){c a:Value}{p:Int}{d:List Nat}(i:IntR h' n' c a p d)(o:Away n d0 a)(e:TypeId):FrS n f d0 h (upd h' (3*(n+1)+2) (some (.row [c,a] e))) n' j l c a x p A d:=by
 obtain⟨J,ext,⟨w,q⟩,⟨H,G⟩,⟨B,u⟩,F,I,m,K⟩:=s;exact⟨Z,fun b D=>by rw[zg Z];exact ext b D,⟨w,by rw[zg Z];exact q⟩,⟨e,ze _ _ _⟩,⟨B,by rw[zg Z];exact u⟩,F.off (m.off Z Z),i.off (o.off Z Z),m,o⟩
theorem UX{x y:Int}(a:0<y):(Ef x y).num=x/((DH x.natAbs y.natAbs:Nat):Int):=by
 rw[Rat.num_divInt,GX a,Int.one_mul];unfold Kj;rw[FJ]
theorem UY{x y:Int}(a:0<y):(Ef x y).den=y.natAbs/DH x.natAbs y.natAbs:=by
 rw[Rat.den_divInt,CT Z];unfold Kj;rw[FJ]
theorem PL{x:Int}(h:g∣x.natAbs):x.tdiv (g:Int)=x/(g:Int):=Int.tdiv_eq_ediv_of_dvd (Int.ofNat_dvd_left.2 h)
theorem UZ{y:Int}(h:0<y)(g:Nat):y/(g:Int)=((y.natAbs/g:Nat):Int):=by
 obtain⟨m,rfl⟩:∃m:Nat,y=m:=⟨y.natAbs,Z⟩;rw[DQ];rfl
structure DenR (h:HF)(n:Nat)(d1 d2:Value)(q:Nat)(ld:List Nat):Prop where
 neg:d1=Dk false
 sl:Sl h n 1 d2 (u32s ld)
 norm:Norm ld
 val:val ld=if q=1 then 0 else q
theorem PM(k:Nat){c1 a:Value}{x y:Int}(hx:IntR h n c1 a x A)(hy:IntR h n d1 d2 y C)(am:y≠0)(H:O A<1000000000∧O C<1000000000):
  CF (KO (k+5)) 71 [.agg #[c1,a],.agg #[d1,d2]] h n fun v h' n' w=>w=[]∧n≤n'∧KN n h h'∧∃c m e1 s ln ld,v=.agg #[c,m,e1,s]∧RatR h' n' c m e1 s (Ef x y) ln ld∧O ln≤O A∧O ld≤O C∧(m=a∨yh n m)∧(s=d2∨yh n s):=by
 refine zl (fn:=Tryz.f71) R4 ?_;obtain⟨q,hq⟩:∃q,q=Ef x y:=⟨_,rfl⟩;rw[←hq];refine zN ?_;refine xV (cs:=[c1,a]) R5<|xV (cs:=[d1,d2]) R5<|z6 R5<|zN ?_;generalize hh:upd (upd (upd h (3*n+2) _) (3*(n+1)+2) _) (3*(n+1+1)+2) _=h1;have Z3:KN n h h1:=by rw[←hh];intro b H;rw[zg Z,zg Z,zg Z]
 have T:FrS n a d2 h h1 (n+1+1+1) c1 a d1 d2 x y A C:=⟨Dh,Z3,⟨_,AT⟩,⟨_,AC⟩,⟨_,kS⟩,hx.ext Z3 Z,hy.ext Z3 Z,.inl ⟨rfl,hx.sl.below⟩,.inl ⟨rfl,hy.sl.below⟩⟩;obtain⟨al,K⟩:=T.b2;obtain⟨a9,d⟩:=T.b3;repeat refine zR ?_
 refine zi R6 d (v:=d1) R2<|zN ?_;refine yp (α:=(Value×Value)×Int×Int) (fun _=>[(2,Dn (some ⟨3*n+2,0,none⟩)),(3,Dn (some ⟨3*(n+1)+2,0,none⟩)),(4,Dn (some ⟨3*(n+1+1)+2,0,none⟩))]) (fun z h' n' w=>w=[]∧FrS n a d2 h h' n' z.1.1 a z.1.2 d2 z.2.1 z.2.2 A C∧0<z.2.2∧Ef z.2.1 z.2.2=q) ?_ ?_
 .by_cases hn:y<0
  .rw[zc (by show d1=_;rw[hy.neg,kA hn])];refine zn [0,1,0,7,15,31] rfl<|zS (v:=.agg #[c1,a]) R6 (zF R2 K rfl zb rfl) R2<|yy _ R7 (N1 (k+2) T.ix) ?_;rintro _ h2 n2 _⟨rfl,B,N,c,rfl,i1⟩;refine⟨rfl,B,?_⟩;refine zS (v:=.agg #[d1,d2]) R6 (zF R2 d rfl zb rfl) ⟨(vn cA),rfl⟩ ?_;refine yy _ R7 (N1 (k+2) (T.iy.ext N B)) ?_;rintro _ h3 n3 _⟨rfl,J,F,l,rfl,i2⟩;refine⟨rfl,J,?_⟩;have o:=(T.exts N B).exts F J;have aj:=i1.ext F J;obtain⟨s,a1⟩:=o.b2;refine xK (cs:=[c,a]) R7 i1.ones a1 zb eL R3 ?_;have Z4:=o.putx aj o.ox s;obtain⟨e3,ae⟩:=Z4.b3;refine xK (cs:=[l,d2]) R7 i2.ones ae zb eL R3 ?_;have S5:=Z4.puty (i2.off (Z4.oy.off Z Z)) Z4.oy e3;refine zN ?_;exact⟨((c,l),-x,-y),V3,rfl,S5,by show 0< -y;omega,by show Ef (-x) (-y)=q;rw[Rat.divInt_neg',Hl,hq]⟩
  rw[za (by show d1=_;rw[hy.neg,aA hn])];refine zN ?_;exact⟨((c1,d1),x,y),V3,rfl,T,by show 0<y;omega,hq.symm⟩
 rintro⟨⟨c,l⟩,x',y'⟩ t h1 n1 _ ⟨rfl,S,Z0,a8⟩;simp only at S Z0 a8;have M:=UX (x:=x') Z0;have L:=UY (x:=x') Z0;rw[a8]at M L;refine zN ?_;obtain⟨al,K⟩:=S.b2;obtain⟨a9,d⟩:=S.b3;refine zO (v:=.agg #[c,a]) R5 (zF R2 K rfl zb rfl)<|zO (v:=.agg #[l,d2]) R5 (zF R2 d rfl zb rfl)<|zk _ R5 (UU k S.ix S.iy H) ?_;rintro _ h2 n2 _⟨rfl,B,N,g1,g2,G,rfl,ig,bG,og⟩;generalize hg:DH x'.natAbs y'.natAbs=g at*
 refine z6 R5<|zw [g1,g2] R7 ig.ones (ze _ _ _) rfl (by show 3*n≤_;have:=S.n3;omega) ?_;rw[yI];have S2:=S.exts N B;generalize hh:upd h2 (3*n2+2) _=h3;have F:KN n2 h2 h3:=by rw[←hh];exact C4
 have D:∃e,h3 (3*n2+2)=some (.row [g1,g2] e):=⟨_,kz⟩;obtain⟨tg,D⟩:=D;have o:=S2.exts F zs;have a0:=ig.ext F zs;refine zN ?_;refine zO (v:=.agg #[g1,g2]) R5 (zF R2 D rfl zb rfl)<|ye _ R5 (PK (k+3) a0 bG) ?_;rintro _⟨b,rfl,I,p⟩;rw[DQ]at I p;have a3:0<g:=by rw[←hg];exact Nat.gcd_pos_of_pos_right _ Z
 have a4:g∣x'.natAbs:=by rw[←hg];exact Nat.gcd_dvd_left _ _
 have a5:g∣y'.natAbs:=by rw[←hg];exact Nat.gcd_dvd_right _ _
 refine Mw R6<|zN ?_;have J:=o.n3;refine yp (α:=(Value×Value×Value×Value)×List Nat×List Nat) (fun _=>[(2,Dn (some ⟨3*n+2,0,none⟩)),(3,Dn (some ⟨3*(n+1)+2,0,none⟩)),(4,Dn (some ⟨3*(n+1+1)+2,0,none⟩))]) (fun z h' n' w=>w=[]∧FrS n a d2 h h' n' z.1.1 z.1.2.1 z.1.2.2.1 z.1.2.2.2 q.num (q.den:Int) z.2.1 z.2.2∧O z.2.1≤O A∧O z.2.2≤O C) ?_ ?_
 .by_cases hgt:(1:Int)<(b:Int)
  .rw[zc (by show Dk (decide ((1:Int)<(b:Int)))=_;rw[kA hgt])];refine zN ?_;obtain⟨s,a1⟩:=o.b2;refine zO (v:=.agg #[c,a]) R5 (zF R2 a1 rfl zb rfl)<|zO (v:=.agg #[g1,g2]) R5 (zF R2 D rfl zb rfl)<|zk _ R5 (gu k o.ix a0 Z H.1) ?_;rintro _ h4 n4 _⟨rfl,a7,a2,q1,q2,r1,r2,Lq,Lr,rfl,iq,ir,fq,fr⟩;repeat refine zR ?_
   have Z4:=o.exts a2 a7;obtain⟨e4,af⟩:=Z4.b2;refine zw [q1,q2] R7 iq.ones af rfl eL ?_;have S5:=Z4.putx iq (.inr (fq.mono Z)) e4;refine zN ?_;obtain⟨e5,ag⟩:=S5.b3;have aa:=(zg (f:=h4) (i:=3*n+2) (v:=some (.row [q1,q2] e4)) (j:=3*n2+2) Z).trans ((a2 _ Z).trans D);refine zO (v:=.agg #[l,d2]) R5 (zF R2 ag rfl zb rfl)<|zO (v:=.agg #[g1,g2]) R5 (zF R2 aa rfl zb rfl) ?_;have ak:La (3*n+2) g2:=og _ (by have:=S.n3;omega) (S.ox.off Z Z) (S.oy.off Z Z);refine zk _ R5 (gu k S5.iy ((a0.ext a2 a7).off ak) Z H.2) ?_;rintro _ h6 n6 _⟨rfl,ac,ai,p1,p2,s1,s2,Lp,Ls,rfl,ip,is,fp,fs⟩;repeat refine zR ?_
   have S6:=S5.exts ai ac;obtain⟨e6,ah⟩:=S6.b3;refine zw [p1,p2] R7 ip.ones ah rfl eL ?_;have S7:=S6.puty ip (.inr (fp.mono Z)) e6;refine zN ?_;rw[PL a4,←M,PL a5,show y'/(g:Int)=(q.den:Int)from by rw[L];exact UZ Z0 g]at S7;refine zC ((q1,q2,p1,p2),Lq,Lp) V3 ⟨rfl,S7,o.ix.len_le iq ?_,o.iy.len_le ip ?_⟩
   .rw[HL];exact CK
   rw[HL];exact CK
  rw[za (by show Dk (decide ((1:Int)<(b:Int)))=_;rw[aA hgt])];refine zN ?_;have ab:g=1:=Z;subst ab;rw[show((1:Nat):Int)=1 from rfl,Int.ediv_one]at M;rw[HY]at L;refine zC ((c,a,l,d2),A,C) V3 ⟨rfl,?_,Dh,Dh⟩;show FrS n a d2 h h3 (n2+1) c a l d2 q.num (q.den:Int) A C;rw[M,L,show((y'.natAbs:Nat):Int)=y' from Z];exact o
 rintro⟨⟨c,m,l,R⟩,L1,L2⟩ t h5 n5 _ ⟨rfl,S,a6,u⟩;simp only at S a6 u;refine zN ?_;obtain⟨a9,d⟩:=S.b3;refine zO (v:=.agg #[l,R]) R5 (zF R2 d rfl zb rfl)<|ye _ R5 (PK (k+3) S.iy Z) ?_;rintro _⟨b,rfl,I,p⟩;rw[DQ]at I p;refine jC R6<|zN ?_;refine yp (α:=(Value×Value)×List Nat) (fun _=>[(2,Dn (some ⟨3*n+2,0,none⟩)),(3,Dn (some ⟨3*(n+1)+2,0,none⟩)),(4,Dn (some ⟨3*(n+1+1)+2,0,none⟩))]) (fun z h' n' w=>w=[]∧n+1+1+1≤n'∧KN n h h'∧(∃e,h' (3*n+2)=some (.row [c,m] e))∧(∃e,h' (3*(n+1)+2)=some (.row [z.1.1,z.1.2] e))∧(∃e,h' (3*(n+1+1)+2)=some (.row [Dk false,Y none 0 0,Dk false,Y none 0 0] e))∧IntR h' n' c m q.num L1∧DenR h' n' z.1.1 z.1.2 q.den z.2∧Away n a m∧Away n d2 z.1.2∧O z.2≤O C) ?_ ?_
 .by_cases hd:(b:Int)=1
  .rw[zc (by show Dk (decide ((b:Int)=1))=_;rw[kA hd])];refine zN ?_;refine zA (v:=.agg #[Dk false,Y none 0 0]) R5<|zw [Dk false,Y none 0 0] R7 rfl d rfl eL ?_;refine zN ?_;have V:q.den=1:=p.1 Z;obtain⟨n3,ext,⟨s,b2⟩,_,⟨e4,b4⟩,Z1,iy,P,oy⟩:=S;exact zC ((Dk false,Y none 0 0),[]) V3 ⟨rfl,n3,fun b H=>(zg Z).trans (ext b H),⟨s,(zg Z).trans b2⟩,⟨_,ze _ _ _⟩,⟨e4,(zg Z).trans b4⟩,Z1.off (P.off Z Z),⟨rfl,.nil (.inl rfl),IA,by rw[De V];rfl⟩,P,.inr trivial,Di⟩
  rw[za (by show Dk (decide ((b:Int)=1))=_;rw[aA hd])];refine zN ?_;have V:q.den≠1:=fun e=>hd (by have:=p.2 e;omega);obtain⟨n3,ext,b2,b3,b4,Z1,iy,P,oy⟩:=S;exact zC ((l,R),L2) V3 ⟨rfl,n3,ext,b2,b3,b4,Z1,⟨by rw[iy.neg];simp,iy.sl,iy.norm,by rw[CT V,iy.val,DQ]⟩,P,oy,u⟩
 rintro⟨⟨l,R⟩,L2⟩ t h6 n6 _ ⟨rfl,n3,ext,⟨s,b2⟩,⟨e3,b3⟩,⟨e4,b4⟩,Z1,W,P,oy,u⟩;simp only at b2 b3 b4 Z1 W P oy u;refine zN ?_;refine zO (v:=.agg #[c,m]) R5 (zF R2 b2 rfl zb rfl)<|zO (v:=.agg #[l,R]) R5 (zF R2 b3 rfl zb rfl)<|zA (v:=.agg #[c,m,l,R]) R5 ?_;have ad:ones [c,m,l,R]=true:=by
  rw[Z1.neg];show GL.ones (m::_)=true;rw[Z1.sl.ones,W.neg];show GL.ones (R::_)=true;rw[W.sl.ones];rfl
 refine zw [c,m,l,R] R7 ad b4 rfl eL ?_;refine zN ?_;refine xu R5 (ze _ _ _) rfl ⟨rfl,by show n≤n6;omega,fun b H=>(zg Z).trans (ext b H),_,_,_,_,L1,L2,rfl,⟨Z1.off (P.off Z Z),W.neg,W.sl.off (oy.off Z Z),W.norm,W.val⟩,a6,u,P.or,oy.or⟩
def AllD(s:List UInt8):Prop:=∀b∈s,48≤b.toNat∧b.toNat≤57
def dval:List UInt8→Nat:=ap5 (fun v b=>10*v+(b.toNat-48)) 0
theorem U1(s:List UInt8):∀v,ap5 (fun v b=>10*v+(b.toNat-48)) v s=v*10^O s+dval s:=by
 induction s with
 |nil=>intro v;simp[dval]
 |cons b s ih=>
  intro v;unfold dval;rw[I5,I5,ih,ih (10*0+_),D3,DI,DE,DE];rw[show 10*v*10^O s=v*(10^O s*10)from by rw[Dt 10 v,DG,Dt 10]];omega
theorem sd(a b:List UInt8):dval (a++b)=dval a*10^O b+dval b:=by
 conv=>lhs;unfold dval
 rw[List.foldl_append];exact U1 b (dval a)
theorem re(a:List UInt8)(b:UInt8):dval (a++[b])=10*dval a+(b.toNat-48):=by
 rw[sd];simp[dval];omega
theorem vK(h:AllD s):dval s<10^O s:=by
 induction s with
 |nil=>simp[dval]
 |cons b s ih=>
  have e:=h b cA;have f:=ih fun x c=>h x Bm;rw[show b::s=[b]++s from rfl,sd];simp only[Do,Dy];rw[EY 1,DI];have a:dval [b]≤9:=by simp[dval];omega
  have g:dval [b]*10^O s≤9*10^O s:=Dw _ a;omega
theorem Norm.len_pow(h:Norm L)(hv:val L<10^i):O L≤i:=by
 apply DU;intro a;obtain⟨j,d,rfl⟩:=snoc (l:=L) (by intro e;rw[e]at a;simp at a);have m:=h.last;rw[rt]at hv;have c:4294967296^O j*1≤4294967296^O j*YtfajmfoofmienaaGreatDoor.val [d]:=DT _ (by simp[YtfajmfoofmienaaGreatDoor.val];omega);have f:4294967296^i≤4294967296^O j:=DJ Z (by simp at a;omega);have g:10^i≤4294967296^i:=Ig Z _;omega
theorem AllD.take_succ{b:UInt8}(h:AllD (s.take i))(e:s[i]?=some b)(f:48≤b.toNat∧b.toNat≤57):AllD (s.take (i+1)):=by
 obtain⟨c,rfl⟩:=Du.1 e;rw[FZ c];intro x a;rcases Ec.1 a with a|a
 .exact h x a
 rw[Dx.1 a];exact f
theorem pk{b:UInt8}(c:s[i]?=some b):s.take (i+1)=s.take i++[b]:=by
 obtain⟨a,rfl⟩:=Du.1 c;rw[FZ a]
section
variable {X:CtxF}{d:Tmp}
theorem yC{i:Operand}{b:UInt8}(a:Za X ops t o d (o.op=.index ty x i∧X.E.und ty=some .string∧KM t x=Dl ⟨⟨s⟩⟩∧KM t i=U ik ji∧ji=(j:Int)))(f:s[j]?=some b)
  (k:EO X ops r ⟨upd t d (U .u8 (b.toNat:Int)),h,n,w⟩ Q):EO X ops (o::r) ⟨t,h,n,w⟩ Q:=by
 obtain⟨a,g,m,e,p,q,l,c⟩:=a;subst c;refine zA ⟨a,g,m,A0,?_⟩ k;rw[e];show gX X.E ty (KM t x) (KM t i)=_;rw[q,l];simp only[gX,p,Ez,f,De (Int.natCast_nonneg j)]
end
def U5(n:Nat)(h:HF)(s:List UInt8)(v:Value)(h':HF)(n':Nat)(w:List Nat):Prop:=w=[]∧n≤n'∧KN n h h'∧∃c1 c2 L ok,∃x:Nat,v=.tuple #[.agg #[c1,c2],Dk ok]∧IntR h' n' c1 c2 (x:Int) L∧O L≤O s∧yh n c2∧(AllD s∧s≠[]→ok=true∧x=dval s)∧(ok=true→AllD s∧s≠[])
theorem tJ{P:Value→HF→Nat→List Nat→Prop}{e:Ex}{t:TF}{h:HF}{n:Nat}{w:List Nat}{a f:Tmp}{m:TypeId}{u:Value}(c:rV e=true∧fn.results.toList=[.cell a ty,.tmp f]∧t a=Dn (some ⟨b,0,none⟩)∧t f=u∧GL.isAgg KT ty=some true∧KT.inf ty=some (sz,bt,z))(q:h b=some (.row cs m))(l:O cs=sz∧tZ [.agg cs.toArray,u]=false)(hp:P (.tuple #[.agg cs.toArray,u]) h n w):RetH fn P e ⟨t,h,n,w⟩:=by
 obtain⟨c,B,p,g,y,A⟩:=c;obtain⟨l,v⟩:=l;refine retH [.agg cs.toArray,u] ⟨c,?_,v⟩ hp;rw[B];have C:=zF ⟨y,A⟩ q rfl (show 0+sz≤O cs by omega) (show(cs.drop 0).take sz=cs by rw[EE,DK Z]);simp only[resF,p,g,C]
theorem qZ(k:Nat)(h:HF)(n:Nat)(s:List UInt8)(hs:O s<1000000):CF (KO (k+3)) 94 [Dl ⟨⟨s⟩⟩] h n (U5 n h s):=by
 refine zl (fn:=Tryz.f94) R4<|zN ?_;refine z6 R5<|Zl ?_;refine Zb ?_;generalize hh:upd h (3*n+2) _=S;have ag:∃e,S (3*n+2)=some (.row [Dk false,Y none 0 0] e):=⟨_,kS⟩;have ao:KN n h S:=by rw[←hh];exact C4
 refine zK (α:=Nat×Option Addr×Nat×List Nat) (fun z=>[(0,Dl ⟨⟨s⟩⟩),(2,Dn (some ⟨3*n+2,0,none⟩)),(4,Y z.2.1 (O z.2.2.2) z.2.2.1),(5,U .i64 (z.1:Int))])
  (fun z H R w'=>w'=[]∧n+1≤R∧KN n h H∧(∃e,H (3*n+2)=some (.row [Dk false,Y none 0 0] e))∧z.1≤O s∧AllD (s.take z.1)∧Sl H R 1 (Y z.2.1 (O z.2.2.2) z.2.2.1) (u32s z.2.2.2)∧Norm z.2.2.2∧val z.2.2.2=dval (s.take z.1)∧yh (n+1) (Y z.2.1 (O z.2.2.2) z.2.2.1)) (fun z=>O s-z.1)
  (0,none,0,[]) V4 ⟨rfl,Dh,ao,ag,Di,fun b g=>oU g cA,.nil (.inl rfl),IA,rfl,Df⟩ (by show O s-0<LL;unfold LL;omega) ?_
 rintro⟨i,a,c,L⟩ t h2 K _ ⟨rfl,av,P,⟨e2,N⟩,hi,p,Z3,u,q,T⟩;simp only at hi p Z3 u q T;have ar:O L≤i:=u.len_pow (by rw[q];have:=vK p;rw[DW,Ev hi]at this;exact this);refine zN ?_;by_cases hie:i=O s
 .have al:s.take i=s:=by rw[hie,DO]
  rw[al]at p q;refine Zi ?_;refine st_I (ik:=.i64) (a:=(O s:Int)) R5<|Zv ?_;refine zk _ R5 (uL (k+1) _ _ false a (O L) c) ?_;rintro _ h3 n3 _⟨rfl,rfl,rfl,a0⟩;refine zM ?_;refine st_B (a:= !(s==[])) R5<|zw [Dk (false&&decide (0<O L)),Y a (O L) c] R7 rfl (by rw[a0 _ Z];exact N) rfl eL ?_;refine Zb ?_;refine tJ R6 (ze _ _ _) R2 ⟨rfl,by show n≤K+1;omega,fun b g=>(zg Z).trans ((a0 b Z).trans (P b g)),_,_,L,_,dval s,rfl,pD ((Z3.ext a0 zs).off (T.off Z)) u (by rw[q];simp) (fun _=>by rw[aA Z]),Z,T.mono Z,fun y=>⟨by simpa using y.2,rfl⟩,fun y=>⟨p,by simpa using y⟩⟩
 have aq:i<O s:=Z;refine Zi ?_;refine st_I (ik:=.i64) (a:=(O s:Int)) R5<|Zo ?_;repeat refine zR ?_
 simp only[zX,yi,zm,yj];refine yp (α:=Nat) (fun z=>[(0,Dl ⟨⟨s⟩⟩),(2,Dn (some ⟨3*n+2,0,none⟩)),(4,Y a (O L) c),(5,U .i64 ((i+z:Nat):Int)),(6,U .u32 ((dval ((s.drop i).take z):Nat):Int)),(7,U .u32 ((10^z:Nat):Int))])
  (fun z H R w'=>h2=H∧R=K∧w'=[]∧1≤z∧z≤9∧i+z≤O s∧AllD (s.take (i+z))) ?_ ?_
 .refine zN ?_;refine zK (α:=Nat) (fun z=>[(0,Dl ⟨⟨s⟩⟩),(2,Dn (some ⟨3*n+2,0,none⟩)),(4,Y a (O L) c),(5,U .i64 ((i+z:Nat):Int)),(6,U .u32 ((dval ((s.drop i).take z):Nat):Int)),(7,U .u32 ((10^z:Nat):Int)),(8,U .i64 (z:Int))])
   (fun z H R w'=>h2=H∧R=K∧w'=[]∧z≤9∧i+z≤O s∧AllD (s.take (i+z))) (fun z=>9-z) 0 V7 ⟨rfl,rfl,rfl,Di,by show i+0≤O s;omega,p⟩ (by show 9-0<LL;decide) ?_
  rintro z t h3 n3 _⟨rfl,rfl,rfl,a1,M,f⟩;refine zN ?_;by_cases hz:z=9
  .subst hz;refine Zk ?_;exact zC 9 V6 ⟨rfl,rfl,rfl,by decide,by decide,M,f⟩
  have ap:z≤8:=Z;by_cases hie2:i+z=O s
  .refine zM ?_;refine pZ R6 Z<|ZE ?_;refine st_I (ik:=.i64) (a:=(O s:Int)) R5<|Zk ?_;exact zC z V6 ⟨rfl,rfl,rfl,Z,a1,M,f⟩
  have a2:i+z<O s:=Z;obtain⟨b,g⟩:∃b,s[i+z]?=some b:=⟨s[i+z],Dm a2⟩;refine zM ?_;refine pZ R6 Z<|ZE ?_;refine st_I (ik:=.i64) (a:=(O s:Int)) R5<|ZC ?_;refine yC (j:=i+z) R8 g ?_;have Z4:b∈s:=Dq g;by_cases hb1:b.toNat<48
  .refine Zq ?_;refine zA (v:=.agg #[Dk false,Y none 0 0]) R5<|zw [Dk false,Y none 0 0] R7 rfl N rfl eL ?_;refine Zb ?_;refine tJ R6 (ze _ _ _) R2 ⟨rfl,by show n≤n3;omega,fun b g=>(zg Z).trans (P b g),_,_,[],false,0,rfl,⟨rfl,.nil (.inl rfl),IA,rfl⟩,Di,trivial,fun y=>by have:=y.1 b Z4;omega,fun y=>by cases y⟩
  repeat refine zR ?_
  refine yC (j:=i+z) R8 g ?_;by_cases hb2:57<b.toNat
  .refine Zq ?_;refine zA (v:=.agg #[Dk false,Y none 0 0]) R5<|zw [Dk false,Y none 0 0] R7 rfl N rfl eL ?_;refine Zb ?_;refine tJ R6 (ze _ _ _) R2 ⟨rfl,by show n≤n3;omega,fun b g=>(zg Z).trans (P b g),_,_,[],false,0,rfl,⟨rfl,.nil (.inl rfl),IA,rfl⟩,Di,trivial,fun y=>by have:=y.1 b Z4;omega,fun y=>by cases y⟩
  refine Zk ?_;have I:AllD ((s.drop i).take z):=fun x J=>f x BG;have m:=vK I;have D:O ((s.drop i).take z)=z:=by rw[DW,Ea];omega
  rw[D]at m;have a7:10^z≤10^8:=DJ Z ap;have a3:(s.drop i).take (z+1)=(s.drop i).take z++[b]:=pk (by rw[Em];exact g);have a5:dval ((s.drop i).take (z+1))=dval ((s.drop i).take z)*10+(b.toNat-48):=by rw[a3,re];omega
  have a9:10^(z+1)=10^z*10:=DI _ _;generalize hV:dval ((s.drop i).take z)=V at m a5;generalize hF:10^z=F at m a7 a9;rw[show(10:Nat)^8=100000000 from rfl]at a7;refine zM ?_;refine xA (a:=V) (b:=10) R6 Z<|Zi ?_;refine yC (j:=i+z) R8 g<|mg (a:=b.toNat) (b:=48) R6 Z<|po (c:=b.toNat-48) R7 Z<|xn (a:=V*10) (b:=b.toNat-48) R6 Z<|zM ?_;refine xA (a:=F) (b:=10) R6 Z<|Zl ?_;refine Zb ?_;refine goOn (z+1) (by show 9-(z+1)<9-z;omega) ⟨rfl,rfl,rfl,dO,by show U .u32 _=U .u32 _;rw[a5],by show U .u32 _=U .u32 _;rw[a9],dO,Df⟩ ⟨rfl,rfl,rfl,by show z+1≤9;omega,by show i+(z+1)≤O s;omega,AllD.take_succ f g Z⟩
 rintro z t _ K _⟨rfl,rfl,rfl,ay,a1,M,f⟩;have I:AllD ((s.drop i).take z):=fun x J=>f x BG;have m:=vK I;have D:O ((s.drop i).take z)=z:=by rw[DW,Ea];omega
 have B:dval (s.take (i+z))=dval (s.take i)*10^z+dval ((s.drop i).take z):=by rw[List.take_add,sd,D]
 rw[D]at m;have a8:10^z≤10^9:=DJ Z a1;generalize hV:dval ((s.drop i).take z)=V at m B;generalize hF:10^z=F at m a8 B;rw[show(10:Nat)^9=1000000000 from rfl]at a8;refine Zp ?_;refine ud (cs:=[U .u32 (F:Int)]) R5 ?_;have ad:=gI k (h:=upd h2 (3*K+2) (some (.row [U .u32 (F:Int)] 151))) (n:=K+1) (A:=L) (C:=[F]) (Z3.ext (GD Z) (DM K)) (Sl.own (Z1:=[F]) (len:=1) (cap:=1) (ze _ _ _) Z rfl Dh) u.1 (fun x J=>by simp at J;omega) eN;refine zk _ R5 ad ?_;rintro v4 h4 n4 w4⟨L4,⟨rfl,aw,aa,a4,c4,rfl,ah,G,au⟩,Z0⟩;refine zM ?_;refine ud (cs:=[U .u32 (V:Int)]) R5 ?_;have ak:=ur (k+1) (l:=[V]) (h:=upd h4 (3*n4+2) (some (.row [U .u32 (V:Int)] 151))) (n:=n4+1) cA (Sl.own (Z1:=[V]) (len:=1) (cap:=1) (ze _ _ _) Z rfl Dh);refine zk _ R5 ak ?_;rintro _ _ _ _⟨e5,e6,rfl,rfl,ai⟩;subst e5 e6;have an:val [F]=F:=by simp[val]
 rw[an]at Z0;have ae:O L4<1000000000:=by
  have S:=vK p;rw[DW,Ev hi]at S;have h2:=G.len_pow (i:=i+z) (by rw[Z0,q,EH,hF];exact FG S (by rw[←hF];exact Er Z));omega
 have ac:=fU k (h:=upd h4 (3*n4+2) (some (.row [U .u32 (V:Int)] 151))) (n:=n4+1) (A:=L4) (C:=z0 [V]) (ah.ext (GD Z) (DM n4)) ai G.1 (nU _ (fun x J=>by simp at J;omega)) ⟨ae,by have:=yV [V];simp at this;omega⟩;refine zk _ R5 ac ?_;rintro v6 h6 n6 w6⟨L6,⟨rfl,ax,ab,a6,c6,rfl,aj,W,af⟩,am⟩;refine Zb ?_;refine goOn (i+z,a6,c6,L6) (by show O s-(i+z)<O s-i;omega) V4 ⟨rfl,by show n+1≤n6;omega,fun b g=>?_,⟨e2,?_⟩,M,f,aj,W,?_,af.mono Z⟩
 .exact(ab b Z).trans ((zg Z).trans ((aa b Z).trans ((zg Z).trans (P b g))))
 .exact(ab _ Z).trans ((zg Z).trans ((aa _ Z).trans ((zg Z).trans N)))
 show val L6=dval (s.take (i+z));rw[am,Z0,q,B,wt];simp[val]
def len8:List UInt8:=[0,1,2,2,3,3,3,3,4,4,4,4,4,4,4,4,5,5,5,5,5,5,5,5,5,5,5,5,5,5,5,5,6,6,6,6,6,6,6,6,6,6,6,6,6,6,6,6,6,6,6,6,6,6,6,6,6,6,6,6,6,6,6,6,7,7,7,7,7,7,7,7,7,7,7,7,7,7,7,7,7,7,7,7,7,7,7,7,7,7,7,7,7,7,7,7,7,7,7,7,7,7,7,7,7,7,7,7,7,7,7,7,7,7,7,7,7,7,7,7,7,7,7,7,7,7,7,7,8,8,8,8,8,8,8,8,8,8,8,8,8,8,8,8,8,8,8,8,8,8,8,8,8,8,8,8,8,8,8,8,8,8,8,8,8,8,8,8,8,8,8,8,8,8,8,8,8,8,8,8,8,8,8,8,8,8,8,8,8,8,8,8,8,8,8,8,8,8,8,8,8,8,8,8,8,8,8,8,8,8,8,8,8,8,8,8,8,8,8,8,8,8,8,8,8,8,8,8,8,8,8,8,8,8,8,8,8,8,8,8,8,8,8,8,8,8,8,8,8,8,8,8,8,8,8,8]
theorem U6:∀i,i<256→∃b,len8[i]?=some b∧b.toNat≤8∧i<2^b.toNat∧(i≠0→2^b.toNat≤2*i):=by
 intro i d;have h:∀i:Fin 256,(len8[i.val]?).any (fun b=>decide (b.toNat≤8∧i.val<2^b.toNat∧(i.val≠0→2^b.toNat≤2*i.val)))=true:=by decide+kernel
 have:=h ⟨i,d⟩;rw[Option.any_eq_true]at this;obtain⟨b,a,c⟩:=this;exact⟨b,a,of_decide_eq_true c⟩
theorem U7{x m i L:Nat}(b:x/2^m=i)(d:i<2^L)(e:i≠0→2^L≤2*i)(a:m=0∨i≠0):x<2^(m+L)∧(x≠0→2^(m+L)≤2*x):=by
 have g:0<2^m:=Er zd;have f:=EP x (2^m);have j:=EA x g;rw[b]at f;rw[EH];constructor
 .have:2^m*(i+1)≤2^m*2^L:=DT _ d;rw[D4,Ek]at this;omega
 intro l;have c:i≠0:=by
  rcases a with rfl|a
  .rw[FD,HY]at b;omega
  exact a
 have:=DT (2^m) (e c);rw[ER]at this;omega
theorem aQ(k:Nat)(h:HF)(n:Nat){x:Nat}(C:x<18446744073709551616):VF (KO (k+1)) 218 [U .u64 (x:Int)] h n fun v=>∃m:Nat,v=U .i64 (m:Int)∧m≤64∧x<2^m∧(x≠0→2^m≤2*x):=by
 refine zB (fn:=Tryz.f218) R4 ?_;have o:∀m s,x/2^m/2^s=x/2^(m+s):=fun m s=>by rw[Gb,←EH]
 refine Zx ?_;refine yp (α:=Nat×Nat) (fun z=>[(0,U .u64 (z.2:Int)),(2,U .i64 (z.1:Int))]) (fun z g l w=>h=g∧n=l∧w=[]∧x/2^z.1=z.2∧z.2<4294967296∧z.1≤32∧(z.1=0∨z.2≠0)) ?_ ?_
 .by_cases hge:4294967296≤x
  .rw[zc Ax];refine Zd ?_;refine yg (a:=x) (s:=32) R6 zd<|Zl ?_;exact zC (32,x/2^32) V2 ⟨rfl,rfl,rfl,rfl,by show x/2^32<_;omega,Fu 32,.inr (by show x/2^32≠0;omega)⟩
  rw[za Av];refine zN ?_;exact zC (0,x) V2 ⟨rfl,rfl,rfl,by show x/2^0=x;rw[FD,HY],by show x<_;omega,Hf 32,.inl rfl⟩
 rintro⟨m,i⟩ t _ _ _ ⟨rfl,rfl,rfl,c,e,f,d⟩;simp only at c e f d;refine Zc ?_;refine yp (α:=Nat×Nat) (fun z=>[(0,U .u64 (z.2:Int)),(2,U .i64 (z.1:Int))]) (fun z g l w=>h=g∧n=l∧w=[]∧x/2^z.1=z.2∧z.2<65536∧z.1≤48∧(z.1=0∨z.2≠0)) ?_ ?_
 .by_cases hge:65536≤i
  .rw[zc Ax];refine Zd ?_;refine yg (a:=i) (s:=16) R6 zd<|Zl ?_;exact zC (m+16,i/2^16) V2 ⟨rfl,rfl,rfl,by show x/2^(m+16)=i/2^16;rw[←c,o],by show i/2^16<_;omega,by show m+16≤48;omega,.inr (by show i/2^16≠0;omega)⟩
  rw[za Av];refine zN ?_;exact zC (m,i) V2 ⟨rfl,rfl,rfl,c,by show i<_;omega,by show m≤48;omega,d⟩
 rintro⟨m,i⟩ t _ _ _ ⟨rfl,rfl,rfl,c,e,f,d⟩;simp only at c e f d;refine Zc ?_;refine yp (α:=Nat×Nat) (fun z=>[(0,U .u64 (z.2:Int)),(2,U .i64 (z.1:Int))]) (fun z g l w=>h=g∧n=l∧w=[]∧x/2^z.1=z.2∧z.2<256∧z.1≤56∧(z.1=0∨z.2≠0)) ?_ ?_
 .by_cases hge:256≤i
  .rw[zc Ax];refine Zd ?_;refine yg (a:=i) (s:=8) R6 zd<|Zl ?_;exact zC (m+8,i/2^8) V2 ⟨rfl,rfl,rfl,by show x/2^(m+8)=i/2^8;rw[←c,o],by show i/2^8<_;omega,by show m+8≤56;omega,.inr (by show i/2^8≠0;omega)⟩
  rw[za Av];refine zN ?_;exact zC (m,i) V2 ⟨rfl,rfl,rfl,c,by show i<_;omega,by show m≤56;omega,d⟩
 rintro⟨m,i⟩ t _ _ _ ⟨rfl,rfl,rfl,c,e,f,d⟩;simp only at c e f d;obtain⟨b,A,B,p,q⟩:=U6 i e;refine Zp ?_;refine pp (a:=i) R7 ?_;rw[Dz e];refine yC (s:=len8) (j:=i) (b:=b) R8 A<|vj (a:=(b.toNat:Int)) R7 Z<|Zb ?_;obtain⟨u,y⟩:=U7 c p q d;exact retF _ rfl (zj rfl) R2 ⟨m+b.toNat,rfl,Z,u,y⟩
theorem dw(k:Nat)(h:HF)(n:Nat){x:Nat}(d:x<18446744073709551616)(h0:x≠0):VF (KO (k+2)) 210 [U .u64 (x:Int)] h n fun v=>∃s:Nat,v=U .i64 (s:Int)∧s<64∧9223372036854775808≤x*2^s∧x*2^s<18446744073709551616:=by
 refine zB (fn:=Tryz.f210) R4<|Zu ?_;refine ye _ R5 (aQ k h n d) ?_;rintro _⟨m,rfl,i,b,c⟩;refine Zb ?_;have g:m≠0:=fun e=>by subst e;simp at b;omega
 refine retF _ rfl (zj rfl) R2 ⟨64-m,aD,Z,?_,?_⟩
 .have a:=Dw (2^(64-m)) (c h0);rw[←EH,show m+(64-m)=64 from Z,DG]at a;have f:(2:Nat)^64=18446744073709551616:=rfl;omega
 have a:=FG b (Er (n:=64-m) (show 0<2 by decide));rw[←EH,show m+(64-m)=64 from Z]at a;exact a
section
theorem fA{Z4 y s Q r:Nat}(h:Z4*2^s=Q*(y*2^s)+r)(a:r<y*2^s):Z4/y=Q∧Z4%y=r/2^s:=by
 have d:0<2^s:=Er zd;have f:0<y:=Nat.pos_of_ne_zero fun e=>by rw[e,EI]at a;omega
 have b:Z4*2^s/(y*2^s)=Q:=by
  rw[h,EY,IK _ _ Z,Fz a,D7]
 have c:Z4*2^s%(y*2^s)=r:=by
  rw[h,EY,Gx,Dz a]
 rw[IJ _ _ d]at b;rw[HP]at c;exact⟨b,by rw[←c,Nat.mul_div_cancel _ d]⟩
theorem gd{lo s:Nat}(a:s≤64):lo*2^s=lo/2^(64-s)*18446744073709551616+lo*2^s%18446744073709551616:=by
 have e:lo*2^s/18446744073709551616=lo/2^(64-s):=by
  rw[show(18446744073709551616:Nat)=2^(64-s)*2^s from by rw[←EH,show 64-s+s=64 from Z],IJ _ _ (Er zd)]
 have:=EP (lo*2^s) 18446744073709551616;rw[e,Dt]at this;exact this.symm
theorem gA{a b s:Nat}(c:b<2^s):a*2^s|||b=a*2^s+b:=by
 have:=Nat.shiftLeft_add_eq_or_of_lt c a;rw[Nat.shiftLeft_eq]at this;exact this.symm
theorem U8{top N b a d c Z3 Z0:Nat}(g:b*Z3+d=top*4294967296+N/4294967296)(i:a*Z3+c=d*4294967296+N%4294967296)(f:Z0=Z3):top*18446744073709551616+N=(b*4294967296+a)*Z0+c:=by
 subst f;have e:(b*4294967296+a)*Z0=b*Z0*4294967296+a*Z0:=by rw[DE,Gi]
 rw[e];omega
set_option maxRecDepth 100000
theorem nG(k:Nat)(h:HF)(n:Nat){f lo y:Nat}(Z1:f<y)(R:lo<18446744073709551616)(Z0:y<18446744073709551616):VF (KO (k+3)) 216 [U .u64 (f:Int),U .u64 (lo:Int),U .u64 (y:Int)] h n fun v=>v=.tuple #[U .u64 (((f*18446744073709551616+lo)/y:Nat):Int),U .u64 (((f*18446744073709551616+lo)%y:Nat):Int)]:=by
 refine zB (fn:=Tryz.f216) R4<|Zc ?_;refine Zm ?_;refine ZF ?_;by_cases h0:f=0
 .subst h0;refine Zq ?_;rw[uP rfl];refine Zi ?_;refine xO (a:=lo) (b:=y) R6 Z<|Zi ?_;refine vg (a:=lo) (b:=y) R6 Z<|Zb ?_;exact retF [U .u64 _,U .u64 _] rfl rfl R2 (by rw[EI,D7];rfl)
 refine Zy ?_;refine ye _ R5 (dw k h n Z0 Z) ?_;rintro _⟨s,rfl,hs,L,D⟩;refine yO (c:=s) R7 Z<|Zz ?_;refine yS (a:=y) (s:=s) R6 Z ?_;rw[Dz D];have hp:0<2^s:=Er zd;have P:f*2^s+2^s≤y*2^s:=by
  have:=Dw (2^s) (show f+1≤y from Z1);rw[DE,EM]at this;exact this
 have J:lo/2^(64-s)<2^s:=by
  rw[Ff (Er zd),←EH,show s+(64-s)=64 from Z];exact R
 have T:=gd (lo:=lo) (s:=s) Z;have K:lo*2^s%18446744073709551616<18446744073709551616:=EA _ zd;have I:(f*18446744073709551616+lo)*2^s=(f*2^s+lo/2^(64-s))*18446744073709551616+lo*2^s%18446744073709551616:=by
  rw[DE,DE,Gi];omega
 refine Zb ?_;generalize hYe:y*2^s=Z3 at L D P⊢;repeat refine zW ?_
 refine zN ?_;repeat refine zW ?_
 refine Zp ?_;refine yS (a:=f) (s:=s) R6 Z ?_;rw[Dz (show f*2^s<18446744073709551616 by omega)];refine Zi ?_;refine yn (a:=64) (b:=s) R6 Z<|yg (a:=lo) (s:=64-s) R6 Z<|xZ (a:=f*2^s) (b:=lo/2^(64-s)) R6 Z ?_;rw[gA J];have A:f*2^s+lo/2^(64-s)<Z3:=Z;generalize f*2^s+lo/2^(64-s)=top at I A⊢;refine Zz ?_;refine yS (a:=lo) (s:=s) R6 Z ?_;generalize lo*2^s%18446744073709551616=N at I K⊢;refine Zb ?_;repeat refine zW ?_
 refine zN ?_;repeat refine zW ?_
 refine zN ?_;obtain⟨d,V⟩:∃d,d=Z3/4294967296:=⟨_,rfl⟩;obtain⟨o,W⟩:∃o,o=Z3%4294967296:=⟨_,rfl⟩;have F:d*4294967296+o=Z3:=Z;rw[←V,←W];refine Zi ?_;refine xO (a:=top) (b:=d) R6 Z<|Zb ?_;have M:top/d*d+top%d=top:=by rw[Dt];exact CW
 refine ZE ?_;refine xm (a:=top/d) (b:=d) R6 Z<|yn (a:=top) (b:=top/d*d) R6 Z ?_;rw[show top-top/d*d=top%d from Z];repeat refine zR ?_
 simp only[yj,yc,zX,yi,zm];refine Ux (va:=U .u64 (Z3:Int)) (vb:=U .u64 (s:Int)) (vc:=U .u64 (top:Int)) (vd:=U .u64 ((N%4294967296:Nat):Int)) (v1:=d) (v2:=o) (w2:=N/4294967296) (top:=top) Z Z Z Z rfl V9 ?_;intro t2 i j p;rw[←xo p];rw[F]at j;obtain⟨e,m⟩:∃e,e=(top*4294967296+N/4294967296)%Z3:=⟨_,rfl⟩;have q:=EP (top*4294967296+N/4294967296) Z3;have G:=EA (top*4294967296+N/4294967296) (show 0<Z3 by omega);rw[←m]at G;rw[←j,←m]at q;rw[Dt]at q;simp only[yj,yc,zX,yi,zm];refine zM ?_;refine vi (a:=top) (b:=4294967296) R6<|zM ?_;refine tI (a:=top*4294967296%18446744073709551616) (b:=N/4294967296) R6<|Zi ?_;refine vi (a:=i) (b:=Z3) R6<|xJ (a:=(top*4294967296%18446744073709551616+N/4294967296)%18446744073709551616) (b:=i*Z3%18446744073709551616) R6 Z ?_;rw[show((top*4294967296%18446744073709551616+N/4294967296)%18446744073709551616+18446744073709551616-i*Z3%18446744073709551616)%18446744073709551616=e from Z];repeat refine zR ?_
 simp only[yj,yc,zX,yi,zm];refine Zi ?_;refine xO (a:=e) (b:=d) R6 Z ?_;repeat refine zR ?_
 simp only[yj,yc,zX,yi,zm];have M:e/d*d+e%d=e:=by rw[Dt];exact CW
 refine ZE ?_;refine xm (a:=e/d) (b:=d) R6 Z<|yn (a:=e) (b:=e/d*d) R6 Z ?_;rw[show e-e/d*d=e%d from Z];repeat refine zR ?_
 simp only[yj,yc,zX,yi,zm];refine Uy (va:=U .u64 (Z3:Int)) (vb:=U .u64 (s:Int)) (vc:=U .u64 (i:Int)) (vd:=U .u64 (e:Int)) (v1:=d) (v2:=o) (w2:=N%4294967296) (top:=e) Z Z Z Z rfl V9 ?_;intro t3 B g p;rw[←xo p];rw[F]at g;obtain⟨C,l⟩:∃C,C=(e*4294967296+N%4294967296)%Z3:=⟨_,rfl⟩;have u:=EP (e*4294967296+N%4294967296) Z3;have H:=EA (e*4294967296+N%4294967296) (show 0<Z3 by omega);have S:(e*4294967296+N%4294967296)/Z3<4294967296:=by
  rw[Ff Z];have:(e+1)*4294967296≤Z3*4294967296:=Dw _ G;rw[Dt 4294967296];omega
 rw[←g]at S;rw[←l]at H;rw[←g,←l]at u;have a0:i<4294967296:=by
  apply DU;intro hn;have h1:4294967296*Z3≤i*Z3:=Dw _ Z;have h2:(top+1)*4294967296≤Z3*4294967296:=Dw _ A;omega
 rw[Dt]at u;refine Zd ?_;refine xm (a:=i) (b:=4294967296) R6 Z<|zM ?_;refine yT (a:=i*4294967296) (b:=B) R6 Z<|zM ?_;refine vi (a:=e) (b:=4294967296) R6<|zM ?_;refine tI (a:=e*4294967296%18446744073709551616) (b:=N%4294967296) R6<|Zi ?_;refine vi (a:=B) (b:=Z3) R6<|xJ (a:=(e*4294967296%18446744073709551616+N%4294967296)%18446744073709551616) (b:=B*Z3%18446744073709551616) R6 Z ?_;rw[show((e*4294967296%18446744073709551616+N%4294967296)%18446744073709551616+18446744073709551616-B*Z3%18446744073709551616)%18446744073709551616=C from Z];refine zM ?_;refine yg (a:=C) (s:=s) R6 Z<|Zb ?_;have w:=fA (Z4:=f*18446744073709551616+lo) (y:=y) (s:=s) (Q:=i*4294967296+B) (r:=C) (I.trans (U8 q u hYe)) (by rw[hYe];exact H);refine retF [U .u64 _,U .u64 _] rfl rfl R2 ?_;rw[w.1,w.2];rfl
end
section
variable {cap:Nat}
theorem aa(j:Nat)(q:List Nat)(d:Nat):(Dp (j+1) 0++q).set j d=Dp j 0++d::q:=by
 rw[List.replicate_succ',DN,Eo _ _ cA,DV,Ee];rfl
theorem nQ{r Vq a:Nat}(c:0<d)(b:V=d*Vq+r):(a+18446744073709551616*V)/d=(r*18446744073709551616+a)/d+18446744073709551616*Vq∧(a+18446744073709551616*V)%d=(r*18446744073709551616+a)%d:=by
 have e:a+18446744073709551616*V=(r*18446744073709551616+a)+d*(18446744073709551616*Vq):=by
  rw[b,D4,ER];omega
 rw[e];exact⟨HW _ _ c,Nat.add_mul_mod_self_left _ _ _⟩
theorem PN{r a:Nat}(b:r<d)(c:a<18446744073709551616):(r*18446744073709551616+a)/d<18446744073709551616:=by
 rw[Ff Z];have:(r+1)*18446744073709551616≤d*18446744073709551616:=Dw _ b;rw[Dt 18446744073709551616];omega
theorem fZ{l:List Nat}{a:Nat}(h:l[j]?=some a):wv (l.drop j)=a+18446744073709551616*wv (l.drop (j+1)):=by
 rw[wc h];rfl
theorem kM(k:Nat){l:List Nat}(u:O l<1099511627)(q:KQ l)(e:0<d∧d<18446744073709551616)(hv:Sl h n 1 (Y a len cap) (u64s l)):
  VF (KO (k+4)) 186 [Y a len cap,U .u64 (d:Int)] h n fun v=>v=U .u64 ((wv l%d:Nat):Int):=by
 refine zB (fn:=Tryz.f186) R4 ?_;have b:=hv.lenW;subst b;refine Zc ?_;refine Zl ?_;refine zK (α:=Nat×Nat) (fun x=>[(0,Y a (O l) cap),(1,U .u64 (d:Int)),(5,U .u64 (x.2:Int)),(6,U .i64 ((x.1:Int)-1))])
  (fun x o s w=>h=o∧n=s∧w=[]∧x.1≤O l∧x.2=wv (l.drop x.1)%d) (fun x=>x.1)
  (O l,0) V4 ⟨rfl,rfl,rfl,Dh,by rw[Fo];exact(aa6 _).symm⟩ Aj ?_
 rintro⟨j,r⟩ t _ _ _ ⟨rfl,rfl,rfl,p,c⟩;simp only at p c;have i:r<d:=by rw[c];exact EA _ e.1
 refine zN ?_;cases j with
 |zero=>
  refine Zm ?_;exact retF _ rfl (zj rfl) R2 (by rw[c,EE];rfl)
 |succ j=>
  obtain⟨x,g⟩:∃x,l[j]?=some x:=⟨l[j]'Z,Dm Z⟩;have m:=q.get g;refine Zr ?_;refine ya (f:=fun d:Nat=>U .u64 (d:Int)) (j:=j) R7 hv ⟨rfl,Z⟩ g (fun _=>rfl) R4 fun _=>?_;repeat refine zR ?_
  refine ye _ R5 (nG k h n i m e.2) ?_;rintro _ rfl;refine Zl ?_;refine goOn (j,(r*18446744073709551616+x)%d) AZ ⟨rfl,rfl,rfl,aD,Df⟩ ⟨rfl,rfl,rfl,BC,?_⟩;show _%d=wv (l.drop j)%d;rw[fZ g,(nQ (V:=wv (l.drop (j+1))) (Vq:=wv (l.drop (j+1))/d) (r:=r) (a:=x) e.1 (by rw[c];exact(EP _ _).symm)).2]
theorem U9(k:Nat){l:List Nat}(I:O l<1099511627)(R:KQ l)(m:0<d∧d<18446744073709551616)(hv:Sl h n 1 (Y a len cap) (u64s l)):
  CF (KO (k+4)) 238 [Y a len cap,U .u64 (d:Int)] h n fun v p D w=>∃v1 L,v=.tuple #[v1,U .u64 ((wv l%d:Nat):Int)]∧ResW n h v1 p D w L∧wv L=wv l/d∧O L≤O l∧yh n v1:=by
 refine zl (fn:=Tryz.f238) R4 ?_;have s:=hv.lenW;subst s;refine Zu ?_;refine xP (len:=O l) (cap:=O l) R9 Z ?_;rw[show zr (U .u64 0)=[U .u64 0]from rfl,wK];refine Zl ?_;refine Zb ?_;refine zK (α:=Nat×List Nat×Nat) (fun x=>[(0,Y a (O l) cap),(1,U .u64 (d:Int)),(6,Y (some ⟨3*n+2,0,none⟩) (O l) (O l)),(7,U .u64 (x.2.2:Int)),(8,U .i64 ((x.1:Int)-1))])
  (fun x p D w=>D=n+1∧w=[]∧KN n h p∧x.1≤O l∧(∃e,p (3*n+2)=some (.row (u64s (Dp x.1 0++x.2.1)) e))∧x.1+O x.2.1=O l∧KQ x.2.1∧x.2.2<d∧wv (l.drop x.1)=d*wv x.2.1+x.2.2) (fun x=>x.1)
  (O l,[],0) V5 ⟨rfl,rfl,GD Z,Dh,⟨_,by rw[ze,DZ]⟩,cA,IB,m.1,by rw[Fo];rfl⟩ Aj ?_
 rintro⟨j,q,r⟩ t F _ _ ⟨rfl,rfl,g,P,⟨e,c⟩,J,A,o,i⟩;simp only at P c J A o i;refine zN ?_;cases j with
 |zero=>
  rw[FK,El]at c;have T:O q=O l:=Z;refine Zv ?_;have K:=xR (k+2) (h:=F) (n:=n+1) (a:=some ⟨3*n+2,0,none⟩) (len:=O l) (cap:=O l) (l:=q) Z (fun _ e=>by injection e with e;rw[←e]) (.at_ Z c rfl Dh (by rw[zQ];omega) Bf);refine zk _ R5 K ?_;rintro Z4 _ _ _⟨rfl,rfl,rfl,rfl,S⟩;refine Zb ?_;rw[EE]at i;have G:wv l/d=wv q:=by rw[i,Nat.mul_add_div m.1,Fz o,Ej]
  have H:wv l%d=r:=by rw[i,Nat.mul_add_mod,Dz o]
  refine retH [Y _ _ _,U .u64 _] R3 ⟨_,z0 q,by rw[H];rfl,⟨rfl,AD,g,S,NW.trim A⟩,?_,?_,bR⟩
  .rw[G];exact ni _ _
  have:=yV q;omega
 |succ j=>
  obtain⟨x,B⟩:∃x,l[j]?=some x:=⟨l[j]'Z,Dm Z⟩;have u:=R.get B;have M:=hv.ext g (DM n);refine Zr ?_;refine ya (f:=fun d:Nat=>U .u64 (d:Int)) (j:=j) R7 M ⟨rfl,Z⟩ B (fun _=>rfl) R4 fun _=>?_;repeat refine zR ?_
  refine ye _ R5 (nG k F (n+1) o u m.2) ?_;rintro _ rfl;repeat refine zR ?_
  refine xG (j:=j) (v:=U .u64 (((r*18446744073709551616+x)/d:Nat):Int)) R8 Z AP c bR (fun _=>rfl) R3 (fun _=>rfl) rfl fun _=>?_;rw[yA,aa];refine Zl ?_;obtain⟨N,Z1⟩:=nQ (V:=wv (l.drop (j+1))) (Vq:=wv q) (r:=r) (a:=x) m.1 i;refine goOn (j,(r*18446744073709551616+x)/d::q,(r*18446744073709551616+x)%d) AZ ⟨rfl,rfl,rfl,rfl,aD,Df⟩ ⟨rfl,rfl,fun b I=>(zg Z).trans (g b I),BC,⟨e,ze _ _ _⟩,by show j+O (_::q)=_;simp;omega,?_,EA _ m.1,?_⟩
  .intro y C;rcases DR.1 C with rfl|C
   .exact PN o u
   exact A y C
  show wv (l.drop j)=d*wv (_::q)+_;rw[fZ B,←Z1];have:=EP (x+18446744073709551616*wv (l.drop (j+1))) d;rw[N]at this;exact this.symm
end
theorem tO(h:c<10):(EV (48+c)).toNat=48+c:=by
 rw[UInt8.toNat_ofNat',Dz Z]
theorem nI:∀V,AllD ((decB V).map EV)∧dval ((decB V).map EV)=V:=by
 intro V;induction V using Nat.strongRecOn with
 |ind V ih=>
  by_cases h0:V=0
  .subst h0;unfold decB;rw[yZ];exact⟨fun b a=>oU a cA,rfl⟩
  have e:decB V=decB (V/10)++[48+V%10]:=by
   unfold decB;rw[wE h0];simp
  obtain⟨f,g⟩:=ih (V/10) Z;have d:=tO (c:=V%10) Z;rw[e,List.map_append,List.map_cons,List.map_nil];refine⟨fun b a=>?_,?_⟩
  .rcases Ec.1 a with a|a
   .exact f b a
   rw[Dx.1 a,d];omega
  rw[re,g,d];omega
theorem wk(V:Nat):AllD (decT V)∧dval (decT V)=V∧decT V≠[]:=by
 unfold decT;by_cases h0:V=0
 .rw[De h0,h0];exact⟨fun b a=>by rw[Dx.1 a];decide,rfl,cA⟩
 rw[CT h0];refine⟨(nI V).1,(nI V).2,fun e=>?_⟩;have:=(nI V).2;rw[e]at this;exact h0 this.symm
def Ng(t:List UInt8)(j:Nat):Prop:=j≤O t∧(∀i,i<j→t[i]?≠some 47)∧(j=O t∨t[j]?=some 47)
theorem AllD.slash{a:List UInt8}(h:AllD a):a[i]?≠some 47:=fun e=>by
 have:=h 47 (Dq e);have b:(47:UInt8).toNat=47:=rfl;omega
theorem Ng.uniq{a r:List UInt8}(m:AllD a)(o:r=[]∨∃f,r=47::f)(h:Ng (a++r) j):j=O a:=by
 obtain⟨g,l,b⟩:=h;rcases Hh j (O a) with e|rfl|d
 .exfalso;rcases b with b|b
  .rw[Do]at b;omega
  rw[En e]at b;exact m.slash b
 .rfl
 exfalso;rcases o with rfl|⟨f,rfl⟩
 .simp at g;omega
 refine l (O a) d ?_;rw[DL Dh,Ee];rfl
def xC(s:List UInt8):Prop:=∃q:Rat,ratT q=s
def zI(s:List UInt8):Bool:=s[0]?==some 45
def xf(s:List UInt8):List UInt8:=if zI s then s.drop 1 else s
theorem rH(q:Rat):zI (ratT q)=decide (q.num<0)∧xf (ratT q)=decT q.num.natAbs++(if q.den=1 then[]else 47::decT q.den):=by
 have a:zI (ratT q)=decide (q.num<0):=by
  unfold zI ratT;by_cases hn:q.num<0
  .rw[De hn,kA hn];rfl
  rw[CT hn,aA hn,El];obtain⟨f,_,g⟩:=wk q.num.natAbs;rw[En (Hz.2 g)];cases hd:(decT q.num.natAbs)[0]? with
  |none=>rfl
  |some b=>
   have:=f b (Dq hd);show(some b==some 45)=false;have d:b≠45:=fun e=>by subst e;have l:(45:UInt8).toNat=45:=rfl;omega
   simpa using d
 refine⟨a,?_⟩;unfold xf;rw[a];by_cases hn:q.num<0
 .rw[De (kA hn)];unfold ratT;rw[De hn];rfl
 rw[CT (by simpa using hn)];unfold ratT;rw[CT hn];rfl
theorem Va(f:ratT q=s)(b:Ng (xf s) j):zI s=decide (q.num<0)∧(xf s).take j=decT q.num.natAbs∧(q.den=1→j=O (xf s))∧(q.den≠1→j<O (xf s)∧(xf s).drop (j+1)=decT q.den):=by
 subst f;obtain⟨d,e⟩:=rH q;rw[e]at b⊢;have g:=b.uniq (wk _).1 (by by_cases a:q.den=1<;>simp[a]);subst g;refine⟨d,HK rfl,fun a=>by rw[De a];simp,fun a=>?_⟩;rw[CT a];refine⟨cA,?_⟩;rw[←ES,GC rfl];rfl
theorem jm(s:List UInt8):O (xf s)≤O s:=by
 unfold xf;split
 .rw[Ea];omega
 exact Fu _
section
variable {X:CtxF}{d:Tmp}
theorem uE{i:Operand}(a:Za X ops t o d (o.op=.slice ty x (some i) none none∧X.E.und ty=some .string∧KM t x=Dl ⟨⟨s⟩⟩∧KM t i=U ik ji∧ji=(j:Int)))(v:j≤O s)
  (k:EO X ops r ⟨upd t d (Dl ⟨⟨s.drop j⟩⟩),h,n,w⟩ Q):EO X ops (o::r) ⟨t,h,n,w⟩ Q:=by
 obtain⟨a,g,m,e,p,u,l,c⟩:=a;subst c;refine zA ⟨a,g,m,A0,?_⟩ k;rw[e];show yY X.E ty (KM t x) (some (KM t i)) none=_;rw[u,l];have f:(0:Int)≤(j:Int)∧(j:Int)≤(O s:Int):=Z;simp only[yY,p,Ld,De f,Ez];rw[DK (by rw[Ea];exact Fu _)]
theorem rD{i:Operand}(a:Za X ops t o d (o.op=.slice ty x none (some i) none∧X.E.und ty=some .string∧KM t x=Dl ⟨⟨s⟩⟩∧KM t i=U ik ji∧ji=(j:Int)))(v:j≤O s)
  (k:EO X ops r ⟨upd t d (Dl ⟨⟨s.take j⟩⟩),h,n,w⟩ Q):EO X ops (o::r) ⟨t,h,n,w⟩ Q:=by
 obtain⟨a,g,m,e,p,u,l,c⟩:=a;subst c;refine zA ⟨a,g,m,A0,?_⟩ k;rw[e];show yY X.E ty (KM t x) none (some (KM t i))=_;rw[u,l];have f:(0:Int)≤(j:Int)∧(j:Int)≤(O s:Int):=Z;simp only[yY,p,Ld,De f,Ez,EE,Nat.sub_zero]
end
theorem RatR.off{h:HF}{n:Nat}{y:Option BF}(r:RatR h n n1 n2 d1 d2 q ln ld)(a:La b n2)(c:La b d2):RatR (upd h b y) n n1 n2 d1 d2 q ln ld:=⟨r.num.off a,r.neg,r.sl.off c,r.norm,r.val⟩
theorem RatR.ones{h:HF}{n:Nat}(r:RatR h n n1 n2 d1 d2 q ln ld):ones [n1,n2,d1,d2]=true:=by
 rw[r.num.neg];show GL.ones (n2::_)=true;rw[r.num.sl.ones,r.neg];show GL.ones (d2::_)=true;rw[r.sl.ones];rfl
theorem RatR.zero(h:HF)(n:Nat):RatR h n (Dk false) (Y none 0 0) (Dk false) (Y none 0 0) 0 [] []:=⟨⟨rfl,.nil (.inl rfl),IA,rfl⟩,rfl,.nil (.inl rfl),IA,rfl⟩
theorem Vb(h:q.den=1):q=((q.num:Int):Rat):=by
 apply Rat.ext
 .rw[GU]
 rw[Hc,h]
theorem RatR.whole{h:HF}{n:Nat}{a c:Value}{x:Int}{l:List Nat}(r:IntR h n a c x l):RatR h n a c (Dk false) (Y none 0 0) (x:Rat) l []:=⟨by rw[GU];exact r,rfl,.nil (.inl rfl),IA,by rw[Hc];rfl⟩
def Vc(n:Nat)(h:HF)(s:List UInt8)(v:Value)(h':HF)(n':Nat)(w:List Nat):Prop:=w=[]∧n≤n'∧KN n h h'∧∃n1 n2 d1 d2 q ln ld ok,v=.tuple #[.agg #[n1,n2,d1,d2],Dk ok]∧RatR h' n' n1 n2 d1 d2 q ln ld∧O ln≤O s∧O ld≤O s∧yh n n2∧yh n d2∧(ok=true→ratT q=s)∧(xC s→ok=true)
theorem Vd(k:Nat)(h:HF)(n:Nat)(s:List UInt8)(hs:O s<1000000):CF (KO (k+6)) 52 [Dl ⟨⟨s⟩⟩] h n (Vc n h s):=by
 refine zl (fn:=Tryz.f52) R4<|zN ?_;refine z6 R5<|Zj ?_;simp only[zX,yi,zm,yj];generalize hh:upd h (3*n+2) _=h1;have a8:∃e,h1 (3*n+2)=some (.row [Dk false,Y none 0 0,Dk false,Y none 0 0] e):=⟨_,kS⟩;have av:KN n h h1:=by rw[←hh];exact C4
 obtain⟨e1,a8⟩:=a8;have ao:=jm s;refine oQ [(0,Dl ⟨⟨s⟩⟩),(2,Dn (some ⟨3*n+2,0,none⟩)),(4,Dl ⟨⟨s⟩⟩),(5,Dk (zI s))] (fun u F w=>h1=u∧F=n+1∧w=[]) ?_ ?_
 .refine Zd ?_;refine st_I (ik:=.i64) (a:=(O s:Int)) R5 ?_;by_cases hs0:O s=0
  .refine Zb ?_;exact vG ⟨rfl,rfl,rfl,by rw[DA.1 hs0];rfl,Df⟩ R3
  obtain⟨b,g⟩:∃b,s[0]?=some b:=⟨s[0]'Z,Dm Z⟩;refine mj R6 Z ?_;repeat refine zR ?_
  refine yC (j:=0) R8 g ?_;have l:zI s=decide (b.toNat=45):=by
   unfold zI;rw[g];by_cases h45:b=45
   .subst h45;rfl
   rw[show decide (b.toNat=45)=false from aA (fun e=>h45 (HM.1 e))];simpa using h45
  by_cases h45:b.toNat=45
  .refine Zb ?_;exact vG ⟨rfl,rfl,rfl,by rw[l,kA h45];rfl,Df⟩ R3
  refine Zb ?_;exact vG ⟨rfl,rfl,rfl,by rw[l,aA h45];rfl,Df⟩ R3
 rintro t _ _ _⟨rfl,rfl,rfl⟩;refine Zc ?_;refine oQ [(0,Dl ⟨⟨s⟩⟩),(2,Dn (some ⟨3*n+2,0,none⟩)),(4,Dl ⟨⟨xf s⟩⟩),(5,Dk (zI s))] (fun u F w=>h1=u∧F=n+1∧w=[]) ?_ ?_
 .by_cases l:zI s=true
  .rw[zc (by show Dk (zI s)=_;rw[l])];refine Zd ?_;have au:1≤O s:=by
    unfold zI at l;cases s with
    |nil=>simp at l
    |cons=>simp
   refine uE (j:=1) R8 au<|Zb ?_;exact vG ⟨rfl,rfl,by unfold xf;rw[De l];rfl,rfl,Df⟩ R3
  rw[za (by show Dk (zI s)=_;rw[IC.2 l])];refine zN ?_;exact vG ⟨rfl,rfl,by unfold xf;rw[CT l];rfl,rfl,Df⟩ R3
 rintro t _ _ _⟨rfl,rfl,rfl⟩;generalize hT:xf s=T at ao;refine Zd ?_;refine st_I (ik:=.i64) (a:=(O T:Int)) R5<|Zj ?_;simp only[zX,yi,zm,yj];refine yp (α:=Nat) (fun z=>[(0,Dl ⟨⟨s⟩⟩),(2,Dn (some ⟨3*n+2,0,none⟩)),(4,Dl ⟨⟨T⟩⟩),(5,Dk (zI s)),(6,U .i64 (z:Int))]) (fun z u F w=>h1=u∧F=n+1∧w=[]∧Ng T z) ?_ ?_
 .refine zN ?_;refine zK (α:=Nat) (fun z=>[(0,Dl ⟨⟨s⟩⟩),(2,Dn (some ⟨3*n+2,0,none⟩)),(4,Dl ⟨⟨T⟩⟩),(5,Dk (zI s)),(6,U .i64 (O T:Int)),(7,U .i64 (z:Int))]) (fun z u F w=>h1=u∧F=n+1∧w=[]∧z≤O T∧∀i,i<z→T[i]?≠some 47) (fun z=>O T-z) 0 V6 ⟨rfl,rfl,rfl,Di,fun i hi=>oU hi (Nat.not_lt_zero i)⟩ (by show O T-0<LL;unfold LL;omega) ?_;rintro z t _ _ _⟨rfl,rfl,rfl,hz,a3⟩;refine Zp ?_;refine st_I (ik:=.i64) (a:=(O T:Int)) R5 ?_;by_cases hze:z=O T
  .refine Zk ?_;exact zC (O T) V5 ⟨rfl,rfl,rfl,Dh,by rw[←hze];exact a3,.inl rfl⟩
  obtain⟨b,g⟩:∃b,T[z]?=some b:=⟨T[z]'Z,Dm Z⟩;refine ZC ?_;refine yC (j:=z) R8 g ?_;by_cases h47:b.toNat=47
  .have al:b=47:=HM.1 h47;subst al;refine Zo ?_;exact zC z V5 ⟨rfl,rfl,rfl,hz,a3,.inr g⟩
  refine Zm ?_;refine goOn (z+1) (by show O T-(z+1)<O T-z;omega) ⟨rfl,rfl,rfl,rfl,rfl,dO,Df⟩ ⟨rfl,rfl,rfl,by show z+1≤O T;omega,fun i hi=>?_⟩;by_cases hiz:i<z
  .exact a3 i hiz
  have:i=z:=Z;subst this;rw[g];intro e;injection e with e
  subst e;exact h47 rfl
 rintro z t _ _ _⟨rfl,rfl,rfl,ah⟩;refine zN ?_;have ay:z≤O T:=ah.1;have m:∀c,ratT c=s→zI s=decide (c.num<0)∧T.take z=decT c.num.natAbs∧(c.den=1→z=O T)∧(c.den≠1→z<O T∧T.drop (z+1)=decT c.den):=by
  intro c f;have:=Va f (j:=z) (by rw[hT];exact ah);rw[hT]at this;exact this
 refine Zi ?_;refine rD (j:=z) R8 ay ?_;have b8:O (T.take z)≤O s:=by rw[DW];omega
 refine zk _ R5 (qZ (k+2) _ _ (T.take z) Z) ?_;rintro _ h2 n2 _⟨rfl,b5,ai,c1,c2,L,ok,x,rfl,ix,b3,fx,a5,am⟩;repeat refine zR ?_
 refine z6 R5<|zw [c1,c2] R7 ix.ones (ze _ _ _) rfl eL ?_;rw[yI];generalize hh:upd h2 (3*n2+2) _=h3;have ac:KN n2 h2 h3:=by rw[←hh];exact C4
 have Z4:∃e,h3 (3*n2+2)=some (.row [c1,c2] e):=⟨_,kz⟩;obtain⟨e8,Z4⟩:=Z4;have H:=ix.ext ac zs;have a9:h3 (3*n+2)=_:=(ac _ Z).trans ((ai _ Z).trans a8);have N:KN n h h3:=fun b g=>(ac b Z).trans ((ai b Z).trans (av b g));refine Zb ?_;cases ok with
 |false=>
  refine Zq ?_;refine zA (v:=.agg #[Dk false,Y none 0 0,Dk false,Y none 0 0]) R5<|zw [Dk false,Y none 0 0,Dk false,Y none 0 0] R7 rfl a9 rfl eL ?_;refine Zb ?_;refine tJ R6 (ze _ _ _) R2 ⟨rfl,by show n≤n2+1;omega,fun b g=>(zg Z).trans (N b g),_,_,_,_,0,[],[],false,rfl,RatR.zero _ _,Di,Di,trivial,trivial,fun h=>oU h cA,?_⟩;rintro⟨c,f⟩;obtain⟨_,p2,_,_⟩:=m c f;have C:=wk c.num.natAbs;rw[←p2]at C;exact oU (a5 ⟨C.1,C.2.2⟩).1 cA
 |true=>
 refine Zk ?_;have ak:=am rfl;have ax:=(a5 ak).2;obtain⟨a,b9,p,rfl,_⟩:=H.sl.len;have e1:=H.sl.lenU;subst e1;repeat refine zR ?_
 refine zi R6 Z4 (v:=Y a (O L) p) R2<|zk _ R5 (uL (k+4) _ _ (zI s) a (O L) p) ?_;rintro _ h4 n4 _⟨rfl,rfl,rfl,W⟩;refine zA (v:=.agg #[Dk (zI s&&decide (0<O L)),Y a (O L) p,Dk false,Y none 0 0]) R5<|z6 R5<|zw [Dk (zI s&&decide (0<O L)),Y a (O L) p,Dk false,Y none 0 0] R7 rfl (ze _ _ _) rfl eL ?_;rw[yI];generalize hh:upd h4 (3*(n2+1+1)+2) _=h5;have Z3:KN (n2+1+1) h4 h5:=by rw[←hh];exact C4
 have A:∃e,h5 (3*(n2+1+1)+2)=some (.row [Dk (zI s&&decide (0<O L)),Y a (O L) p,Dk false,Y none 0 0] e):=⟨_,kz⟩;have aa:h5 (3*n+2)=_:=(Z3 _ Z).trans ((W _ Z).trans a9);have Z1:KN n h h5:=fun b g=>(Z3 b Z).trans ((W b Z).trans (N b g));obtain⟨K,V⟩:∃K:Int,K=if zI s then -(x:Int)else x:=⟨_,rfl⟩
 have iN:IntR h5 (n2+1+1+1) (Dk (zI s&&decide (0<O L))) (Y a (O L) p) K L:=by
  refine pD ((H.sl.ext W zs).ext Z3 zs) H.norm ?_ fun h0=>?_
  .rw[H.val,V];split<;>omega
  rw[V]at h0⊢;by_cases l:zI s=true
  .rw[De l]at h0⊢;rw[l,kA Z]
  rw[CT l,IC.2 l,aA Z]
 have a4:∀c,ratT c=s→K=c.num:=by
  intro c f;obtain⟨p1,p2,_,_⟩:=m c f;rw[V,ax,p2,(wk _).2.1,p1];by_cases hn:c.num<0
  .rw[De (kA hn)];omega
  rw[CT (by simpa using hn)];omega
 refine Zp ?_;refine st_I (ik:=.i64) (a:=(O T:Int)) R5<|ql R6<|zN ?_;refine yp (α:=(Value×Value×Value×Value)×Rat×List Nat×List Nat) (fun _=>[(0,Dl ⟨⟨s⟩⟩),(2,Dn (some ⟨3*n+2,0,none⟩)),(10,Dn (some ⟨3*(n2+1+1)+2,0,none⟩))])
  (fun z u F w=>w=[]∧n2+1+1+1≤F∧KN n h u∧u (3*n+2)=some (.row [Dk false,Y none 0 0,Dk false,Y none 0 0] e1)∧(∃e,u (3*(n2+1+1)+2)=some (.row [z.1.1,z.1.2.1,z.1.2.2.1,z.1.2.2.2] e))∧RatR u F z.1.1 z.1.2.1 z.1.2.2.1 z.1.2.2.2 z.2.1 z.2.2.1 z.2.2.2∧O z.2.2.1≤O s∧O z.2.2.2≤O s∧yh (n+1) z.1.2.1∧yh (n+1) z.1.2.2.2∧∀c,ratT c=s→z.2.1=c) ?_ ?_
 .by_cases hzT:(z:Int)<(O T:Int)
  .rw[zc (by show Dk (decide ((z:Int)<(O T:Int)))=_;rw[kA hzT])];refine Zg ?_;refine uE (j:=z+1) R8 Z ?_;have b4:O (T.drop (z+1))≤O s:=by rw[Ea];omega
   refine zk _ R5 (qZ (k+2) _ _ (T.drop (z+1)) Z) ?_;rintro _ h6 n6 _⟨rfl,aq,Z0,d1,d2,D,af,y,rfl,iy,b2,fy,ag,b0⟩;repeat refine zR ?_
   refine z6 R5<|zw [d1,d2] R7 iy.ones (ze _ _ _) rfl eL ?_;rw[yI];generalize hh:upd h6 (3*n6+2) _=h7;have G:KN n6 h6 h7:=by rw[←hh];exact C4
   have B:∃e,h7 (3*n6+2)=some (.row [d1,d2] e):=⟨_,kz⟩;obtain⟨b1,B⟩:=B;have ab:h7 (3*n+2)=_:=(G _ Z).trans ((Z0 _ Z).trans aa);have P:KN n h h7:=fun b g=>(G b Z).trans ((Z0 b Z).trans (Z1 b g));have ae:=iy.ext G zs;have M:∀c,ratT c=s→af=true∧y=c.den:=by
    intro c f;obtain⟨p1,p2,p3,p4⟩:=m c f;have ap:c.den≠1:=fun e=>by have:=p3 e;omega
    have C:=wk c.den;rw[←(p4 ap).2]at C;have:=ag ⟨C.1,C.2.2⟩;rw[C.2.1]at this;exact this
   refine Zb ?_;by_cases hfine:af=true∧y≠0
   .obtain⟨rfl,aj⟩:=hfine;repeat refine zR ?_
    refine zO (v:=.agg #[d1,d2]) R5 (zF R2 B rfl zb rfl)<|ye _ R5 (eH (k+4) ae) ?_;rintro _ rfl;rw[GX Z];refine Zk ?_;obtain⟨an,A⟩:=A;have S:h7 (3*(n2+1+1)+2)=_:=(G _ Z).trans ((Z0 _ Z).trans A);repeat refine zR ?_
    refine zO (v:=.agg #[Dk (zI s&&decide (0<O L)),Y a (O L) p]) R5 (zF R2 S rfl zb rfl)<|zO (v:=.agg #[d1,d2]) R5 (zF R2 B rfl zb rfl) ?_;have az:=(iN.ext Z0 aq).ext G zs;refine zk _ R5 (PM k az ae Z Z) ?_;rintro _ h8 n8 _⟨rfl,b6,ad,u1,I,v1,J,ln,ld,rfl,R,a1,a2,o1,o2⟩;have a6:h8 (3*(n2+1+1)+2)=_:=(ad _ Z).trans S;refine zw [u1,I,v1,J] R7 R.ones a6 rfl eL ?_;refine zN ?_;have f1:yh (n+1) I:=by
     rcases o1 with rfl|o1
     .exact fx
     exact o1.mono Z
    have f2:yh (n+1) J:=by
     rcases o2 with rfl|o2
     .exact fy.mono Z
     exact o2.mono Z
    have g1:La (3*(n2+1+1)+2) I:=by
     rcases o1 with rfl|o1
     .exact ix.sl.below.off Z
     exact o1.off Z
    have g2:La (3*(n2+1+1)+2) J:=by
     rcases o2 with rfl|o2
     .exact fy.off Z
     exact o2.off Z
    refine zC ((u1,I,v1,J),Ef K (y:Int),ln,ld) V3 ⟨rfl,by show n2+1+1+1≤n8;omega,fun b g=>(zg Z).trans ((ad b Z).trans (P b g)),(zg Z).trans ((ad _ Z).trans ab),⟨_,ze _ _ _⟩,R.off g1 g2,by show O ln≤O s;omega,by show O ld≤O s;omega,f1,f2,fun c f=>?_⟩;show Ef K (y:Int)=c;rw[a4 c f,(M c f).2];exact Rat.num_divInt_den c
   have a0:¬xC s:=fun⟨c,f⟩=>hfine ⟨(M c f).1,by rw[(M c f).2];exact c.den_nz⟩;cases af with
   |false=>
    exact B5
   |true=>
    have aj:y=0:=DU fun e=>hfine ⟨rfl,e⟩;subst aj;repeat refine zR ?_
    refine zO (v:=.agg #[d1,d2]) R5 (zF R2 B rfl zb rfl)<|ye _ R5 (eH (k+4) ae) ?_;rintro _ rfl;exact B5
  rw[za (by show Dk (decide ((z:Int)<(O T:Int)))=_;rw[aA hzT])];refine zN ?_;refine zC ((Dk (zI s&&decide (0<O L)),Y a (O L) p,Dk false,Y none 0 0),(K:Rat),L,[]) V3 ⟨rfl,Dh,Z1,aa,A,RatR.whole iN,by show O L≤O s;omega,Di,fx,trivial,fun c f=>?_⟩;obtain⟨p1,p2,p3,p4⟩:=m c f;have C:c.den=1:=DU fun e=>by have:=(p4 e).1;omega
  show(K:Rat)=c;rw[a4 c f];exact(Vb C).symm
 rintro⟨⟨u1,I,v1,J⟩,q,ln,ld⟩ t h9 n9 _ ⟨rfl,b7,aw,ar,⟨an,a7⟩,R,a1,a2,f1,f2,f⟩;simp only at a7 R a1 a2 f1 f2 f;refine zN ?_;refine zn [0,0,2,0,14,7,63] rfl<|zS (v:=.agg #[u1,I,v1,J]) R6 (zF R2 a7 rfl zb rfl) R2<|zS (v:=.agg #[u1,I,v1,J]) R6 (zF R2 a7 rfl zb rfl) R2<|mW _ R7 (nZ (k+1) R Z) ?_;rintro _ rfl;refine zE ?_;refine dr_B (a:=ratT q==s) R5<|xK (cs:=[u1,I,v1,J]) R7 R.ones ar zb eL R3 ?_;repeat refine zE ?_
 refine zN ?_;exact tJ R6 (ze _ _ _) R2 ⟨rfl,by show n≤n9;omega,fun b g=>(zg Z).trans (aw b g),_,_,_,_,q,ln,ld,_,rfl,R.off (f1.off Z) (f2.off Z),a1,a2,f1.mono Z,f2.mono Z,fun he=>eq_of_beq he,fun⟨c,hq⟩=>by rw[f c hq,hq];exact beq_self_eq_true s⟩
section
variable {X:CtxF}{d:Tmp}
theorem Ve{a:TypeId}(y:zh ops t o=true)(p:o.dst=some d)(u:zu X.nt (some d)=true)(f:o.op=.convert ty e x)(A:KM t x=Dl ⟨⟨s⟩⟩)(q:uV X.E ty e (Dl ⟨⟨s⟩⟩)=some ⟨s.map fun b=>U .u8 b.toNat,a,true,some (O s,O s)⟩)
  (k:EO X ops r ⟨upd t d (Y (some ⟨3*n+1,0,none⟩) (O s) (O s)),upd h (3*n+1) (some (.row (s.map fun b=>U .u8 b.toNat) a)),n+1,w⟩ Q):EO X ops (o::r) ⟨t,h,n,w⟩ Q:=by
 obtain⟨B,g,j⟩:=k;refine⟨B,?_,j⟩;rw[seqF,y];have m:KS o.op=4:=by rw[f];rfl
 have l:KX X.E o.op (KM t)=some ⟨s.map fun b=>U .u8 b.toNat,a,true,some (O s,O s)⟩:=by rw[f];show uV X.E ty e (KM t x)=_;rw[A];exact q
 simp only[Lv,m,l,Mf,wp,p,u,addW];exact g
end
theorem Gro.inv2{h:HF}{n:Nat}{c:List Value}(g:Gro h lo n e sz v len c)(h0:len≠0):∃b,v=Y (some ⟨b,0,none⟩) len len∧gro b=true∧3*lo≤b∧b<3*n∧h b=some (.row c e)∧O c=len*sz:=by
 cases g with
 |nil=>exact oU rfl h0
 |at_ hg hlo hb hr hl ho=>exact⟨_,rfl,hg,hlo,hb,hr,hl⟩
theorem rF{E D:List Nat}{x:Nat}(d:Nat)(h:D[O E]?=some x):(E++D.drop (O E)).set (O E) d=(E++[d])++D.drop (O (E++[d])):=by
 rw[wc h,Eo _ _ Dh,Ee];simp
theorem jQ(h:i≤19):10^i≤10000000000000000000:=DJ zd h
theorem NW.len_pow(h:NW L)(hv:wv L<10^i):O L≤i:=
 h.len_le (DY hv (Ig zd i))
theorem NW.of_low(h:KQ L)(a:O L=i+1)(hv:18446744073709551616^i≤wv L):NW L:=by
 obtain⟨l,d,rfl⟩:=Go.Proofs.YtfajmfoofmienaaGreatDoor.snoc (l:=L) (by intro e;rw[e]at a;simp at a);refine⟨h,xp l fun e=>?_⟩;subst e;rw[wv,vQ,Fp,Ej]at hv;have f:=iE (B:=18446744073709551616) (l:=l) fun x g=>h x BS;simp at a;rw[a]at f;omega
theorem Vf{w:Nat}(g:w<18446744073709551616)(a:b<18446744073709551616)(f:c<18446744073709551616):(w*b+c)/18446744073709551616<18446744073709551616:=by
 rw[Ff zd];have:w*b≤18446744073709551615*18446744073709551615:=Es Z Z;omega
theorem kj(k:Nat)(h:HF)(n:Nat)(hs:AllD s)(hl:O s<1000000):CF (KO (k+3)) 209 [Dl ⟨⟨s⟩⟩] h n fun v H M w=>∃L,ResW n h v H M w L∧wv L=dval s∧yh n v:=by
 refine zl (fn:=Tryz.f209) R4<|Zx ?_;refine zK (α:=List UInt8×List UInt8×Value×List Nat) (fun z=>[(0,Dl ⟨⟨z.2.1⟩⟩),(3,z.2.2.1)])
  (fun z H M w=>w=[]∧n≤M∧KN n h H∧s=z.1++z.2.1∧Gro H n M 164 1 z.2.2.1 (O z.2.2.2) (u64s z.2.2.2)∧NW z.2.2.2∧wv z.2.2.2=dval z.1) (fun z=>O z.2.1)
  ([],s,Y none 0 0,[]) V2 ⟨rfl,Dh,FU _ _,rfl,.nil,KF,rfl⟩ (by show O s<LL;unfold LL;omega) ?_
 rintro⟨q,g,v3,D⟩ t h1 A _ ⟨rfl,a6,a7,F,K,J,R⟩;simp only at F K J R;have b0:O q+O g<1000000:=by rw[F,Do]at hl;exact hl
 have am:AllD q:=fun b u=>hs b (by rw[F];simp[u]);have ao:AllD g:=fun b u=>hs b (by rw[F];simp[u]);have aw:O D≤O q:=J.len_pow (by rw[R];exact vK am);obtain⟨Z3,rfl,_⟩:=K.shape;refine zN ?_;by_cases hr0:g=[]
 .subst hr0;refine Zm ?_;rw[DZ]at F;exact retH _ ⟨rfl,(zj rfl),rfl⟩ ⟨D,⟨rfl,a6,a7,K.sl,J⟩,by rw[R,F],K.fresh⟩
 have az:0<O g:=Hz.2 hr0;obtain⟨sz,b1⟩:∃sz,sz=(O g-1)%19+1:=⟨_,rfl⟩;have au:1≤sz∧sz≤19∧sz≤O g:=Z;have af:O (g.take sz)=sz:=by rw[DW];omega
 have Z1:AllD (g.take sz):=fun b u=>ao b (EB u);refine zM ?_;refine st_I (ik:=.i64) (a:=(O g:Int)) R5<|ZD ?_;refine st_I (ik:=.i64) (a:=(O g:Int)) R5<|rZ (a:=(O g:Int)) (b:=1) R6 Z<|bO (a:=(O g:Int)-1) (b:=19) R6 zd ?_;rw[show((O g:Int)-1).tmod 19=(((O g-1)%19:Nat):Int)from by rw[show(O g:Int)-1=((O g-1:Nat):Int)from Z];rfl];refine td (a:=(((O g-1)%19:Nat):Int)) (b:=1) R6 Z ?_;rw[show(((O g-1)%19:Nat):Int)+1=(sz:Int)from Z];refine Zl ?_;refine Zi ?_;refine rD (s:=g) (j:=sz) R8 Z<|Ve (s:=g.take sz) rfl rfl rfl rfl rfl rfl ?_;generalize hC:g.take sz=C at af Z1⊢;generalize hh2:upd h1 (3*A+1) _=h2;have I:∃el,h2 (3*A+1)=some (.row (C.map fun b=>U .u8 b.toNat) el):=⟨_,by rw[←hh2,ze]⟩;obtain⟨el,I⟩:=I;have a8:KN A h1 h2:=by rw[←hh2];exact C4
 have aa:=K.ext a8 (DM A);have ai:Sl h2 (A+1) 1 (Y (some ⟨3*A+1,0,none⟩) (O C) (O C)) (C.map fun b=>U .u8 (b.toNat:Int)):=.at_ Z I rfl Dh cA (by rw[EE,DK cA]);refine st_I (ik:=.i64) (a:=(O C:Int)) R5<|Zb ?_;refine zK (α:=Nat) (fun i=>[(0,Dl ⟨⟨g⟩⟩),(3,Y Z3 (O D) (O D)),(4,U .i64 (sz:Int)),(5,U .u64 ((dval (C.take i):Nat):Int)),(6,U .u64 ((10^i:Nat):Int)),(23,Y (some ⟨3*A+1,0,none⟩) (O C) (O C)),(24,U .i64 (O C:Int)),(25,U .i64 (i:Int))]) (fun i H M w=>h2=H∧M=A+1∧w=[]∧i≤O C) (fun i=>O C-i) 0 V8 ⟨rfl,rfl,rfl,Di⟩ A1 ?_;rintro i t _ _ _⟨rfl,rfl,rfl,hi⟩;refine zN ?_;by_cases hiC:i=O C;case neg=>
  obtain⟨b,u⟩:∃b,C[i]?=some b:=⟨C[i]'Z,Dm Z⟩;have ax:=Z1 b (Dq u);have ay:dval (C.take i)<10^i:=by
   have:=vK (s:=C.take i) fun b u=>Z1 b (EB u);exact B9
  have hp:=jQ (i:=i+1) Z;rw[DI]at hp;refine Zq ?_;refine ya (f:=fun b:UInt8=>U .u8 (b.toNat:Int)) (j:=i) R7 ai R2 u (fun _=>rfl) R4 fun _=>?_;refine ZG ?_;refine xm (a:=10) (b:=dval (C.take i)) R6 Z<|zM ?_;refine mg (a:=b.toNat) (b:=48) R6 Z<|yO (c:=b.toNat-48) R7 Z<|yT (a:=10*dval (C.take i)) (b:=b.toNat-48) R6 Z<|ZG ?_;refine xm (a:=10^i) (b:=10) R6 Z<|Zl ?_;refine goOn (i+1) (by show O C-(i+1)<O C-i;omega) ⟨rfl,rfl,rfl,?_,?_,rfl,rfl,rfl,Df⟩ ⟨rfl,rfl,rfl,by show i+1≤_;omega⟩
  .show U .u64 _=U .u64 _;rw[pk u,re]
  show U .u64 _=U .u64 _;rw[DI]
 subst hiC;refine Zk ?_;rw[DO];refine Zi ?_;refine uE (s:=g) (j:=sz) R8 Z<|Zl ?_;refine Zb ?_;have av:dval C<10^O C:=vK Z1;have hp:=jQ (i:=O C) Z;refine zK (α:=List Nat×Nat) (fun z=>[(0,Dl ⟨⟨g.drop sz⟩⟩),(3,Y Z3 (O D) (O D)),(6,U .u64 ((10^O C:Nat):Int)),(9,U .u64 (z.2:Int)),(42,Y Z3 (O D) (O D)),(43,U .i64 (O D:Int)),(44,U .i64 (O z.1:Int))])
  (fun z H M w=>M=A+1∧w=[]∧KN n h H∧Gro H n (A+1) 164 1 (Y Z3 (O D) (O D)) (O D) (u64s (z.1++D.drop (O z.1)))∧O z.1≤O D∧KQ z.1∧z.2<18446744073709551616∧wv z.1+z.2*18446744073709551616^O z.1=wv (D.take (O z.1))*10^O C+dval C) (fun z=>O D-O z.1)
  ([],dval C) V7 ⟨rfl,rfl,a7.trans a8 a6,aa,Di,IB,by show dval C<_;omega,xd⟩ (by show O D-0<LL;unfold LL;omega) ?_
 rintro⟨E,c⟩ t h3 _ _ ⟨rfl,rfl,a2,G,ah,S,hc,N⟩;simp only at G ah S hc N;refine zN ?_;by_cases hED:O E=O D;case neg=>
  obtain⟨x,hx⟩:∃x,D[O E]?=some x:=⟨D[O E]'Z,Dm Z⟩;have a9:=J.1.get hx;obtain⟨b,Z0,an,ak,al,ae,ab⟩:=G.inv2 Z;injection Z0 with Z0 _ _
  subst Z0;have ag:Sl h3 (A+1) 1 (Y (some ⟨b,0,none⟩) (O D) (O D)) (u64s (E++D.drop (O E))):=G.sl;have ar:(E++D.drop (O E))[O E]?=some x:=by rw[DL Dh,Ee,Em,Ej,hx]
  refine Zr ?_;refine ya (f:=fun d:Nat=>U .u64 (d:Int)) (j:=O E) R7 ag R2 ar (fun _=>rfl) R4 fun _=>?_;refine Zj ?_;refine ye _ R5 (sM k h3 (A+1) a9 (show 10^O C<18446744073709551616 by omega) hc) ?_;rintro _ rfl;repeat refine zR ?_
  refine xG (j:=O E) (v:=U .u64 (((x*10^O C+c)%18446744073709551616:Nat):Int)) R8 rfl (by rw[ab];omega) ae (by show 3*n≤b;omega) (fun _=>rfl) R3 (fun _=>rfl) rfl fun _=>?_;rw[yA,rF _ hx];refine Zl ?_;have ad:(x*10^O C+c)%18446744073709551616<18446744073709551616:=EA _ zd;refine goOn (E++[(x*10^O C+c)%18446744073709551616],(x*10^O C+c)/18446744073709551616) (by show O D-O (E++[_])<O D-O E;simp;omega) ⟨rfl,rfl,rfl,rfl,rfl,rfl,ux,Df⟩ ⟨rfl,rfl,fun b' aj=>(zg Z).trans (a2 b' aj),.at_ an ak al (ze _ _ _) ?_ (wR _),by show(E++[_]).length≤_;simp;omega,G7 S ad,Vf a9 Z hc,?_⟩
  .rw[zQ,Do,Ea];simp;omega
  show wv (E++[_])+_*18446744073709551616^O (E++[_])=wv (D.take (O (E++[_])))*_+_;simp only[Do,Dy];have ap:wv (D.take (O E+1))=wv (D.take (O E))+18446744073709551616^O E*x:=zY hx;rw[ap,DI];have:=pP (B:=18446744073709551616) (P:=18446744073709551616^O E) (V:=wv E) (V':=wv (E++[(x*10^O C+c)%18446744073709551616])) (c:=c) (p:=x*10^O C) (d:=(x*10^O C+c)%18446744073709551616) (c':=(x*10^O C+c)/18446744073709551616) (by rw[wv,vQ,Dt];rfl) (by rw[EY c];exact EP _ _);rw[this,N];generalize 18446744073709551616^O E=P;generalize 10^O C=T;generalize wv (D.take (O E))=W;rw[DE,Dt P x,Gi];omega
 rw[hED,Fo,DZ]at G;rw[hED,DO]at N;refine Zk ?_;have a1:s=(q++C)++g.drop sz:=by rw[F,←hC,DN,Ep]
 have a4:dval (q++C)=wv D*10^O C+dval C:=by rw[sd,R]
 have Z4:O (g.drop sz)<O g:=by rw[Ea];omega
 by_cases hc0:c=0
 .subst hc0;refine Zk ?_;rw[EI,Ej]at N;refine goOn (q++C,g.drop sz,Y Z3 (O D) (O D),E) Z4 V2 ⟨rfl,by show n≤A+1;omega,a2,a1,by show Gro _ _ _ _ _ _ (O E) _;rw[hED];exact G,?_,by show wv E=dval (q++C);rw[N,a4]⟩;show NW E;cases hDn:D with
  |nil=>
   rw[hDn]at hED;rw[DA.1 hED];exact KF
  |cons y D'=>
   obtain⟨l,d,a0⟩:=Go.Proofs.YtfajmfoofmienaaGreatDoor.snoc (l:=D) (by rw[hDn];simp);have ac:=(show NW (l++[d])by rw[←a0];exact J).low;rw[←a0]at ac;refine NW.of_low (i:=O l) S (by rw[hED,a0];simp) ?_;rw[N];have:wv D*1≤wv D*10^O C:=DT _ (Er zd);omega
 refine Zr ?_;refine ud (cs:=[U .u64 (c:Int)]) R5<|kG (m:=1) R8 zd (G.ext (GD Z) zs) (yG (ze _ _ _) R2) Dh Z rfl rfl (by show n≤n∧_;omega) ?_;intro v' h5 a5 aq _;obtain⟨a',rfl,_⟩:=a5.shape;refine Zb ?_;refine goOn (q++C,g.drop sz,Y a' (O D+1) (O D+1),E++[c]) Z4 V2 ⟨rfl,by show n≤A+1+1+1;omega,fun b u=>(aq b u).trans ((zg Z).trans (a2 b u)),a1,?_,⟨G7 S hc,xp E hc0⟩,?_⟩
 .show Gro _ _ _ _ _ _ (O (E++[c])) (u64s (E++[c]));rw[uq,Do,hED];exact a5
 show wv (E++[c])=dval (q++C);rw[wv,vQ,a4,←N,hED,Dt];rfl
theorem yv(n:Nat):gro (3*n+2)=false:=by
 exact Cr
section
variable {sT:TypeId}{x:Value}
theorem cM{m:Nat}(hu:E.und sT=some (.slice e))(A:E.inf e=some (size,bytes,z))(C:O (zr z)=size)(f:1≤size∧1≤bytes)(B:argS h size x m new)(c:m*bytes≤1099511627776)(y:gro b=false)(D:m≠0):
  yP E h n sT (Y (some ⟨b,0,none⟩) 0 0) x=some (.val (Y (some ⟨3*n+1,0,none⟩) m m) (upd h (3*n+1) (some (.row new e))) (n+1) []):=by
 obtain⟨g,hc⟩:=B;have j:DX (m*bytes) 1099511627776=true:=Dv c;have l:Eh (O (zr z)) size=true:=by rw[C];exact Ct
 have p:DX 1 size=true:=Dv f.1;have q:DX 1 bytes=true:=Dv f.2;have s:DX m 0=false:=by
  cases c:DX m 0 with
  |false=>rfl
  |true=>have:=D5 c;omega
 have u:yo h size 0 (Y (some ⟨b,0,none⟩) 0 0)=some []:=by simp[yo]
 simp only[yP,hu,A,g,hc,D7,j,l,p,q,s,u,EF,gY,y,El]
theorem cJ{L:Nat}(hu:E.und sT=some (.slice e))(u:E.inf e=some (size,bytes,z))(A:O (zr z)=size)(c:1≤size∧1≤bytes)(y:argS h size x 0 [])(s:L*bytes≤1099511627776):
  yP E h n sT (Y a L L) x=some (.val (Y a L L) h n []):=by
 obtain⟨f,hc⟩:=y;have g:DX (L*bytes) 1099511627776=true:=Dv s;have j:Eh (O (zr z)) size=true:=by rw[A];exact Ct
 have l:DX 1 size=true:=Dv c.1;have p:DX 1 bytes=true:=Dv c.2;have q:DX L L=true:=Dv Dh;simp only[yP,hu,u,f,hc,Ej,g,j,l,p,q,EF,uM]
inductive Gr0 (h:HF) (lo n:Nat) (e:TypeId) (sz:Nat):Value→Nat→List Value→Prop
 |gro {v:Value} {len:Nat} {c:List Value} (g:Gro h lo n e sz v len c):Gr0 h lo n e sz v len c
 |emp {m:Nat} (hlo:lo≤m) (hm:m<n):Gr0 h lo n e sz (Y (some ⟨3*m+2,0,none⟩) 0 0) 0 []
end
theorem dh{m:Nat}:∀{l:List (Nat×Nat)},(∀x∈l,x.2≠b)→yd m [b] l=true:=by
 intro l;induction l with
 |nil=>intro _;rfl
 |cons x l ih=>
  intro h;obtain⟨i,c⟩:=x;have f:memN c [b]=false:=by
   unfold memN;cases he:Eh c b with
   |false=>rfl
   |true=>exact oU (Eb he) (h (i,c) cA)
  unfold yd;rw[f,Gf,H7];exact ih fun y g=>h y BS
section
variable {X:CtxF}{d:Tmp}
end
section
variable {X:CtxF}{ld:List (Nat×Nat)}{d:Tmp}
end
section
variable {cap:Nat}
theorem Sl.zero(s:Sl h n 1 (Y a l c) (u64s A))(d:a=none):A=[]:=by
 have i:=s.lenW;by_cases h0:l=0
 .exact DA.1 Z
 obtain⟨b,f,x,g,e,_⟩:=s.inv h0;rw[d]at e;cases e
theorem vt(k:Nat)(j:Sl h n 1 (Y a len cap) (u64s L))(q:O L<1000000000):CF (KO (k+1)) 179 [Y a len cap] h n fun v g m w=>w=[]∧n≤m∧KN n h g∧Sl g m 1 v (u64s L)∧(L≠[]→Gro g n m 164 1 v (O L) (u64s L)):=by
 refine zl (fn:=Tryz.f179) R4 ?_;have i:=j.lenW;subst i;refine Zu ?_;cases a with
 |none=>
  have d:=j.zero rfl;subst d;refine zN ?_;rw[zc rfl];refine Zc ?_;exact retH _ ⟨rfl,(zj rfl),rfl⟩ ⟨rfl,Dh,FU _ _,.nil (.inl rfl),fun h=>oU rfl h⟩
 |some ad=>
  refine zN ?_;refine ZF ?_;refine ud (cs:=[]) R5 ?_;repeat refine zR ?_
  have f:=j.ext (GD (h:=h) (b:=3*n+2) (x:=some (.row [] 164)) (show 3*n≤3*n+2 by omega)) (DM n);by_cases d:L=[]
  .subst d;refine yX R5 (cJ (L:=0) rfl rfl rfl zd (uW f) zd)<|Zb ?_;exact retH _ ⟨rfl,(zj rfl),rfl⟩ ⟨rfl,DM n,GD Z,.nil (.inr ⟨_,_,_,rfl,BJ⟩),fun h=>oU rfl h⟩
  have o:O L≠0:=fun e=>d (DA.1 e);refine yX R5 (cM rfl rfl rfl zd (uW f) Z (yv n) o)<|Zb ?_;have p:Gro (upd (upd h (3*n+2) (some (.row [] 164))) (3*(n+1)+1) (some (.row (u64s L) 164))) n (n+1+1) 164 1 (Y (some ⟨3*(n+1)+1,0,none⟩) (O L) (O L)) (O L) (u64s L):=.at_ (pF (n+1)) Z Z (ze _ _ _) (by rw[zQ,Ek]) (wR L);exact retH _ ⟨rfl,(zj rfl),rfl⟩ ⟨rfl,by show n≤n+1+1;omega,(GD Z).trans (GD Z) (DM n),p.sl,fun _=>p⟩
theorem kh(k:Nat)(h:HF)(n:Nat)(m:AllD s)(q:O s≤570):CF (KO (k+4)) 178 [Dl ⟨⟨s⟩⟩,Y none 0 0] h n fun v d e w=>∃L,ResW n h v d e w L∧wv L=dval s∧yh n v:=by
 refine zl (fn:=Tryz.f178) R4 ?_;refine Zx ?_;refine zK (α:=Unit) (fun _=>[(0,Dl ⟨⟨s⟩⟩),(5,U .i64 (-1))]) (fun _ d e w=>h=d∧n=e∧w=[]) (fun _=>0) () ⟨rfl,rfl,Df⟩ ⟨rfl,rfl,rfl⟩ (by show 0<LL;decide) ?_;rintro _ t _ _ _⟨rfl,rfl,rfl⟩;refine Zc ?_;rw[za rfl];refine Zc ?_;rw[zc rfl];refine Zd ?_;refine zk _ R5 (kj k h n m Z) ?_;rintro v p u _⟨L,⟨rfl,f,g,b,i⟩,o,j⟩;obtain⟨a,l,c,rfl,_⟩:=b.len;refine Zb ?_;exact retH _ ⟨rfl,(zj rfl),rfl⟩ ⟨L,⟨rfl,f,g,b,i⟩,o,j⟩
theorem kg(k:Nat)(h:HF)(n:Nat)(m:AllD s)(j:O s≤570):CF (KO (k+5)) 149 [Dl ⟨⟨s⟩⟩] h n fun v f p w=>∃L,ResW n h v f p w L∧wv L=dval s∧yh n v:=by
 refine zl (fn:=Tryz.f149) R4<|Zx ?_;refine zM ?_;refine st_I (ik:=.i64) (a:=(O s:Int)) R5<|Ze ?_;refine Zp ?_;refine zk _ R5 (kh k h n m j) ?_;rintro v q u _⟨L,⟨rfl,d,e,b,g⟩,o,i⟩;obtain⟨a,l,c,rfl,_⟩:=b.len;refine Zb ?_;exact retH _ ⟨rfl,(zj rfl),rfl⟩ ⟨L,⟨rfl,d,e,b,g⟩,o,i⟩
def NatR(n:Nat)(h:HF)(v:Value)(h':HF)(n':Nat)(w:List Nat)(x:Nat):Prop:=∃a l c L,v=.agg #[Dk false,Y a l c]∧ResW n h (Y a l c) h' n' w L∧wv L=x
theorem mG(k:Nat)(h:HF)(n:Nat)(o:AllD s)(m:O s≤570):CF (KO (k+6)) 116 [Dl ⟨⟨s⟩⟩] h n fun v g q w=>NatR n h v g q w (dval s):=by
 refine zl (fn:=Tryz.f116) R4<|zN ?_;refine z6 R5<|Zd ?_;refine zk _ R5 (kg k _ _ o m) ?_;rintro v B u _⟨L,⟨rfl,y,e,d,i⟩,p,j⟩;obtain⟨a,l,c,rfl,_⟩:=d.len;have f:=(e (3*n+2) Z).trans (ze _ _ _);refine zA (v:=.agg #[Dk false,Y a l c]) R5<|zw [Dk false,Y a l c] R7 rfl f rfl bR ?_;refine zN ?_;exact xu R5 (ze _ _ _) rfl ⟨_,_,_,L,rfl,⟨rfl,by show n≤u;omega,fun b f=>(zg Z).trans ((e b Z).trans (zg Z)),d.off (j.off Z),i⟩,p⟩
theorem pV(c:Nat):wv [c]=c:=by simp[wv,dv]
theorem PO{x:Nat}:DH c (x%c)=DH x c:=by rw[FJ,←Jy,FJ]
theorem Vg(k:Nat)(hG:GK.G h)(hn:20≤n)(p:Sl h n 1 (Y a1 l1 c1) (u64s A))(q:Sl h n 1 (Y a2 l2 c2) (u64s C))(e:NW A)(f:NW C)(Z1:O A<1000000∧O C<1000000)(b:O A≤1∨O C≤1):
  CF (KO (k+5)) 150 [Y a1 l1 c1,Y a2 l2 c2] h n fun v g m w=>∃L,ResW n h v g m w L∧wv L=DH (wv A) (wv C)∧(yh n v∨v=Y a1 l1 c1∨v=Y a2 l2 c2):=by
 refine zl (fn:=at5) R4<|Zc ?_;refine Zi ?_;refine ye _ R5 (uA (k+1) p q e f Z) ?_;rintro _ rfl;refine ql R6 ?_;simp only[zX,yi,zm,yj];refine yp (α:=(Option Addr×Nat×Nat×List Nat)×(Option Addr×Nat×Nat×List Nat)) (fun z=>[(0,Y z.1.1 z.1.2.1 z.1.2.2.1),(1,Y z.2.1 z.2.2.1 z.2.2.2.1)]) (fun z g m w=>h=g∧n=m∧w=[]∧Sl h n 1 (Y z.1.1 z.1.2.1 z.1.2.2.1) (u64s z.1.2.2.2)∧Sl h n 1 (Y z.2.1 z.2.2.1 z.2.2.2.1) (u64s z.2.2.2.2)∧NW z.1.2.2.2∧NW z.2.2.2.2∧O z.1.2.2.2<1000000∧O z.2.2.2.2≤1∧DH (wv z.1.2.2.2) (wv z.2.2.2.2)=DH (wv A) (wv C)∧(Y z.1.1 z.1.2.1 z.1.2.2.1=Y a1 l1 c1∨Y z.1.1 z.1.2.1 z.1.2.2.1=Y a2 l2 c2)) ?_ ?_
 .by_cases hlt:wv A<wv C
  .rw[zc (by show Dk _=_;rw[vW hlt];rfl)];refine Zc ?_;refine zC ((a2,l2,c2,C),(a1,l1,c1,A)) V2 ⟨rfl,rfl,rfl,q,p,f,e,Z1.2,?_,FJ _ _,.inr rfl⟩;show (O A)≤1;rcases b with b|b
   .exact b
   rcases EG (O C) (O A) with i|i
   .have:=f.len_lt e i;omega
   omega
  rw[za (by
   show Dk _=_;rcases EG (wv C) (wv A)with h|h
   .rw[uz h];rfl
   .rw[show wv A=wv C from Z,qy];rfl)]
  refine zN ?_;refine zC ((a1,l1,c1,A),(a2,l2,c2,C)) V2 ⟨rfl,rfl,rfl,p,q,e,f,Z1.1,?_,rfl,.inl rfl⟩;show (O C)≤1;rcases b with b|b
  .rcases EG (O A) (O C) with i|i
   .have:=e.len_lt f i;omega
   omega
  exact b
 rintro⟨⟨a,l,c,X⟩,⟨a',l',c',Z3⟩⟩ t _ _ _ ⟨rfl,rfl,rfl,u,B,T,Z4,Z0,F,P,hv⟩;simp only at u B T Z4 Z0 F P hv;rw[←P];have eX:=u.lenW;have eY:=B.lenW;subst eX eY;refine zN ?_;cases Z3 with
 |nil=>
  refine Zo ?_;exact retH _ ⟨rfl,(zj rfl),rfl⟩ ⟨X,⟨rfl,Dh,FU _ _,u,T⟩,by rw[show wv []=0 from rfl,HH],.inr hv⟩
 |cons y Z3=>
 have a0:Z3=[]:=by simpa using F
 subst a0;have D:y<18446744073709551616:=Z4.1 y cA;have af:y≠0:=ak7 (l:=[]) Z4;rw[pV];rw[show[y].length=1 from rfl]at B⊢;refine Zy ?_;refine zk _ R5 (vt (k+3) u Z) ?_;rintro v5 h2 n2 _⟨rfl,H,M,J,_⟩;obtain⟨a5,l5,c5,rfl,_⟩:=J.len;refine zM ?_;refine zk _ R5 (vt (k+3) (L:=[y]) (B.ext M H) cA) ?_;rintro v6 o S _⟨rfl,a6,N,ae,a4⟩;obtain⟨b6,rfl,_,ac,ab,I,_⟩:=(a4 cA).inv2 cA;rw[show[y].length=1 from rfl];have j:KN n h o:=M.trans N H;have V:GK.G o:=uB hG j hn;have R:=J.ext N a6;refine Zb ?_;refine zK (α:=Unit) (fun _=>[(5,Y a5 l5 c5),(6,Y (some ⟨b6,0,none⟩) 1 1)]) (fun _ g m w=>o=g∧S=m∧w=[]) (fun _=>0) () V2 R3 (by show 0<LL;decide) ?_;rintro _ t _ _ _⟨rfl,rfl,rfl⟩;refine Zc ?_;rw[za rfl];refine Zc ?_;refine ZF ?_;refine zn [0,1,3,0,0,16,48,120,255,511,1023] rfl ?_;repeat refine zD ?_
 refine zS R6 (zL rfl I (v:=U .u64 (y:Int)) R2) R2 ?_;repeat refine zD ?_
 refine zS R6 (zL rfl I (v:=U .u64 (y:Int)) R2) R2<|mW _ R7 (kM k (l:=X) (d:=y) Z T.1 ⟨Z,D⟩ R) ?_;rintro _ rfl;refine mW _ R7 (kW (k+2) V S D (ID (EA _ Z) D)) ?_;rintro _ rfl;refine yy _ R7 (tY (k+3) o S (DP (Io _ Z) D)) ?_;rintro v9 h9 n9 _⟨L9,⟨rfl,a7,aa,K,W⟩,a8,ad,a3⟩;obtain⟨a9,l9,c9,rfl,_⟩:=K.len;refine⟨wa,a7,?_⟩;refine ZI ?_;exact retH _ ⟨rfl,(zj rfl),rfl⟩ ⟨L9,⟨rfl,by show n≤n9;omega,j.trans aa Z,K,W⟩,by rw[a8,PO],.inl (a3.mono Z)⟩
theorem Vh(k:Nat)(K:GK.G h)(N:20≤n){m o:Bool}(B:Sl h n 1 (Y a1 l1 c1) (u64s A))(D:Sl h n 1 (Y a2 l2 c2) (u64s C))(T:NW A)(Z4:NW C)(f:O A<1000000∧O C<1000000)(I:O A≤1∨O C≤1):
  CF (KO (k+6)) 117 [.agg #[Dk m,Y a1 l1 c1],.agg #[Dk o,Y a2 l2 c2]] h n fun v H R w=>NatR n h v H R w (DH (wv A) (wv C)):=by
 refine zl (fn:=at6) R4<|zN ?_;refine xV (cs:=[Dk m,Y a1 l1 c1]) R5<|xV (cs:=[Dk o,Y a2 l2 c2]) R5<|z6 R5 ?_;generalize hh:upd (upd (upd h (3*n+2) _) (3*(n+1)+2) _) (3*(n+1+1)+2) _=h2;have d:KN n h h2:=fun b f=>by rw[←hh,zg Z,zg Z,zg Z]
 have q:∃e,h2 (3*n+2)=some (.row [Dk m,Y a1 l1 c1] e):=⟨_,AT⟩;have u:∃e,h2 (3*(n+1)+2)=some (.row [Dk o,Y a2 l2 c2] e):=⟨_,AC⟩;have y:∃e,h2 (3*(n+1+1)+2)=some (.row [Dk false,Y none 0 0] e):=⟨_,kS⟩;obtain⟨W,q⟩:=q;obtain⟨Z3,u⟩:=u;obtain⟨Z0,y⟩:=y;refine Zg ?_;refine zi R6 q (v:=Y a1 l1 c1) R2 ?_;repeat refine zR ?_
 refine zi R6 u (v:=Y a2 l2 c2) R2 ?_;have g:n≤n+1+1+1:=Z;refine zk _ R5 (Vg k (uB K d N) (show 20≤n+1+1+1 by omega) (B.ext d g) (D.ext d g) T Z4 f I) ?_;rintro v J S _⟨L,⟨rfl,V,j,i,M⟩,P,p⟩;have Z1:La (3*(n+1+1)+2) v:=by
  rcases p with p|rfl|rfl
  .exact p.off Z
  .exact B.below.off Z
  exact D.below.off Z
 obtain⟨a,l,c,rfl,_⟩:=i.len;have F:J (3*(n+1+1)+2)=_:=(j _ Z).trans y;refine zA (v:=.agg #[Dk false,Y a l c]) R5<|zw [Dk false,Y a l c] R7 rfl F rfl (by show 3*n≤3*(n+1+1)+2;omega) ?_;refine zN ?_;exact xu R5 (ze _ _ _) rfl ⟨_,_,_,L,rfl,⟨rfl,by show n≤S;omega,fun b f=>(zg Z).trans ((j b Z).trans (d b f)),i.off Z1,M⟩,P⟩
theorem aZ(k:Nat){neg:Bool}(m:Sl h n 1 (Y a l c) (u64s L))(p:NW L):VF (KO (k+1)) 118 [.agg #[Dk neg,Y a l c]] h n fun v=>v=Dk (!neg&&decide (wv L=1)):=by
 refine zB (fn:=Tryz.f118) R4 ?_;have i:=m.lenW;subst i;refine zN ?_;refine xV (cs:=[Dk neg,Y a (O L) c]) R5 ?_;generalize hh:upd h (3*n+2) _=h1;have o:KN n h h1:=by rw[←hh];exact C4
 have b:∃e,h1 (3*n+2)=some (.row [Dk neg,Y a (O L) c] e):=⟨_,kz⟩;obtain⟨u,b⟩:=b;have g:=m.ext o (DM n);refine Zj ?_;refine zi R6 b (v:=Dk neg) R2 ?_;cases neg with
 |true=>
  refine Zb ?_;exact B4
 |false=>
 repeat refine zR ?_
 refine zi R6 b (v:=Y a (O L) c) R2 ?_;by_cases h1:O L=1
 .obtain⟨d,rfl⟩:=GY.1 h1;rw[show[d].length=1 from rfl]at b g⊢;repeat refine zR ?_
  refine zi R6 b (v:=Y a 1 c) R2 ?_;refine ya (f:=fun d:Nat=>U .u64 (d:Int)) (l:=[d]) (j:=0) R7 g ⟨rfl,cA⟩ rfl (fun _=>rfl) R4 fun _=>?_;rw[pV];by_cases hd:d=1
  .refine Zb ?_;exact retF _ rfl (zj rfl) R2 (by rw[kA hd];rfl)
  refine Zb ?_;exact retF _ rfl (zj rfl) R2 (by rw[aA hd];rfl)
 have q:wv L≠1:=fun e=>h1 (by rw[p.inj (NW.one (d:=1) zd zd) (by rw[e,pV])];rfl);refine Zb ?_;exact retF _ rfl (zj rfl) R2 (by rw[aA q];rfl)
end
def i64s(l:List Int):List Value:=l.map (U .i64)
def ExtT(n bt:Nat)(h h':HF):Prop:=∀b,b<3*n→b≠bt→h' b=h b
theorem ExtT.refl(n bt:Nat)(h:HF):ExtT n bt h h:=fun _ _ _=>rfl
theorem RatR.old{h:HF}{n m:Nat}{ld:List Nat}{y:Option BF}(r:RatR h n n1 n2 d1 d2 q ln ld)(j:yh m n2)(g:yh m d2)(c:b<3*m):RatR (upd h b y) n n1 n2 d1 d2 q ln ld:=⟨r.num.old j c,r.neg,r.sl.old g c,r.norm,r.val⟩
theorem xa:∀{W w:List Nat},(∀b∈W,b=bt)→(∀b∈w,b=bt)→∀b∈addW n0 W w,b=bt:=by
 intro W w c g b j;rcases xc.1 j with h|⟨h,_⟩
 .exact g b h
 exact c b h
theorem Gro.extT{h:HF}{n:Nat}{c:List Value}(g:Gro h lo n e sz v len c)(j:ExtT n bt h h')(l:bt<3*lo)(p:n≤n'):Gro h' lo n' e sz v len c:=by
 cases g with
 |nil=>exact .nil
 |at_ hg hlo hb hr hl ho=>exact .at_ hg hlo Z (by rw[j _ hb Z];exact hr) hl ho
theorem Sl.cap{h:HF}{n:Nat}{cap:Nat}{c:List Value}(s:Sl h n sz (Y a len cap) c):len≤cap:=by
 by_cases h0:len=0
 .omega
 obtain⟨_,_,_,_,_,_,_,_,h,_⟩:=s.inv h0;exact h
def strs(l:List (List UInt8)):List Value:=l.map fun s=>Dl ⟨⟨s⟩⟩
theorem eu(a b:List (List UInt8)):strs (a++b)=strs a++strs b:=by simp[strs]
theorem bM(a:List (List UInt8)):O (strs a)=O a:=by simp[strs]
theorem sJ{m:Nat}:∀{l:List (Nat×Nat)},xW m l=true→yd m W l=true:=by
 intro l;induction l with
 |nil=>intro _;rfl
 |cons x l ih=>
  intro h;obtain⟨i,b⟩:=x;unfold xW at h;split at h
  .rename_i hb;unfold yd;rw[hb,Bool.true_or];exact ih h
  cases h
theorem PQ:∀{W:List Nat},(∀c∈W,c=bt)→b≠bt→memN b W=false:=by
 intro W;induction W with
 |nil=>intro _ _;rfl
 |cons c W ih=>
  intro h g;unfold memN;have j:=h c cA;have:Eh b c=false:=by
   cases he:Eh b c with
   |false=>rfl
   |true=>exact oU ((Eb he).trans j) g
  rw[this];exact ih (fun x l=>h x (by simp[l])) g
theorem Vi{m:Nat}(g:∀c∈W,c=bt):∀{l:List (Nat×Nat)},(∀x∈l,x.2≠bt)→yd m W l=true:=by
 intro l;induction l with
 |nil=>intro _;rfl
 |cons x l ih=>
  intro h;obtain⟨i,b⟩:=x;unfold yd;rw[PQ g (h (i,b) cA),Gf,H7];exact ih fun y j=>h y (by simp[j])
theorem Vj(j:b≠bt):∀{l:List (Nat×HF×List Nat)},(∀x∈l,∀c∈x.2.2,c=bt)→wS u b l=true:=by
 intro l;induction l with
 |nil=>intro _;rfl
 |cons x l ih=>
  intro h;obtain⟨e,g,W⟩:=x;unfold wS;rw[PQ (h (e,g,W) cA) j,Gf,H7];exact ih fun y p=>h y (by simp[p])
section
variable {X:CtxF}{ld:List (Nat×Nat)}{d:Tmp}
theorem PR{s:Operand}{mm:Nat}{c:List Value}(l:Za X ops t o d (o.op=.call {callee:=.builtin .append,args:=#[s,x],argTypes:=#[sT,xT]}∧(match X.E.und xT with|some (.int _)=>false|none=>false|_=>true)=true∧X.E.und sT=some (.slice e)∧X.E.inf e=some (size,bytes,z)∧O (zr z)=size))(F:1≤size∧1≤bytes)(B:xF m ef=true)(C:xW m al=true)(D:xW m ld=true)(M:Gro h lo n e size (KM t s) len c)(T:argS h size (KM t x) mm new)(P:1≤mm)(j:(len+mm)*bytes≤1099511627776)(Z1:O new=mm*size)(y:ones new=true)(p:X.n0≤lo∧lo≤n)
  (k:∀g h' W,Gro h' lo (n+1) e size g (len+mm) (c++new)→KN lo h h'→Keep (KM t s) n h h'→yh n g→ED X ops r ms (i+1) ⟨⟨upd t d g,h',n+1,w⟩,al,ld,(i,h,W)::ef⟩ Q):ED X ops (o::r) (m::ms) i ⟨⟨t,h,n,w⟩,al,ld,ef⟩ Q:=by
 obtain⟨l,hd,hn,R,A,S,N,Z4⟩:=l;obtain⟨g,h',W,G,H,I,K,J,L⟩:=uk S N Z4 F M T P j Z1 y p.2;refine lg l hd hn R A G B C (sJ D) zs ?_;rw[zZ fun b j=>by have:=J b j;omega];exact k g h' W H I K L
theorem mX(P:Value→HF→Nat→List Nat→Prop)(j:Za X ops t o d (KS o.op=3∧effF X.E o.op (KM t) h n=some (.enter f args)∧xF m ef=true∧xW m al=true))(c:CF X.C f args h n P)(l:∀v h' n' W,P v h' n' W→(∀b∈W,b=bt)∧n≤n')(p:∀x∈ld,x.2≠bt)
  (k:∀v h' n' W,P v h' n' W→ED X ops r ms (i+1) ⟨⟨upd t d v,h',n',addW X.n0 W w⟩,al,ld,(i,h,W)::ef⟩ Q):ED X ops (o::r) (m::ms) i ⟨⟨t,h,n,w⟩,al,ld,ef⟩ Q:=by obtain⟨j,B,F,A,D,s,y⟩:=j;exact yy P ⟨j,B,F,A,D,s,y⟩ c fun v h' n' W g=>⟨Vi (l v h' n' W g).1 p,(l v h' n' W g).2,k v h' n' W g⟩
end
def Pt(φ:Nat→Prop)(v:Value):Prop:=∀a l c,v=Y (some a) l c→φ a.block
theorem Pt.of_fresh{n:Nat}(h:yh n v):Pt (fun b=>3*n≤b) v:=fun a l c e=>by subst e;exact h
theorem Pt.of_below{n:Nat}(h:Below n v):Pt (fun b=>b<3*n) v:=fun a l c e=>by subst e;exact h
section
variable {cap:Nat}
theorem ph{h:HF}{n:Nat}{P:Value→HF→Nat→List Nat→Prop}(g:GK.orc f args=none∧KT.fn f=some fn∧fn.body=some body∧DX (O args) fn.ntmps=true)
  (F:EC (Lf k n fn.ntmps) body ⟨kq args,h,n,[]⟩ fun e s=>rV e=true∧∃a,resF KT s fn.results.toList=some a∧P (pw a) s.h s.n s.w∧(s.w=[]→P (pw a) h n [])):CF (KO (k+1)) f args h n P:=by
 obtain⟨g,i,D,p⟩:=g;refine nM g i D p (si F fun e s⟨q,a,u,y,B⟩=>⟨q,a,u,?_⟩);unfold endF;split
 .rename_i hw;exact B hw
 exact y
section
variable {X:CtxF}{d:Tmp}
theorem upd_self{x:Option BF}(a:h b=x):upd h b x=h:=by
 funext j;by_cases e:j=b
 .rw[e,ze,a]
 rw[zg e]
theorem rU{w:List Nat}:addW n0 [] w=w:=rfl
theorem jD{s:Operand}{a:Nat}{c:List Value}(q:Za X ops t o d (o.op=.call {callee:=.builtin .copy,args:=#[s,x],argTypes:=#[sT,xT]}∧X.E.und sT=some (.slice e)∧X.E.inf e=some (size,bytes,z)∧KM t s=Y (some ⟨b,0,none⟩) a cap))(R:argS h size (KM t x) m cs)(Z1:m≤a)(D:h b=some (.row c e3))(S:O cs≤O c)(K:ones cs=true)(p:3*X.n0≤b)
  (k:EO X ops r ⟨upd t d (U .i64 (m:Int)),upd h b (some (.row (cs++c.drop (O cs)) e3)),n,w⟩ Q):EO X ops (o::r) ⟨t,h,n,w⟩ Q:=by
 obtain⟨q,hd,hn,G,J,F,H⟩:=q;have g:Nat.min m a=m:=Ev Z1;have hc:∃W,kn X.E h n sT (KM t s) (KM t x)=some (.val (U .i64 (m:Int)) (upd h b (some (.row (cs++c.drop (O cs)) e3))) n W)∧∀y∈W,y=b:=by
  obtain⟨u,B⟩:=R;cases cs with
  |nil=>
   refine⟨[],?_,fun y i=>by cases i⟩;rw[El,GB,EE,upd_self D];simp only[kn,J,F,H,u,g,B];rfl
  |cons v cs=>
   refine⟨[b],?_,fun y i=>Dx.1 i⟩;have I:vJ h ⟨b,0,none⟩ (v::cs)=some (upd h b (some (.row ((v::cs)++c.drop (O (v::cs))) e3))):=by
    rw[ug D Z K];unfold zv;rw[List.take_zero,El,D7]
   simp only[kn,J,F,H,u,g,B,I];rfl
 obtain⟨W,hc,M⟩:=hc;have N:effF X.E o.op (KM t) h n=some (.val (U .i64 (m:Int)) (upd h b (some (.row (cs++c.drop (O cs)) e3))) n W):=by
  rw[G];exact hc
 rw[pg q Bz (by rw[G];rfl) N,hd,zZ fun y i=>by rw[M y i];exact p];exact k
end
theorem Sl.extW{h:HF}{n:Nat}{c:List Value}(s:Sl h n sz v c)(e:ExtT n b h h')(p:La b v):Sl h' n sz v c:=
 s.keep (fun a l cap g=>by
  have i:=s.below;subst g;exact e _ i p) Dh
theorem gk{h:HF}{n:Nat}{X:List Nat}(a:b<3*n)(i:h b=some (.row (u64s X) e))(g:O X≤cap):Sl h n 1 (Y (some ⟨b,0,none⟩) (O X) cap) (u64s X):=.at_ a i rfl g (by rw[zQ];omega) Bf
theorem tR{D X:List Nat}{x:Nat}(a:X[O D]?=some x):(D++X.drop (O D))[O D]?=some x:=by
 rw[DL Dh,Ee,Em,Ej,a]
theorem zV{X:List Nat}{x:Nat}(a:X[j]?=some x):wv (X.take (j+1))=wv (X.take j)+18446744073709551616^j*x:=zY a
theorem xq(D:List Nat)(d:Nat):wv (D++[d])=wv D+18446744073709551616^O D*d:=vQ _ _ _
theorem un(D E:List Nat):wv (D++E)=wv D+18446744073709551616^O D*wv E:=wy _ _ _
theorem nh(X:List Nat)(j:Nat)(a:j≤O X):wv X=wv (X.take j)+18446744073709551616^j*wv (X.drop j):=by
 conv=>lhs;rw[←Ep j X]
 rw[un,DW,Ev a]
theorem kc{x y s:Nat}(a:V+c*P=Z4)(g:18446744073709551616*c'+s=x+y+c):V+P*s+c'*(P*18446744073709551616)=Z4+P*x+P*y:=by
 subst a;have:P*(18446744073709551616*c'+s)=P*(x+y+c):=by rw[g]
 rw[D4,D4,D4,←DG]at this;rw[Dt c' (P*18446744073709551616),Dt c P];omega
theorem uZ{W x y s:Nat}(a:V+W=Z4+c*P)(g:s+y+c=x+18446744073709551616*c'):V+P*s+(W+P*y)=Z4+P*x+c'*(P*18446744073709551616):=by
 have:P*(s+y+c)=P*(x+18446744073709551616*c'):=by rw[g]
 rw[D4,D4,D4,←DG]at this;rw[Dt c' (P*18446744073709551616)];rw[Dt c P]at a;omega
theorem u4{x y:Nat}(g:x<18446744073709551616)(i:y<18446744073709551616)(a:c≤1):(x+18446744073709551616-y-c)%18446744073709551616+y+c=x+18446744073709551616*(if y+c≤x then 0 else 1):=by
 by_cases h:y+c≤x
 .rw[De h];omega
 rw[CT h];omega
def RowW(n:Nat)(h:HF)(b:Nat)(e:TypeId)(h':HF)(n':Nat)(w:List Nat)(L:List Nat):Prop:=(∀c∈w,c=b)∧n'=n∧ExtT n b h h'∧h' b=some (.row (u64s L) e)
theorem Vk(k:Nat){h:HF}{n:Nat}{X Z3:List Nat}(T:b<3*n)(a3:h b=some (.row (u64s X) e))(a8:O X≤cX)(hX:KQ X)(Z0:Sl h n 1 (Y aY l cY) (u64s Z3))(hY:KQ Z3)(ho:La b (Y aY l cY))(hl:O Z3≤O X)(a7:O X<1000000000)(hv:wv X+wv Z3<18446744073709551616^O X):
  CF (KO (k+1)) 192 [Y (some ⟨b,0,none⟩) (O X) cX,Y aY l cY] h n fun _ h' S w=>∃L,RowW n h b e h' S w L∧KQ L∧O L=O X∧wv L=wv X+wv Z3:=by
 refine ph (fn:=at7) R4 ?_;have a5:=Z0.lenW;subst a5;have W:∀(t:TF) (h':HF) (w:List Nat) (D:List Nat) (c:Nat),(∀x∈w,x=b)→ExtT n b h h'→(w=[]→h'=h)→h' b=some (.row (u64s (D++X.drop (O D))) e)→O D≤O X→KQ D→wv D+c*18446744073709551616^O D=wv (X.take (O D))+wv Z3→c=0→(rV .normal=true∧∃vs,resF KT ⟨t,h',n,w⟩ (at7).results.toList=some vs∧(∃L,RowW n h b e h' n w L∧KQ L∧O L=O X∧wv L=wv X+wv Z3)∧(w=[]→∃L,RowW n h b e h n [] L∧KQ L∧O L=O X∧wv L=wv X+wv Z3)):=by
  intro t h' w D c g1 g2 g3 g4 g5 g6 g7 g8;have hL:∃L,RowW n h b e h' n w L∧KQ L∧O L=O X∧wv L=wv X+wv Z3:=⟨_,⟨g1,rfl,g2,g4⟩,g6.append (hX.drop _),gN,by
   subst g8;rw[un];have h1:=nh X (O D) g5;omega⟩
  refine⟨rfl,[],rfl,hL,fun F=>?_⟩;subst F;rw[g3 rfl]at hL;exact hL
 refine Zx ?_;refine zK (α:=List Nat×Nat) (fun z=>[(0,Y (some ⟨b,0,none⟩) (O X) cX),(1,Y aY (O Z3) cY),(4,U .u64 (z.2:Int)),(8,Y aY (O Z3) cY),(9,U .i64 (O Z3:Int)),(10,U .i64 (O z.1:Int))])
  (fun z h' S w=>n=S∧(∀x∈w,x=b)∧ExtT n b h h'∧(w=[]→h'=h)∧h' b=some (.row (u64s (z.1++X.drop (O z.1))) e)∧O z.1≤O Z3∧KQ z.1∧z.2≤1∧wv z.1+z.2*18446744073709551616^O z.1=wv (X.take (O z.1))+wv (Z3.take (O z.1))) (fun z=>O Z3-O z.1)
  ([],0) V6 ⟨rfl,fun x u=>oU u Ds,ExtT.refl _ _ _,fun _=>rfl,a3,Di,IB,BT,xd⟩ AV ?_
 rintro⟨D,c⟩ t h1 _ w ⟨rfl,F,i,G,a,K,g,I,p⟩;simp only at a K g I p;refine zN ?_;by_cases hDY:O D=O Z3;case neg=>
  obtain⟨y,hy⟩:∃y,Z3[O D]?=some y:=⟨Z3[O D]'Z,Dm Z⟩;obtain⟨x,u⟩:∃x,X[O D]?=some x:=⟨X[O D]'Z,Dm Z⟩;have a9:=hY.get hy;have a6:=hX.get u;have M:=gk (cap:=cX) T a gN;rw[show(D++X.drop (O D)).length=O X from by rw[Do,Ea];omega]at M;refine Zr ?_;refine ya (f:=fun d:Nat=>U .u64 (d:Int)) (j:=O D) R7 (Z0.extW i ho) R2 hy (fun _=>rfl) R4 fun _=>?_;refine Zj ?_;refine ya (f:=fun d:Nat=>U .u64 (d:Int)) (j:=O D) R7 M R2 (tR u) (fun _=>rfl) R4 fun _=>?_;repeat refine zR ?_
  refine uF (x:=x) (y:=y) (c:=c) R5 I ?_;obtain⟨s,J⟩:∃s,s=(x+y+c)%18446744073709551616:=⟨_,rfl⟩;obtain⟨c',q⟩:∃c',c'=(x+y+c)/18446744073709551616:=⟨_,rfl⟩;rw[←J,←q];repeat refine zR ?_
  refine yW (j:=O D) (off:=0) (v:=U .u64 (s:Int)) R8 rfl ⟨Z,Aa⟩ a T (fun _=>rfl) R3 (fun _=>rfl) rfl fun _=>?_;rw[D7,yA,rF _ u];refine Zl ?_;have R:s<18446744073709551616:=by rw[J];exact Ce
  have N:c'≤1:=by rw[q];omega
  have Z1:18446744073709551616*c'+s=x+y+c:=by rw[J,q];omega
  refine goOn (D++[s],c') Ay ⟨rfl,rfl,rfl,rfl,rfl,eP,Df⟩ ⟨rfl,fun z B=>by
   rcases DR.1 B with rfl|B
   .rfl
   .exact F z B,fun z B H=>(zg H).trans (i z B H),fun h=>Aq,ze _ _ _,o0,G7 g R,N,?_⟩
  simp only;rw[Do,Dy,xq,zV u,zV hy,DI];have:=kc p Z1;omega
 have a0:Z3.take (O D)=Z3:=by rw[hDY,DO]
 rw[a0]at p;refine Zm ?_;refine zK (α:=List Nat×Nat) (fun z=>[(0,Y (some ⟨b,0,none⟩) (O X) cX),(4,U .u64 (z.2:Int)),(7,U .i64 (O z.1:Int))])
  (fun z h' S w=>n=S∧(∀x∈w,x=b)∧ExtT n b h h'∧(w=[]→h'=h)∧h' b=some (.row (u64s (z.1++X.drop (O z.1))) e)∧O z.1≤O X∧KQ z.1∧z.2≤1∧wv z.1+z.2*18446744073709551616^O z.1=wv (X.take (O z.1))+wv Z3) (fun z=>O X-O z.1)
  (D,c) ⟨rfl,rfl,BU,Df⟩ ⟨rfl,F,i,G,a,by show O D≤_;omega,g,I,p⟩ (by show O X-O D<LL;unfold LL;omega) ?_
 rintro⟨D,c⟩ t h1 _ w ⟨rfl,F,i,G,a,K,g,I,p⟩;simp only at a K g I p;refine zN ?_;by_cases hc0:c=0
 .refine Zk ?_;exact W _ _ _ D c F i G a K g p hc0
 by_cases hDX:O D=O X
 .refine Zk ?_;refine W _ _ _ D c F i G a K g p ?_;have a4:=um g;rw[hDX,DO]at p;rw[hDX]at a4;rcases FF c with h|h
  .exact h
  have:=Dw (18446744073709551616^O X) h;omega
 obtain⟨x,u⟩:∃x,X[O D]?=some x:=⟨X[O D]'Z,Dm Z⟩;have a6:=hX.get u;have M:=gk (cap:=cX) T a gN;rw[show(D++X.drop (O D)).length=O X from by rw[Do,Ea];omega]at M;refine Zr ?_;refine ya (f:=fun d:Nat=>U .u64 (d:Int)) (j:=O D) R7 M R2 (tR u) (fun _=>rfl) R4 fun _=>?_;repeat refine zR ?_
 refine uF (x:=x) (y:=0) (c:=c) R5 I ?_;obtain⟨s,J⟩:∃s,s=(x+0+c)%18446744073709551616:=⟨_,rfl⟩;obtain⟨c',q⟩:∃c',c'=(x+0+c)/18446744073709551616:=⟨_,rfl⟩;rw[←J,←q];repeat refine zR ?_
 refine yW (j:=O D) (off:=0) (v:=U .u64 (s:Int)) R8 rfl ⟨Z,Aa⟩ a T (fun _=>rfl) R3 (fun _=>rfl) rfl fun _=>?_;rw[D7,yA,rF _ u];refine Zl ?_;have R:s<18446744073709551616:=by rw[J];exact Ce
 have N:c'≤1:=by rw[q];omega
 have Z1:18446744073709551616*c'+s=x+0+c:=by rw[J,q];omega
 refine goOn (D++[s],c') AB ⟨rfl,rfl,eP,Df⟩ ⟨rfl,fun z B=>by
  rcases DR.1 B with rfl|B
  .rfl
  .exact F z B,fun z B H=>(zg H).trans (i z B H),fun h=>Aq,ze _ _ _,o0,G7 g R,N,?_⟩
 simp only;rw[Do,Dy,xq,zV u,DI];have:=kc p Z1;omega
theorem kw(k:Nat){h:HF}{n:Nat}{X Z3:List Nat}(W:b<3*n)(a5:h b=some (.row (u64s X) e))(a9:O X≤cX)(hX:KQ X)(a0:Sl h n 1 (Y aY l cY) (u64s Z3))(hY:KQ Z3)(ho:La b (Y aY l cY))(hl:O Z3≤O X)(a8:O X<1000000000)(hv:wv Z3≤wv X):
  CF (KO (k+1)) 195 [Y (some ⟨b,0,none⟩) (O X) cX,Y aY l cY] h n fun _ h' T w=>∃L,RowW n h b e h' T w L∧KQ L∧O L=O X∧wv L+wv Z3=wv X:=by
 refine ph (fn:=at8) R4 ?_;have a7:=a0.lenW;subst a7;have Z0:∀(t:TF) (h':HF) (w:List Nat) (D:List Nat) (c:Nat),(∀x∈w,x=b)→ExtT n b h h'→(w=[]→h'=h)→h' b=some (.row (u64s (D++X.drop (O D))) e)→O D≤O X→KQ D→wv D+wv Z3=wv (X.take (O D))+c*18446744073709551616^O D→c=0→(rV .normal=true∧∃vs,resF KT ⟨t,h',n,w⟩ (at8).results.toList=some vs∧(∃L,RowW n h b e h' n w L∧KQ L∧O L=O X∧wv L+wv Z3=wv X)∧(w=[]→∃L,RowW n h b e h n [] L∧KQ L∧O L=O X∧wv L+wv Z3=wv X)):=by
  intro t h' w D c g1 g2 g3 g4 g5 g6 g7 g8;have hL:∃L,RowW n h b e h' n w L∧KQ L∧O L=O X∧wv L+wv Z3=wv X:=⟨_,⟨g1,rfl,g2,g4⟩,g6.append (hX.drop _),gN,by
   subst g8;rw[un];have h1:=nh X (O D) g5;omega⟩
  refine⟨rfl,[],rfl,hL,fun G=>?_⟩;subst G;rw[g3 rfl]at hL;exact hL
 refine Zx ?_;refine zK (α:=List Nat×Nat) (fun z=>[(0,Y (some ⟨b,0,none⟩) (O X) cX),(1,Y aY (O Z3) cY),(4,U .u64 (z.2:Int)),(8,Y aY (O Z3) cY),(9,U .i64 (O Z3:Int)),(10,U .i64 (O z.1:Int))])
  (fun z h' T w=>n=T∧(∀x∈w,x=b)∧ExtT n b h h'∧(w=[]→h'=h)∧h' b=some (.row (u64s (z.1++X.drop (O z.1))) e)∧O z.1≤O Z3∧KQ z.1∧z.2≤1∧wv z.1+wv (Z3.take (O z.1))=wv (X.take (O z.1))+z.2*18446744073709551616^O z.1) (fun z=>O Z3-O z.1)
  ([],0) V6 ⟨rfl,fun x u=>oU u Ds,ExtT.refl _ _ _,fun _=>rfl,a5,Di,IB,BT,xd⟩ AV ?_
 rintro⟨D,c⟩ t h1 _ w ⟨rfl,G,i,H,a,K,g,F,p⟩;simp only at a K g F p;refine zN ?_;by_cases hDY:O D=O Z3;case neg=>
  obtain⟨y,hy⟩:∃y,Z3[O D]?=some y:=⟨Z3[O D]'Z,Dm Z⟩;obtain⟨x,u⟩:∃x,X[O D]?=some x:=⟨X[O D]'Z,Dm Z⟩;have a4:=hY.get hy;have S:=hX.get u;have M:=gk (cap:=cX) W a gN;rw[show(D++X.drop (O D)).length=O X from by rw[Do,Ea];omega]at M;refine Zr ?_;refine ya (f:=fun d:Nat=>U .u64 (d:Int)) (j:=O D) R7 (a0.extW i ho) R2 hy (fun _=>rfl) R4 fun _=>?_;refine Zj ?_;refine ya (f:=fun d:Nat=>U .u64 (d:Int)) (j:=O D) R7 M R2 (tR u) (fun _=>rfl) R4 fun _=>?_;repeat refine zR ?_
  refine qM (x:=x) (y:=y) (c:=c) R5 F ?_;obtain⟨s,J⟩:∃s,s=(x+18446744073709551616-y-c)%18446744073709551616:=⟨_,rfl⟩;obtain⟨c',q⟩:∃c',c'=(if y+c≤x then 0 else 1):=⟨_,rfl⟩;rw[←J,←q];repeat refine zR ?_
  refine yW (j:=O D) (off:=0) (v:=U .u64 (s:Int)) R8 rfl ⟨Z,Aa⟩ a W (fun _=>rfl) R3 (fun _=>rfl) rfl fun _=>?_;rw[D7,yA,rF _ u];refine Zl ?_;have R:s<18446744073709551616:=by rw[J];exact Ce
  have N:c'≤1:=by rw[q];split<;>decide
  have Z1:s+y+c=x+18446744073709551616*c':=by rw[J,q];exact u4 S (by first|exact a4|decide) F
  refine goOn (D++[s],c') Ay ⟨rfl,rfl,rfl,rfl,rfl,eP,Df⟩ ⟨rfl,fun z B=>by
   rcases DR.1 B with rfl|B
   .rfl
   .exact G z B,fun z B I=>(zg I).trans (i z B I),fun h=>Aq,ze _ _ _,o0,G7 g R,N,?_⟩
  simp only;rw[Do,Dy,xq,zV u,zV hy,DI];have:=uZ p Z1;omega
 have a3:Z3.take (O D)=Z3:=by rw[hDY,DO]
 rw[a3]at p;refine Zm ?_;refine zK (α:=List Nat×Nat) (fun z=>[(0,Y (some ⟨b,0,none⟩) (O X) cX),(4,U .u64 (z.2:Int)),(7,U .i64 (O z.1:Int))])
  (fun z h' T w=>n=T∧(∀x∈w,x=b)∧ExtT n b h h'∧(w=[]→h'=h)∧h' b=some (.row (u64s (z.1++X.drop (O z.1))) e)∧O z.1≤O X∧KQ z.1∧z.2≤1∧wv z.1+wv Z3=wv (X.take (O z.1))+z.2*18446744073709551616^O z.1) (fun z=>O X-O z.1)
  (D,c) ⟨rfl,rfl,BU,Df⟩ ⟨rfl,G,i,H,a,by show O D≤_;omega,g,F,p⟩ (by show O X-O D<LL;unfold LL;omega) ?_
 rintro⟨D,c⟩ t h1 _ w ⟨rfl,G,i,H,a,K,g,F,p⟩;simp only at a K g F p;refine zN ?_;by_cases hc0:c=0
 .refine Zk ?_;exact Z0 _ _ _ D c G i H a K g p hc0
 by_cases hDX:O D=O X
 .refine Zk ?_;refine Z0 _ _ _ D c G i H a K g p ?_;have a6:=um g;rw[hDX,DO]at p;rw[hDX]at a6;rcases FF c with h|h
  .exact h
  have:=Dw (18446744073709551616^O X) h;omega
 obtain⟨x,u⟩:∃x,X[O D]?=some x:=⟨X[O D]'Z,Dm Z⟩;have S:=hX.get u;have M:=gk (cap:=cX) W a gN;rw[show(D++X.drop (O D)).length=O X from by rw[Do,Ea];omega]at M;refine Zr ?_;refine ya (f:=fun d:Nat=>U .u64 (d:Int)) (j:=O D) R7 M R2 (tR u) (fun _=>rfl) R4 fun _=>?_;repeat refine zR ?_
 refine qM (x:=x) (y:=0) (c:=c) R5 F ?_;obtain⟨s,J⟩:∃s,s=(x+18446744073709551616-0-c)%18446744073709551616:=⟨_,rfl⟩;obtain⟨c',q⟩:∃c',c'=(if 0+c≤x then 0 else 1):=⟨_,rfl⟩;rw[←J,←q];repeat refine zR ?_
 refine yW (j:=O D) (off:=0) (v:=U .u64 (s:Int)) R8 rfl ⟨Z,Aa⟩ a W (fun _=>rfl) R3 (fun _=>rfl) rfl fun _=>?_;rw[D7,yA,rF _ u];refine Zl ?_;have R:s<18446744073709551616:=by rw[J];exact Ce
 have N:c'≤1:=by rw[q];split<;>decide
 have Z1:s+0+c=x+18446744073709551616*c':=by rw[J,q];exact u4 S (by first|exact a4|decide) F
 refine goOn (D++[s],c') AB ⟨rfl,rfl,eP,Df⟩ ⟨rfl,fun z B=>by
  rcases DR.1 B with rfl|B
  .rfl
  .exact G z B,fun z B I=>(zg I).trans (i z B I),fun h=>Aq,ze _ _ _,o0,G7 g R,N,?_⟩
 simp only;rw[Do,Dy,xq,zV u,DI];have:=uZ p Z1;omega
theorem wf{n:Nat}{h:HF}(a:b<3*n)(i:h b=some (.row (u64s L) e))(g:O L=l):Sl h n 1 (Y (some ⟨b,0,none⟩) l l) (u64s L):=by
 subst g;exact gk a i Dh
theorem wB(h:KQ L):NW (z0 L)∧wv (z0 L)=wv L:=⟨NW.trim h,ni _ _⟩
def N3(n:Nat)(v u1 u2:Value):Prop:=yh n v∨v=u1∨v=u2
theorem bc(k:Nat){h:HF}{n:Nat}(I:Sl h n 1 (Y a1 l1 c1) (u64s A))(J:Sl h n 1 (Y a2 l2 c2) (u64s C))(nA:NW A)(nC:NW C)(u:O A<100000000∧O C<100000000):
  CF (KO (k+2)) 155 [Y a1 l1 c1,Y a2 l2 c2] h n fun v h' Z1 w=>∃L,ResW n h v h' Z1 w L∧wv L=wv A+wv C∧N3 n v (Y a1 l1 c1) (Y a2 l2 c2):=by
 refine zl (fn:=Tryz.f155) R4 ?_;have e1:=I.lenW;have e2:=J.lenW;subst e1 e2;refine Zc ?_;refine zM ?_;refine st_I (ik:=.i64) (a:=(O A:Int)) R5<|zM ?_;refine st_I (ik:=.i64) (a:=(O C:Int)) R5<|ql R6 ?_;simp only[zX,yi,zm,yj];refine yp (α:=(Option Addr×Nat×List Nat)×(Option Addr×Nat×List Nat)) (fun z=>[(0,Y z.1.1 (O z.1.2.2) z.1.2.1),(1,Y z.2.1 (O z.2.2.2) z.2.2.1)]) (fun z h' Z1 w=>h=h'∧n=Z1∧w=[]∧Sl h n 1 (Y z.1.1 (O z.1.2.2) z.1.2.1) (u64s z.1.2.2)∧Sl h n 1 (Y z.2.1 (O z.2.2.2) z.2.2.1) (u64s z.2.2.2)∧NW z.1.2.2∧NW z.2.2.2∧O z.2.2.2≤O z.1.2.2∧O z.1.2.2<100000000∧wv z.1.2.2+wv z.2.2.2=wv A+wv C∧(Y z.1.1 (O z.1.2.2) z.1.2.1=Y a1 (O A) c1∨Y z.1.1 (O z.1.2.2) z.1.2.1=Y a2 (O C) c2)) ?_ ?_
 .by_cases hlt:O A<O C
  .rw[zc gV];refine Zc ?_;exact zC ((a2,c2,C),(a1,c1,A)) V2 ⟨rfl,rfl,rfl,J,I,nC,nA,Bc,u.2,EY _ _,.inr rfl⟩
  rw[za gP];refine zN ?_;exact zC ((a1,c1,A),(a2,c2,C)) V2 ⟨rfl,rfl,rfl,I,J,nA,nC,Bd,u.1,rfl,.inl rfl⟩
 rintro⟨⟨a,c,X⟩,⟨a',c',Z3⟩⟩ t _ _ _ ⟨rfl,rfl,rfl,K,M,B,R,F,Z0,q,hv⟩;simp only at K M B R F Z0 q hv;rw[←q];refine zN ?_;by_cases hY0:O Z3=0
 .refine Zo ?_;rw[DA.1 hY0];exact retH _ ⟨rfl,(zj rfl),rfl⟩ ⟨X,⟨rfl,Dh,FU _ _,K,B⟩,rfl,.inr hv⟩
 refine Zv ?_;refine xP (len:=O X+1) (cap:=O X+1) R9 Z ?_;rw[show zr (U .u64 0)=[U .u64 0]from rfl,wK];refine Zj ?_;have D:=K.ext (GD (h:=h) (b:=3*n+2) (x:=some (.row (u64s (Dp (O X+1) 0)) 164)) (show 3*n≤3*n+2 by omega)) (DM n);refine jD (m:=O X) R7 (uW D) zs (ze _ _ _) (by rw[zQ,zQ];simp) (wR X) bR ?_;rw[yI,zQ,qK,←uq,Ih,show (O X)+1-O X=1 from Z];generalize hh:upd h (3*n+2) _=s;have p:∃e,s (3*n+2)=some (.row (u64s (X++[0])) e):=⟨_,kS⟩;obtain⟨e,p⟩:=p;have H:KN n h s:=by rw[←hh];exact C4
 have g:O (X++[0])=O X+1:=by simp
 have G:wv (X++[0])=wv X:=by rw[xq,Fp,Ej]
 have N:wv (X++[0])+wv Z3<18446744073709551616^O (X++[0]):=by
  have s:=um B.1;have S:=um R.1;have h3:18446744073709551616^O Z3≤18446744073709551616^O X:=DJ zd F;rw[G,g,DI];omega
 refine Zg ?_;have i:=Vk k (h:=s) (n:=n+1) (b:=3*n+2) (X:=X++[0]) (cX:=O X+1) Z p Z (G7 B.1 zd) (M.ext H (DM n)) R.1 (M.below.off Z) Z Z N;rw[g]at i;refine zk _ R5 i ?_;rintro _ S _ w2⟨L,⟨a4,rfl,a5,a0⟩,T,a6,W⟩;try simp only[rU]
 rw[zZ (w:=[]) fun y hy=>by rw[a4 y hy];show 3*n≤3*n+2;omega];refine Zj ?_;have a3:=xR k (h:=S) (n:=n+1) (a:=some ⟨3*n+2,0,none⟩) (len:=O X+1) (cap:=O X+1) (l:=L) Z (fun _ e=>by injection e with e;rw[←e]) (wf Z a0 Z);refine zk _ R5 a3 ?_;rintro _ _ _ _⟨rfl,rfl,rfl,rfl,hs⟩;refine Zb ?_;obtain⟨t1,t2⟩:=wB T;exact retH _ ⟨rfl,(zj rfl),rfl⟩ ⟨_,⟨rfl,DM n,fun b u=>(a5 b Z Z).trans (H b u),hs,t1⟩,by rw[t2,W,G],.inl bR⟩
theorem et(k:Nat){h:HF}{n:Nat}(u:Sl h n 1 (Y a1 l1 c1) (u64s A))(B:Sl h n 1 (Y a2 l2 c2) (u64s C))(F:NW A)(S:NW C)(hb:O A<100000000)(J:wv C≤wv A):
  CF (KO (k+2)) 157 [Y a1 l1 c1,Y a2 l2 c2] h n fun v h' n' w=>∃L,ResW n h v h' n' w L∧wv L=wv A-wv C∧N3 n v (Y a1 l1 c1) (Y a2 l2 c2):=by
 refine zl (fn:=Tryz.f157) R4 ?_;have T:=u.lenW;have W:=B.lenW;subst T W;have g:O C≤O A:=by
  rcases EG (O A) (O C) with D|D
  .have:=F.len_lt S D;omega
  exact D
 refine Zc ?_;by_cases hC0:O C=0
 .refine Zo ?_;rw[DA.1 hC0];exact retH _ ⟨rfl,(zj rfl),rfl⟩ ⟨A,⟨rfl,Dh,FU _ _,u,F⟩,rfl,.inr (.inl rfl)⟩
 refine Zy ?_;refine zk _ R5 (vt k u Z) ?_;rintro v1 h1 n1 _⟨rfl,q,s,a3,I⟩;obtain⟨b,rfl,_,i,p,K,_⟩:=(I (fun e=>by rw[e]at g;simp at g;exact hC0 pl)).inv2 Z;refine Zj ?_;refine zk _ R5 (kw k (cX:=O A) p K Dh F.1 (B.ext s q) S.1 (B.below.off Z) g Z J) ?_;rintro _ Z3 n2 w2⟨L,⟨Z1,rfl,R,M⟩,G,H,a0⟩;try simp only[rU]
 rw[zZ (w:=[]) fun y hy=>by rw[Z1 y hy];exact i];refine Zj ?_;have N:=xR k (h:=Z3) (n:=n2) (a:=some ⟨b,0,none⟩) (len:=O A) (cap:=O A) (l:=L) Z (fun _ e=>by injection e with e;rw[←e]) (wf p M H);refine zk _ R5 N ?_;rintro _ _ _ _⟨rfl,rfl,rfl,rfl,hs⟩;refine Zb ?_;obtain⟨t1,t2⟩:=wB G;exact retH _ ⟨rfl,(zj rfl),rfl⟩ ⟨_,⟨rfl,q,fun c Z0=>(R c Z Z).trans (s c Z0),hs,t1⟩,by rw[t2];omega,.inl i⟩
end
section
variable {cap off:Nat}
section
variable {X:CtxF}{d:Tmp}
theorem u7{lo:Operand}{j u:Int}(m a:Nat)(g:Za X ops t o d (o.op=.slice ty x (some lo) (some hi) none∧X.E.und ty=some (.slice e)∧X.E.inf e=some (sz,bt,z)∧KM t x=Y (some ⟨b,off,none⟩) len cap∧KM t lo=U ik j∧KM t hi=U ik' u))(H:j=(m:Int))(q:u=(a:Int))(M:m≤a∧a≤cap∧m<cap)
  (k:EO X ops r ⟨upd t d (Y (some ⟨b,off+m*sz,none⟩) (a-m) (cap-m)),h,n,w⟩ Q):EO X ops (o::r) ⟨t,h,n,w⟩ Q:=by
 obtain⟨g,F,I,s,J,i,K,G,p⟩:=g;refine zA ⟨g,F,I,(by rw[s];rfl),?_⟩ k;rw[s];subst H q;show yY X.E ty (KM t x) (some (KM t lo)) (some (KM t hi))=_;rw[K,G,p];have y:(0:Int)≤(a:Int)∧(a:Int)≤cap:=Z;have v:(0:Int)≤(m:Int)∧(m:Int)≤a:=Z;have f:DX cap m=false:=by
  cases f:DX cap m with
  |false=>rfl
  |true=>have:=D5 f;omega
 have B:(gro b&&(DX 1 m&&DX cap m))=false:=by rw[f];simp
 have D:offA cap m sz ⟨b,off,none⟩=⟨b,off+m*sz,none⟩:=by
  unfold offA;have:Eh cap m=false:=by
   cases f:Eh cap m with
   |false=>rfl
   |true=>have:=Eb f;omega
  rw[this,ws]
 simp only[yY,J,i,Ld,De y,De v,Ez,B,D]
end
theorem bp{h:HF}{n:Nat}{P:List Nat}(a:b<3*n)(g:h b=some (.row (u64s (P++(Z0++S))) e))(f:O Z0≤cap):Sl h n 1 (Y (some ⟨b,O P,none⟩) (O Z0) cap) (u64s Z0):=by
 refine .at_ a g rfl f (by rw[zQ];simp only[Do];omega) ?_;rw[qK,qJ,GC rfl,Ek,HK rfl]
theorem jJ{P D:List Nat}{x:Nat}(d:Nat)(a:Z0[O D]?=some x):(P++((D++Z0.drop (O D))++S)).set (O P+O D) d=P++(((D++[d])++Z0.drop (O (D++[d])))++S):=by
 have f:O D<O Z0:=(Du.1 a).1;rw[Eo _ _ Z,show (O P)+O D-O P=O D from Z,List.set_append_left _ _ gN,rF d a]
theorem ou{v w:Nat}(hv:v<18446744073709551616)(a:w<18446744073709551616):v*w≤340282366920938463426481119284349108225:=Ed (Es (Kb hv) (Kb a)) zd
theorem aI{W z v w s:Nat}(a:V+c*P=Z4+W*w)(f:18446744073709551616*c'+s=z+v*w+c):V+P*s+c'*(P*18446744073709551616)=Z4+P*z+(W+P*v)*w:=by
 have:P*(18446744073709551616*c'+s)=P*(z+v*w+c):=by rw[f]
 rw[D4,D4,D4,←DG]at this;exact Cs
theorem jo(k:Nat){h:HF}{n cZ:Nat}{F:Option Addr}{P X:List Nat}{w:Nat}(hb:b<3*n)(R:h b=some (.row (u64s (P++(Z0++S))) e))(ad:O Z0≤cZ)(hZ:KQ Z0)(J:Sl h n 1 (Y F l cX) (u64s X))(hX:KQ X)(ho:La b (Y F l cX))(hl:O Z0=O X)(ac:O X<1000000000)(i:w<18446744073709551616):
  CF (KO (k+2)) 196 [Y (some ⟨b,O P,none⟩) (O Z0) cZ,Y F l cX,U .u64 (w:Int)] h n fun v m n' W=>∃(L:List Nat) (c:Nat),v=U .u64 (c:Int)∧c<18446744073709551616∧RowW n h b e m n' W (P++(L++S))∧KQ L∧O L=O Z0∧wv L+c*18446744073709551616^O Z0=wv Z0+wv X*w:=by
 refine ph (fn:=Tryz.f196) R4 ?_;have a6:=J.lenW;subst a6;refine Zc ?_;refine Zl ?_;refine zK (α:=List Nat×Nat) (fun z=>[(0,Y (some ⟨b,O P,none⟩) (O Z0) cZ),(2,U .u64 (w:Int)),(7,U .u64 (z.2:Int)),(14,Y F (O X) cX),(15,U .i64 (O X:Int)),(16,U .i64 (O z.1:Int))])
  (fun z m n' W=>n=n'∧(∀x∈W,x=b)∧ExtT n b h m∧(W=[]→m=h)∧m b=some (.row (u64s (P++((z.1++Z0.drop (O z.1))++S))) e)∧O z.1≤O X∧KQ z.1∧z.2<18446744073709551616∧wv z.1+z.2*18446744073709551616^O z.1=wv (Z0.take (O z.1))+wv (X.take (O z.1))*w) (fun z=>O X-O z.1)
  ([],0) V6 ⟨rfl,fun x u=>oU u Ds,ExtT.refl _ _ _,fun _=>rfl,R,Di,IB,Ai,xd⟩ A4 ?_
 rintro⟨D,c⟩ t h1 _ W ⟨rfl,hW,B,ab,g,hD,q,hc,G⟩;simp only at g hD q hc G;refine zN ?_;by_cases hDX:O D=O X
 .refine Zm ?_;have a0:Z0.drop (O D)=[]:=by rw[hDX,←hl,Fo]
  rw[a0,DZ]at g;rw[hDX,DO,←hl,DO]at G;have Z1:∃(L:List Nat) (c':Nat),U .u64 (c:Int)=U .u64 (c':Int)∧c'<18446744073709551616∧RowW n h b e h1 n W (P++(L++S))∧KQ L∧O L=O Z0∧wv L+c'*18446744073709551616^O Z0=wv Z0+wv X*w:=⟨D,c,rfl,hc,⟨hW,rfl,B,g⟩,q,Z,G⟩;refine⟨rfl,[U .u64 (c:Int)],rfl,Z1,fun i=>?_⟩;have i:W=[]:=i;subst i;rw[ab rfl]at Z1;exact Z1
 obtain⟨v,T⟩:∃x,X[O D]?=some x:=⟨X[O D]'Z,Dm Z⟩;obtain⟨z,H⟩:∃x,Z0[O D]?=some x:=⟨Z0[O D]'Z,Dm Z⟩;have M:=hX.get T;have ae:=hZ.get H;have s:(D++Z0.drop (O D)).length=O Z0:=by rw[Do,Ea];omega
 have K:=bp (cap:=cZ) hb g Z;rw[s]at K;have aa:=ou M i;refine Zr ?_;refine ya (f:=fun d:Nat=>U .u64 (d:Int)) (j:=O D) R7 (J.extW B ho) R2 T (fun _=>rfl) R4 fun _=>?_;refine Zj ?_;refine ye _ R5 (qX k h1 n M i) ?_;rintro _ rfl;obtain⟨p,hp⟩:∃p,p=v*w:=⟨_,rfl⟩;rw[←hp]at aa⊢;obtain⟨hi,a5⟩:∃x,x=p/18446744073709551616:=⟨_,rfl⟩;obtain⟨Z3,a7⟩:∃x,x=p%18446744073709551616:=⟨_,rfl⟩;rw[←a5,←a7];refine Zj ?_;refine uF (x:=Z3) (y:=c) (c:=0) R5 zd ?_;obtain⟨s1,a8⟩:∃x,x=(Z3+c+0)%18446744073709551616:=⟨_,rfl⟩;obtain⟨c1,a3⟩:∃x,x=(Z3+c+0)/18446744073709551616:=⟨_,rfl⟩;rw[←a8,←a3];refine Zz ?_;refine yT (a:=hi) (b:=c1) R6 Z<|Zj ?_;refine ya (f:=fun d:Nat=>U .u64 (d:Int)) (j:=O D) R7 K R2 (tR H) (fun _=>rfl) R4 fun _=>?_;repeat refine zR ?_
 refine uF (x:=z) (y:=s1) (c:=0) R5 zd ?_;obtain⟨I,a9⟩:∃x,x=(z+s1+0)%18446744073709551616:=⟨_,rfl⟩;obtain⟨c2,a4⟩:∃x,x=(z+s1+0)/18446744073709551616:=⟨_,rfl⟩;rw[←a9,←a4];repeat refine zR ?_
 refine yW (j:=O D) (off:=O P) (v:=U .u64 (I:Int)) R8 rfl ⟨Z,by rw[zQ,Do,Do,s];omega⟩ g hb (fun _=>rfl) R3 (fun _=>rfl) rfl fun _=>?_;rw[yA,jJ _ H];refine Zz ?_;refine yT (a:=hi+c1) (b:=c2) R6 Z<|Zl ?_;refine goOn (D++[I],hi+c1+c2) (by show O X-O (D++[I])<O X-O D;rw[Do,Dy];omega) ⟨rfl,rfl,rfl,rfl,rfl,eP,Df⟩ ⟨rfl,fun x u=>by
  rcases DR.1 u with rfl|u
  .rfl
  .exact hW x u,fun y hy N=>(zg N).trans (B y hy N),fun h=>Aq,ze _ _ _,by show(D++[I]).length≤_;rw[Do,Dy];omega,G7 q Z,by show hi+c1+c2<_;omega,?_⟩
 simp only;rw[Do,Dy,xq,zV T,zV H,DI];exact aI G (by rw[←hp];omega)
theorem Vl{P X:List Nat}{w:Nat}(a:O L=O Z0)(f:wv L+c*18446744073709551616^O Z0=wv Z0+wv X*w):wv (P++(L++[c]))=wv (P++Z0)+wv X*(18446744073709551616^O P*w):=by
 rw[un,un P Z0,xq,a,Dt _ c,f,D4,ER];omega
theorem du(k:Nat){h:HF}{n:Nat}(I:Sl h n 1 (Y a1 l1 c1) (u64s A))(J:Sl h n 1 (Y a2 l2 c2) (u64s C))(nA:NW A)(nC:NW C)(G:O A<100000000∧O C<100000000)(a0:O A<40∨O C<40):
  CF (KO (k+3)) 158 [Y a1 l1 c1,Y a2 l2 c2] h n fun v s u w=>∃L,ResW n h v s u w L∧wv L=wv A*wv C∧N3 n v (Y a1 l1 c1) (Y a2 l2 c2):=by
 refine zl (fn:=Tryz.f158) R4 ?_;have e1:=I.lenW;have e2:=J.lenW;subst e1 e2;refine Zc ?_;refine zM ?_;refine st_I (ik:=.i64) (a:=(O A:Int)) R5<|zM ?_;refine st_I (ik:=.i64) (a:=(O C:Int)) R5<|ql R6 ?_;simp only[zX,yi,zm,yj];refine yp (α:=(Option Addr×Nat×List Nat)×(Option Addr×Nat×List Nat)) (fun z=>[(0,Y z.1.1 (O z.1.2.2) z.1.2.1),(1,Y z.2.1 (O z.2.2.2) z.2.2.1)]) (fun z s u w=>h=s∧n=u∧w=[]∧Sl h n 1 (Y z.1.1 (O z.1.2.2) z.1.2.1) (u64s z.1.2.2)∧Sl h n 1 (Y z.2.1 (O z.2.2.2) z.2.2.1) (u64s z.2.2.2)∧NW z.1.2.2∧NW z.2.2.2∧O z.2.2.2≤O z.1.2.2∧O z.2.2.2<40∧O z.1.2.2<100000000∧wv z.1.2.2*wv z.2.2.2=wv A*wv C∧(Y z.1.1 (O z.1.2.2) z.1.2.1=Y a1 (O A) c1∨Y z.1.1 (O z.1.2.2) z.1.2.1=Y a2 (O C) c2)) ?_ ?_
 .by_cases hlt:O A<O C
  .rw[zc gV];refine Zc ?_;exact zC ((a2,c2,C),(a1,c1,A)) V2 ⟨rfl,rfl,rfl,J,I,nC,nA,Bc,by show O A<40;omega,G.2,Dt _ _,.inr rfl⟩
  rw[za gP];refine zN ?_;exact zC ((a1,c1,A),(a2,c2,C)) V2 ⟨rfl,rfl,rfl,I,J,nA,nC,Bd,by show O C<40;omega,G.1,rfl,.inl rfl⟩
 rintro⟨⟨a,c,X⟩,⟨a',c',Z3⟩⟩ t _ _ _ ⟨rfl,rfl,rfl,M,N,nX,nY,a8,W,a7,q,hv⟩;simp only at M N nX nY a8 W a7 q hv;rw[←q];refine Zd ?_;refine st_I (ik:=.i64) (a:=(O X:Int)) R5<|td (a:=(O X:Int)) (b:=1) R6 Z<|st_I (ik:=.i64) (a:=((O X:Int)+1).tdiv 2) ⟨rfl,rfl,rfl,rfl,(by show some (U .i64 (D8 .i64 _))=_;rw[xI (by have:=I6 (a:=(O X:Int)+1) (b:=2) Z Z;have:=Int.tdiv_le_self (a:=(O X:Int)+1) (b:=2) Z;omega)])⟩ ?_;refine Zb ?_;by_cases hY0:O Z3=0
 .refine Zo ?_;exact retH _ ⟨rfl,(zj rfl),rfl⟩ ⟨[],⟨rfl,Dh,FU _ _,.nil (.inl rfl),KF⟩,by rw[DA.1 hY0];rfl,.inl trivial⟩
 refine Ze ?_;simp only[zX,yi,zm,yj];refine yp (α:=Bool) (fun z=>[(0,Y a (O X) c),(1,Y a' (O Z3) c'),(32,Dk z)]) (fun z s u w=>h=s∧n=u∧w=[]∧(z=true→wv Z3=1)) ?_ ?_
 .by_cases hY1:O Z3=1
  .obtain⟨y,rfl⟩:=GY.1 hY1;rw[show[y].length=1 from rfl]at N⊢;refine Zg ?_;refine ya (f:=fun d:Nat=>U .u64 (d:Int)) (l:=[y]) (j:=0) R7 N ⟨rfl,cA⟩ rfl (fun _=>rfl) R4 fun _=>?_;by_cases hy:y=1
   .refine Zb ?_;exact zC true V3 ⟨rfl,rfl,rfl,fun _=>by rw[pV,hy]⟩
   refine Zb ?_;exact zC false V3 ⟨rfl,rfl,rfl,fun h=>by cases h⟩
  refine Zc ?_;exact zC false V3 ⟨rfl,rfl,rfl,fun h=>by cases h⟩
 rintro z t _ _ _⟨rfl,rfl,rfl,hz⟩;cases z with
 |true=>
  rw[zc rfl];refine Zc ?_;exact retH _ ⟨rfl,(zj rfl),rfl⟩ ⟨X,⟨rfl,Dh,FU _ _,M,nX⟩,by rw[hz rfl,Ek],.inr hv⟩
 |false=>
 rw[za rfl];refine Zc ?_;rw[zc rfl];refine Zg ?_;refine xP (len:=O X+O Z3) (cap:=O X+O Z3) R9 Z ?_;rw[show zr (U .u64 0)=[U .u64 0]from rfl,wK];generalize hh:upd h (3*n+2) _=H;have g:∃e,H (3*n+2)=some (.row (u64s (Dp (O X) 0++Dp (O Z3) 0)) e):=⟨_,by rw[←hh,ze,Hx]⟩;obtain⟨e,g⟩:=g;have p:KN n h H:=by rw[←hh];exact C4
 refine Zl ?_;refine zK (α:=Nat×List Nat) (fun z=>[(0,Y a (O X) c),(6,Y (some ⟨3*n+2,0,none⟩) (O X+O Z3) (O X+O Z3)),(53,Y a' (O Z3) c'),(54,U .i64 (O Z3:Int)),(55,U .i64 (z.1:Int))])
  (fun z s u w=>u=n+1∧w=[]∧KN n h s∧s (3*n+2)=some (.row (u64s (z.2++Dp (O Z3-z.1) 0)) e)∧O z.2=O X+z.1∧KQ z.2∧z.1≤O Z3∧wv z.2=wv X*wv (Z3.take z.1)) (fun z=>O Z3-z.1)
  (0,Dp (O X) 0) V5 ⟨rfl,rfl,p,g,cA,am9 _,Di,by simp[wv,dv,rf]⟩ AV ?_
 rintro⟨i,D⟩ t H _ _ ⟨rfl,rfl,p,g,Z1,B,hi,K⟩;simp only at g Z1 B hi K;refine zN ?_;by_cases hiY:i=O Z3
 .subst hiY;rw[Ee,FK,DZ]at g;rw[DO]at K;refine Zv ?_;have aa:=xR (k+1) (h:=H) (n:=n+1) (a:=some ⟨3*n+2,0,none⟩) (len:=O X+O Z3) (cap:=O X+O Z3) (l:=D) Z (fun _ e=>by injection e with e;rw[←e]) (wf Z g Z1);refine zk _ R5 aa ?_;rintro _ _ _ _⟨rfl,rfl,rfl,rfl,hs⟩;refine Zb ?_;obtain⟨t1,t2⟩:=wB B;exact retH _ ⟨rfl,(zj rfl),rfl⟩ ⟨_,⟨rfl,DM n,p,hs,t1⟩,by rw[t2,K],.inl bR⟩
 obtain⟨w,hw⟩:∃x,Z3[i]?=some x:=⟨Z3[i]'Z,Dm Z⟩;have ac:=nY.1.get hw;obtain⟨P,Z0,a5,hP,hZ⟩:∃P Z0,D=P++Z0∧O P=i∧O Z0=O X:=⟨D.take i,D.drop i,(Ep i D).symm,q0,by rw[Ea];omega⟩;subst a5 hP;rw[DN]at g;have a6:=M.ext p (DM n);refine Zr ?_;refine ya (f:=fun d:Nat=>U .u64 (d:Int)) (j:=O P) R7 (N.ext p (DM n)) R2 hw (fun _=>rfl) R4 fun _=>?_;refine Zj ?_;refine u7 (O P) (O P+O X) R9 rfl rfl Z ?_;rw[show 0+O P*1=O P from Z,show (O P)+O X-O P=O Z0 from Z];repeat refine zR ?_
 refine zk _ R5 (jo k (n:=n+1) (b:=3*n+2) Z g Z (fun d hd=>B d (by simp[hd])) a6 nX.1 (M.below.off Z) hZ Z ac) ?_;rintro _ h2 _ w2⟨L,cc,rfl,a9,⟨ab,rfl,ad,T⟩,a3,F,a4⟩;try simp only[rU]
 rw[zZ (w:=[]) fun y hy=>by rw[ab y hy];show 3*n≤3*n+2;omega];obtain⟨m,hm⟩:∃m,O Z3-O P=m+1:=⟨O Z3-O P-1,Z⟩;rw[hm,←DN]at T;have R:O (P++L)=O P+O X:=by rw[Do,F,hZ]
 refine xG (j:=O P+O X) (v:=U .u64 (cc:Int)) R8 rfl ⟨Z,by rw[zQ,Do,R,DV];omega⟩ T bR (fun _=>rfl) R3 (fun _=>rfl) rfl fun _=>?_;rw[yA,←R,qO];refine Zl ?_;refine goOn (O P+1,P++(L++[cc])) (by show O Z3-(O P+1)<O Z3-O P;omega) V5 ⟨rfl,rfl,fun b G=>(zg Z).trans ((ad b Z Z).trans (p b G)),?_,?_,?_,by show O P+1≤_;omega,?_⟩
 .refine(ze _ _ _).trans ?_;simp only;rw[show (O Z3)-(O P+1)=m from Z,DN P L]
 .simp only;rw[Do,Do,F,hZ,Dy];omega
 .exact KQ.append (fun d hd=>B d (by simp[hd])) (G7 a3 a9)
 simp only;rw[Vl F a4,K,zV hw,D4]
end
theorem Vm{P V Z4 W z v w c s c':Nat}(a:V+W*w=Z4+c*P)(b:s+v*w+c=z+18446744073709551616*c'):V+P*s+(W+P*v)*w=Z4+P*z+c'*(P*18446744073709551616):=by
 have:P*(s+v*w+c)=P*(z+18446744073709551616*c'):=by rw[b]
 rw[D4,D4,D4,←DG P 18446744073709551616]at this;exact Cs
theorem Vn(k:Nat){h:HF}{n b cZ cX l:Nat}{F:Option Addr}{P Z0 S X:List Nat}{e:TypeId}{w:Nat}(hb:b<3*n)(V:h b=some (.row (u64s (P++(Z0++S))) e))(ad:O Z0≤cZ)(hZ:KQ Z0)(N:Sl h n 1 (Y F l cX) (u64s X))(hX:KQ X)(ho:La b (Y F l cX))(hl:O Z0=O X)(aa:O X<1000000000)(o:w<18446744073709551616):
  CF (KO (k+2)) 240 [Y (some ⟨b,O P,none⟩) (O Z0) cZ,Y F l cX,U .u64 (w:Int)] h n fun v q n' W=>∃(L:List Nat) (c:Nat),v=U .u64 (c:Int)∧c<18446744073709551616∧RowW n h b e q n' W (P++(L++S))∧KQ L∧O L=O Z0∧wv L+wv X*w=wv Z0+c*18446744073709551616^O Z0:=by
 refine ph (fn:=Tryz.f240) R4 ?_;have a3:=N.lenW;subst a3;refine Zc ?_;refine Zl ?_;refine zK (α:=List Nat×Nat) (fun z=>[(0,Y (some ⟨b,O P,none⟩) (O Z0) cZ),(2,U .u64 (w:Int)),(7,U .u64 (z.2:Int)),(14,Y F (O X) cX),(15,U .i64 (O X:Int)),(16,U .i64 (O z.1:Int))])
  (fun z q n' W=>n=n'∧(∀x∈W,x=b)∧ExtT n b h q∧(W=[]→q=h)∧q b=some (.row (u64s (P++((z.1++Z0.drop (O z.1))++S))) e)∧O z.1≤O X∧KQ z.1∧z.2<18446744073709551616∧wv z.1+wv (X.take (O z.1))*w=wv (Z0.take (O z.1))+z.2*18446744073709551616^O z.1) (fun z=>O X-O z.1)
  ([],0) V6 ⟨rfl,fun x A=>oU A Ds,ExtT.refl _ _ _,fun _=>rfl,V,Di,IB,Ai,xd⟩ A4 ?_
 rintro⟨D,c⟩ t h1 _ W ⟨rfl,hW,B,a8,g,hD,s,hc,I⟩;simp only at g hD s hc I;refine zN ?_;by_cases hDX:O D=O X
 .refine Zm ?_;have a0:Z0.drop (O D)=[]:=by rw[hDX,←hl,Fo]
  rw[a0,DZ]at g;rw[hDX,DO,←hl,DO]at I;have Z4:∃(L:List Nat) (c':Nat),U .u64 (c:Int)=U .u64 (c':Int)∧c'<18446744073709551616∧RowW n h b e h1 n W (P++(L++S))∧KQ L∧O L=O Z0∧wv L+wv X*w=wv Z0+c'*18446744073709551616^O Z0:=⟨D,c,rfl,hc,⟨hW,rfl,B,g⟩,s,Z,I⟩;refine⟨rfl,[U .u64 (c:Int)],rfl,Z4,fun o=>?_⟩;have o:W=[]:=o;subst o;rw[a8 rfl]at Z4;exact Z4
 obtain⟨v,hv⟩:∃x,X[O D]?=some x:=⟨X[O D]'Z,Dm Z⟩;obtain⟨z,K⟩:∃x,Z0[O D]?=some x:=⟨Z0[O D]'Z,Dm Z⟩;have R:=hX.get hv;have a9:=hZ.get K;have u:(D++Z0.drop (O D)).length=O Z0:=by rw[Do,Ea];omega
 have Z1:=bp (cap:=cZ) hb g Z;rw[u]at Z1;have a7:=ou R o;refine Zr ?_;refine ya (f:=fun d:Nat=>U .u64 (d:Int)) (j:=O D) R7 (N.extW B ho) R2 hv (fun _=>rfl) R4 fun _=>?_;refine Zj ?_;refine ye _ R5 (qX k h1 n R o) ?_;rintro _ rfl;obtain⟨p,hp⟩:∃p,p=v*w:=⟨_,rfl⟩;rw[←hp]at a7⊢;obtain⟨J,a2⟩:∃x,x=p/18446744073709551616:=⟨_,rfl⟩;obtain⟨lo,a4⟩:∃x,x=p%18446744073709551616:=⟨_,rfl⟩;rw[←a2,←a4];refine Zj ?_;refine uF (x:=lo) (y:=c) (c:=0) R5 zd ?_;obtain⟨M,a5⟩:∃x,x=(lo+c+0)%18446744073709551616:=⟨_,rfl⟩;obtain⟨G,a1⟩:∃x,x=(lo+c+0)/18446744073709551616:=⟨_,rfl⟩;rw[←a5,←a1];refine Zz ?_;refine yT (a:=J) (b:=G) R6 Z<|Zj ?_;refine ya (f:=fun d:Nat=>U .u64 (d:Int)) (j:=O D) R7 Z1 R2 (tR K) (fun _=>rfl) R4 fun _=>?_;repeat refine zR ?_
 refine qM (x:=z) (y:=M) (c:=0) R5 zd ?_;obtain⟨C,m⟩:∃x,x=(z+18446744073709551616-M-0)%18446744073709551616:=⟨_,rfl⟩;obtain⟨H,i⟩:∃x,x=(if M+0≤z then 0 else 1):=⟨_,rfl⟩;rw[←m,←i];have Z3:M<18446744073709551616:=Z;have a6:=u4 (c:=0) a9 Z3 zd;rw[←m,←i]at a6;have ab:H≤1:=by rw[i];split<;>decide
 have ac:C<18446744073709551616:=by rw[m];exact Ce
 repeat refine zR ?_
 refine yW (j:=O D) (off:=O P) (v:=U .u64 (C:Int)) R8 rfl ⟨Z,by rw[zQ,Do,Do,u];omega⟩ g hb (fun _=>rfl) R3 (fun _=>rfl) rfl fun _=>?_;rw[yA,jJ _ K];refine Zz ?_;refine yT (a:=J+G) (b:=H) R6 Z<|Zl ?_;refine goOn (D++[C],J+G+H) (by show O X-O (D++[C])<O X-O D;rw[Do,Dy];omega) ⟨rfl,rfl,rfl,rfl,rfl,eP,Df⟩ ⟨rfl,fun x A=>by
  rcases DR.1 A with rfl|A
  .rfl
  .exact hW x A,fun y hy T=>(zg T).trans (B y hy T),fun h=>Aq,ze _ _ _,by show(D++[C]).length≤_;rw[Do,Dy];omega,G7 s Z,by show J+G+H<_;omega,?_⟩
 simp only;rw[Do,Dy,xq,zV hv,zV K,DI];exact Vm I (by rw[←hp];omega)
theorem Vo{B v1 v2 vr a w2 wr P:Nat}(y:2≤B)(j:B≤2*v1)(b:v2<B)(l:vr<P)(m:w2<B):B-1≤(((v1*B+a)*B+w2)*P+wr)/((v1*B+v2)*P+vr)+1:=by
 have g:0<P:=Z;have i:0<(v1*B+v2)*P+vr:=by
  have:1*1≤v1*B:=Es Z Z;have:1*1≤(v1*B+v2)*P:=Es Z g;omega
 obtain⟨D,rfl⟩:∃D,B=D+2:=⟨B-2,Z⟩;have o:D≤(((v1*(D+2)+a)*(D+2)+w2)*P+wr)/((v1*(D+2)+v2)*P+vr):=by
  rw[Ge i];have e:(v1*(D+2)+v2)*P+vr≤(v1*(D+2)+v2+1)*P:=by rw[DE _ 1];omega
  refine Ed (DT D e) ?_;rw[←DG];have f:D*(v1*(D+2)+v2+1)≤v1*(D+2)*(D+2):=by
   have c:D*(v1*(D+2)+v2+1)=D*(v1*(D+2))+D*(v2+1):=by rw[HO,D4]
   have d:v1*(D+2)*(D+2)=v1*(D+2)*D+v1*(D+2)*2:=D4 _ _ _;have p:D*(v2+1)≤D*(D+2):=DT _ b;have q:(D+2)*(D+2)≤2*v1*(D+2):=Dw _ j;have s:D*(D+2)≤(D+2)*(D+2):=Dw _ Z;have u:2*v1*(D+2)=v1*(D+2)*2:=by rw[DG,Dt 2]
   rw[c,d,Dt D (v1*(D+2))];omega
  have v:=Dw P f;have w:v1*(D+2)*(D+2)*P≤((v1*(D+2)+a)*(D+2)+w2)*P:=Dw P AY;omega
 omega
structure WinD (W V:List Nat)(m:Nat):Prop where
 wl:O W=m+3
 vl:O V=m+2
 wd:KQ W
 vd:KQ V
 top:∀x,V[m+1]?=some x→9223372036854775808≤x
 lt:wv W<18446744073709551616*wv V
theorem ck(k:Nat){h:HF}{n:Nat}{a1 a2:Option Addr}{l1 Z4 l2 c2 m:Nat}{W V:List Nat}(Z0:Sl h n 1 (Y a1 l1 Z4) (u64s W))(Z3:Sl h n 1 (Y a2 l2 c2) (u64s V))(hD:WinD W V m)(hb:m<1000000000):
  VF (KO (k+4)) 239 [Y a1 l1 Z4,Y a2 l2 c2] h n fun v=>∃q:Nat,v=U .u64 (q:Int)∧q<18446744073709551616∧wv W/wv V≤q∧q≤wv W/wv V+1:=by
 refine zB (fn:=Tryz.f239) R4 ?_;have e1:=Z0.lenW;have e2:=Z3.lenW;subst e1 e2;obtain⟨wl,vl,wd,vd,a8,C⟩:=hD;rw[wl]at Z0⊢;rw[vl]at Z3⊢;obtain⟨c,F⟩:∃x,V[m+1]?=some x:=⟨V[m+1]'Z,Dm Z⟩;obtain⟨g,R⟩:∃x,V[m]?=some x:=⟨V[m]'Z,Dm Z⟩;obtain⟨A,H⟩:∃x,W[m+2]?=some x:=⟨W[m+2]'Z,Dm Z⟩;obtain⟨w1,S⟩:∃x,W[m+1]?=some x:=⟨W[m+1]'Z,Dm Z⟩;obtain⟨i,I⟩:∃x,W[m]?=some x:=⟨W[m]'Z,Dm Z⟩;have hn:=a8 c F;have a7:=vd.get F;have u:=vd.get R;have ao:=wd.get H;have ai:=wd.get S;have T:=wd.get I;have eW:wv W=((A*18446744073709551616+w1)*18446744073709551616+i)*18446744073709551616^m+wv (W.take m):=PB wl H S I;have eV:wv V=(c*18446744073709551616+g)*18446744073709551616^m+wv (V.take m):=NZ vl F R;have a6:wv (W.take m)<18446744073709551616^m:=by
  have:=um (wd.take m);exact B9
 have G:wv (V.take m)<18446744073709551616^m:=by
  have:=um (vd.take m);exact B9
 rw[eW,eV]at C⊢;generalize 18446744073709551616^m=P at*
 generalize wv (W.take m)=wr at*
 generalize wv (V.take m)=vr at*
 have ah:=PA G u C;obtain⟨e,ht⟩:∃t,t=A*18446744073709551616+w1:=⟨_,rfl⟩;rw[←ht]at C ah⊢;have al:((e*18446744073709551616+i)*P+wr)/((c*18446744073709551616+g)*P+vr)<18446744073709551616:=by
  rw[Ff Z];exact C
 refine Zx ?_;rw[yH rfl];repeat refine zR ?_
 refine ya (f:=fun d:Nat=>U .u64 (d:Int)) (j:=m+1) R7 Z3 ⟨rfl,Z⟩ F (fun _=>rfl) R4 fun _=>?_;repeat refine zR ?_
 refine ya (f:=fun d:Nat=>U .u64 (d:Int)) (j:=m) R7 Z3 ⟨rfl,Z⟩ R (fun _=>rfl) R4 fun _=>?_;refine Zj ?_;refine ya (f:=fun d:Nat=>U .u64 (d:Int)) (j:=m+2) R7 Z0 ⟨rfl,Z⟩ H (fun _=>rfl) R4 fun _=>?_;by_cases hfull:c≤A
 .refine Zo ?_;have h0:A=c:=Z;subst h0;refine retF _ rfl (zj rfl) R2 ⟨18446744073709551615,rfl,by decide,Z,?_⟩;rw[ht];exact Vo (B:=18446744073709551616) zd Z u G T
 refine Zk ?_;refine zn [0,0,3,7,0,0,32,112,240,0,1023,2047,4095,4095,8191,32767] rfl ?_;obtain⟨b1,o1,x1,a9,rfl,am,J,o,aj,ak,L⟩:=Z0.inv Z;have l:∀{j x:Nat},W[j]?=some x→a9[o1+j]?=some (U .u64 (x:Int)):=fun hj=>wq L (by rw[u64s,List.getElem?_map,hj];rfl);repeat refine zE ?_
 refine mY R8 Z<|zS R6 (zL rfl J (v:=U .u64 (A:Int)) ⟨o,(by rw[←l H];congr 1;omega)⟩) R2 ?_;repeat refine zE ?_
 refine mY R8 Z<|zS R6 (zL rfl J (v:=U .u64 (w1:Int)) ⟨o,(by rw[←l S];congr 1;omega)⟩) R2 ?_;repeat refine zE ?_
 refine mW _ R7 (nG k h n (show A<c by omega) ai a7) ?_;rintro _ rfl;rw[←ht];repeat refine zE ?_
 refine zN ?_;have Z1:=nE (B:=18446744073709551616) (v1:=c) (v2:=g) (vr:=vr) (top:=e) (w2:=i) (wr:=wr) (P:=P) Z T a6;have ab:e/c*c+e%c=e:=by rw[Dt];exact CW
 have aa:e/c<18446744073709551616:=by
  rw[Ff Z,ht];have:(A+1)*18446744073709551616≤c*18446744073709551616:=Dw _ Z;rw[Dt 18446744073709551616];omega
 refine zK (α:=Nat×Nat) (fun z=>[(0,Y (some ⟨b1,o1,none⟩) (m+3) Z4),(5,U .i64 ((m+2:Nat):Int)),(6,U .u64 (c:Int)),(7,U .u64 (g:Int)),(8,U .u64 (z.1:Int)),(9,U .u64 (z.2:Int))])
  (fun z K n' w=>h=K∧n=n'∧w=[]∧z.1<18446744073709551616∧z.2<18446744073709551616∧z.1*c+z.2=e∧((e*18446744073709551616+i)*P+wr)/((c*18446744073709551616+g)*P+vr)≤z.1) (fun z=>2-z.2/9223372036854775808)
  (e/c,e%c) V6 ⟨rfl,rfl,rfl,aa,ID (EA _ Z) a7,ab,Z1⟩ (by show 2-e%c/9223372036854775808<LL;unfold LL;omega) ?_
 rintro⟨q,r⟩ t _ _ _ ⟨rfl,rfl,rfl,M,hr,D,a5⟩;simp only at M hr D a5;refine Zp ?_;refine ye _ R5 (qX (k+2) h n M u) ?_;rintro _ rfl;obtain⟨p,hp⟩:∃p,p=q*g:=⟨_,rfl⟩;have ag:=ou M u;rw[←hp]at ag⊢;have a3:∀t':TF,t' 4=U .u64 (q:Int)→p≤r*18446744073709551616+i→∃y:Nat,U .u64 (q:Int)=U .u64 (y:Int)∧y<18446744073709551616∧((e*18446744073709551616+i)*P+wr)/((c*18446744073709551616+g)*P+vr)≤y∧y≤((e*18446744073709551616+i)*P+wr)/((c*18446744073709551616+g)*P+vr)+1:=fun _ _ hc=>
  ⟨q,rfl,M,a5,NY Z zd G D (by rw[←hp];exact hc) M⟩
 obtain⟨s,ad⟩:∃x,x=p/18446744073709551616:=⟨_,rfl⟩;obtain⟨lo,ae⟩:∃x,x=p%18446744073709551616:=⟨_,rfl⟩;rw[←ad,←ae];have af:p=s*18446744073709551616+lo:=Z;repeat refine zR ?_
 simp only[zX,yi,zm,yj];by_cases L:s<r
 .refine Zc ?_;rw[zc rfl];refine Zc ?_;exact retF _ rfl (zj rfl) R2 (a3 (fun _=>U .u64 (q:Int)) rfl (by
   have:(s+1)*18446744073709551616≤r*18446744073709551616:=Dw _ L;omega))
 by_cases a4:s=r∧lo≤i
 .obtain⟨rfl,a4⟩:=a4;refine Zg ?_;refine wn R8 Z<|zi R6 J (v:=U .u64 (i:Int)) ⟨o,(by rw[←l I];congr 1;omega)⟩ ?_;refine Zo ?_;exact retF _ rfl (zj rfl) R2 (a3 (fun _=>U .u64 (q:Int)) rfl Z)
 have ac:r*18446744073709551616+i<q*g:=by
  rw[←hp,af];rcases EG r s with K|K
  .have:(r+1)*18446744073709551616≤s*18446744073709551616:=Dw _ K;omega
  have:s=r:=Z;subst this;omega
 have a0:=im (vr:=vr) T a6 D ac;have an:1≤q:=DP Di a0;refine yp (α:=Unit) (fun _=>[(0,Y (some ⟨b1,o1,none⟩) (m+3) Z4),(5,U .i64 ((m+2:Nat):Int)),(6,U .u64 (c:Int)),(7,U .u64 (g:Int)),(8,U .u64 (q:Int)),(9,U .u64 (r:Int)),(66,Dk false)]) (fun _ K n' w=>h=K∧n=n'∧w=[]) ?_ ?_
 .by_cases hc3:s=r
  .subst hc3;refine Zg ?_;refine wn R8 Z<|zi R6 J (v:=U .u64 (i:Int)) ⟨o,(by rw[←l I];congr 1;omega)⟩ ?_;refine Zb ?_;exact zC () V7 R3
  refine Zc ?_;exact zC () V7 R3
 rintro _ t _ _ _⟨rfl,rfl,rfl⟩;rw[za rfl];refine Zd ?_;refine yn (a:=q) (b:=1) R6 Z<|Zz ?_;refine tI (a:=r) (b:=c) R6<|Zb ?_;have N:(q-1)*c+(r+c)=e:=by
  obtain⟨y,rfl⟩:∃y,q=y+1:=⟨q-1,Z⟩;rw[DE]at D;rw[FR];omega
 by_cases hov:r+c<18446744073709551616
 .rw[Dz hov];refine Zk ?_;exact goOn (q-1,r+c) (by show 2-(r+c)/9223372036854775808<2-r/9223372036854775808;omega) V6 ⟨rfl,rfl,rfl,by show q-1<_;omega,hov,N,by show _≤q-1;omega⟩
 rw[show(r+c)%18446744073709551616=r+c-18446744073709551616 from Z];refine Zo ?_;refine retF _ rfl (zj rfl) R2 ⟨q-1,rfl,Z,Z,NY Z zd G N ?_ Z⟩;have h1:=ou (v:=q-1) (w:=g) Z u;have h2:18446744073709551616*18446744073709551616≤(r+c)*18446744073709551616:=Dw _ Z;omega
theorem ek{s:Nat}(b:s≤64):(18446744073709551616:Nat)=2^(64-s)*2^s:=by rw[←EH,show 64-s+s=64 from Z]
theorem eI{w s:Nat}(b:s≤64):w*2^s%18446744073709551616=w%2^(64-s)*2^s:=by
 rw[ek b,HP]
theorem Vp{w s:Nat}(d:s≤64)(b:c<2^s):c|||w*2^s%18446744073709551616=c+w*2^s%18446744073709551616:=by
 rw[eI d,Nat.or_comm,gA b,EY]
theorem PS{w s:Nat}(b:s≤64)(f:c<2^s):c+w*2^s%18446744073709551616<18446744073709551616:=by
 have d:w%2^(64-s)+1≤2^(64-s):=EA _ (Er zd);have e:=Dw (2^s) d;rw[DE,EM,←ek b]at e;rw[eI b];omega
theorem PT{w s:Nat}(b:s≤64)(d:w<18446744073709551616):w/2^(64-s)<2^s:=by
 rw[Ff (Er zd),Dt,←ek b];exact d
theorem gw(n:Nat):2^n=18446744073709551616^(n/64)*2^(n%64):=by
 rw[show(18446744073709551616:Nat)=2^64 from rfl,←Hj,←EH,EP]
theorem Vr{w s S:Nat}(b:V+c*P=Z4*S)(e:w*S=c'*18446744073709551616+lo)(d:s=c+lo):V+P*s+c'*(P*18446744073709551616)=(Z4+P*w)*S:=by
 subst d;rw[DE Z4,←b,DG P w S,e,D4,D4,Dt c P,ER c' P];omega
theorem bo(m:Nat):wv (Dp m 0)=0:=rf _ _
theorem r7(k:Nat)(I:Sl h n 1 (Y a l c) (u64s X))(Z0:NW X)(J:O X<100000000∧m<6400000000):
  CF (KO (k+2)) 232 [Y a l c,U .u64 (m:Int)] h n fun v G Z3 w=>∃L,ResW n h v G Z3 w L∧wv L=wv X*2^m∧(yh n v∨v=Y a l c):=by
 refine zl (fn:=Tryz.f232) R4 ?_;have e1:=I.lenW;subst e1;refine Zc ?_;by_cases hX0:O X=0
 .have T:=DA.1 hX0;refine Zo ?_;exact retH _ ⟨rfl,(zj rfl),rfl⟩ ⟨X,⟨rfl,Dh,FU _ _,I,Z0⟩,by rw[T,show wv []=0 from rfl,EI],.inr rfl⟩
 by_cases hm0:m=0
 .refine Zo ?_;exact retH _ ⟨rfl,(zj rfl),rfl⟩ ⟨X,⟨rfl,Dh,FU _ _,I,Z0⟩,by rw[hm0,FD,Ek],.inr rfl⟩
 refine Zk ?_;rw[gw m];obtain⟨g,R⟩:∃x,x=m/64:=⟨_,rfl⟩;obtain⟨s,hs⟩:∃x,x=m%64:=⟨_,rfl⟩;rw[←R,←hs];have o:s≤64:=Z;refine zM ?_;refine xO (a:=m) (b:=64) R6 Z ?_;rw[←R];refine vk (ik:=.i64) (a:=(g:Int)) R6 An ?_;refine zM ?_;refine vg (a:=m) (b:=64) R6 Z ?_;rw[←hs];refine Zj ?_;refine xP (len:=O X+g+1) (cap:=O X+g+1) R9 Z ?_;rw[show zr (U .u64 0)=[U .u64 0]from rfl,wK];generalize hh:upd h (3*n+2) _=A;have i:∃e,A (3*n+2)=some (.row (u64s (Dp g 0++([]++0::Dp (O X) 0))) e):=⟨_,by rw[←hh,ze,El,←Fx,Hx,show g+(O X+1)=O X+g+1 from Z]⟩;obtain⟨e,i⟩:=i;have q:KN n h A:=by rw[←hh];exact C4
 refine Zl ?_;refine zK (α:=List Nat×Nat) (fun z=>[(5,U .i64 (g:Int)),(6,U .u64 (s:Int)),(7,Y (some ⟨3*n+2,0,none⟩) (O X+g+1) (O X+g+1)),(29,Y a (O X) c),(30,U .i64 (O X:Int)),(31,U .i64 (O z.1:Int))])
  (fun z G Z3 w=>Z3=n+1∧w=[]∧KN n h G∧G (3*n+2)=some (.row (u64s (Dp g 0++(z.1++z.2::Dp (O X-O z.1) 0))) e)∧O z.1≤O X∧KQ z.1∧z.2<2^s∧wv z.1+z.2*18446744073709551616^O z.1=wv (X.take (O z.1))*2^s) (fun z=>O X-O z.1)
  ([],0) V6 ⟨rfl,rfl,q,i,Di,IB,Er zd,xd⟩ A4 ?_
 rintro⟨D,p⟩ t A _ _ ⟨rfl,rfl,q,i,hD,B,y,H⟩;simp only at i hD B y H;have C:p<18446744073709551616:=DY y (Ed (DJ zd o) zd);refine zN ?_;by_cases hDX:O D=O X
 .rw[hDX,Ee,FK]at i;rw[hDX,DO]at H;refine Zv ?_;have a3:=xR k (h:=A) (n:=n+1) (a:=some ⟨3*n+2,0,none⟩) (len:=O X+g+1) (cap:=O X+g+1) (l:=Dp g 0++(D++[p])) eN (fun _ e=>by injection e with e;rw[←e]) (wf Z i eN);refine zk _ R5 a3 ?_;rintro _ _ _ _⟨rfl,rfl,rfl,rfl,a2⟩;refine Zb ?_;obtain⟨t1,t2⟩:=wB (L:=Dp g 0++(D++[p])) ((am9 g).append (G7 B C));refine retH _ ⟨rfl,(zj rfl),rfl⟩ ⟨_,⟨rfl,DM n,q,a2,t1⟩,?_,.inl bR⟩;rw[t2,un,bo,DV,D7,xq,hDX,Dt (18446744073709551616^O X) p,H,ER]
 obtain⟨w,W⟩:∃x,X[O D]?=some x:=⟨X[O D]'Z,Dm Z⟩;have a4:=Z0.1.get W;obtain⟨u,a0⟩:∃m,O X-O D=m+1:=⟨O X-O D-1,Z⟩;rw[a0]at i;have F:O (Dp g 0++(D++p::Dp (u+1) 0))=O X+g+1:=by simp;omega
 have hZ:=wf (n:=n+1) Z i F;have K:(Dp g 0++(D++p::Dp (u+1) 0))[O D+g]?=some p:=by
  rw[DL cA,DV,FR,DL Dh,Ee];rfl
 have M:∀d,(Dp g 0++(D++p::Dp (u+1) 0)).set (O D+g) d=Dp g 0++(D++d::Dp (u+1) 0):=fun d=>by
  rw[Eo _ _ cA,DV,FR,Eo _ _ Dh,Ee];rfl
 have N:∀d S,(Dp g 0++(D++d::Dp (u+1) 0)).set (O D+g+1) S=Dp g 0++((D++[d])++S::Dp u 0):=fun d S=>by
  rw[Eo _ _ eN,DV,show (O D)+g+1-g=O D+1 from Z,Eo _ _ Z,show (O D)+1-O D=1 from Z,Fx];simp
 refine Zr ?_;refine ya (f:=fun d:Nat=>U .u64 (d:Int)) (j:=O D) R7 (I.ext q (DM n)) R2 W (fun _=>rfl) R4 fun _=>?_;refine Zj ?_;refine ya (f:=fun d:Nat=>U .u64 (d:Int)) (j:=O D+g) R7 hZ ⟨rfl,Z⟩ K (fun _=>rfl) R4 fun _=>?_;refine Zi ?_;refine yS (a:=w) (s:=s) R6 o<|xZ (a:=p) (b:=w*2^s%18446744073709551616) R6 ⟨C,EA _ zd⟩ ?_;rw[Vp o y];have Z1:=PS (w:=w) o y;obtain⟨d,hd⟩:∃d,d=p+w*2^s%18446744073709551616:=⟨_,rfl⟩;rw[←hd]at Z1⊢;refine xG (j:=O D+g) (v:=U .u64 (d:Int)) R8 Z ⟨Z,by rw[zQ,F];omega⟩ i bR (fun _=>rfl) R3 (fun _=>rfl) rfl fun _=>?_;rw[yA,M];generalize hh:upd A (3*n+2) _=h2;have a1:h2 (3*n+2)=some (.row (u64s (Dp g 0++(D++d::Dp (u+1) 0))) e):=by rw[←hh,ze]
 have a5:KN n h h2:=fun b J=>by rw[←hh,zg Z,q b J]
 refine Zd ?_;refine ZA ?_;refine zR ?_;refine Zi ?_;refine yn (a:=64) (b:=s) R6 Z<|yg (a:=w) (s:=64-s) R6 Z ?_;refine xG (j:=O D+g+1) (v:=U .u64 ((w/2^(64-s):Nat):Int)) R8 Z ⟨Z,AP⟩ a1 bR (fun _=>rfl) R3 (fun _=>rfl) rfl fun _=>?_;rw[yA,N];refine Zl ?_;refine goOn (D++[d],w/2^(64-s)) (by show O X-O (D++[d])<O X-O D;rw[Do,Dy];omega) ⟨rfl,rfl,rfl,rfl,rfl,eP,Df⟩ ⟨rfl,rfl,fun b J=>(zg Z).trans (a5 b J),?_,by show(D++[d]).length≤_;rw[Do,Dy];omega,G7 B Z1,PT o a4,?_⟩
 .refine(ze _ _ _).trans ?_;simp only;rw[show (O X)-O (D++[d])=u from by rw[Do,Dy];omega]
 simp only;rw[Do,Dy,xq,zV W,DI];exact Vr H (gd o) hd
def Mg(X:List Nat)(j s:Nat):Nat:=((X[j]?).getD 0)%2^s
theorem Vs{x r S z b:Nat}(o:V*S+r=Z4+x%S*P)(i:z*S=x-x%S+b*18446744073709551616)(p:x%S≤x):(V+P*z)*S+r=Z4+P*x+b*(P*18446744073709551616):=by
 have e:(V+P*z)*S=V*S+P*(z*S):=by rw[DE,DG]
 obtain⟨y,g⟩:∃y,x=y+x%S:=⟨x-x%S,Z⟩;have d:x-x%S=y:=Z;rw[e,i,d,D4];have f:P*x=P*y+P*(x%S):=by conv=>lhs;rw[g,D4]
 rw[f,ER b P,Dt P (x%S)];omega
theorem Vt{x y s:Nat}(e:s≤64):(x/2^s|||y*2^(64-s)%18446744073709551616)*2^s=x-x%2^s+y%2^s*18446744073709551616∨18446744073709551616≤x:=by
 by_cases hx:x<18446744073709551616
 .left;have f:x/2^s<2^(64-s):=by
   rw[Ff (Er zd),←ek e];exact hx
  have d:64-(64-s)=s:=Z;have b:=eI (w:=y) (s:=64-s) Z;rw[d]at b;rw[b,Nat.or_comm,gA f,DE,DG,←ek e,EY];have:=EP x (2^s);have g:x/2^s*2^s=x-x%2^s:=by rw[Dt];omega
  rw[g]
 right;omega
theorem Vu(X:List Nat)(j s:Nat):Mg X j s<2^s:=EA _ (Er zd)
theorem PU{s x:Nat}(h:X[j]?=some x):Mg X j s=x%2^s:=by unfold Mg;rw[h];rfl
theorem PV{s:Nat}(h:O X≤j):Mg X j s=0:=by unfold Mg;rw[List.getElem?_eq_none h];exact aa6 _
theorem Vv(b:KQ X):wv X/2^m=wv (X.drop (m/64))/2^(m%64):=by
 rw[gw m,←Gb];congr 1;rcases EG (O X) (m/64)with h|h
 .rw[Ga Z,show wv []=0 from rfl,Fz];exact DY (um b) (DJ zd Z)
 have d:wv (X.take (m/64))<18446744073709551616^(m/64):=by
  have:=um (b.take (m/64));rw[DW,Ev h]at this;exact this
 rw[nh X (m/64) h,HW _ _ (Er zd),Fz d,D7]
theorem mu(k:Nat)(W:Sl h n 1 (Y a l c) (u64s X))(nX:NW X)(K:O X<100000000∧m<18446744073709551616):
  CF (KO (k+2)) 237 [Y a l c,U .u64 (m:Int)] h n fun v p I w=>∃L,ResW n h v p I w L∧wv L=wv X/2^m∧yh n v:=by
 refine zl (fn:=Tryz.f237) R4 ?_;have e1:=W.lenW;subst e1;rw[Vv nX.1];obtain⟨g,C⟩:∃x,x=m/64:=⟨_,rfl⟩;obtain⟨s,hs⟩:∃x,x=m%64:=⟨_,rfl⟩;have B:s≤64:=Z;rw[←C,←hs];refine Zc ?_;refine zM ?_;refine xO (a:=m) (b:=64) R6 Z ?_;rw[←C];refine zM ?_;refine st_I (ik:=.i64) (a:=(O X:Int)) R5<|yO (c:=O X) R7 Z ?_;by_cases hbig:O X≤g
 .refine Zo ?_;exact retH _ ⟨rfl,(zj rfl),rfl⟩ ⟨[],⟨rfl,Dh,FU _ _,.nil (.inl rfl),KF⟩,by rw[Ga hbig,show wv []=0 from rfl,Nat.zero_div],Df⟩
 refine Zy ?_;refine xO (a:=m) (b:=64) R6 Z ?_;rw[←C];refine vk (ik:=.i64) (a:=(g:Int)) R6 An ?_;refine zM ?_;refine vg (a:=m) (b:=64) R6 Z ?_;rw[←hs];refine Zb ?_;obtain⟨N,hN⟩:∃N,N=O X-g:=⟨_,rfl⟩;refine zM ?_;refine st_I (ik:=.i64) (a:=(O X:Int)) R5<|zM ?_;refine rZ (a:=(O X:Int)) (b:=(g:Int)) R6 Z ?_;rw[show(O X:Int)-(g:Int)=(N:Int)from Z];refine xP (len:=N) (cap:=N) R9 Z ?_;rw[show zr (U .u64 0)=[U .u64 0]from rfl,wK];generalize hh:upd h (3*n+2) _=q;have i:∃e,q (3*n+2)=some (.row (u64s ([]++Dp N 0)) e):=⟨_,kS⟩;obtain⟨e,i⟩:=i;have o:KN n h q:=by rw[←hh];exact C4
 have S:O (X.drop g)=N:=by rw[Ea];omega
 obtain⟨Z3,Z0⟩:∃Z3,Z3=X.drop g:=⟨_,rfl⟩;rw[←Z0]at S⊢;have R:∀j,Z3[j]?=X[j+g]?:=fun j=>by rw[Z0,Em,EY]
 have aa:KQ Z3:=by rw[Z0];exact nX.1.drop g
 refine Zl ?_;refine zK (α:=List Nat) (fun D=>[(0,Y a (O X) c),(5,U .i64 (g:Int)),(6,U .u64 (s:Int)),(7,Y (some ⟨3*n+2,0,none⟩) N N),(26,U .i64 (N:Int)),(27,U .i64 (O D:Int))])
  (fun D p I w=>I=n+1∧w=[]∧KN n h p∧p (3*n+2)=some (.row (u64s (D++Dp (N-O D) 0)) e)∧O D≤N∧KQ D∧wv D*2^s+Mg Z3 0 s=wv (Z3.take (O D))+Mg Z3 (O D) s*18446744073709551616^O D) (fun D=>N-O D)
  [] V6 ⟨rfl,rfl,o,i,Di,IB,xd⟩ Bq ?_
 rintro D t q _ _⟨rfl,rfl,o,i,hD,M,J⟩;refine zN ?_;by_cases hDN:O D=N
 .rw[hDN,Ee,FK,DZ]at i;rw[hDN,PV (X:=Z3) (j:=N) Z,EI,Ej,←S,DO]at J;refine Zv ?_;have a5:=xR k (h:=q) (n:=n+1) (a:=some ⟨3*n+2,0,none⟩) (len:=N) (cap:=N) (l:=D) Z (fun _ e=>by injection e with e;rw[←e]) (wf Z i hDN);refine zk _ R5 a5 ?_;rintro _ _ _ _⟨rfl,rfl,rfl,rfl,a4⟩;refine Zb ?_;obtain⟨t1,t2⟩:=wB M;refine retH _ ⟨rfl,(zj rfl),rfl⟩ ⟨_,⟨rfl,DM n,o,a4,t1⟩,?_,bR⟩;rw[t2,←J,EY,IK _ _ (Er zd),Fz (Vu _ _ _),D7]
 obtain⟨x,hx⟩:∃x,X[O D+g]?=some x:=⟨X[O D+g]'Z,Dm Z⟩;have a7:=nX.1.get hx;have T:Z3[O D]?=some x:=by rw[R];exact hx
 obtain⟨H,a2⟩:∃m,N-O D=m+1:=⟨N-O D-1,Z⟩;rw[a2]at i;have Z1:=W.ext o (DM n);have G:x/2^s<18446744073709551616:=DP (FL _ _) a7;refine Zo ?_;repeat refine zR ?_
 refine ya (f:=fun d:Nat=>U .u64 (d:Int)) (j:=O D+g) R7 Z1 ⟨rfl,Z⟩ hx (fun _=>rfl) R4 fun _=>?_;refine zM ?_;refine yg (a:=x) (s:=s) R6 B ?_;refine xG (j:=O D) (v:=U .u64 ((x/2^s:Nat):Int)) R8 rfl ⟨Z,by rw[zQ];simp⟩ i bR (fun _=>rfl) R3 (fun _=>rfl) rfl fun _=>?_;rw[yA,qO];generalize hh:upd q (3*n+2) _=h2;have A:h2 (3*n+2)=some (.row (u64s ((D++[x/2^s])++Dp H 0)) e):=by rw[←hh,ze]
 have F:KN n h h2:=fun b K=>by rw[←hh,zg Z,o b K]
 have a1:=W.ext F (DM n);have u:O ((D++[x/2^s])++Dp H 0)=N:=by simp;omega
 have a0:((D++[x/2^s])++Dp H 0)[O D]?=some (x/2^s):=by rw[DN,DL Dh,Ee];rfl
 refine Zg ?_;simp only[zX,yi,zm,yj];refine PI (α:=Nat) (fun _=>[(0,Y a (O X) c),(5,U .i64 (g:Int)),(6,U .u64 (s:Int)),(7,Y (some ⟨3*n+2,0,none⟩) N N),(26,U .i64 (N:Int)),(27,U .i64 (O D:Int))])
  (fun z p I w=>I=n+1∧w=[]∧KN n h p∧p (3*n+2)=some (.row (u64s ((D++[z])++Dp H 0)) e)∧z<18446744073709551616∧z*2^s=x-x%2^s+Mg Z3 (O D+1) s*18446744073709551616) ?_ ?_
 .by_cases hlast:O D+g+1<O X
  .obtain⟨y,hy⟩:∃x,X[O D+g+1]?=some x:=⟨X[O D+g+1]'Z,Dm Z⟩;have a8:Z3[O D+1]?=some y:=by rw[R,show (O D)+1+g=O D+g+1 from Z];exact hy
   rw[zc gV];rw[PF rfl];repeat refine zR ?_
   refine ya (f:=fun d:Nat=>U .u64 (d:Int)) (j:=O D) R7 (wf (n:=n+1) Z A u) R2 a0 (fun _=>rfl) R4 fun _=>?_;repeat refine zR ?_
   refine ya (f:=fun d:Nat=>U .u64 (d:Int)) (j:=O D+g+1) R7 a1 ⟨rfl,Z⟩ hy (fun _=>rfl) R4 fun _=>?_;refine zM ?_;refine yn (a:=64) (b:=s) R6 Z<|yS (a:=y) (s:=64-s) R6 Z<|xZ (a:=x/2^s) (b:=y*2^(64-s)%18446744073709551616) R6 ⟨G,EA _ zd⟩ ?_;refine xG (j:=O D) (v:=U .u64 ((x/2^s|||y*2^(64-s)%18446744073709551616:Nat):Int)) R8 rfl ⟨Z,by rw[zQ,u];omega⟩ A bR (fun _=>rfl) R3 (fun _=>rfl) rfl fun _=>?_;rw[yA,DN,Eo _ _ Dh,Ee];refine zN ?_;refine zC (x/2^s|||y*2^(64-s)%18446744073709551616) V6 ⟨rfl,rfl,fun b K=>(zg Z).trans (F b K),(ze _ _ _).trans (by rw[DN];rfl),Nat.or_lt_two_pow (n:=64) G (EA _ zd),?_⟩;rw[PU a8];exact(Vt B).resolve_right Z
  rw[za gP];refine zN ?_;refine zC (x/2^s) V6 ⟨rfl,rfl,F,A,G,?_⟩;rw[PV Z,EI,Ej];have:=EP x (2^s);rw[Dt]at this;omega
 rintro z t h3 _ _⟨rfl,rfl,a6,a3,a9,hz⟩;refine Zc ?_;refine goOn (D++[z]) (by show N-O (D++[z])<N-O D;rw[Do,Dy];omega) ⟨rfl,rfl,rfl,rfl,rfl,eP,Df⟩ ⟨rfl,rfl,a6,?_,BH,G7 M a9,?_⟩
 .refine a3.trans ?_;rw[show N-O (D++[z])=H from by rw[Do,Dy];omega]
 rw[Do,Dy,xq,zV T,DI];rw[PU T]at J;exact Vs J hz (Nat.mod_le _ _)
theorem Vw{Z3 V:List Nat}{a s:Nat}(F:O Z3=m+2)(B:NW Z3)(y:Z3[m+1]?=some a)(q:9223372036854775808≤a*2^s)(i:a*2^s<18446744073709551616)(Z1:s<64)(e:NW V)(j:wv V=wv Z3*2^s):
  (O V)=m+2∧(∀x,V[m+1]?=some x→9223372036854775808≤x)∧wv V<18446744073709551616^(m+2)∧18446744073709551616^(m+1)*9223372036854775808≤wv V:=by
 have g:wv Z3=wv (Z3.take (m+1))+18446744073709551616^(m+1)*a:=by
  rw[←zV y,show m+1+1=O Z3 from Z,DO]
 have I:wv (Z3.take (m+1))<18446744073709551616^(m+1):=by
  have:=um (B.1.take (m+1));exact B9
 have o:(a+1)*2^s≤18446744073709551616:=by
  rw[ek (s:=s) Z]at i⊢;exact Dw _ (Nat.lt_of_mul_lt_mul_right i)
 rw[DI _ (m+1)];generalize hP:18446744073709551616^(m+1)=P at*
 have D:0<P:=Z;have f:wv V<P*18446744073709551616:=by
  rw[j,g];have J:(wv (Z3.take (m+1))+P*a)*2^s<(P*(a+1))*2^s:=by
   refine FG ?_ (Er zd);rw[D4,Ek];omega
  have K:P*(a+1)*2^s≤P*18446744073709551616:=by rw[DG];exact DT _ o
  omega
 have p:P*9223372036854775808≤wv V:=by
  rw[j,g,DE,DG];have:=DT P q;omega
 have H:O V≤m+2:=e.len_le (by rw[DI _ (m+1),hP];exact f);have G:m+2≤O V:=by
  rcases EG (O V) (m+2)with l|l
  .have M:=um e.1;have u:18446744073709551616^O V≤18446744073709551616^(m+1):=DJ zd Z;rw[hP]at u;omega
  exact l
 refine⟨Z,fun x w=>?_,f,p⟩;have L:wv V=wv (V.take (m+1))+P*x:=by
  rw[←hP,←zV w,show m+1+1=O V from Z,DO]
 have v:wv (V.take (m+1))<P:=by
  have:=um (e.1.take (m+1));rw[DW,Ev Z,hP]at this;exact this
 rcases EG x 9223372036854775808 with b|b
 .have:=DT P b;rw[Jf]at this;omega
 exact b
theorem Vx{P V:List Nat}(f:O Z0=N)(j:KQ Z0)(p:wv V<18446744073709551616^N)(h:wv ((P++(Z0++top::S)).drop (O P+1))<wv V)(o:1≤N):
  wv S=0∧wv (Z0++[top])<18446744073709551616*wv V:=by
 have e:(P++(Z0++top::S)).drop (O P+1)=(Z0++top::S).drop 1:=by rw[←ES,GC rfl]
 rw[e]at h;cases Z0 with
 |nil=>simp at f;omega
 |cons z Z0=>
  rw[List.cons_append,List.drop_succ_cons,EE]at h;rw[un,show wv (top::S)=top+18446744073709551616*wv S from rfl]at h;have g:O Z0+1=N:=by simpa using f
  have b:wv S=0:=by
   rcases FF (wv S)with a|a
   .exact a
   have i:18446744073709551616^O Z0*(18446744073709551616*1)≤18446744073709551616^O Z0*(18446744073709551616*wv S):=DT _ (DT _ a);rw[Ek,←DI,show Z0.length.succ=N from g]at i;rw[D4]at h;omega
  refine⟨b,?_⟩;have l:wv (Z0++[top])<wv V:=by
   rw[xq];rw[b,Fp,Ej]at h;exact h
  have q:=j z cA;show z+18446744073709551616*wv (Z0++[top])<_;omega
theorem Vy(P Z0 S:List Nat)(top:Nat):wv (P++(Z0++top::S))=wv P+18446744073709551616^O P*(wv (Z0++[top])+18446744073709551616^(O Z0+1)*wv S):=by
 rw[show Z0++top::S=(Z0++[top])++S from by simp,un,un,Do,Dy]
theorem Vz{P a V Q:List Nat}{b q e:Nat}(i:O a=O Z0)(g:wv (a++[b])+wv V*q=wv (Z0++[top]))(f:e=wv (P++(Z0++top::S))+wv V*wv Q*18446744073709551616^(O P+1)):
  e=wv (P++(a++b::S))+wv V*wv (q::Q)*18446744073709551616^O P:=by
 rw[Vy]at f⊢;rw[f,i,←g,DI _ (O P),show wv (q::Q)=q+18446744073709551616*wv Q from rfl];generalize 18446744073709551616^O P=A;generalize 18446744073709551616^(O Z0+1)*wv S=T;generalize wv (a++[b])=Z4;generalize wv V=v;generalize wv Q=w;rw[D4 v,DE,D4 A,D4 A,D4 A];have j:v*(18446744073709551616*w)*A=v*w*(A*18446744073709551616):=by
  rw[ER v,Dt A,←DG (v*w),Dt (v*w)]
 have l:A*(v*q)=v*q*A:=Dt _ _;omega
theorem VA{a V:List Nat}(b:O a=N)(G:O Z0=N)(i:KQ a)(l:0<wv V)(D:wv a+wv V*d=wv Z0+c*18446744073709551616^N)(u:wv (Z0++[top])/wv V≤d)(s:d≤wv (Z0++[top])/wv V+1):
  (c≤top→d=wv (Z0++[top])/wv V∧wv (a++[top-c])=wv (Z0++[top])%wv V)∧(top<c→d=wv (Z0++[top])/wv V+1∧wv (Z0++[top])%wv V+(c-top)*18446744073709551616^N=wv a+wv V):=by
 have w:=um i;rw[b]at w;have K:wv (Z0++[top])=wv Z0+18446744073709551616^N*top:=by rw[xq,G]
 have j:∀t,wv (a++[t])=wv a+18446744073709551616^N*t:=fun t=>by rw[xq,b]
 have e:=EP (wv (Z0++[top])) (wv V);have B:=EA (wv (Z0++[top])) l;obtain⟨q,H⟩:∃q,q=wv (Z0++[top])/wv V:=⟨_,rfl⟩;obtain⟨r,I⟩:∃r,r=wv (Z0++[top])%wv V:=⟨_,rfl⟩;rw[←H]at e u s⊢;rw[←I]at e B⊢;generalize 18446744073709551616^N=P at*
 generalize wv V=v at*
 generalize wv Z0=z at*
 have p:d=q∨d=q+1:=Z;constructor
 .intro o;obtain⟨y,g⟩:∃y,top=c+y:=⟨top-c,Z⟩;rw[j];have f:top-c=y:=Z;have F:P*top=c*P+P*y:=by rw[g,D4,Dt P c]
  rw[f];rcases p with rfl|rfl
  .exact⟨rfl,Z⟩
  rw[D4,Ek]at D;omega
 intro o;obtain⟨y,g⟩:∃y,c=top+(y+1):=⟨c-top-1,Z⟩;have f:c-top=y+1:=Z;have F:c*P=P*top+(y+1)*P:=by rw[g,DE,Dt P top]
 have J:(y+1)*P=y*P+P:=by rw[DE,EM]
 rw[f];rcases p with rfl|rfl
 .omega
 rw[D4,Ek]at D;exact⟨rfl,Z⟩
theorem fv(k:Nat)(hA:Sl h n 1 (Y a1 l1 c1) (u64s A))(hC:Sl h n 1 (Y a2 l2 c2) (u64s C))(nA:NW A)(nC:NW C)(p:O A<10000000∧O C<10000000)(ab:0<wv C):
  CF (KO (k+5)) 212 [Y a1 l1 c1,Y a2 l2 c2] h n fun v u n' w=>∃vq vr Lq Lr,v=.tuple #[vq,vr]∧w=[]∧n≤n'∧KN n h u∧Sl u n' 1 vq (u64s Lq)∧NW Lq∧Sl u n' 1 vr (u64s Lr)∧NW Lr∧wv Lq=wv A/wv C∧wv Lr=wv A%wv C∧yh n vq∧(yh n vr∨vr=Y a1 l1 c1):=by
 refine zl (fn:=Tryz.f212) R4 ?_;have e1:=hA.lenW;have e2:=hC.lenW;subst e1 e2;refine Zc ?_;refine Zi ?_;refine ye _ R5 (uA (k+1) hA hC nA nC Z) ?_;rintro _ rfl;by_cases hlt:wv A<wv C
 .rw[vW hlt];refine Zo ?_;exact retH [Y none 0 0,Y a1 (O A) c1] R3 ⟨_,_,[],A,rfl,rfl,Dh,FU _ _,.nil (.inl rfl),KF,hA,nA,by rw[Fz hlt];rfl,by rw[Dz hlt],trivial,.inr rfl⟩
 have e5:¬cmpZ (wv A) (wv C)<0:=by
  rcases EG (wv C) (wv A)with h|h
  .rw[uz h];decide
  rw[show wv A=wv C from Z,qy];decide
 refine Zk ?_;by_cases hC1:O C=1
 .obtain⟨y,rfl⟩:=GY.1 hC1;have Z1:=nC.1 y cA;rw[pV]at ab⊢;rw[show[y].length=1 from rfl]at hC⊢;refine Zr ?_;refine ya (f:=fun d:Nat=>U .u64 (d:Int)) (l:=[y]) (j:=0) R7 hC R2 rfl (fun _=>rfl) R4 fun _=>?_;refine zk _ R5 (U9 k Z nA.1 ⟨ab,Z1⟩ hA) ?_;rintro _ H g _⟨v1,L1,rfl,⟨rfl,av,b1,I,d2⟩,dq,_,de⟩;obtain⟨a3,l3,c3,rfl,_⟩:=I.len;refine Zj ?_;refine zk _ R5 (tY (k+3) H g (w:=wv A%y) (ID (EA _ ab) Z1)) ?_;rintro v2 h2 n2 _⟨L2,⟨rfl,di,a6,az,d3⟩,dr,_,df⟩;obtain⟨a4,l4,c4,rfl,_⟩:=az.len;refine Zb ?_;exact retH [Y a3 l3 c3,Y a4 l4 c4] R3 ⟨_,_,L1,L2,rfl,rfl,by show n≤n2;omega,b1.trans a6 av,I.ext a6 di,d2,az,d3,dq,dr,de,.inl (df.mono av)⟩
 have e9:2≤O C:=by
  rcases EG (O C) 2 with h|h
  .have:O C=0:=Z;rw[DA.1 this]at ab;exact oU ab zd
  exact h
 obtain⟨m,hm⟩:∃m,O C=m+2:=⟨O C-2,Z⟩;have e8:m+2≤O A:=by
  rcases EG (O A) (O C) with hl|hl
  .have:=nA.len_lt nC hl;omega
  omega
 rw[hm]at hC⊢;refine Zm ?_;obtain⟨y1,ah⟩:∃x,C[m+1]?=some x:=⟨C[m+1]'Z,Dm Z⟩;have cz:=nC.1.get ah;have cy:y1≠0:=by
  obtain⟨i,d,bd⟩:=Go.Proofs.YtfajmfoofmienaaGreatDoor.snoc (l:=C) (by intro e;rw[e]at hm;simp at hm);have dh:O i=m+1:=by rw[bd]at hm;simp at hm;omega
  rw[bd,←dh,DL Dh,Ee]at ah;have:d=y1:=by simpa using ah
  rw[←this];exact ak7 (by rw[←bd];exact nC)
 repeat refine zR ?_
 refine ya (f:=fun d:Nat=>U .u64 (d:Int)) (j:=m+1) R7 hC ⟨rfl,Z⟩ ah (fun _=>rfl) R4 fun _=>?_;refine ye _ R5 (dw (k+2) h n cz cy) ?_;rintro _⟨s,rfl,ct,I,az⟩;refine yO (c:=s) R7 Z<|Zz ?_;refine zk _ R5 (r7 (k+2) (m:=s) hC nC Z) ?_;rintro vV H g _⟨V,⟨rfl,av,b1,a5,nV⟩,bk,ea⟩;obtain⟨ap,bu,co,cn⟩:=Vw hm nC ah I az ct nV bk;obtain⟨aV,lV,cV,rfl,_⟩:=a5.len;have aq:=a5.lenW;rw[ap]at aq;subst aq;refine Zj ?_;refine xP (len:=O A+1) (cap:=O A+1) R9 Z ?_;rw[show zr (U .u64 0)=[U .u64 0]from rfl,wK];generalize hh:upd H (3*g+2) _=h2;have ay:∃e,h2 (3*g+2)=some (.row (u64s (Dp (O A+1) 0)) e):=⟨_,kz⟩;obtain⟨eR,ay⟩:=ay;have a6:KN g H h2:=by rw[←hh];exact C4
 refine Zz ?_;refine zM ?_;refine zk _ R5 (r7 (k+2) (m:=s) (hA.ext (b1.trans a6 av) (show n≤g+1 by omega)) nA Z) ?_;rintro vS h3 o _⟨S0,⟨rfl,eb,bl,b0,nS⟩,ch,_⟩;obtain⟨aS,lS,cS,rfl,_⟩:=b0.len;have bs:=b0.lenW;subst bs;have c9:h3 (3*g+2)=_:=(bl _ Z).trans ay;have b2:=um nA.1;have cm:wv S0<18446744073709551616^(O A+1):=by
  rw[ch,DI];have H:(2:Nat)^s<18446744073709551616:=Nat.pow_lt_pow_right zd (show s<64 by omega);have h2:wv A*2^s≤wv A*18446744073709551616:=DT _ Z;have h3:wv A*18446744073709551616<18446744073709551616^O A*18446744073709551616:=FG b2 zd;omega
 have b7:O S0≤O A+1:=nS.len_le cm;refine jD (m:=O S0) R7 (uW b0) b7 c9 (by rw[zQ,zQ,DV];exact b7) (wR S0) A5 ?_;rw[zQ,qK,←uq,Ih];obtain⟨L,ac⟩:∃R,R=S0++Dp (O A+1-O S0) 0:=⟨_,rfl⟩;rw[←ac];have b5:O L=O A+1:=by rw[ac,Do,DV];omega
 have b4:KQ L:=by rw[ac];exact nS.1.append (am9 _)
 have ai:wv L=wv A*2^s:=by rw[ac,un,bo,Fp,Ej,ch]
 generalize hh:upd h3 (3*g+2) _=h4;have ca:h4 (3*g+2)=some (.row (u64s L) eR):=by rw[←hh,ze]
 have ci:KN g H h4:=fun b p=>by rw[←hh,zg Z,bl b Z,a6 b p]
 refine zN ?_;obtain⟨M,hM⟩:∃M,M=O A-(m+2):=⟨_,rfl⟩;repeat refine zR ?_
 rw[show(O A:Int)-((m+2:Nat):Int)+1=((M+1:Nat):Int)from Z];refine xP (len:=M+1) (cap:=M+1) R9 Z ?_;rw[show zr (U .u64 0)=[U .u64 0]from rfl,wK];generalize hh:upd h4 (3*o+2) _=h5;have aw:∃e,h5 (3*o+2)=some (.row (u64s (Dp (M+1) 0++[])) e):=⟨_,by rw[←hh,ze,DZ]⟩;obtain⟨eQ,aw⟩:=aw;have cb:h5 (3*g+2)=some (.row (u64s L) eR):=by rw[←hh,zg Z];exact ca
 have cj:KN g H h5:=fun b p=>by rw[←hh,zg Z,ci b p]
 refine Zl ?_;have af:wv (L.drop (M+1))<wv V:=by
  have H:=nh L (M+1) Z;have h2:18446744073709551616^(M+1)*wv (L.drop (M+1))<18446744073709551616^(M+1)*wv V:=by
   refine DP (show _≤wv L by omega) ?_;rw[ai];have h3:(2:Nat)^s≤9223372036854775808:=DJ zd (show s≤63 by omega);have h4:wv A*2^s≤wv A*9223372036854775808:=DT _ h3;have h5:wv A*9223372036854775808<18446744073709551616^O A*9223372036854775808:=FG b2 zd;have h6:18446744073709551616^O A*9223372036854775808=18446744073709551616^(M+1)*(18446744073709551616^(m+1)*9223372036854775808):=by
    rw[←DG,←EH,show M+1+(m+1)=O A from Z]
   have h7:=DT (18446744073709551616^(M+1)) cn;omega
  exact Nat.lt_of_mul_lt_mul_left h2
 have b8:0<wv V:=Z;refine zK (α:=Nat×List Nat×List Nat) (fun z=>[(8,U .i64 ((m+2:Nat):Int)),(9,U .u64 (s:Int)),(10,Y aV (m+2) cV),(11,Y (some ⟨3*g+2,0,none⟩) (O A+1) (O A+1)),(12,Y (some ⟨3*o+2,0,none⟩) (M+1) (M+1)),(13,U .i64 ((z.1:Int)-1))])
  (fun z u n' w=>n'=o+1∧w=[]∧KN g H u∧u (3*g+2)=some (.row (u64s z.2.1) eR)∧u (3*o+2)=some (.row (u64s (Dp z.1 0++z.2.2)) eQ)∧O z.2.1=O A+1∧KQ z.2.1∧z.1≤M+1∧O z.2.2=M+1-z.1∧KQ z.2.2∧wv A*2^s=wv z.2.1+wv V*wv z.2.2*18446744073709551616^z.1∧wv (z.2.1.drop z.1)<wv V) (fun z=>z.1)
  (M+1,L,[]) ⟨rfl,rfl,rfl,rfl,rfl,aD,Df⟩ ⟨rfl,rfl,cj,cb,aw,b5,b4,Dh,cA,IB,by rw[ai,show wv []=0 from rfl,Fp,EI,Ej],af⟩ (by show M+1<LL;unfold LL;omega) ?_
 rintro⟨j,R,Q⟩ t h6 _ _ ⟨rfl,rfl,bm,ae,ad,b6,W,hj,d7,b3,hE,K⟩;simp only at ae ad b6 W hj d7 b3 hE K;refine zN ?_;cases j with
 |zero=>
  rw[EE]at K;rw[FK,El]at ad;rw[FD,Ek,bk]at hE;rw[bk]at K;obtain⟨r1,r2⟩:=fA (Z4:=wv A) (y:=wv C) (s:=s) (Q:=wv Q) (r:=wv R) (by rw[hE,EY,Dt (wv Q)]) K;refine Zv ?_;have dp:=xR (k+3) (h:=h6) (n:=o+1) (a:=some ⟨3*o+2,0,none⟩) (len:=M+1) (cap:=M+1) (l:=Q) Z (fun _ e=>by injection e with e;rw[←e]) (wf Z ad Z);refine zk _ R5 dp ?_;rintro _ h6 _ _⟨rfl,rfl,rfl,rfl,dm⟩;repeat refine zR ?_
  have cw:=xR (k+3) (h:=h6) (n:=o+1) (a:=some ⟨3*g+2,0,none⟩) (len:=O A+1) (cap:=O A+1) (l:=R) Z (fun _ e=>by injection e with e;rw[←e]) (wf Z ae b6);refine zk _ R5 cw ?_;rintro _ h6 _ _⟨rfl,rfl,rfl,rfl,dn⟩;obtain⟨dx,dy⟩:=wB b3;obtain⟨dz,e0⟩:=wB W;repeat refine zR ?_
  refine zk _ R5 (mu (k+2) (m:=s) dn dz (by have:=yV R;omega)) ?_;rintro vr h7 n7 _⟨L7,⟨rfl,dj,a8,cd,d4⟩,ds,dg⟩;obtain⟨a7,l7,c7,rfl,_⟩:=cd.len;refine Zb ?_;exact retH [Y (some ⟨3*o+2,0,none⟩) (O (z0 Q)) (M+1),Y a7 l7 c7] R3 ⟨_,_,_,L7,rfl,rfl,by show n≤n7;omega,fun b p=>(a8 b Z).trans ((bm b Z).trans (b1 b p)),dm.ext a8 dj,dx,cd,d4,by rw[dy,r1],by rw[ds,e0,r2],by show 3*n≤3*o+2;omega,.inl (dg.mono Z)⟩
 |succ i=>
 obtain⟨P,Z0,top,S,d5,hP,hZ⟩:∃P Z0 top S,R=P++(Z0++top::S)∧O P=i∧O Z0=m+2:=by
  have hd:(R.drop i).drop (m+2)≠[]:=by
   intro e;have:=congrArg O e;rw[Ea,Ea,GB]at this;omega
  obtain⟨top,S,hS⟩:=List.exists_cons_of_ne_nil hd;exact⟨R.take i,(R.drop i).take (m+2),top,S,by rw[←hS,Ep,Ep],q0,sP⟩
 subst d5 hP;have b7:O S+(O P+m+3)=O A+1:=by
  rw[←b6];exact Bw
 have d6:KQ P:=fun d hd=>W d (by simp[hd]);have b9:KQ Z0:=fun d hd=>W d (by simp[hd]);have cf:top<18446744073709551616:=W top cA;have d9:KQ S:=fun d hd=>W d (by simp[hd]);obtain⟨d8,cp⟩:=Vx hZ b9 co K Z;have bh:=(a5.ext bm (show g≤o+1 by omega));have bt:La (3*g+2) (Y aV (m+2) cV):=a5.below.off Z;refine Zr ?_;refine u7 (O P) (O P+m+3) R9 Z Z Z ?_;rw[show 0+O P*1=O P from Z,show (O P)+m+3-O P=m+3 from Z];repeat refine zR ?_
 have bw:Sl h6 (o+1) 1 (Y (some ⟨3*g+2,O P,none⟩) (m+3) (O A+1-O P)) (u64s (Z0++[top])):=by
  have:=bp (h:=h6) (n:=o+1) (b:=3*g+2) (cap:=O A+1-O P) (P:=P) (Z0:=Z0++[top]) (S:=S) (e:=eR) Z (by rw[ae];simp) BH;rw[Do,Dy,hZ]at this;exact this
 refine ye _ R5 (ck k bw bh (m:=m) ⟨by rw[Do,Dy,hZ],ap,G7 b9 cf,nV.1,bu,cp⟩ Z) ?_;rintro _⟨d,rfl,c0,dc,dd⟩;refine Zj ?_;refine u7 (O P) (O P+(m+2)) R9 Z Z Z ?_;rw[show 0+O P*1=O P from Z,show (O P)+(m+2)-O P=O Z0 from Z];repeat refine zR ?_
 refine zk _ R5 (Vn (k+2) (n:=o+1) (b:=3*g+2) Z ae Z b9 bh nV.1 bt Z Z c0) ?_;rintro _ h7 _ w7⟨B,c,rfl,db,⟨dt,rfl,a8,bf⟩,aj,e4,bj⟩;try simp only[rU]
 rw[zZ (w:=[]) fun y Z1=>by rw[dt y Z1];show 3*n≤3*g+2;omega];have a0:O B=m+2:=Z;rw[hZ]at bj;obtain⟨g1,g2⟩:=VA a0 hZ aj b8 bj dc dd;have c5:h7 (3*o+2)=_:=(a8 _ Z Z).trans ad;have am:KN g H h7:=fun b p=>by rw[a8 b Z Z,bm b p]
 have cu:=(a5.ext am (show g≤o+1 by omega));have ar:∀G,O (P++(B++G::S))=O A+1:=fun G=>by simp only[Do,D3];omega
 have cs:∀G,(P++(B++G::S))[O P+(m+2)]?=some G:=fun G=>by
  rw[DL Z,show (O P)+(m+2)-O P=O B from Z,DL Dh,Ee];rfl
 have bi:∀(Z2:List Nat) G br,O Z2=m+2→(P++(Z2++G::S)).set (O P+(m+2)) br=P++(Z2++br::S):=fun Z2 G br h2=>by
  rw[Eo _ _ Z,show (O P)+(m+2)-O P=O Z2 from Z,Eo _ _ Dh,Ee];rfl
 refine Zj ?_;refine ya (f:=fun d:Nat=>U .u64 (d:Int)) (j:=O P+(m+2)) R7 (wf (n:=o+1) Z bf (ar top)) ⟨rfl,Z⟩ (cs top) (fun _=>rfl) R4 fun _=>?_;refine Zz ?_;refine zM ?_;refine zR ?_;refine Zi ?_;refine xJ (a:=top) (b:=c) R6 ⟨cf,db⟩ ?_;obtain⟨T,cg⟩:∃x,x=(top+18446744073709551616-c)%18446744073709551616:=⟨_,rfl⟩;rw[←cg];have cv:T<18446744073709551616:=by rw[cg];exact Ce
 refine xG (j:=O P+(m+2)) (v:=U .u64 (T:Int)) R8 Z ⟨Z,by rw[zQ,ar];omega⟩ bf A5 (fun _=>rfl) R3 (fun _=>rfl) rfl fun _=>?_;rw[yA,bi B top T a0];generalize hh:upd h7 (3*g+2) _=h8;have bg:h8 (3*g+2)=some (.row (u64s (P++(B++T::S))) eR):=by rw[←hh,ze]
 have be:h8 (3*o+2)=some (.row (u64s (Dp (O P+1) 0++Q)) eQ):=by rw[←hh,zg Z];exact c5
 have bn:KN g H h8:=fun b p=>by rw[←hh,zg Z,am b p]
 refine Zp ?_;refine ql R6 ?_;simp only[zX,yi,zm,yj];refine yp (α:=List Nat×Nat×Nat) (fun z=>[(8,U .i64 ((m+2:Nat):Int)),(9,U .u64 (s:Int)),(10,Y aV (m+2) cV),(11,Y (some ⟨3*g+2,0,none⟩) (O A+1) (O A+1)),(12,Y (some ⟨3*o+2,0,none⟩) (M+1) (M+1)),(13,U .i64 (O P:Int)),(14,U .u64 (z.2.2:Int))])
  (fun z u n' w=>n'=o+1∧w=[]∧KN g H u∧u (3*g+2)=some (.row (u64s (P++(z.1++z.2.1::S))) eR)∧u (3*o+2)=some (.row (u64s (Dp (O P+1) 0++Q)) eQ)∧O z.1=m+2∧KQ z.1∧z.2.1<18446744073709551616∧z.2.2=wv (Z0++[top])/wv V∧z.2.2<18446744073709551616∧wv (z.1++[z.2.1])=wv (Z0++[top])%wv V) ?_ ?_
 .by_cases hlt2:top<c;case neg=>
   obtain⟨an,a9⟩:=g1 Z;rw[za gP];refine zN ?_;have al:T=top-c:=Z;exact zC (B,T,d) ⟨rfl,rfl,rfl,rfl,rfl,aD,rfl,Df⟩ ⟨rfl,rfl,bn,bg,be,a0,aj,cv,an,c0,by simp only;rw[al];exact a9⟩
  obtain⟨an,a9⟩:=g2 hlt2;have e6:1≤d:=by rw[an];exact Nat.le_add_left _ _
  rw[zc gV];refine Zd ?_;refine yn (a:=d) (b:=1) R6 Z<|Zl ?_;refine Zb ?_;refine zK (α:=List Nat×Nat) (fun z=>[(8,U .i64 ((m+2:Nat):Int)),(9,U .u64 (s:Int)),(10,Y aV (m+2) cV),(11,Y (some ⟨3*g+2,0,none⟩) (O A+1) (O A+1)),(12,Y (some ⟨3*o+2,0,none⟩) (M+1) (M+1)),(13,U .i64 (O P:Int)),(14,U .u64 ((d-1:Nat):Int)),(17,U .u64 (z.2:Int)),(113,Y aV (m+2) cV),(114,U .i64 ((m+2:Nat):Int)),(115,U .i64 (O z.1:Int))])
   (fun z u n' w=>n'=o+1∧w=[]∧KN g H u∧u (3*g+2)=some (.row (u64s (P++((z.1++B.drop (O z.1))++T::S))) eR)∧u (3*o+2)=some (.row (u64s (Dp (O P+1) 0++Q)) eQ)∧O z.1≤m+2∧KQ z.1∧z.2≤1∧wv z.1+z.2*18446744073709551616^O z.1=wv (B.take (O z.1))+wv (V.take (O z.1))) (fun z=>m+2-O z.1)
   ([],0) ⟨rfl,rfl,rfl,rfl,rfl,aD,rfl,rfl,rfl,rfl,rfl,Df⟩ ⟨rfl,rfl,bn,bg,be,Di,IB,BT,xd⟩ (by show m+2-0<LL;unfold LL;omega) ?_
  rintro⟨D,cc⟩ t h9 _ _ ⟨rfl,rfl,ag,F,ax,d0,ao,bc,Z3⟩;simp only at F d0 ao bc Z3;refine zN ?_;by_cases hDm:O D=m+2
  .have cq:B.drop (O D)=[]:=by rw[hDm,←a0,Fo]
   rw[cq,DZ]at F;rw[hDm,←a0,DO,a0,←ap,DO,ap]at Z3;refine Zk ?_;have cl:=um ao;rw[hDm]at cl;have e7:=EA (wv (Z0++[top])) b8;have du:c-top=1∧cc=1:=by
    obtain⟨y,Z1⟩:∃y,c-top=y+1:=⟨c-top-1,Z⟩;rw[Z1]at a9⊢;rw[←a9]at Z3;generalize 18446744073709551616^(m+2)=PP at*
    have e1:(y+1)*PP=y*PP+PP:=by rw[DE,EM]
    rcases FF y with bq|bq
    .subst bq;rcases FF cc with bz|bz
     .subst bz;rw[EI]at Z3;omega
     exact⟨rfl,Z⟩
    have e2:1*PP≤y*PP:=Dw _ bq;have e3:cc*PP≤1*PP:=Dw _ bc;omega
   obtain⟨cx,rfl⟩:=du;have d1:wv D=wv (Z0++[top])%wv V:=by
    rw[←a9,cx]at Z3;omega
   have al:T=18446744073709551615:=Z;subst al;repeat refine zR ?_
   refine ya (f:=fun d:Nat=>U .u64 (d:Int)) (j:=O P+(m+2)) R7 (wf (n:=o+1) (l:=O A+1) Z F Bw) ⟨rfl,Z⟩ (show(P++(D++18446744073709551615::S))[O P+(m+2)]?=some 18446744073709551615 from by rw[DL Z,show (O P)+(m+2)-O P=O D from Z,DL Dh,Ee];rfl) (fun _=>rfl) R4 fun _=>?_;refine zM ?_;refine tI (a:=18446744073709551615) (b:=1) R6 ?_;rw[show(18446744073709551615+1)%18446744073709551616=0 from rfl];refine xG (j:=O P+(m+2)) (v:=U .u64 ((0:Nat):Int)) R8 Z ⟨Z,by rw[zQ];simp only[Do,D3];omega⟩ F A5 (fun _=>rfl) R3 (fun _=>rfl) rfl fun _=>?_;rw[yA,bi D _ 0 hDm];refine Zb ?_;exact zC (D,0,d-1) V7 ⟨rfl,rfl,fun b p=>(zg Z).trans (ag b p),ze _ _ _,(zg Z).trans ax,hDm,ao,Ai,by show d-1=_;rw[an];exact FR _ _,by show d-1<_;omega,by show wv (D++[0])=_;rw[xq,Fp,Ej,d1]⟩
  obtain⟨y,Z1⟩:∃x,V[O D]?=some x:=⟨V[O D]'Z,Dm Z⟩;obtain⟨x,J⟩:∃x,B[O D]?=some x:=⟨B[O D]'Z,Dm Z⟩;have ed:=nV.1.get Z1;have ec:=aj.get J;have au:(P++((D++B.drop (O D))++T::S)).length=O A+1:=by simp only[Do,D3,Ea];omega
  refine Zr ?_;refine ya (f:=fun d:Nat=>U .u64 (d:Int)) (j:=O D) R7 (a5.ext ag (show g≤o+1 by omega)) R2 Z1 (fun _=>rfl) R4 fun _=>?_;refine Zj ?_;refine ya (f:=fun d:Nat=>U .u64 (d:Int)) (j:=O P+O D) R7 (wf (n:=o+1) Z F au) ⟨rfl,Z⟩ (show(P++((D++B.drop (O D))++T::S))[O P+O D]?=some x from by rw[DL Z,show (O P)+O D-O P=O D from Z,En gN];exact tR J) (fun _=>rfl) R4 fun _=>?_;repeat refine zR ?_
  refine uF (x:=x) (y:=y) (c:=cc) R5 bc ?_;obtain⟨s1,I⟩:∃z,z=(x+y+cc)%18446744073709551616:=⟨_,rfl⟩;obtain⟨c1,bb⟩:∃z,z=(x+y+cc)/18446744073709551616:=⟨_,rfl⟩;rw[←I,←bb];repeat refine zR ?_
  refine xG (j:=O P+O D) (v:=U .u64 (s1:Int)) R8 Z ⟨Z,by rw[zQ,au];omega⟩ F A5 (fun _=>rfl) R3 (fun _=>rfl) rfl fun _=>?_;rw[yA,jJ _ J];refine Zl ?_;have dl:s1<18446744073709551616:=by rw[I];exact Ce
  have cr:c1≤1:=by rw[bb];omega
  have dk:18446744073709551616*c1+s1=x+y+cc:=by rw[I,bb];omega
  refine goOn (D++[s1],c1) (by show m+2-O (D++[s1])<m+2-O D;rw[Do,Dy];omega) ⟨rfl,rfl,rfl,rfl,rfl,rfl,rfl,rfl,rfl,rfl,eP,Df⟩ ⟨rfl,rfl,fun b p=>(zg Z).trans (ag b p),ze _ _ _,(zg Z).trans ax,by show(D++[s1]).length≤_;rw[Do,Dy];omega,G7 ao dl,cr,?_⟩;simp only;rw[Do,Dy,xq,zV J,zV Z1,DI];have:=kc Z3 dk;omega
 rintro⟨Zf,G,q⟩ t h9 _ _ ⟨rfl,rfl,ag,F,ax,bx,ba,ce,c6,c8,ak⟩;simp only at F bx ba ce c6 c8 ak;refine Zg ?_;refine xG (j:=O P) (v:=U .u64 (q:Int)) R8 rfl ⟨Z,by rw[zQ,Do,DV];omega⟩ ax (by show 3*n≤3*o+2;omega) (fun _=>rfl) R3 (fun _=>rfl) rfl fun _=>?_;rw[yA,aa];refine Zl ?_;have da:wv (Zf++[G])+wv V*q=wv (Z0++[top]):=by rw[ak,c6,EY];exact CW
 have bv:=Vz (P:=P) (S:=S) (V:=V) (Q:=Q) (bx.trans hZ.symm) da hE;refine goOn (O P,P++(Zf++G::S),q::Q) (by show O P<O P+1;omega) V6 ⟨rfl,rfl,fun b p=>(zg Z).trans (ag b p),(zg Z).trans F,ze _ _ _,Bw,d6.append (ba.append (fun x J=>by
  rcases DR.1 J with rfl|J
  .exact ce
  .exact d9 x J)),by show O P≤_;omega,by show(q::Q).length=_;rw[D3];omega,fun x J=>by
  rcases DR.1 J with rfl|J
  .exact c8
  .exact b3 x J,bv,?_⟩
 simp only;rw[GC rfl,show Zf++G::S=(Zf++[G])++S from by simp,un,d8,Fp,Ej,ak];exact EA _ b8
end Go.Proofs.YtfajmfoofmienaaGreatDoor
namespace Go.Proofs.YtfajmfoofmienaaGreatDoor
variable {B m r0 r1 u u0 u1 v1 v2:Nat}{odd:Bool}
def sg(odd:Bool):Int:=if odd then -1 else 1
theorem kI(o:Bool):sg (!o)= - sg o:=by cases o<;>rfl
theorem PW(o:Bool):sg o*sg o=1:=by cases o<;>rfl
def lp(A B:Nat)(s:Int)(u v:Nat):Int:=s*((u:Int)*A-(v:Int)*B)
structure LehS (A B r0 r1 E:Nat):Prop where
 a:E*r0≤A∧A<E*r0+E
 b:E*r1≤B∧B<E*r1+E
 le:B≤A
 pos:1≤B
structure Leh (A B r0 r1:Nat)(x y u0 u1 u2 v0 v1 v2:Nat)(odd:Bool):Prop where
 hx:(x:Int)=lp r0 r1 (sg odd) u1 v1
 hy:(y:Int)=lp r0 r1 (- sg odd) u2 v2
 det:(u1:Int)*v2-u2*v1=sg odd
 le:u2≤v2∧u1+u2≤v1+v2∧1≤v2
 yx:y≤x
 gcd:Kj (lp A B (sg odd) u1 v1) (lp A B (- sg odd) u2 v2)=DH A B
 sum:(v1=0∧u1=1∧u2=0∧v2=1∧odd=false)∨(1≤v1∧lp A B (sg odd) u1 v1+lp A B (- sg odd) u2 v2≤A∧lp A B (sg odd) u1 v1≤B)
 out:v0=0∨(0≤lp A B (sg odd) u1 v1∧lp A B (sg odd) u1 v1≤lp A B (- sg odd) u0 v0∧Kj (lp A B (- sg odd) u0 v0) (lp A B (sg odd) u1 v1)=DH A B∧lp A B (- sg odd) u0 v0+lp A B (sg odd) u1 v1≤A∧lp A B (- sg odd) u0 v0≤B)
theorem Leh.init{A:Nat}(h:r1≤r0):Leh A B r0 r1 r0 r1 0 1 0 0 0 1 false:=by
 refine⟨by simp[lp,sg],by simp[lp,sg],by simp[sg],Z,h,by simp[lp,sg],.inl R5,.inl rfl⟩
theorem PX{A E:Nat}(c:LehS A B r0 r1 E){s:Int}(d:s=1∨s= -1){v z:Nat}(i:(z:Int)=lp r0 r1 s u v)(hu:u≤m)(hv:v≤m)(D:m≤z):0≤lp A B s u v:=by
 obtain⟨α,j⟩:∃α,A=E*r0+α:=⟨A-E*r0,by have:=c.a;omega⟩;obtain⟨β,l⟩:∃β,B=E*r1+β:=⟨B-E*r1,by have:=c.b;omega⟩;have y:α<E:=by have:=c.a;omega
 have C:β<E:=by have:=c.b;omega
 have f:u*α≤z*E:=Es Z Z;have g:v*β≤z*E:=Es Z Z;have o:(u:Int)*α≤z*E:=by exact_mod_cast f
 have p:(v:Int)*β≤z*E:=by exact_mod_cast g
 have q:(0:Int)≤(u:Int)*α:=by exact_mod_cast Hf (u*α)
 have w:(0:Int)≤(v:Int)*β:=by exact_mod_cast Hf (v*β)
 have e:lp A B s u v=z*E+s*(u*α - v*β):=by
  rw[i];unfold lp;rw[j,l]
  push_cast
  grind
 rw[e];rcases d with rfl|rfl<;>omega
theorem VB(o:Bool):sg o=1∨sg o= -1:=by cases o<;>simp[sg]
theorem VC(o:Bool): - sg o=1∨ - sg o= -1:=by cases o<;>simp[sg]
theorem PY(A B:Nat)(s:Int)(u v a v':Nat):lp A B s u v+lp A B s a v'=lp A B s (u+a) (v+v'):=by
 unfold lp;push_cast;grind
theorem gL(A B:Nat)(s:Int)(u v:Nat):lp A B (- s) u v= - lp A B s u v:=by
 unfold lp;grind
theorem Leh.step{A E x y a W:Nat}(H:LehS A B r0 r1 E)(h:Leh A B r0 r1 x y u0 u1 a W v1 v2 odd)(M:v2≤y)(N:v1+v2≤x-y):
  Leh A B r0 r1 y (x%y) u1 a (u1+x/y*a) v1 v2 (v1+x/y*v2) (!odd)∧u1+x/y*a≤r0∧v1+x/y*v2≤r0∧x%y<y∧1≤y:=by
 obtain⟨s,f,g,⟨I,V,l3⟩,L,D,e,Z4⟩:=h;have b:1≤y:=Z;have c:x%y<y:=EA _ b;have Z0:1≤x/y:=(Nat.one_le_div_iff b).2 L;have l:x%y+x/y*y=x:=by rw[Dt];exact Nat.mod_add_div x y
 generalize hqq:x/y=q at*
 generalize hrr:x%y=r at*
 -- the pair at hand
 have K:0≤lp A B (- sg odd) a v2:=PX H (VC odd) f I Dh M;have J:0≤lp A B (sg odd) (u1+a) (v1+v2):=by
  refine PX H (VB odd) (z:=x-y) ?_ V Dh N;rw[←PY,Int.natCast_sub L,s,f,gL];omega
 rw[←PY]at J;have Z3:lp A B (- sg odd) a v2= - lp A B (sg odd) a v2:=gL ..;have d:lp A B (sg odd) (u1+q*a) (v1+q*v2)=lp A B (sg odd) u1 v1-q*lp A B (- sg odd) a v2:=by
  rw[gL];unfold lp;push_cast;grind
 have F:lp A B (- sg odd) a v2≤q*lp A B (- sg odd) a v2:=by
  have:=Int.mul_le_mul_of_nonneg_right (show(1:Int)≤q by omega) K;omega
 have G:(r0:Int)=v2*x+v1*y:=by
  rw[s,f,gL];unfold lp;have v:=PW odd;rw[←g]at*
  grind
 have o:r0=v2*x+v1*y:=by exact_mod_cast G
 have j:v1+q*v2≤r0:=by
  rw[o,←l];have v:v1≤v1*y:=Gr _ b;have Z1:q*v2≤q*v2*y:=Gr _ b;have P:v2*(r+q*y)=v2*r+q*v2*y:=by grind
  omega
 have i:u1+q*a≤v1+q*v2:=by
  obtain⟨p,rfl⟩:∃p,q=p+1:=⟨q-1,Z⟩;have v:p*a≤p*v2:=DT _ I;have Z1:(p+1)*a=p*a+a:=Fb _ _;have P:(p+1)*v2=p*v2+v2:=Fb _ _;omega
 refine⟨⟨?_,?_,?_,?_,HG c,?_,?_,?_⟩,Ed i j,j,c,b⟩
 .rw[kI];exact f
 .rw[kI,Hl];have:(r:Int)=x-q*y:=by(have:(x:Int)=r+q*y:=by exact_mod_cast l.symm);omega
  rw[this,s,f];unfold lp;push_cast;grind
 .rw[kI,←g];push_cast;grind
 .refine⟨i,Z,Z⟩
 .rw[kI,Hl,d,←D];rw[Int.gcd_comm];simp[Int.mul_comm]
 .right;rw[kI,Hl,d];rcases e with⟨rfl,rfl,rfl,rfl,rfl⟩|⟨_,T,C⟩
  .have R:lp A B (sg false) 1 0=A:=by simp[lp,sg]
   have w:lp A B (- sg false) 0 1=B:=by simp[lp,sg]
   rw[w]at F;rw[R,w];exact⟨Z,Z,Z⟩
  exact⟨Z,Z,Z⟩
 rw[kI,Hl];rcases e with⟨S,_⟩|⟨_,T,C⟩
 .exact .inl S
 right;exact⟨K,Z,D,Z,C⟩
theorem Leh.tot{A x y e f:Nat}(h:Leh A B r0 r1 x y u0 u1 e f v1 v2 odd):r0=v2*x+v1*y:=by
 obtain⟨c,d,a,_,_,_,_,_⟩:=h;have b:(r0:Int)=v2*x+v1*y:=by
  rw[c,d,gL];unfold lp;have g:=PW odd;rw[←a]at*
  grind
 exact_mod_cast b
theorem LehS.r_le{A E:Nat}(h:LehS A B r0 r1 E):r1≤r0:=by
 rcases EG r0 r1 with c|c
 .have d:=DT E c;rw[Jf]at d;have:=h.a;have:=h.b;have:=h.le;omega
 exact c
theorem Leh.done{A x y j c:Nat}(h:Leh A B r0 r1 x y u0 u1 j c v1 v2 odd)(hv:c≠0):
  ∃a b:Nat,(odd=false→c*B=u0*A+a∧u1*A=v1*B+b)∧(odd=true→u0*A=c*B+a∧v1*B=u1*A+b)∧b≤a∧DH a b=DH A B∧a+b≤A∧a≤B:=by
 rcases h.out with f|⟨g,l,i,o,p⟩
 .exact oU f hv
 generalize e1:lp A B (sg odd) u1 v1=b at*
 generalize e2:lp A B (- sg odd) u0 c=a at*
 obtain⟨e,rfl⟩:=Int.eq_ofNat_of_zero_le g;obtain⟨d,rfl⟩:=Int.eq_ofNat_of_zero_le (show(0:Int)≤a by omega);refine⟨d,e,?_,?_,Z,by simpa using i,Z,Z⟩
 .rintro rfl;simp only[lp,sg]at e1 e2;constructor
  .have:(c:Int)*B=u0*A+d:=by simp at e2;grind
   exact_mod_cast this
  have:(u1:Int)*A=v1*B+e:=by simp at e1;grind
  exact_mod_cast this
 rintro rfl;simp only[lp,sg]at e1 e2;constructor
 .have:(u0:Int)*A=c*B+d:=by simp at e2;grind
  exact_mod_cast this
 have:(v1:Int)*B=u1*A+e:=by simp at e1;grind
 exact_mod_cast this
end Go.Proofs.YtfajmfoofmienaaGreatDoor
namespace Go.Proofs.YtfajmfoofmienaaGreatDoor
open Go Go.GL
variable {ops r:List Oper}{h h' h1 h2:HF}{n m n0 off i lo n' bt sz nt kk bytes b c size len Z4 c1 c2 l1 l2 c' cB u0 u1 v1 bb m' n1 n2 cy lx ly P D V d p B:Nat}{w ms C Z0 A X S T L:List Nat}{Q:SV→Prop}{args cl cs vs:List Value}{al ld:List (Nat×Nat)}{ef:List (Nat×HF×List Nat)}{z v x10 x4 x5 x6 x7 x8 x9:Value}{ty ty' eB e' xT:TypeId}{fn:Func}{f:FuncId}{E:Env}{odd sx sy:Bool}{a1 a2 ax ay:Option Addr}{α:Type}{y:Operand}
variable {h0:HF}
theorem lk(k:Nat)(j:Sl h n 1 (Y a1 l1 c1) (u64s A))(l:Sl h n 1 (Y a2 l2 c2) (u64s C))(Z1:NW A)(R:NW C)(T:O A<10000000∧O C<80)(o:0<wv C):
  CF (KO (k+6)) 181 [Y a1 l1 c1,Y a2 l2 c2] h n fun v g i w=>∃d c a b,v=.tuple #[d,c]∧w=[]∧n≤i∧KN n h g∧Sl g i 1 d (u64s a)∧NW a∧Sl g i 1 c (u64s b)∧NW b∧wv a=wv A/wv C∧wv b=wv A%wv C∧yh n d∧(yh n c∨c=Y a1 l1 c1):=by
 refine zl (fn:=Tryz.f181) R4 ?_;have I:=j.lenW;have J:=l.lenW;subst I J;refine Zc ?_;refine Ze ?_;refine Zp ?_;refine zk _ R5 (fv k j l Z1 R Z o) ?_;rintro _ S V _⟨d,c,a,b,rfl,rfl,s,B,e,u,f,y,K,L,p,q⟩;obtain⟨D,M,G,rfl,_⟩:=e.len;obtain⟨F,N,H,rfl,_⟩:=f.len;refine Zb ?_;exact retH [Y D M G,Y F N H] R3 ⟨_,_,a,b,rfl,rfl,s,B,e,u,f,y,K,L,p,q⟩
theorem ep{x0 x1 s:Nat}(g:Z4<P)(d:s≤64):P*2^(64-s)*(x1*2^s+x0/2^(64-s))≤Z4+P*(x0+18446744073709551616*x1)∧Z4+P*(x0+18446744073709551616*x1)<P*2^(64-s)*(x1*2^s+x0/2^(64-s))+P*2^(64-s):=by
 have f:=EP x0 (2^(64-s));have b:=EA x0 (Er (n:=64-s) (show 0<2 by decide));have c:=ek d;generalize 2^(64-s)=D at*
 generalize 2^s=S at*
 have e:x0+18446744073709551616*x1=D*(x1*S+x0/D)+x0%D:=by
  have a:D*(x1*S)=18446744073709551616*x1:=by rw[ER,←c,Dt]
  rw[D4,a];omega
 generalize x1*S+x0/D=R at*
 generalize x0%D=m at*
 rw[e,D4,←DG];have a:=DT P (show m+1≤D from b);rw[Jf]at a;omega
theorem jp{x0 x1:Nat}(b:O X=m+2)(h0:X[m]?=some x0)(a:X[m+1]?=some x1):wv X=wv (X.take m)+18446744073709551616^m*(x0+18446744073709551616*x1):=by
 have e:wv X=wv (X.take (m+2)):=by rw[←b,DO]
 rw[e,zV a,zV h0,DI,D4,DG,HO]
theorem VD{x0:Nat}(a:O X=m+1)(h0:X[m]?=some x0):wv X=wv (X.take m)+18446744073709551616^m*x0:=by
 have e:wv X=wv (X.take (m+1)):=by rw[←a,DO]
 rw[e,zV h0]
theorem rp(a:KQ X)(b:m≤O X):wv (X.take m)<18446744073709551616^m:=by
 have:=um (a.take m);rw[DW,Ev b]at this;exact this
theorem VE{x0 x1 i a:Nat}(o:O A=m+2)(p:O C=m+2)(c:KQ A)(b:A[m]?=some x0)(e:A[m+1]?=some x1)(f:C[m]?=some i)(g:C[m+1]?=some a)(d:wv C≤wv A):a≤x1:=by
 rcases EG x1 a with h|h
 .have q:=rp c (m:=m) Z;have s:=c.get b;rw[jp o b e,jp p f g]at d;generalize 18446744073709551616^m=P at*
  have j:x0+18446744073709551616*x1+1≤i+18446744073709551616*a:=Z;have l:=DT P j;rw[Jf]at l;omega
 exact h
def SimR(A B:Nat)(v:Value):Prop:=∃x y u0 u1 u2 v0 v1 v2 r0 r1:Nat,∃odd:Bool,v=.agg #[U .u64 (u0:Int),U .u64 (u1:Int),U .u64 (v0:Int),U .u64 (v1:Int),Dk odd]∧Leh A B r0 r1 x y u0 u1 u2 v0 v1 v2 odd∧u0≤18446744073709551615∧u1≤18446744073709551615∧v0≤18446744073709551615∧v1≤18446744073709551615
structure LSt where
 x:Nat
 y:Nat
 u0:Nat
 u1:Nat
 u2:Nat
 v0:Nat
 v1:Nat
 v2:Nat
 odd:Bool
def LSt.row(z:LSt):List Value:=[U .u64 (z.u0:Int),U .u64 (z.u1:Int),U .u64 (z.v0:Int),U .u64 (z.v1:Int),Dk z.odd]
def LSt.bd(z:LSt):Prop:=z.x≤18446744073709551615∧z.u0≤18446744073709551615∧z.u1≤18446744073709551615∧z.u2≤18446744073709551615∧z.v0≤18446744073709551615∧z.v1≤18446744073709551615∧z.v2≤18446744073709551615
theorem eG(k:Nat)(hA:Sl h n 1 (Y a1 l1 c1) (u64s A))(hC:Sl h n 1 (Y a2 l2 c2) (u64s C))(nA:NW A)(Z0:NW C)(B:O A<10000000)(a6:wv C≤wv A)(ba:2≤O A)(ab:0<wv C):
  CF (KO (k+3)) 180 [Y a1 l1 c1,Y a2 l2 c2] h n fun v S n' w=>w=[]∧n≤n'∧KN n h S∧SimR (wv A) (wv C) v:=by
 refine zl (fn:=Tryz.f180) R4 ?_;have e1:=hA.lenW;have e2:=hC.lenW;subst e1 e2;have bb:O C≤O A:=by
  rcases EG (O A) (O C) with hl|hl
  .have:=nA.len_lt Z0 hl;omega
  exact hl
 obtain⟨m,V⟩:∃m,O A=m+2:=⟨O A-2,Z⟩;obtain⟨J,H⟩:∃x,A[m+1]?=some x:=⟨A[m+1]'Z,Dm Z⟩;obtain⟨M,a9⟩:∃x,A[m]?=some x:=⟨A[m]'Z,Dm Z⟩;have aq:=nA.1.get H;have W:=nA.1.get a9;have ap:J≠0:=by
  obtain⟨i,d,ad⟩:=Go.Proofs.YtfajmfoofmienaaGreatDoor.snoc (l:=A) (by intro e;rw[e]at V;simp at V);have av:O i=m+1:=by rw[ad]at V;simp at V;omega
  rw[ad,←av,DL Dh,Ee]at H;have:d=J:=by simpa using H
  rw[←this];exact ak7 (by rw[←ad];exact nA)
 rw[V]at hA⊢;refine zN ?_;refine z6 R5 ?_;generalize hh:upd h (3*n+2) _=h1;have a4:KN n h h1:=by rw[←hh];exact C4
 have K:∃e,h1 (3*n+2)=some (.row [U .u64 0,U .u64 0,U .u64 0,U .u64 0,Dk false] e):=⟨_,kS⟩;have a0:=hA.ext a4 (DM n);have a3:=hC.ext a4 (DM n);refine Zu ?_;refine ya (f:=fun d:Nat=>U .u64 (d:Int)) (j:=m+1) R7 a0 ⟨rfl,Z⟩ H (fun _=>rfl) R4 fun _=>?_;refine ye _ R5 (dw k h1 (n+1) aq ap) ?_;rintro _⟨s,rfl,az,bc,a8⟩;refine yO (c:=s) R7 Z<|Zb ?_;have a7:∀x,x<18446744073709551616→x/2^(64-s)<2^s:=fun x hx=>PT Z hx;obtain⟨L,ae⟩:∃r,r=J*2^s+M/2^(64-s):=⟨_,rfl⟩;have an:L≤18446744073709551615:=by
  have:=PS (w:=J) (s:=s) Z (a7 M W);rw[Dz a8]at this;omega
 obtain⟨E,hE⟩:∃E,E=18446744073709551616^m*2^(64-s):=⟨_,rfl⟩;have D:=ep (Z4:=wv (A.take m)) (x0:=M) (x1:=J) (s:=s) (rp nA.1 Z) Z;rw[←jp V a9 H,←hE,←ae]at D;rw[yH rfl];repeat refine zR ?_
 refine ya (f:=fun d:Nat=>U .u64 (d:Int)) (j:=m+1) R7 a0 ⟨rfl,Z⟩ H (fun _=>rfl) R4 fun _=>?_;refine zM ?_;refine yS (a:=J) (s:=s) R6 Z ?_;rw[Dz a8];repeat refine zR ?_
 refine ya (f:=fun d:Nat=>U .u64 (d:Int)) (j:=m) R7 a0 ⟨rfl,Z⟩ a9 (fun _=>rfl) R4 fun _=>?_;refine zM ?_;refine yn (a:=64) (b:=s) R6 Z<|yg (a:=M) (s:=64-s) R6 Z<|xZ (a:=J*2^s) (b:=M/2^(64-s)) R6 ⟨a8,DP (FL _ _) W⟩ ?_;rw[gA (a7 M W),←ae];refine Zb ?_;refine Zj ?_;simp only[zX,yi,zm,yj];refine yp (α:=Nat) (fun z=>[(4,Dn (some ⟨3*n+2,0,none⟩)),(7,U .u64 (L:Int)),(8,U .u64 (z:Int))])
  (fun z S n' w=>h1=S∧n+1=n'∧w=[]∧LehS (wv A) (wv C) L z E) ?_ ?_
 .refine zN ?_;by_cases hl2:O C=m+2
  .obtain⟨y1,Z1⟩:∃x,C[m+1]?=some x:=⟨C[m+1]'Z,Dm Z⟩;obtain⟨N,G⟩:∃x,C[m]?=some x:=⟨C[m]'Z,Dm Z⟩;have b9:=Z0.1.get Z1;have Z3:=Z0.1.get G;have al:=VE V hl2 nA.1 a9 H G Z1 a6;have ak:y1*2^s<18446744073709551616:=DP (Dw _ al) a8;have F:=ep (Z4:=wv (C.take m)) (x0:=N) (x1:=y1) (s:=s) (rp Z0.1 Z) Z;rw[←jp hl2 G Z1,←hE]at F;refine Zh ?_;rw[yH rfl];repeat refine zR ?_
   refine ya (f:=fun d:Nat=>U .u64 (d:Int)) (j:=m+1) R7 a3 ⟨rfl,Z⟩ Z1 (fun _=>rfl) R4 fun _=>?_;refine zM ?_;refine yS (a:=y1) (s:=s) R6 Z ?_;rw[Dz ak];repeat refine zR ?_
   refine ya (f:=fun d:Nat=>U .u64 (d:Int)) (j:=m) R7 a3 ⟨rfl,Z⟩ G (fun _=>rfl) R4 fun _=>?_;refine zM ?_;refine yn (a:=64) (b:=s) R6 Z<|yg (a:=N) (s:=64-s) R6 Z<|xZ (a:=y1*2^s) (b:=N/2^(64-s)) R6 ⟨ak,DP (FL _ _) Z3⟩ ?_;rw[gA (a7 N Z3)];refine Zb ?_;exact zC (y1*2^s+N/2^(64-s)) V3 ⟨rfl,rfl,rfl,⟨D,F,a6,ab⟩⟩
  refine Zk ?_;by_cases hl1:O C=m+1
  .obtain⟨N,G⟩:∃x,C[m]?=some x:=⟨C[m]'Z,Dm Z⟩;have Z3:=Z0.1.get G;have F:=ep (Z4:=wv (C.take m)) (x0:=N) (x1:=0) (s:=s) (rp Z0.1 Z) Z;rw[Fp,Ej,EI,D7,←VD hl1 G,←hE]at F;refine Zr ?_;refine ya (f:=fun d:Nat=>U .u64 (d:Int)) (j:=m) R7 a3 ⟨rfl,Z⟩ G (fun _=>rfl) R4 fun _=>?_;refine zM ?_;refine yn (a:=64) (b:=s) R6 Z<|yg (a:=N) (s:=64-s) R6 Z<|Zb ?_;exact zC (N/2^(64-s)) V3 ⟨rfl,rfl,rfl,⟨D,F,a6,ab⟩⟩
  refine Zk ?_;refine zC 0 V3 ⟨rfl,rfl,rfl,⟨D,⟨by rw[Fp];exact Hf _,?_⟩,a6,ab⟩⟩;have g1:=um Z0.1;have g2:18446744073709551616^O C≤18446744073709551616^m:=DJ zd Z;have g3:18446744073709551616^m*1≤18446744073709551616^m*2^(64-s):=DT _ (Er zd);rw[hE,Fp];omega
 rintro r1 t _ _ _⟨rfl,rfl,rfl,hS⟩;have ao:=hS.r_le;refine zN ?_;refine z6 R5 ?_;generalize hh:upd h1 (3*(n+1)+2) _=h2;have ag:KN n h h2:=fun b B=>by rw[←hh,zg Z,a4 b B]
 have aa:∃e,h2 (3*n+2)=some (.row [U .u64 0,U .u64 0,U .u64 0,U .u64 0,Dk false] e):=by
  obtain⟨e,K⟩:=K;exact⟨e,by rw[←hh,zg Z];exact K⟩
 have q2:∃e,h2 (3*(n+1)+2)=some (.row [U .u64 0,U .u64 0,U .u64 0,U .u64 0,Dk false] e):=⟨_,kS⟩;obtain⟨e2,q2⟩:=q2;refine Zg ?_;refine yr (cs:=[U .u64 1]) R8 q2 zb jy ?_;generalize hh:upd h2 (3*(n+1)+2) _=h3;have ah:KN n h h3:=fun b B=>by rw[←hh,zg Z,ag b B]
 have af:∃e,h3 (3*n+2)=some (.row [U .u64 0,U .u64 0,U .u64 0,U .u64 0,Dk false] e):=by
  obtain⟨e,aa⟩:=aa;exact⟨e,by rw[←hh,zg Z];exact aa⟩
 have q3:∃e,h3 (3*(n+1)+2)=some (.row (LSt.row ⟨L,r1,0,1,0,0,0,1,false⟩) e):=⟨e2,kS⟩;refine Zc ?_;refine zK (α:=LSt) (fun z=>[(4,Dn (some ⟨3*n+2,0,none⟩)),(7,U .u64 (z.x:Int)),(8,U .u64 (z.y:Int)),(9,Dn (some ⟨3*(n+1)+2,0,none⟩)),(10,U .u64 (z.u2:Int)),(11,U .u64 (z.v2:Int))])
  (fun z S n' w=>n'=n+1+1∧w=[]∧KN n h S∧(∃e,S (3*n+2)=some (.row [U .u64 0,U .u64 0,U .u64 0,U .u64 0,Dk false] e))∧(∃e,S (3*(n+1)+2)=some (.row z.row e))∧Leh (wv A) (wv C) L r1 z.x z.y z.u0 z.u1 z.u2 z.v0 z.v1 z.v2 z.odd∧z.bd) (fun z=>z.y)
  ⟨L,r1,0,1,0,0,0,1,false⟩ V6 ⟨rfl,rfl,ah,af,q3,Leh.init ao,an,(show(0:Nat)≤18446744073709551615 by decide),(show(1:Nat)≤18446744073709551615 by decide),(show(0:Nat)≤18446744073709551615 by decide),(show(0:Nat)≤18446744073709551615 by decide),(show(0:Nat)≤18446744073709551615 by decide),(show(1:Nat)≤18446744073709551615 by decide)⟩ (by show r1<LL;unfold LL;omega) ?_
 rintro⟨x,y,u0,p,I,v0,g,u,o⟩ t h4 _ _ ⟨rfl,rfl,a5,⟨e1,K⟩,⟨e4,R⟩,T,au⟩;obtain⟨b1,b2,b3,b4,b5,b6,b7⟩:=au;simp only[LSt.row]at R T b1 b2 b3 b4 b5 b6 b7;have al:=T.yx;have b8:=T.tot;have hl:=T.le;refine zN ?_;by_cases g1:u≤y;case neg=>
  exact B6
 have b0:g+u≤L:=by
  have f1:u*1≤u*x:=DT _ Z;have f2:g*1≤g*y:=DT _ Z;omega
 refine ZA ?_;refine ZE ?_;refine yn (a:=x) (b:=y) R6 Z<|zM ?_;refine zi R6 R (v:=U .u64 (g:Int)) R2<|zM ?_;refine yT (a:=g) (b:=u) R6 Z ?_;by_cases g2:g+u≤x-y;case neg=>
  exact B6
 obtain⟨ac,aw,ax,aj,Z1⟩:=Leh.step hS T g1 g2;refine Zq ?_;obtain⟨q,hq⟩:∃q,q=x/y:=⟨_,rfl⟩;obtain⟨r,hr⟩:∃r,r=x%y:=⟨_,rfl⟩;rw[←hq]at ac aw ax;rw[←hr]at ac aj;refine Zi ?_;refine xO (a:=x) (b:=y) R6 ⟨Z,Z⟩ ?_;rw[←hq];refine Zb ?_;rw[yH rfl];refine ZE ?_;refine vg (a:=x) (b:=y) R6 Z ?_;rw[←hr];refine ZG ?_;refine zi R6 R (v:=U .u64 (p:Int)) R2<|Zi ?_;refine zi R6 R (v:=U .u64 (p:Int)) R2<|Zi ?_;refine xm (a:=q) (b:=I) R6 Z<|yT (a:=p) (b:=q*I) R6 Z<|zM ?_;refine yr (cs:=[U .u64 (p:Int)]) R8 R zb jy ?_;refine zM ?_;refine yr (cs:=[U .u64 (I:Int)]) R8 (ze _ _ _) zb jy ?_;rw[yI];generalize hh:upd h4 (3*(n+1)+2) _=h5;have ai:KN n h h5:=fun b B=>by rw[←hh,zg Z,a5 b B]
 have am:=(show h5 (3*n+2)=h4 (3*n+2)from by rw[←hh,zg Z]).trans K;have q5:h5 (3*(n+1)+2)=some (.row [U .u64 (p:Int),U .u64 (I:Int),U .u64 (v0:Int),U .u64 (g:Int),Dk o] e4):=by rw[←hh,ze];rfl
 refine ZG ?_;refine zi R6 q5 (v:=U .u64 (g:Int)) R2<|Zi ?_;refine zi R6 q5 (v:=U .u64 (g:Int)) R2<|Zi ?_;refine xm (a:=q) (b:=u) R6 Z<|yT (a:=g) (b:=q*u) R6 Z<|zM ?_;refine yr (cs:=[U .u64 (g:Int)]) R8 q5 zb jy ?_;refine zM ?_;refine yr (cs:=[U .u64 (u:Int)]) R8 (ze _ _ _) zb jy ?_;rw[yI];generalize hh:upd h5 (3*(n+1)+2) _=h6;have ar:KN n h h6:=fun b B=>by rw[←hh,zg Z,ai b B]
 have ay:=(show h6 (3*n+2)=h5 (3*n+2)from by rw[←hh,zg Z]).trans am;have q6:h6 (3*(n+1)+2)=some (.row [U .u64 (p:Int),U .u64 (I:Int),U .u64 (g:Int),U .u64 (u:Int),Dk o] e4):=by rw[←hh,ze];rfl
 refine ZG ?_;refine zi R6 q6 (v:=Dk o) R2<|Zi ?_;refine yr (cs:=[Dk (!o)]) R8 q6 zb jy ?_;refine zN ?_;exact goOn ⟨y,r,p,I,p+q*I,g,u,g+q*u,!o⟩ aj V6 ⟨rfl,rfl,fun b B=>(zg Z).trans (ar b B),⟨e1,(zg Z).trans ay⟩,⟨e4,(ze _ _ _).trans rfl⟩,ac,by show y≤_;omega,b3,b4,by show p+q*I≤_;omega,b6,b7,by show g+q*u≤_;omega⟩
section
variable {cap l st:Nat}{e:TypeId}
theorem jW{x w s:Nat}(a:V+c*P=Z4*w)(f:18446744073709551616*c'+s=x*w+c):V+P*s+c'*(P*18446744073709551616)=(Z4+P*x)*w:=by
 have:=aI (P:=P) (V:=V) (Z4:=0) (W:=Z4) (z:=0) (v:=x) (w:=w) (c:=c) (s:=s) (c':=c') (by rw[a,D7]) (by rw[f,D7]);rw[Fp,Ej,D7]at this;exact this
theorem VG{a s t:Nat}(h:d+s*P=a+t*P)(g:d<P)(f:a<P):d=a:=by
 have:=congrArg (· %P) h;simp only[Gx,Dz g,Dz f]at this;exact this
theorem iO{q j m i a f g:Nat}(v:p+j*P=f)(w:q+m*P=g)(y:D+p=q+i*P)(B:g=f+a)(o:D<P)(u:a<P):D=a:=by
 refine VG (s:=m) (t:=i+j) (P:=P) ?_ o u;exact AY
theorem bY{D:List Nat}{x:Nat}(d:Nat)(a:Z0[O D]?=some x):((D++Z0.drop (O D))++S).set (O D) d=((D++[d])++Z0.drop (O (D++[d])))++S:=by
 have:=jJ (P:=[]) (S:=S) d a;rw[El,El,GB,D7]at this;exact this
theorem iv(a:b<3*n)(i:h b=some (.row (u64s (Z0++S)) e))(g:O Z0=l)(f:l≤cap):Sl h n 1 (Y (some ⟨b,0,none⟩) l cap) (u64s Z0):=by
 subst g;exact bp (P:=[]) a i f
structure ASt where
 D:List Nat
 F:List Nat
 cP:Nat
 cQ:Nat
 cR:Nat
 cT:Nat
 b1:Nat
 b2:Nat
 p:Nat
 q:Nat
 r:Nat
 t:Nat
def ASt.ok(A B:List Nat)(u0 u1 v0 v1:Nat)(odd:Bool)(z:ASt):Prop:=
 (O z.D)≤O A∧O z.F=O z.D∧KQ z.D∧KQ z.F∧z.cP<18446744073709551616∧z.cQ<18446744073709551616∧z.cR<18446744073709551616∧z.cT<18446744073709551616∧z.b1≤1∧z.b2≤1∧
 z.p+z.cP*18446744073709551616^O z.D=wv (A.take (O z.D))*u0∧z.q+z.cQ*18446744073709551616^O z.D=wv (B.take (O z.D))*v0∧z.r+z.cR*18446744073709551616^O z.D=wv (B.take (O z.D))*v1∧z.t+z.cT*18446744073709551616^O z.D=wv (A.take (O z.D))*u1∧
 (odd=false→wv z.D+z.p=z.q+z.b1*18446744073709551616^O z.D∧wv z.F+z.r=z.t+z.b2*18446744073709551616^O z.D)∧
 (odd=true→wv z.D+z.q=z.p+z.b1*18446744073709551616^O z.D∧wv z.F+z.t=z.r+z.b2*18446744073709551616^O z.D)
theorem ASt.step{B:List Nat}{J x y:Nat}{z:ASt}(hz:z.ok A B u0 u1 J v1 odd)(K:A[O z.D]?=some x)(hy:B[O z.D]?=some y){j m o s u v w f g i:Nat}
  (h1:18446744073709551616*s+j=x*u0+z.cP)(h2:18446744073709551616*u+m=y*J+z.cQ)(h3:18446744073709551616*v+o=y*v1+z.cR)(h4:18446744073709551616*w+st=x*u1+z.cT)
  (hl:s<18446744073709551616∧u<18446744073709551616∧v<18446744073709551616∧w<18446744073709551616∧d<18446744073709551616∧f<18446744073709551616∧g≤1∧i≤1)
  (W:odd=false→d+j+z.b1=m+18446744073709551616*g∧f+o+z.b2=st+18446744073709551616*i)(Z3:odd=true→d+m+z.b1=j+18446744073709551616*g∧f+st+z.b2=o+18446744073709551616*i):
  ASt.ok A B u0 u1 J v1 odd ⟨z.D++[d],z.F++[f],s,u,v,w,g,i,z.p+18446744073709551616^O z.D*j,z.q+18446744073709551616^O z.D*m,z.r+18446744073709551616^O z.D*o,z.t+18446744073709551616^O z.D*st⟩:=by
 obtain⟨k1,k2,k3,k4,k5,k6,k7,k8,k9,a1,L,M,N,Z1,R,T⟩:=hz;obtain⟨l1,l2,l3,l4,l5,l6,l7,l8⟩:=hl;have a0:O z.D<O A:=(Du.1 K).1;unfold ASt.ok;simp only[Do,Dy];rw[zV K,zV hy,xq,xq,k2,DI];refine⟨Z,rfl,G7 k3 l5,G7 k4 l6,l1,l2,l3,l4,l7,l8,jW L h1,jW M h2,jW N h3,jW Z1 h4,fun a=>?_,fun a=>?_⟩
 .obtain⟨C,G⟩:=R a;obtain⟨H,I⟩:=W a;exact⟨uZ C H,uZ G I⟩
 obtain⟨C,G⟩:=T a;obtain⟨H,I⟩:=Z3 a;exact⟨uZ C H,uZ G I⟩
theorem ASt.fin{B:List Nat}{m a:Nat}{z:ASt}(M:z.ok A B u0 u1 m v1 odd)(L:O z.D=O A)(I:O B=O A)(G:a<18446744073709551616^O A)(H:b<18446744073709551616^O A)(J:odd=false→m*wv B=u0*wv A+a∧u1*wv A=v1*wv B+b)(K:odd=true→u0*wv A=m*wv B+a∧v1*wv B=u1*wv A+b):
  wv z.D=a∧wv z.F=b:=by
 obtain⟨k1,N,Z1,R,k5,k6,k7,k8,k9,Z3,f,g,i,j,q,s⟩:=M;have C:=um Z1;have o:=um R;rw[N]at o;rw[L]at f g i j q s C o;have T:A.take (O A)=A:=DO;have W:B.take (O A)=B:=by rw[←I,DO]
 rw[T]at f j;rw[W]at g i;cases odd with
 |false=>
  obtain⟨u,v⟩:=q rfl;obtain⟨w,y⟩:=J rfl;exact⟨iO f g u (by rw[Dt _ m,w,Dt u0]) C G,iO i j v (by rw[Dt _ u1,y,Dt v1]) o H⟩
 |true=>
  obtain⟨u,v⟩:=s rfl;obtain⟨w,y⟩:=K rfl;exact⟨iO g f u (by rw[Dt _ u0,w,Dt m]) C G,iO j i v (by rw[Dt _ v1,y,Dt u1]) o H⟩
theorem VH(k:Nat){g i C:Nat}{B TA TB:List Nat}{eA:TypeId}{m a:Nat}(aa:g<3*n)(ab:i<3*n)(ai:g≠i)(aj:h g=some (.row (u64s (A++TA)) eA))(ak:h i=some (.row (u64s (B++TB)) eB))(b3:O A≤C)(b4:O B≤cB)(hB:O B=O A)(bq:1≤O A)(bp:O A<1000000000)(dA:KQ A)(dB:KQ B)
  (hu:u0<18446744073709551616∧u1<18446744073709551616∧m<18446744073709551616∧v1<18446744073709551616)(ha:a<18446744073709551616^O A)(hb:b<18446744073709551616^O A)(hE:odd=false→m*wv B=u0*wv A+a∧u1*wv A=v1*wv B+b)(hO:odd=true→u0*wv A=m*wv B+a∧v1*wv B=u1*wv A+b):
  CF (KO (k+3)) 182 [.agg #[U .u64 (u0:Int),U .u64 (u1:Int),U .u64 (m:Int),U .u64 (v1:Int),Dk odd],Y (some ⟨g,0,none⟩) (O A) C,Y (some ⟨i,0,none⟩) (O B) cB] h n fun _ o n' w=>∃A' B',(∀c∈w,c=g∨c=i)∧n≤n'∧(∀c,c<3*n→c≠g→c≠i→o c=h c)∧o g=some (.row (u64s (A'++TA)) eA)∧o i=some (.row (u64s (B'++TB)) eB)∧KQ A'∧KQ B'∧O A'=O A∧O B'=O A∧wv A'=a∧wv B'=b:=by
 refine ph (fn:=Tryz.f182) R4 ?_;obtain⟨al,am,an,ao⟩:=hu;refine zN ?_;refine xV (cs:=[U .u64 (u0:Int),U .u64 (u1:Int),U .u64 (m:Int),U .u64 (v1:Int),Dk odd]) R5 ?_;generalize hh:upd h (3*n+2) _=G;have M:∀c,c<3*n→G c=h c:=fun c hc=>by rw[←hh,zg Z]
 have q1:∃e,G (3*n+2)=some (.row [U .u64 (u0:Int),U .u64 (u1:Int),U .u64 (m:Int),U .u64 (v1:Int),Dk odd] e):=⟨_,kz⟩;refine Zc ?_;refine Zl ?_;refine zK (α:=ASt) (fun z=>[(1,Y (some ⟨g,0,none⟩) (O A) C),(2,Y (some ⟨i,0,none⟩) (O B) cB),(3,Dn (some ⟨3*n+2,0,none⟩)),(6,U .u64 (z.cP:Int)),(7,U .u64 (z.cQ:Int)),(8,U .u64 (z.cR:Int)),(9,U .u64 (z.cT:Int)),(10,U .u64 (z.b1:Int)),(11,U .u64 (z.b2:Int)),(19,Y (some ⟨g,0,none⟩) (O A) C),(20,U .i64 (O A:Int)),(21,U .i64 (O z.D:Int))])
  (fun z o n' w=>n'=n+1∧(∀c∈w,c=g∨c=i)∧(w=[]→O z.D=0)∧(∀c,c<3*n→c≠g→c≠i→o c=h c)∧(∃e,o (3*n+2)=some (.row [U .u64 (u0:Int),U .u64 (u1:Int),U .u64 (m:Int),U .u64 (v1:Int),Dk odd] e))∧o g=some (.row (u64s ((z.D++A.drop (O z.D))++TA)) eA)∧o i=some (.row (u64s ((z.F++B.drop (O z.F))++TB)) eB)∧z.ok A B u0 u1 m v1 odd) (fun z=>O A-O z.D)
  ⟨[],[],0,0,0,0,0,0,0,0,0,0⟩ Rs ⟨rfl,fun x R=>oU R Ds,fun _=>rfl,fun c hc _ _=>M c hc,q1,(M _ aa).trans aj,(M _ ab).trans ak,Di,rfl,IB,IB,Ai,Ai,Ai,Ai,by show(0:Nat)≤_;decide,by show(0:Nat)≤_;decide,xd,xd,xd,xd,fun _=>by simp[wv,dv],fun _=>by simp[wv,dv]⟩ Au ?_
 rintro⟨D,F,cP,cQ,cR,cT,b1,b2,p,q,r,t'⟩ t u _ w ⟨rfl,hw,ap,a6,⟨e2,H⟩,T,W,hz⟩;have ax:ASt.ok A B u0 u1 m v1 odd ⟨D,F,cP,cQ,cR,cT,b1,b2,p,q,r,t'⟩:=hz;have bm:=hz;obtain⟨k1,k2,k3,k4,k5,k6,k7,k8,k9,a7,_⟩:=bm;simp only at ap T W k1 k2 k3 k4 k5 k6 k7 k8 k9 a7;refine zN ?_;by_cases hDA:O D=O A
 .refine Zk ?_;obtain⟨f1,f2⟩:=ASt.fin ax hDA hB ha hb hE hO;rw[hDA,Fo,DZ]at T;rw[k2,hDA,←hB,Fo,DZ]at W;refine⟨rfl,[],rfl,⟨D,F,hw,DM n,a6,T,W,k3,k4,hDA,Z,f1,f2⟩,fun h0=>?_⟩;have:=ap h0;omega
 obtain⟨x,R⟩:∃x,A[O D]?=some x:=⟨A[O D]'Z,Dm Z⟩;obtain⟨y,hy⟩:∃y,B[O D]?=some y:=⟨B[O D]'Z,Dm Z⟩;have N:=dA.get R;have Z1:=dB.get hy;have a8:Sl u (n+1) 1 (Y (some ⟨g,0,none⟩) (O A) C) (u64s (D++A.drop (O D))):=iv Z T gN b3;have a9:Sl u (n+1) 1 (Y (some ⟨i,0,none⟩) (O B) cB) (u64s (F++B.drop (O F))):=iv Z W gN b4;have aq:B[O F]?=some y:=by rw[k2];exact hy
 refine Zr ?_;refine ya (f:=fun d:Nat=>U .u64 (d:Int)) (j:=O D) R7 a8 R2 (tR R) (fun _=>rfl) R4 fun _=>?_;refine Zj ?_;refine ya (f:=fun d:Nat=>U .u64 (d:Int)) (j:=O F) R7 a9 ⟨rfl,Z⟩ (tR aq) (fun _=>rfl) R4 fun _=>?_;refine Zb ?_;have bh:=ou N al;refine Zi ?_;refine zi R6 H (v:=U .u64 (u0:Int)) R2<|zM ?_;refine ye _ R5 (sM k u (n+1) N al k5) ?_;rintro _ rfl;obtain⟨Z3,J⟩:∃z,z=(x*u0+cP)%18446744073709551616:=⟨_,rfl⟩;obtain⟨cp,a0⟩:∃z,z=(x*u0+cP)/18446744073709551616:=⟨_,rfl⟩;rw[←J,←a0];have ae:Z3<18446744073709551616:=by rw[J];exact Ce
 have b6:cp<18446744073709551616:=Z;have ba:18446744073709551616*cp+Z3=x*u0+cP:=by rw[J,a0];exact CW
 refine Zb ?_;have bi:=ou Z1 an;refine Zi ?_;refine zi R6 H (v:=U .u64 (m:Int)) R2<|zM ?_;refine ye _ R5 (sM k u (n+1) Z1 an k6) ?_;rintro _ rfl;obtain⟨sq,K⟩:∃z,z=(y*m+cQ)%18446744073709551616:=⟨_,rfl⟩;obtain⟨cq,a1⟩:∃z,z=(y*m+cQ)/18446744073709551616:=⟨_,rfl⟩;rw[←K,←a1];have af:sq<18446744073709551616:=by rw[K];exact Ce
 have b7:cq<18446744073709551616:=Z;have bb:18446744073709551616*cq+sq=y*m+cQ:=by rw[K,a1];exact CW
 refine Zb ?_;have bj:=ou Z1 ao;refine Zi ?_;refine zi R6 H (v:=U .u64 (v1:Int)) R2<|zM ?_;refine ye _ R5 (sM k u (n+1) Z1 ao k7) ?_;rintro _ rfl;obtain⟨sr,L⟩:∃z,z=(y*v1+cR)%18446744073709551616:=⟨_,rfl⟩;obtain⟨cr,a2⟩:∃z,z=(y*v1+cR)/18446744073709551616:=⟨_,rfl⟩;rw[←L,←a2];have ag:sr<18446744073709551616:=by rw[L];exact Ce
 have b8:cr<18446744073709551616:=Z;have bc:18446744073709551616*cr+sr=y*v1+cR:=by rw[L,a2];exact CW
 refine Zb ?_;have bk:=ou N am;refine Zi ?_;refine zi R6 H (v:=U .u64 (u1:Int)) R2<|zM ?_;refine ye _ R5 (sM k u (n+1) N am k8) ?_;rintro _ rfl;obtain⟨st,s⟩:∃z,z=(x*u1+cT)%18446744073709551616:=⟨_,rfl⟩;obtain⟨ct,a3⟩:∃z,z=(x*u1+cT)/18446744073709551616:=⟨_,rfl⟩;rw[←s,←a3];have ah:st<18446744073709551616:=by rw[s];exact Ce
 have b9:ct<18446744073709551616:=Z;have bd:18446744073709551616*ct+st=x*u1+cT:=by rw[s,a3];exact CW
 refine ZG ?_;refine zi R6 H (v:=Dk odd) R2 ?_;simp only[zX,yi,zm,yj];refine yp (α:=Nat×Nat×Nat×Nat) (fun z=>[(1,Y (some ⟨g,0,none⟩) (O A) C),(2,Y (some ⟨i,0,none⟩) (O B) cB),(3,Dn (some ⟨3*n+2,0,none⟩)),(6,U .u64 (cp:Int)),(7,U .u64 (cq:Int)),(8,U .u64 (cr:Int)),(9,U .u64 (ct:Int)),(10,U .u64 (b1:Int)),(11,U .u64 (b2:Int)),(12,U .u64 (z.1:Int)),(13,U .u64 (z.2.1:Int)),(14,U .u64 (z.2.2.1:Int)),(15,U .u64 (z.2.2.2:Int)),(16,U .i64 (O D:Int)),(19,Y (some ⟨g,0,none⟩) (O A) C),(20,U .i64 (O A:Int)),(21,U .i64 (O D:Int))])
  (fun z o n' w'=>u=o∧n+1=n'∧w=w'∧z.1<18446744073709551616∧z.2.1<18446744073709551616∧z.2.2.1<18446744073709551616∧z.2.2.2<18446744073709551616∧(odd=false→z.1=Z3∧z.2.1=sq∧z.2.2.1=sr∧z.2.2.2=st)∧(odd=true→z.1=sq∧z.2.1=Z3∧z.2.2.1=st∧z.2.2.2=sr)) ?_ ?_
 .cases odd with
  |false=>
   refine ZF ?_;exact zC (Z3,sq,sr,st) Oy ⟨rfl,rfl,rfl,ae,af,ag,ah,fun _=>R4,fun h=>by cases h⟩
  |true=>
   rw[zc rfl];refine Zc ?_;exact zC (sq,Z3,st,sr) Oy ⟨rfl,rfl,rfl,af,ae,ah,ag,fun h=>Aq,fun _=>R4⟩
 rintro⟨z1,z2,z3,z4⟩ t3 _ _ _ ⟨rfl,rfl,rfl,ar,au,av,aw,gE,gO⟩;simp only at ar au av aw gE gO;refine zN ?_;have bf:(D++A.drop (O D)).length=O A:=by rw[Do,Ea];omega
 have bg:(F++B.drop (O F)).length=O B:=by rw[Do,Ea];omega
 repeat refine zR ?_
 refine qM (x:=z2) (y:=z1) (c:=b1) R5 k9 ?_;have a4:=u4 au ar k9;obtain⟨d,hd⟩:∃d,d=(z2+18446744073709551616-z1-b1)%18446744073709551616:=⟨_,rfl⟩;obtain⟨e1,ac⟩:∃e1,e1=(if z1+b1≤z2 then 0 else 1):=⟨_,rfl⟩;rw[←hd,←ac]at a4⊢;have b5:d<18446744073709551616:=by rw[hd];exact Ce
 have ay:e1≤1:=by rw[ac];split<;>omega
 repeat refine zR ?_
 refine yW (j:=O D) (off:=0) (v:=U .u64 (d:Int)) R8 rfl ⟨Z,by rw[zQ,Do,bf];omega⟩ T aa (fun _=>rfl) R3 (fun _=>rfl) rfl fun _=>?_;rw[D7,yA,bY _ R];generalize hh:upd u g _=h3;have bn:h3 g=some (.row (u64s (((D++[d])++A.drop (O (D++[d])))++TA)) eA):=by rw[←hh,ze]
 have bo:h3 i=some (.row (u64s ((F++B.drop (O F))++TB)) eB):=by rw[←hh,zg (Ne.symm ai)];exact W
 have q3:=(show h3 (3*n+2)=u (3*n+2)from by rw[←hh,zg Z]).trans H;have bl:∀c,c<3*n→c≠g→c≠i→h3 c=h c:=fun c hc G I=>by rw[←hh,zg G];exact a6 c hc G I
 refine Zj ?_;refine qM (x:=z4) (y:=z3) (c:=b2) R5 a7 ?_;have a5:=u4 aw av a7;obtain⟨f,hf⟩:∃d,d=(z4+18446744073709551616-z3-b2)%18446744073709551616:=⟨_,rfl⟩;obtain⟨b0,ad⟩:∃e1,e1=(if z3+b2≤z4 then 0 else 1):=⟨_,rfl⟩;rw[←hf,←ad]at a5⊢;have be:f<18446744073709551616:=by rw[hf];exact Ce
 have az:b0≤1:=by rw[ad];split<;>omega
 repeat refine zR ?_
 refine yW (j:=O F) (off:=0) (v:=U .u64 (f:Int)) R8 Z ⟨Z,by rw[zQ,Do,bg];omega⟩ bo ab (fun _=>rfl) R3 (fun _=>rfl) rfl fun _=>?_;rw[D7,yA,bY _ aq];refine Zl ?_;have s:=ASt.step ax R hy ba bb bc bd ⟨b6,b7,b8,b9,b5,be,ay,az⟩ (fun h=>by
  obtain⟨i1,i2,i3,i4⟩:=gE h;rw[←i1,←i2,←i3,←i4];exact⟨a4,a5⟩) (fun h=>by
  obtain⟨i1,i2,i3,i4⟩:=gO h;rw[←i1,←i2,←i3,←i4];exact⟨a4,a5⟩)
 refine goOn _ ?_ ⟨rfl,rfl,rfl,rfl,rfl,rfl,rfl,rfl,rfl,rfl,rfl,?_,Df⟩ ⟨rfl,?_,?_,?_,⟨e2,(zg Z).trans q3⟩,(zg ai).trans bn,ze _ _ _,s⟩
 .show (O A)-O (D++[d])<O A-O D;exact BH
 .show U .i64 _=U .i64 _;exact ra
 .intro c hc;rcases DR.1 hc with rfl|hc
  .exact .inr rfl
  rcases DR.1 hc with rfl|hc
  .exact .inl rfl
  exact hw c hc
 .intro h;cases h
 intro c hc G I;exact(zg I).trans (bl c hc G I)
end
section
variable {sT e:TypeId}{x:Value}
theorem VI{cap:Nat}{c:List Value}(hu:E.und sT=some (.slice e))(q:E.inf e=some (1,bytes,z))(F:O (zr z)=1)(m:1≤bytes)(D:argS h 1 x 1 [v])(p:(len+1)*bytes≤1099511627776)(hc:len+1≤cap)(y:h b=some (.row c e'))(s:len<O c)(u:ones [v]=true):
  yP E h n sT (Y (some ⟨b,0,none⟩) len cap) x=some (.val (Y (some ⟨b,0,none⟩) (len+1) cap) (upd h b (some (.row (c.set len v) e'))) n [b]):=by
 obtain⟨f,a⟩:=D;have c1:DX ((len+1)*bytes) 1099511627776=true:=Dv p;have c2:Eh (O (zr z)) 1=true:=by rw[F];exact Ct
 have g:DX 1 1=true:=rfl;have i:DX 1 bytes=true:=Dv m;have j:DX (len+1) cap=true:=Dv hc;have l:vJ h ((⟨b,0,none⟩:Addr).add (len*1)) [v]=some (upd h b (some (.row (c.set len v) e'))):=by
  rw[ws,D7,Ek,ug y (by rw[Dy];omega) u,splice_one c len v s]
 simp only[yP,hu,q,f,a,c1,c2,g,i,j,EF,uM,l]
end
structure GRow (h:HF)(lo n b:Nat)(A T:List Nat):Prop where
 g:gro b=true
 lo:3*lo≤b
 hi:b<3*n
 r:h b=some (.row (u64s (A++T)) 164)
theorem GRow.sl{h:HF}{n:Nat}(g:GRow h lo n b A T):Sl h n 1 (Y (some ⟨b,0,none⟩) (O A) (O A+O T)) (u64s A):=iv g.hi g.r rfl Z
theorem GRow.ext{h:HF}{n:Nat}(g:GRow h lo n b A T)(e:KN n h h')(a:n≤n'):GRow h' lo n' b A T:=⟨g.g,g.lo,by have:=g.hi;omega,by rw[e b g.hi];exact g.r⟩
theorem GRow.cut{h:HF}{n:Nat}(g:GRow h lo n b A T):GRow h lo n b (z0 A) (A.drop (O (z0 A))++T):=⟨g.g,g.lo,g.hi,by
 rw[←DN];have:z0 A++A.drop (O (z0 A))=A:=by
  conv=>lhs;rw[←ru A]
  conv=>rhs;rw[←Ep (O (z0 A)) A]
  rw[ru]
 rw[this];exact g.r⟩
theorem GRow.cap:O (z0 A)+(A.drop (O (z0 A))++T).length=O A+O T:=by
 have:=yV A;exact gN
section
variable {X:CtxF}{t:TF}{o:Oper}{d:Tmp}
theorem VJ{sT:TypeId}{s x:Operand}{bytes:Nat}{z:Value}{d0:Nat}(F:zh ops t o=true)(hd:o.dst=some d)(hn:zu X.nt (some d)=true)(u:o.op=.call {callee:=.builtin .append,args:=#[s,x],argTypes:=#[sT,xT]})(i:(match X.E.und xT with|some (.int _)=>false|none=>false|_=>true)=true)
  (hu:X.E.und sT=some (.slice 164))(q:X.E.inf 164=some (1,bytes,z))(H:O (zr z)=1)(l:1≤bytes)(f:KM t s=Y (some ⟨b,0,none⟩) (O A) (O A+O T))(a:GRow h lo n b A T)(G:argS h 1 (KM t x) 1 (u64s [d0]))(m:(O A+1)*bytes≤1099511627776)(K:X.n0≤lo∧lo≤n)
  (k:∀b' T' h' n',n≤n'→GRow h' lo n' b' (A++[d0]) T'→(∀c,c<3*n→c≠b→h' c=h c)→(b'=b∨3*n≤b')→EO X ops r ⟨upd t d (Y (some ⟨b',0,none⟩) (O A+1) (O A+1+O T')),h',n',w⟩ Q):EO X ops (o::r) ⟨t,h,n,w⟩ Q:=by
 have J:=a.lo;cases T with
 |cons x T=>
  rw[D3]at f;refine yX (v:=Y (some ⟨b,0,none⟩) (O A+1) (O A+(O T+1))) ⟨F,hd,hn,u,i⟩ (by rw[f];exact VI hu q H l G m Z a.r (by rw[zQ,Do,D3];omega) rfl) ?_;rw[zZ fun y j=>by rw[Dx.1 j];omega];have:=k b T (upd h b (some (.row ((u64s (A++x::T)).set (O A) (U .u64 (d0:Int))) 164))) n Dh ⟨a.g,a.lo,a.hi,by
   rw[ze,yA,Eo _ _ Dh,Ee,List.set_cons_zero,DN];rfl⟩ (fun c _ hc=>zg hc) (.inl rfl)
  rw[show (O A)+(O T+1)=O A+1+O T from Z];exact this
 |nil=>
  rw[GB,Ej]at f;have D:=a.r;rw[DZ]at D;refine yX (v:=Y (some ⟨3*n+1,0,none⟩) (O A+1) (O A+1)) ⟨F,hd,hn,u,i⟩ (by rw[f];exact rS hu q H Dh l G Dh m a.g D (by rw[zQ,Ek]) (wI (wR A) rfl) rfl) ?_;rw[zZ fun y j=>by rw[Dx.1 j];omega];have I:=a.hi;exact k (3*n+1) [] _ (n+1) (DM n) ⟨pF n,Z,Z,by rw[ze,DZ,uq]⟩ (fun c hc p=>by rw[zg Z,zg p]) (.inr Z)
end
theorem PZ{A a f:Nat}(c:2*b≤A)(g:a≤B)(h:A*B<2^f)(hp:0<A*B):∃f',f=f'+1∧a*b<2^f':=by
 cases f with
 |zero=>rw[FD]at h;omega
 |succ f=>
  refine⟨f,rfl,?_⟩;have i:a*(2*b)≤B*A:=Es g c;rw[ER,Dt B A]at i;rw[DI]at h;omega
structure GSt where
 A:List Nat
 TA:List Nat
 bA:Nat
 B:List Nat
 aB:Option Addr
 cB:Nat
 f:Nat
structure GOk (h:HF)(lo n g:Nat)(z:GSt):Prop where
 rA:GRow h lo n z.bA z.A z.TA
 sB:Sl h n 1 (Y z.aB (O z.B) z.cB) (u64s z.B)
 rB:1≤O z.B→∃bB TB,z.aB=some ⟨bB,0,none⟩∧z.cB=O z.B+O TB∧GRow h lo n bB z.B TB∧z.bA≠bB
 nA:NW z.A
 nB:NW z.B
 le:wv z.B≤wv z.A
 pos:0<wv z.A
 lA:O z.A<1000000
 lB:O z.B<80
 gcd:DH (wv z.A) (wv z.B)=g
 fuel:wv z.A*wv z.B<2^z.f
theorem P0(h:NW A)(c:1≤O A):0<wv A:=by
 rcases FF (wv A)with a|a
 .have:A=[]:=h.inj KF (by rw[a];rfl);rw[this]at c;exact oU c zd
 exact a
theorem sR{B:List Nat}(c:NW A)(f:NW B)(h:wv B≤wv A):O B≤O A:=by
 rcases EG (O A) (O B) with a|a
 .have:=c.len_lt f a;omega
 exact a
theorem VK(h:gro b=true):b%3=1:=Eb h
theorem dW(k:Nat){h:HF}(hG:GK.G h){n:Nat}(hn:20≤n)(hA:Sl h n 1 (Y a1 l1 c1) (u64s A))(hC:Sl h n 1 (Y a2 l2 c2) (u64s C))(u:NW A)(nC:NW C)(R:O A<80∧O C<80):
  CF (KO (k+7)) 150 [Y a1 l1 c1,Y a2 l2 c2] h n fun v h' n' w=>∃L,ResW n h v h' n' w L∧wv L=DH (wv A) (wv C)∧(yh n v∨v=Y a1 l1 c1∨v=Y a2 l2 c2):=by
 refine zl (fn:=at5) R4<|Zc ?_;refine Zi ?_;refine ye _ R5 (uA (k+3) hA hC u nC Z) ?_;rintro _ rfl;refine ql R6 ?_;simp only[zX,yi,zm,yj];refine yp (α:=(Option Addr×Nat×Nat×List Nat)×(Option Addr×Nat×Nat×List Nat)) (fun z=>[(0,Y z.1.1 z.1.2.1 z.1.2.2.1),(1,Y z.2.1 z.2.2.1 z.2.2.2.1)]) (fun z h' n' w=>h=h'∧n=n'∧w=[]∧Sl h n 1 (Y z.1.1 z.1.2.1 z.1.2.2.1) (u64s z.1.2.2.2)∧Sl h n 1 (Y z.2.1 z.2.2.1 z.2.2.2.1) (u64s z.2.2.2.2)∧NW z.1.2.2.2∧NW z.2.2.2.2∧O z.1.2.2.2<80∧O z.2.2.2.2<80∧wv z.2.2.2.2≤wv z.1.2.2.2∧DH (wv z.1.2.2.2) (wv z.2.2.2.2)=DH (wv A) (wv C)∧(Y z.1.1 z.1.2.1 z.1.2.2.1=Y a1 l1 c1∨Y z.1.1 z.1.2.1 z.1.2.2.1=Y a2 l2 c2)) ?_ ?_
 .by_cases hlt:wv A<wv C
  .rw[zc (by show Dk _=_;rw[vW hlt];rfl)];refine Zc ?_;exact zC ((a2,l2,c2,C),(a1,l1,c1,A)) V2 ⟨rfl,rfl,rfl,hC,hA,nC,u,R.2,R.1,HG hlt,FJ _ _,.inr rfl⟩
  rw[za (by
   show Dk _=_;rcases EG (wv C) (wv A)with h|h
   .rw[uz h];rfl
   .rw[show wv A=wv C from Z,qy];rfl)]
  refine zN ?_;exact zC ((a1,l1,c1,A),(a2,l2,c2,C)) V2 ⟨rfl,rfl,rfl,hA,hC,u,nC,R.1,R.2,by show wv C≤wv A;omega,rfl,.inl rfl⟩
 rintro⟨⟨a,l,c,X⟩,⟨a',l',c',Z3⟩⟩ t _ _ _ ⟨rfl,rfl,rfl,hX,hY,nX,nY,bt,ax,a8,H,hv⟩;simp only at hX hY nX nY bt ax a8 H hv;generalize hgg:DH (wv A) (wv C)=g at H⊢;have eX:=hX.lenW;have eY:=hY.lenW;subst eX eY;refine zN ?_;by_cases hY0:Z3=[]
 .subst hY0;refine Zo ?_;exact retH _ ⟨rfl,(zj rfl),rfl⟩ ⟨X,⟨rfl,Dh,FU _ _,hX,nX⟩,BK,.inr hv⟩
 have bu:1≤O Z3:=by
  rcases FF (O Z3) with h0|h0
  .exact oU (DA.1 h0) hY0
  exact h0
 have ah:1≤O X:=Ed bu (sR nX nY a8);have bs:X≠[]:=fun e=>by rw[e]at ah;exact oU ah zd
 refine Zy ?_;refine zk _ R5 (vt (k+5) hX Z) ?_;rintro v5 h2 i _⟨rfl,al,a0,_,aa⟩;obtain⟨b5,rfl,bg,bh,bi,au,_⟩:=(aa bs).inv2 Z;refine zM ?_;refine zk _ R5 (vt (k+5) (hY.ext a0 al) Z) ?_;rintro v6 h3 n3 _⟨rfl,cv,D,_,b0⟩;obtain⟨b6,rfl,bj,cl,bk,av,_⟩:=(b0 hY0).inv2 Z;have ao:KN n h h3:=a0.trans D al;have r5:GRow h3 n n3 b5 X []:=⟨bg,bh,Z,by rw[DZ,D _ bi];exact au⟩;have r6:GRow h3 n n3 b6 Z3 []:=⟨bj,Z,bk,by rw[DZ];exact av⟩;refine Zb ?_;refine zK (α:=GSt) (fun z=>[(5,Y (some ⟨z.bA,0,none⟩) (O z.A) (O z.A+O z.TA)),(6,Y z.aB (O z.B) z.cB)]) (fun z h' n' w=>n≤n'∧w=[]∧KN n h h'∧GOk h' n n' g z) (fun z=>z.f)
  ⟨X,[],b5,Z3,some ⟨b6,0,none⟩,O Z3,64*(O X+O Z3)⟩ V2 ⟨Z,rfl,ao,r5,r6.sl,fun _=>⟨b6,[],rfl,rfl,r6,by show b5≠b6;omega⟩,nX,nY,a8,P0 nX ah,by show O X<_;omega,ax,H,?_⟩ (by show 64*(O X+O Z3)<LL;unfold LL;omega) ?_
 .show wv X*wv Z3<2^(64*(O X+O Z3));rw[Hj,show(2:Nat)^64=18446744073709551616 from rfl,EH];exact Nat.mul_lt_mul'' (um nX.1) (um nY.1)
 rintro⟨A,TA,F,B,aB,cB,f⟩ t h1 n1 _ ⟨ak,rfl,ae,c8⟩;obtain⟨rA,sB,rB,u,Z1,ab,S,lA,lB,H,hf⟩:=c8;simp only at rA sB rB u Z1 ab S lA lB H hf ak;refine zN ?_;by_cases hB2:2≤O B;case neg=>
  refine Zk ?_;cases B with
  |nil=>
   refine Zo ?_;exact retH _ ⟨rfl,(zj rfl),rfl⟩ ⟨A,⟨rfl,ak,ae,rA.sl,u⟩,BK,.inl rA.lo⟩
  |cons y B=>
   have bp:B=[]:=by
    rw[D3]at hB2;exact DA.1 Z
   subst bp;obtain⟨bB,TB,rfl,rfl,gB,b1⟩:=rB cA;have hy:y<18446744073709551616:=Z1.1 y cA;have cz:y≠0:=ak7 (l:=[]) Z1;rw[pV]at H;have b3:=gB.r;have bq:GK.G h1:=uB hG ae hn;rw[show[y].length=1 from rfl];refine Zk ?_;refine zn [0,1,3,0,0,16,48,120,255,511,1023] rfl ?_;repeat refine zE ?_
   refine zS R6 (zL rfl b3 (v:=U .u64 (y:Int)) R2) R2 ?_;repeat refine zE ?_
   refine zS R6 (zL rfl b3 (v:=U .u64 (y:Int)) R2) R2<|mW _ R7 (kM (k+2) (l:=A) (d:=y) Z u.1 ⟨Z,hy⟩ rA.sl) ?_;rintro _ rfl;refine mW _ R7 (kW (k+4) bq n1 hy (ID (EA _ Z) hy)) ?_;rintro _ rfl;refine yy _ R7 (tY (k+5) h1 n1 (DP (Io _ Z) hy)) ?_;rintro v9 h9 n9 _⟨L9,⟨rfl,c7,cf,b4,br⟩,cc,co,c3⟩;obtain⟨a9,l9,c9,rfl,_⟩:=b4.len;refine⟨wa,c7,?_⟩;repeat refine zE ?_
   refine zN ?_;exact retH _ ⟨rfl,(zj rfl),rfl⟩ ⟨L9,⟨rfl,by show n≤n9;omega,ae.trans cf Z,b4,br⟩,by rw[cc,PO,H],.inl (c3.mono Z)⟩
 obtain⟨bB,TB,rfl,rfl,gB,b1⟩:=rB Z;have K:=P0 Z1 (show 1≤O B by omega);have bo:=sR u Z1 ab;refine ZC ?_;refine zk _ R5 (eG (k+3) rA.sl gB.sl u Z1 Z ab Z K) ?_;rintro _ h2 i _⟨rfl,al,a0,x,y,u0,u1,u2,v0,v1,v2,r0,r1,a4,rfl,hL,d0,d1,d2,d3⟩;refine z6 R5<|zw [U .u64 (u0:Int),U .u64 (u1:Int),U .u64 (v0:Int),U .u64 (v1:Int),Dk a4] R7 rfl (ze _ _ _) rfl (by show 3*n≤3*i+2;omega) ?_;rw[yI];generalize hh:upd h2 (3*i+2) _=h3;have q3:∃e,h3 (3*i+2)=some (.row [U .u64 (u0:Int),U .u64 (u1:Int),U .u64 (v0:Int),U .u64 (v1:Int),Dk a4] e):=⟨_,kz⟩;obtain⟨e3,q3⟩:=q3;have a7:KN n1 h1 h3:=fun b R=>by rw[←hh,zg Z,a0 b R]
 have D:KN n h h3:=ae.trans a7 ak;have af:=rA.ext a7 (show n1≤i+1 by omega);have V:=gB.ext a7 (show n1≤i+1 by omega);refine Zd ?_;refine zi R6 q3 (v:=U .u64 (v0:Int)) R2 ?_;by_cases hv0:v0=0
 .refine ZC ?_;refine zk _ R5 (lk k af.sl V.sl u Z1 Z K) ?_;rintro _ h4 n4 _⟨vq,vr,Lq,J,rfl,rfl,ac,P,cb,cx,an,b2,hq,hr,_,_⟩;obtain⟨aq,lq,cq,rfl,_⟩:=cb.len;obtain⟨ar,lr,cr,rfl,_⟩:=an.len;have c4:=EA (wv A) K;have cu:O J≤O B:=sR Z1 b2 Z;have bf:=an.lenW;subst bf;refine Zz ?_;refine zk _ R5 (vt (k+5) an Z) ?_;rintro v5 h5 n5 _⟨rfl,cw,ce,am,aa⟩;obtain⟨a5,l5,c5,rfl,_⟩:=am.len;have be:=am.lenW;subst be;refine Zb ?_;have ap:KN (i+1) h3 h5:=P.trans ce ac;obtain⟨f',rfl,ai⟩:=PZ (a:=wv B) (b:=wv A%wv B) (by
   have h1:=EP (wv A) (wv B);have h2:wv B*1≤wv B*(wv A/wv B):=DT _ ((Nat.one_le_div_iff K).2 ab);omega) Dh hf (Fw S K)
  refine goOn ⟨B,TB,bB,J,a5,c5,f'⟩ (G1 _) V2 ⟨by show n≤n5;omega,rfl,D.trans ap (show n≤i+1 by omega),V.ext ap (show i+1≤n5 by omega),am,fun hl=>?_,Z1,b2,by show wv J≤wv B;rw[hr];exact HG c4,K,by show O B<_;omega,by show O J<_;omega,?_,by show wv B*wv J<_;rw[hr];exact ai⟩
  .obtain⟨b7,e7,bl,cm,bm,bn,_⟩:=(aa (fun e=>by rw[show(GSt.mk B TB bB J a5 c5 f').B=J from rfl,e]at hl;exact oU hl (Nat.not_succ_le_zero 0))).inv2 (show O J≠0 from fun e=>by rw[show(GSt.mk B TB bB J a5 c5 f').B=J from rfl,e]at hl;exact oU hl (Nat.not_succ_le_zero 0));injection e7 with e1 e2 e3
   subst e1 e3;have:=gB.hi;exact⟨b7,[],rfl,rfl,⟨bl,Z,bm,by rw[DZ];exact bn⟩,by show bB≠b7;omega⟩
  show DH (wv B) (wv J)=g;rw[hr,←H,FJ,←Jy,FJ]
 obtain⟨a,b,hE,hO,az,aj,cj,ay⟩:=hL.done hv0;refine Ze ?_;simp only[zX,yi,zm,yj];refine yp (α:=Nat×List Nat×List Nat×Nat) (fun z=>[(5,Y (some ⟨F,0,none⟩) (O A) (O A+O TA)),(6,Y (some ⟨z.1,0,none⟩) (O z.2.1) (O z.2.1+O z.2.2.1)),(7,Dn (some ⟨3*i+2,0,none⟩))])
  (fun z h' n' w=>n'=z.2.2.2∧i+1≤n'∧w=[]∧KN n h h'∧GRow h' n n' F A TA∧GRow h' n n' z.1 z.2.1 z.2.2.1∧F≠z.1∧h' (3*i+2)=some (.row [U .u64 (u0:Int),U .u64 (u1:Int),U .u64 (v0:Int),U .u64 (v1:Int),Dk a4] e3)∧O z.2.1=O A∧KQ z.2.1∧wv z.2.1=wv B) ?_ ?_
 .refine zN ?_;refine zK (α:=Nat×List Nat×List Nat) (fun z=>[(5,Y (some ⟨F,0,none⟩) (O A) (O A+O TA)),(6,Y (some ⟨z.1,0,none⟩) (O z.2.1) (O z.2.1+O z.2.2)),(7,Dn (some ⟨3*i+2,0,none⟩))])
   (fun z h' n' w=>i+1≤n'∧w=[]∧KN n h h'∧GRow h' n n' F A TA∧GRow h' n n' z.1 z.2.1 z.2.2∧F≠z.1∧h' (3*i+2)=some (.row [U .u64 (u0:Int),U .u64 (u1:Int),U .u64 (v0:Int),U .u64 (v1:Int),Dk a4] e3)∧O z.2.1≤O A∧KQ z.2.1∧wv z.2.1=wv B) (fun z=>O A-O z.2.1)
   (bB,B,TB) V3 ⟨Dh,rfl,D,af,V,b1,q3,bo,Z1.1,rfl⟩ (by show O A-O B<LL;unfold LL;omega) ?_
  rintro⟨bZ,Z0,T⟩ t h4 n4 _ ⟨ac,rfl,P,j,s,p,q4,W,dZ,N⟩;simp only at s p W dZ N;refine zN ?_;by_cases hZA:O Z0<O A
  .refine ZD ?_;refine ud (cs:=u64s [0]) R5 ?_;generalize hh:upd h4 (3*n4+2) _=h5;have Z4:KN n4 h4 h5:=by rw[←hh];exact GD Z
   have q5:∃e,h5 (3*n4+2)=some (.row (u64s [0]) e):=⟨_,kz⟩;obtain⟨e5,q5⟩:=q5;refine VJ (lo:=n) (d0:=0) rfl rfl rfl rfl rfl rfl rfl rfl zd rfl (s.ext Z4 (DM n4)) (yG q5 R2) Z ⟨Dh,Z⟩ ?_;intro b' T' h6 n6 c6 g6 a3 bx;refine Zb ?_;have cn:=VK s.g;have bb:=s.hi;have a6:=s.lo;have ba:=j.hi;refine goOn (b',Z0++[0],T') (by show O A-O (Z0++[0])<O A-O Z0;rw[Do,Dy];omega) ⟨rfl,by show Y _ _ _=Y _ _ _;rw[Do];rfl,rfl,Df⟩ ⟨by show i+1≤n6;omega,rfl,fun b R=>?_,⟨j.g,j.lo,by show F<3*n6;omega,?_⟩,g6,by show F≠b';rcases bx with e|e<;>omega,?_,by show(Z0++[0]).length≤_;rw[Do,Dy];omega,G7 dZ zd,by show wv (Z0++[0])=_;rw[xq,Fp,Ej,N]⟩
   .exact(a3 b Z Z).trans ((Z4 b Z).trans (P b R))
   .exact(a3 F Z p).trans ((Z4 F Z).trans j.r)
   exact(a3 (3*i+2) Z Z).trans ((Z4 (3*i+2) Z).trans q4)
  refine Zk ?_;exact zC (bZ,Z0,T,n4) V3 ⟨rfl,ac,rfl,P,j,s,p,q4,by show O Z0=_;omega,dZ,N⟩
 rintro⟨bZ,Z0,T,n4⟩ t h4 _ _ ⟨rfl,ac,rfl,P,j,s,p,q4,W,dZ,N⟩;simp only at s p W dZ N;refine zN ?_;refine zO (v:=.agg #[U .u64 (u0:Int),U .u64 (u1:Int),U .u64 (v0:Int),U .u64 (v1:Int),Dk a4]) R5 (zF R2 q4 rfl zb rfl)<|Zi ?_;have ck:=um u.1;refine zk _ R5 (VH (k+3) (a:=a) (b:=b) j.hi s.hi p j.r s.r Z Z W Z Z u.1 dZ ⟨Z,Z,Z,Z⟩ Z Z (by rw[N];exact hE) (by rw[N];exact hO)) ?_;rintro _ h6 n6 w6⟨q,I,cd,c6,a3,qA,qB,bc,bd,b8,cg,ch,ci⟩;have ag:=j.lo;have a6:=s.lo;have ba:=j.hi;have bb:=s.hi;try simp only[rU]
 rw[zZ (w:=[]) fun y hy=>by
  show 3*n≤y;rcases cd y hy with rfl|rfl
  .exact ag
  .exact a6]
 have b9:GRow h6 n n6 F q TA:=⟨j.g,ag,Z,qA⟩;have aw:GRow h6 n n6 bZ I T:=⟨s.g,a6,Z,qB⟩;refine ZG ?_;have tA:=xR (k+5) (l:=q) Z (fun ad e=>by injection e with e;rw[←e]) b9.sl;rw[b8]at tA;refine zk _ R5 tA ?_;rintro _ h6 n6 _⟨rfl,rfl,rfl,rfl,cy⟩;refine zM ?_;have tB:=xR (k+5) (l:=I) Z (fun ad e=>by injection e with e;rw[←e]) aw.sl;rw[cg,←W]at tB;refine zk _ R5 tB ?_;rintro _ h6 n6 _⟨rfl,rfl,rfl,rfl,ca⟩;refine Zb ?_;have m:=wB bc;have M:=wB bd;rw[ch]at m;rw[ci]at M;have bv:0<a:=by
  rcases FF a with h0|h0
  .have bw:b=0:=Z;rw[h0,bw,HH]at aj;have:=Nat.gcd_pos_of_pos_left (wv B) S;omega
  exact h0
 obtain⟨f',rfl,ai⟩:=PZ (a:=a) (b:=b) Z ay hf (Fw S K);have bz:=GRow.cap (A:=q) (T:=TA);have c0:=GRow.cap (A:=I) (T:=T);have cp:O (z0 q)≤O B:=sR Z1 m.1 (by rw[m.2];exact ay);have ct:O (z0 I)≤O (z0 q):=sR m.1 M.1 (by rw[m.2,M.2];exact az);exact goOn ⟨z0 q,q.drop (O (z0 q))++TA,F,z0 I,some ⟨bZ,0,none⟩,O Z0+O T,f'⟩ (G1 _) ⟨by show Y _ _ _=Y _ _ _;rw[bz,b8],rfl,Df⟩ ⟨by show n≤n6;omega,rfl,fun c hc=>(a3 c Z Z Z).trans (P c hc),b9.cut,ca,fun _=>⟨bZ,I.drop (O (z0 I))++T,rfl,by show O Z0+O T=_;rw[c0];omega,aw.cut,p⟩,m.1,M.1,by show wv (z0 I)≤wv (z0 q);rw[m.2,M.2];exact az,by show 0<wv (z0 q);rw[m.2];exact bv,by show(z0 q).length<_;omega,by show(z0 I).length<_;omega,by show DH (wv (z0 q)) (wv (z0 I))=g;rw[m.2,M.2,aj,H],by show wv (z0 q)*wv (z0 I)<_;rw[m.2,M.2];exact ai⟩
theorem qN(k:Nat)(h:HF)(n:Nat)(neg:Bool)(a:Option Addr)(l c:Nat):CF (KO (k+1)) 154 [Dk neg,Y a l c] h n fun v b d w=>v=.agg #[Dk (neg&&decide (0<l)),Y a l c]∧d=n+1∧w=[]∧KN n h b:=by
 refine zl (fn:=Tryz.f154) R4<|zN ?_;refine z6 R5<|zN ?_;cases neg
 .repeat refine zR ?_
  exact C6
 by_cases hl:0<l
 .repeat refine zR ?_
  exact CV
 repeat refine zR ?_
 exact Ch
theorem NW.zero_iff{L:List Nat}(h:NW L):wv L=0↔L=[]:=⟨fun e=>h.inj KF A0,fun e=>by rw[e];rfl⟩
section
variable {l:Nat}{e:TypeId}{a:Option Addr}
def Gw(n:Nat)(h:HF)(P:Value→HF→Nat→Prop):Value→HF→Nat→List Nat→Prop:=fun v h' n' w=>w=[]∧n≤n'∧KN n h h'∧P v h' n'
def CX(C:CalF)(f:FuncId)(args:List Value)(h:HF)(n:Nat)(P:Value→HF→Nat→Prop):Prop:=CF C f args h n (Gw n h P)
theorem VF.cx{C:CalF}{h:HF}{n:Nat}{P:Value→Prop}(c:VF C f args h n P):CX C f args h n fun v _ _=>P v:=by
 refine yD c ?_;rintro v _ _ _⟨rfl,rfl,rfl,g⟩;exact⟨rfl,Dh,FU _ _,g⟩
theorem CX.mono{C:CalF}{h:HF}{n:Nat}{P g:Value→HF→Nat→Prop}(c:CX C f args h n P)(hp:∀v h' n',P v h' n'→g v h' n'):CX C f args h n g:=by
 refine yD c ?_;rintro v _ _ _⟨q,j,s,p⟩;exact⟨q,j,s,hp _ _ _ p⟩
def Only(b:Nat)(h h':HF):Prop:=∀c,c≠b→h' c=h c
theorem KN.st{n:Nat}{h g:HF}(x:KN n h h1)(o:Only b h1 g)(p:3*n≤b):KN n h g:=fun c j=>(o c Z).trans (x c j)
section
variable {X:CtxF}{t:TF}{o:Oper}{d:Tmp}
theorem rY(cs:List Value)(g:Za X ops t o d (KS o.op=2∧KX X.E o.op (KM t)=some ⟨cs,e,false,none⟩))
  (k:∀h',h' (3*n+2)=some (.row cs e)→KN n h h'→EO X ops r ⟨upd t d (Dn (some ⟨3*n+2,0,none⟩)),h',n+1,w⟩ Q):EO X ops (o::r) ⟨t,h,n,w⟩ Q:=by obtain⟨g,p,s,j,q⟩:=g;exact xV ⟨g,p,s,j,q⟩ (k _ (ze _ _ _) (GD Z))
theorem wO(cs:List Value)(g:Za X ops t o d (o.op=.alloc e∧X.E.inf e=some (sz,bt,z)∧zr z=cs))
  (k:∀h',h' (3*n+2)=some (.row cs e)→KN n h h'→EO X ops r ⟨upd t d (Dn (some ⟨3*n+2,0,none⟩)),h',n+1,w⟩ Q):EO X ops (o::r) ⟨t,h,n,w⟩ Q:=by
 obtain⟨g,j,q,s,p,u⟩:=g;subst u;exact z6 ⟨g,j,q,s,p⟩ (k _ (ze _ _ _) (GD Z))
theorem nO{a x:Operand}{c:List Value}(c':List Value)(j:zh ops t o=true∧o.dst=none∧o.op=.store ty a x∧X.E.inf ty=some (sz,bt,z)∧KM t a=Dn (some ⟨b,off,none⟩))(u:h b=some (.row c e))(p:zr (KM t x)=cs∧O cs=sz∧ones cs=true)(D:off+sz≤O c)(q:zv c off cs=c')(g:3*X.n0≤b)
  (k:∀h',h' b=some (.row c' e)→Only b h h'→EO X ops r ⟨t,h',n,w⟩ Q):EO X ops (o::r) ⟨t,h,n,w⟩ Q:=by
 obtain⟨j,B,F,C,s⟩:=j;obtain⟨p,G,h1⟩:=p;subst q;exact yr ⟨j,B,F,C,s,p,G,h1⟩ u D g (k _ (ze _ _ _) fun c A=>zg A)
theorem ed{P:Value→HF→Nat→Prop}(j:Za X ops t o d (KS o.op=3∧effF X.E o.op (KM t) h n=some (.enter f args)))(g:CX X.C f args h n P)
  (k:∀v h' n',P v h' n'→n≤n'→KN n h h'→EO X ops r ⟨upd t d v,h',n',w⟩ Q):EO X ops (o::r) ⟨t,h,n,w⟩ Q:=by
 obtain⟨j,A,D,u,B⟩:=j;refine zk _ ⟨j,A,D,u,B⟩ g ?_;rintro v h' n' _⟨rfl,p,q,s⟩;exact k v h' n' s p q
end
section
variable {X:CtxF}{t:TF}{o:Oper}{d:Tmp}
theorem VL(cs:List Value)(s:zh ops t o=true)(j:o.dst=some d)(q:zu X.nt (some d)=true)(g:KS o.op=2)(p:KX X.E o.op (KM t)=some ⟨cs,e,false,none⟩)
  (k:∀h',h' (3*n+2)=some (.row cs e)→KN n h h'→ED X ops r ms (i+1) ⟨⟨upd t d (Dn (some ⟨3*n+2,0,none⟩)),h',n+1,w⟩,(i,3*n+2)::al,ld,ef⟩ Q):ED X ops (o::r) (m::ms) i ⟨⟨t,h,n,w⟩,al,ld,ef⟩ Q:=
 TZ s j q g p (k _ (ze _ _ _) (GD Z))
theorem VM{a x:Operand}{c:List Value}(c':List Value)(I:zh ops t o=true)(C:o.dst=none)(G:o.op=.store ty a x)(D:X.E.inf ty=some (sz,bt,z))(u:KM t a=Dn (some ⟨b,off,none⟩))(A:h b=some (.row c e))(J:zr (KM t x)=cs)(H:O cs=sz)(h1:ones cs=true)(F:off+sz≤O c)(j:zv c off cs=c')(g:3*X.n0≤b)(p:xF m ef=true)(q:xW m al=true)(s:yd m [b] ld=true)
  (k:∀h',h' b=some (.row c' e)→Only b h h'→ED X ops r ms (i+1) ⟨⟨t,h',n,w⟩,al,ld,(i,h,[b])::ef⟩ Q):ED X ops (o::r) (m::ms) i ⟨⟨t,h,n,w⟩,al,ld,ef⟩ Q:=by
 subst j;exact xK ⟨I,C,G,D,u,J,H⟩ h1 A F g ⟨p,q,s⟩ (k _ (ze _ _ _) fun c B=>zg B)
theorem VN{P:Value→HF→Nat→Prop}(D:zh ops t o=true)(u:o.dst=some d)(B:zu X.nt (some d)=true)(s:KS o.op=3)(A:effF X.E o.op (KM t) h n=some (.enter f args))(j:CX X.C f args h n P)(h1:xF m ef=true)(g:xW m al=true)
  (k:∀v h' n',P v h' n'→n≤n'→KN n h h'→ED X ops r ms (i+1) ⟨⟨upd t d v,h',n',w⟩,al,ld,(i,h,[])::ef⟩ Q):ED X ops (o::r) (m::ms) i ⟨⟨t,h,n,w⟩,al,ld,ef⟩ Q:=by
 refine yy _ ⟨D,u,B,s,A,h1,g⟩ j ?_;rintro v h' n' _⟨rfl,g,p,q⟩;exact⟨wa,g,k v h' n' q g p⟩
end
theorem oi{s:SV}:resF KT s []=some []:=rfl
theorem xH{s:SV}{a:Tmp}{r:List ResultVar}(h:s.t a=v)(g:resF KT s r=some vs):resF KT s (.tmp a::r)=some (v::vs):=by
 simp only[resF,g,h]
theorem wW{s:SV}{a:Tmp}{g:Addr}{r:List ResultVar}(j:s.t a=Dn (some g))(p:yE KT ty s.h g=some v)(q:resF KT s r=some vs):resF KT s (.cell a ty::r)=some (v::vs):=by
 simp only[resF,j,p,q]
theorem retX{P:Value→HF→Nat→Prop}{e:Ex}{t:TF}{h:HF}{n:Nat}(vs:List Value)(g:rV e=true∧resF KT ⟨t,h,n,[]⟩ fn.results.toList=some vs∧tZ vs=false)(p:n0≤n)(s:KN n0 h0 h)(hp:P (pw vs) h n):RetH fn (Gw n0 h0 P) e ⟨t,h,n,[]⟩:=by obtain⟨g,q,j⟩:=g;exact retH vs ⟨g,q,j⟩ ⟨rfl,p,s,hp⟩
def nu:Value→Bool
 | U .u64 _=>false
 | U .u32 _=>false
 |_=>true
theorem Sl.onlyG{h:HF}{n:Nat}(s:Sl h n 1 v cl)(j:∀x∈cl,nu x=false)(hp:h b=some (.row cs e))(hu:cs.all nu=true)(B:Only b h h'):Sl h' n 1 v cl:=by
 cases s with
 |nil ha=>exact .nil ha
 | @at_ b2 off len cap x cs2 c2 hb hx hc hcap hl he=>
  by_cases h0:len=0
  .subst h0;have:cl=[]:=by rw[←he];simp
   subst this;exact .nil (.inr ⟨_,_,_,rfl,hb⟩)
  have p:b2≠b:=by
   intro q;subst q;rw[hp]at hx;cases hx;injection hc with hc
   subst hc;have u:O cl=len:=by rw[←he,DW,Ea];omega
   obtain⟨d,g,rfl⟩:∃d g,cl=d::g:=by
    cases cl with
    |nil=>exact oU u.symm h0
    |cons d g=>exact⟨d,g,rfl⟩
   have A:d∈cs:=by
    have:d∈(cs.drop off).take (len*1):=by rw[he];exact C1
    exact Cx
   have:=Fy.1 hu _ A;rw[j d Fj]at this;cases this
  exact .at_ hb (by rw[B _ p];exact hx) hc hcap hl he
theorem Sl.only{h:HF}{n:Nat}(s:Sl h n 1 v (u64s L))(hp:h b=some (.row cs e))(hu:cs.all nu=true)(g:Only b h h'):Sl h' n 1 v (u64s L):=
 s.onlyG (fun x j=>by obtain⟨d,_,rfl⟩:=EX.1 j;rfl) hp hu g
theorem Sl.only32{h:HF}{n:Nat}(s:Sl h n 1 v (u32s L))(hp:h b=some (.row cs e))(hu:cs.all nu=true)(g:Only b h h'):Sl h' n 1 v (u32s L):=
 s.onlyG (fun x j=>by obtain⟨d,_,rfl⟩:=EX.1 j;rfl) hp hu g
def WW(h:HF)(n:Nat)(a:Option Addr)(l c m:Nat):Prop:=∃L,Sl h n 1 (Y a l c) (u64s L)∧NW L∧wv L=m
theorem WW.ext{h:HF}{n:Nat}{m:Nat}(i:WW h n a l c m)(e:KN n h h')(p:n≤n'):WW h' n' a l c m:=by
 obtain⟨L,h1,g,j⟩:=i;exact⟨L,h1.ext e p,g,j⟩
theorem WW.only{h:HF}{n:Nat}{m:Nat}(i:WW h n a l c m)(hp:h bb=some (.row cs e))(hu:cs.all nu=true)(p:Only bb h h'):WW h' n a l c m:=by
 obtain⟨L,h1,g,j⟩:=i;exact⟨L,h1.only hp hu p,g,j⟩
theorem WW.zero{h:HF}{n:Nat}{m:Nat}(i:WW h n a l c m):l=0↔m=0:=by
 obtain⟨L,h1,g,j⟩:=i;have e:=h1.lenW;rw[←j,g.zero_iff,←DA,e]
theorem WW.as{h:HF}{n:Nat}{m:Nat}(i:WW h n a l c m)(e:m=m'):WW h n a l c m':=e▸i
theorem WW.nil(h:HF)(n:Nat):WW h n none 0 0 0:=⟨[],.nil (.inl rfl),KF,rfl⟩
def IW(h:HF)(n:Nat)(b:Bool)(a:Option Addr)(l c:Nat)(x:Int):Prop:=b=decide (x<0)∧WW h n a l c x.natAbs
theorem IW.ext{h:HF}{n:Nat}{b:Bool}{x:Int}(i:IW h n b a l c x)(e:KN n h h')(g:n≤n'):IW h' n' b a l c x:=⟨i.1,i.2.ext e g⟩
theorem IW.only{h:HF}{n:Nat}{b:Bool}{x:Int}(i:IW h n b a l c x)(hp:h bb=some (.row cs e))(hu:cs.all nu=true)(g:Only bb h h'):IW h' n b a l c x:=⟨i.1,i.2.only hp hu g⟩
theorem IW.as{h:HF}{n:Nat}{b:Bool}{x y:Int}(i:IW h n b a l c x)(e:x=y):IW h n b a l c y:=e▸i
theorem IW.lt{h:HF}{n:Nat}{x:Int}(i:IW h n true a l c x):x<0:=of_decide_eq_true i.1.symm
theorem IW.ge{h:HF}{n:Nat}{x:Int}(i:IW h n false a l c x):0≤x:=Int.not_lt.1 (of_decide_eq_false i.1.symm)
def IV(x:Int)(v:Value)(h:HF)(n:Nat):Prop:=∃b a l c,v=.agg #[Dk b,Y a l c]∧IW h n b a l c x
def WV(m:Nat)(v:Value)(h:HF)(n:Nat):Prop:=∃a l c,v=Y a l c∧WW h n a l c m
def BV(p:Prop)(v:Value)(_:HF)(_:Nat):Prop:=∃b:Bool,v=Dk b∧(b=true↔p)
def MQ(x:Int)(v:Value)(_:HF)(_:Nat):Prop:=∃s:Int,v=U .i64 s∧(s= -1∧x<0∨s=0∧x=0∨s=1∧0<x)
theorem IW.zero(h:HF)(n:Nat):IW h n false none 0 0 0:=⟨rfl,WW.nil h n⟩
def GG(h:HF)(n:Nat):Prop:=GK.G h∧20≤n
theorem GG.ext{h:HF}{n:Nat}(g:GG h n)(e:KN n h h')(j:n≤n'):GG h' n':=⟨uB g.1 e g.2,Ed g.2 j⟩
def BW:Nat:=18446744073709551616^39
theorem uR{m e:Nat}(h:m<2^e)(j:e≤2496):m<BW:=by
 have h1:e≤64*39:=j;generalize hk:39=k at h1;have g:m<(2^64)^k:=by
  rw[←Hj];exact DY h (DJ zd h1)
 subst hk;exact g
theorem NW.len39(h:NW L)(g:wv L<BW):O L≤39:=h.len_le g
def Lw(b:Bool)(m:Nat):Int:=if b then -(m:Int)else m
theorem P3(b:Bool)(m:Nat):(Lw b m).natAbs=m:=by unfold Lw;split<;>omega
theorem P4(b:Bool)(m:Nat):decide (Lw b m<0)=(b&&decide (0<m)):=by
 unfold Lw;cases b
 .rw[Bool.false_and,decide_eq_false_iff_not];simp
 rw[Bool.true_and];by_cases h:0<m
 .rw[kA h,kA];simp;omega
 rw[aA h,aA];simp;omega
theorem xg(k:Nat){h:HF}{n:Nat}{m:Nat}(i:WW h n a l c m)(neg:Bool):CX (KO (k+1)) 154 [Dk neg,Y a l c] h n (IV (Lw neg m)):=by
 refine yD (qN k h n neg a l c) ?_;rintro _ h' n' _⟨rfl,rfl,rfl,g⟩;refine⟨rfl,DM _,g,_,_,_,_,rfl,?_,?_⟩
 .rw[P4];have:=i.zero;congr 1;by_cases h0:0<l
  .rw[kA h0,kA Z]
  rw[aA h0,aA Z]
 rw[P3];exact i.ext g zs
theorem ResW.ww{n:Nat}{h:HF}{w:List Nat}(r:ResW n h v h' n' w L){m:Nat}(e:wv L=m):w=[]∧n≤n'∧KN n h h'∧WV m v h' n':=by
 obtain⟨h1,j,p,g,q⟩:=r;obtain⟨a,l,c,rfl,_⟩:=g.len;exact⟨h1,j,p,_,_,_,rfl,L,g,q,e⟩
section
variable (k:Nat){h:HF}{n:Nat}{a1 a2:Option Addr}{l1 c1 l2 c2 x y:Nat}
theorem P5(i:WW h n a1 l1 c1 x)(j:WW h n a2 l2 c2 y)(g:x<BW∧y<BW):CX (KO (k+2)) 155 [Y a1 l1 c1,Y a2 l2 c2] h n (WV (x+y)):=by
 obtain⟨A,s,p,rfl⟩:=i;obtain⟨C,u,q,rfl⟩:=j;have:=p.len39 g.1;have:=q.len39 g.2;refine yD (bc k s u p q Z) ?_;exact Cj
theorem Mx(i:WW h n a1 l1 c1 x)(j:WW h n a2 l2 c2 y)(u:x<BW∧y<BW)(g:y≤x):CX (KO (k+2)) 157 [Y a1 l1 c1,Y a2 l2 c2] h n (WV (x-y)):=by
 obtain⟨A,q,p,rfl⟩:=i;obtain⟨C,s,B,rfl⟩:=j;have:=p.len39 u.1;refine yD (et k q s p B Z g) ?_;exact Cj
theorem MR(i:WW h n a1 l1 c1 x)(j:WW h n a2 l2 c2 y)(g:x<BW∧y<BW):CX (KO (k+3)) 158 [Y a1 l1 c1,Y a2 l2 c2] h n (WV (x*y)):=by
 obtain⟨A,s,p,rfl⟩:=i;obtain⟨C,u,q,rfl⟩:=j;have:=p.len39 g.1;have:=q.len39 g.2;refine yD (du k s u p q Z Z) ?_;exact Cj
theorem P6(i:WW h n a1 l1 c1 x)(j:WW h n a2 l2 c2 y)(B:x<BW∧y<BW)(h0:0<y):CX (KO (k+6)) 181 [Y a1 l1 c1,Y a2 l2 c2] h n fun v h' n'=>∃a l c g q p,v=.tuple #[Y a l c,Y g q p]∧WW h' n' a l c (x/y)∧WW h' n' g q p (x%y):=by
 obtain⟨A,P,D,rfl⟩:=i;obtain⟨C,R,F,rfl⟩:=j;have:=D.len39 B.1;have:=F.len39 B.2;refine yD (lk k P R D F Z h0) ?_;rintro v h' n' w⟨S,T,G,H,rfl,h1,I,J,s,K,u,M,N,Z1,_⟩;obtain⟨a,l,c,rfl,_⟩:=s.len;obtain⟨g,q,p,rfl,_⟩:=u.len;exact⟨h1,I,J,_,_,_,_,_,_,rfl,⟨G,s,K,N⟩,⟨H,u,M,Z1⟩⟩
theorem P7(g:GG h n)(i:WW h n a1 l1 c1 x)(j:WW h n a2 l2 c2 y)(p:x<BW∧y<BW):CX (KO (k+7)) 150 [Y a1 l1 c1,Y a2 l2 c2] h n (WV (DH x y)):=by
 obtain⟨A,u,q,rfl⟩:=i;obtain⟨C,B,s,rfl⟩:=j;have:=q.len39 p.1;have:=s.len39 p.2;refine yD (dW k g.1 g.2 u B q s Z) ?_;exact Cj
theorem Nh(i:WW h n a1 l1 c1 x)(j:WW h n a2 l2 c2 y)(s:x<BW∧y<BW):CX (KO (k+3)) 156 [Y a1 l1 c1,Y a2 l2 c2] h n (MQ ((x:Int)-y)):=by
 obtain⟨A,p,g,rfl⟩:=i;obtain⟨C,q,u,rfl⟩:=j;have:=g.len39 s.1;refine(uA k p q g u Z).cx.mono ?_;rintro _ _ _ rfl;refine⟨_,rfl,?_⟩;rcases Hh (wv A) (wv C)with h|h|h
 .exact .inl ⟨vW h,Z⟩
 .exact .inr (.inl ⟨by rw[h];exact qy _,Z⟩)
 exact .inr (.inr ⟨uz h,Z⟩)
theorem VO(h:HF)(n:Nat){w:Nat}(g:w<18446744073709551616):CX (KO (k+1)) 184 [U .u64 (w:Int)] h n (WV w):=by
 refine yD (tY k h n g) ?_;exact Cj
end
end
section
variable {u:Nat}{h0:HF}{x1 x2 x3:Value}
theorem K3{b:Bool}{p:Prop}(h:b=true↔p):b=false∧¬p∨b=true∧p:=by
 cases b
 .exact .inl ⟨rfl,fun a=>by cases h.2 a⟩
 exact .inr ⟨rfl,h.1 rfl⟩
theorem Lu{p:Prop}(h:p:=by first|exact⟨hx,hy⟩|exact⟨hy,hx⟩):p:=h
theorem P8{p:Prop}(h:¬p):∃b:Bool,Dk false=Dk b∧(b=true↔p):=⟨_,rfl,fun a=>(by cases a),fun a=>oU a h⟩
theorem P9{p:Prop}(h:p):∃b:Bool,Dk true=Dk b∧(b=true↔p):=⟨_,rfl,fun _=>h,fun _=>rfl⟩
def Lm(b:Nat)(h h':HF):Prop:=Only b h h'∧∃cs e,h b=some (.row cs e)∧cs.all nu=true
def ExtB(n:Nat)(B:List Nat)(h h':HF):Prop:=∀b,b<3*n→b∉B→h' b=h b
theorem ExtB.refl(n:Nat)(B:List Nat)(h:HF):ExtB n B h h:=fun _ _ _=>rfl
theorem ExtB.ext{n:Nat}{B:List Nat}{a b c:HF}(x:ExtB n B a b)(y:KN n' b c)(j:n≤n'):ExtB n B a c:=fun k g e=>(y k Z).trans (x k g e)
theorem ExtB.st{n m:Nat}{B:List Nat}{a b c:HF}(x:ExtB n B a b)(o:Only m b c)(g:3*n≤m∨m∈B):ExtB n B a c:=fun k l j=>by
 refine(o k fun e=>?_).trans (x k l j);subst e;rcases g with g|g
 .omega
 exact j g
theorem ExtB.trans{n m:Nat}{B C:List Nat}{a b c:HF}(x:ExtB n B a b)(y:ExtB m C b c)(p:n≤m)(g:∀k∈C,k∈B∨3*n≤k):ExtB n B a c:=fun k l e=>(y k Z fun j=>by rcases g k j with h|h;exact e h;omega).trans (x k l e)
theorem ExtB.to{n m:Nat}{B:List Nat}{a b:HF}(x:ExtB n B a b)(l:m≤n)(e:∀k∈B,3*m≤k):KN m a b:=fun k j=>x k Z fun g=>by have:=e k g;omega
structure Exa (n:Nat)(h h':HF):Prop where
 e:KN n h h'
theorem Exa.zz{n b:Nat}{h:HF}{y:Option BF}(x:Exa n h h')(a:b<3*n)(e:h b=y):h' b=y:=(x.e b a).trans e
theorem KN.zz{n b:Nat}{h:HF}{y:Option BF}(x:KN n h h')(a:b<3*n)(e:h b=y):h' b=y:=(x b a).trans e
theorem Only.zz{b:Nat}{h:HF}{y:Option BF}(x:Only b h h')(a:c≠b)(e:h c=y):h' c=y:=(x c a).trans e
theorem Lm.zz{b:Nat}{h:HF}{y:Option BF}(x:Lm b h h')(a:c≠b)(e:h c=y):h' c=y:=(x.1 c a).trans e
theorem ExtB.zz{n b:Nat}{B:List Nat}{h:HF}{y:Option BF}(x:ExtB n B h h')(g:b<3*n)(a:b∉B)(e:h b=y):h' b=y:=(x b g a).trans e
def Ni(o:Option BF):Prop:=∃x,o=some x∧((∃cs e,x=.row cs e∧cs.all nu=true)∨x.cells=none)
theorem Ni.row{e:TypeId}{o:Option BF}(h:o=some (.row cs e))(hu:cs.all nu=true):Ni o:=⟨_,h,.inl ⟨_,_,rfl,hu⟩⟩
def LJ(b:Nat)(h h':HF):Prop:=Only b h h'∧∃x,h b=some x∧x.cells=none
theorem LJ.zz{b:Nat}{h:HF}{y:Option BF}(x:LJ b h h')(a:c≠b)(e:h c=y):h' c=y:=(x.1 c a).trans e
def Tr(n:Nat)(h:HF)(n':Nat)(h':HF):Prop:=n≤n'∧∀c,c<3*n→h' c=h c∨Ni (h c)
def Tx(n:Nat)(h:HF)(n':Nat)(h':HF):Prop:=n≤n'∧KN n h h'
def Ty(n:Nat)(B:List Nat)(h:HF)(n':Nat)(h':HF):Prop:=n≤n'∧ExtB n B h h'
section
variable {B:List Nat}
theorem Tr.refl(n:Nat)(h:HF):Tr n h n h:=⟨Dh,fun _ _=>.inl rfl⟩
theorem Tr.e(x:KN n1 h1 h2)(g:n1≤n2)(t:Tr n h n1 h1):Tr n h n2 h2:=⟨Ed t.1 g,fun c a=>by rw[x c BN];exact t.2 c a⟩
theorem Tr.s(x:Lm b h1 h2)(t:Tr n h n1 h1):Tr n h n1 h2:=by
 refine⟨t.1,fun c g=>?_⟩;by_cases e:c=b
 .subst e;obtain⟨cs,e,j,l⟩:=x.2;rcases t.2 c g with a|a
  .rw[a]at j;exact .inr (.row j l)
  exact .inr a
 rw[x.1 c e];exact t.2 c g
theorem Tr.l(x:LJ b h1 h2)(t:Tr n h n1 h1):Tr n h n1 h2:=by
 refine⟨t.1,fun c g=>?_⟩;by_cases e:c=b
 .subst e;obtain⟨y,j,p⟩:=x.2;rcases t.2 c g with a|a
  .rw[a]at j;exact .inr ⟨y,j,.inr p⟩
  exact .inr a
 rw[x.1 c e];exact t.2 c g
theorem Tr.trans{n1 n2:Nat}{h1 h2:HF}(a:Tr n h n1 h1)(b:Tr n1 h1 n2 h2):Tr n h n2 h2:=by
 refine⟨Ed a.1 b.1,fun c j=>?_⟩;rcases b.2 c (by have:=a.1;omega)with e|e
 .rw[e];exact a.2 c j
 rcases a.2 c j with g|g
 .rw[g]at e;exact .inr e
 exact .inr g
theorem Tx.lp(x:LJ b h1 h2)(a:3*n≤b)(t:Tx n h n1 h1):Tx n h n1 h2:=⟨t.1,t.2.st x.1 a⟩
theorem Ty.lp(x:LJ b h1 h2)(a:3*n≤b∨b∈B)(t:Ty n B h n1 h1):Ty n B h n1 h2:=⟨t.1,t.2.st x.1 a⟩
theorem Tx.refl(n:Nat)(h:HF):Tx n h n h:=⟨Dh,FU _ _⟩
theorem Tx.e(x:KN n1 h1 h2)(a:n1≤n2)(t:Tx n h n1 h1):Tx n h n2 h2:=⟨Ed t.1 a,t.2.trans x t.1⟩
theorem Tx.a(x:Exa lo h1 h2)(g:n≤lo)(j:n≤n2)(t:Tx n h n1 h1):Tx n h n2 h2:=⟨j,t.2.trans x.e g⟩
theorem Tx.o(x:Only b h1 h2)(a:3*n≤b)(t:Tx n h n1 h1):Tx n h n1 h2:=⟨t.1,t.2.st x a⟩
theorem Tx.s(x:Lm b h1 h2)(a:3*n≤b)(t:Tx n h n1 h1):Tx n h n1 h2:=⟨t.1,t.2.st x.1 a⟩
theorem Tx.l(x:ExtB n1 B h1 h2)(e:n1≤n2)(a:∀k∈B,3*n≤k)(t:Tx n h n1 h1):Tx n h n2 h2:=⟨Ed t.1 e,t.2.trans (x.to t.1 a) Dh⟩
theorem Ty.refl(n:Nat)(B:List Nat)(h:HF):Ty n B h n h:=⟨Dh,ExtB.refl _ _ _⟩
theorem Ty.e(x:KN n1 h1 h2)(a:n1≤n2)(t:Ty n B h n1 h1):Ty n B h n2 h2:=⟨Ed t.1 a,t.2.ext x t.1⟩
theorem Ty.a(x:Exa lo h1 h2)(g:n≤lo)(j:n≤n2)(t:Ty n B h n1 h1):Ty n B h n2 h2:=⟨j,t.2.ext x.e g⟩
theorem Ty.o(x:Only b h1 h2)(a:3*n≤b∨b∈B)(t:Ty n B h n1 h1):Ty n B h n1 h2:=⟨t.1,t.2.st x a⟩
theorem Ty.s(x:Lm b h1 h2)(a:3*n≤b∨b∈B)(t:Ty n B h n1 h1):Ty n B h n1 h2:=⟨t.1,t.2.st x.1 a⟩
theorem Ty.l(x:ExtB n1 C h1 h2)(e:n1≤n2)(a:∀k∈C,k∈B∨3*n≤k)(t:Ty n B h n1 h1):Ty n B h n2 h2:=⟨Ed t.1 e,t.2.trans x t.1 a⟩
end
theorem Sl.trG{h:HF}{n:Nat}(s:Sl h n 1 v cl)(l:∀x∈cl,nu x=false)(t:Tr n h n' h'):Sl h' n' 1 v cl:=by
 cases s with
 |nil ha=>exact .nil (uK ha t.1)
 | @at_ b2 off len cap x cs2 c2 hb hx hc hcap hl he=>
  have g:b2<3*n':=by have:=t.1;omega
  rcases t.2 b2 hb with e|⟨y,j,⟨cs,e,rfl,D⟩|p⟩
  .exact .at_ g (e.trans hx) hc hcap hl he
  .by_cases h0:len=0
   .subst h0;have:cl=[]:=by rw[←he];simp
    subst this;exact .nil (.inr ⟨_,_,_,rfl,g⟩)
   exfalso;rw[j]at hx;cases hx;injection hc with hc
   subst hc;have q:O cl=len:=by rw[←he,DW,Ea];omega
   obtain⟨d,a,rfl⟩:∃d a,cl=d::a:=by
    cases cl with
    |nil=>exact oU q.symm h0
    |cons d a=>exact⟨d,a,rfl⟩
   have A:d∈cs:=by
    have:d∈(cs.drop off).take (len*1):=by rw[he];exact C1
    exact Cx
   have:=Fy.1 D _ A;rw[l d Fj]at this;cases this
  rw[hx]at j;cases j;rw[hc]at p;cases p
theorem WW.t{h:HF}{n:Nat}{a:Option Addr}{l m:Nat}(i:WW h n a l c m)(t:Tr n h n' h'):WW h' n' a l c m:=by
 obtain⟨L,h1,h2,e⟩:=i;exact⟨L,h1.trG (fun x g=>by obtain⟨d,_,rfl⟩:=EX.1 g;rfl) t,h2,e⟩
theorem IW.t{h:HF}{n:Nat}{b:Bool}{a:Option Addr}{l:Nat}{x:Int}(i:IW h n b a l c x)(t:Tr n h n' h'):IW h' n' b a l c x:=⟨i.1,i.2.t t⟩
theorem GG.t{h:HF}{n:Nat}(g:GG h n)(t:Tr n h n' h'):GG h' n':=by
 obtain⟨⟨A,D,F⟩,G⟩:=g;have f:∀c x,h c=some x→(∀cs e,x=.row cs e→cs.all nu=false)→c<60→(∀y,x=y→y.cells≠none)→h' c=some x:=by
  intro c x l H L I;rcases t.2 c Z with s|⟨y,a,⟨J,K,rfl,p⟩|j⟩
  .rw[s,l]
  .rw[l]at a;injection a with a
   rw[H _ _ a]at p;cases p
  rw[l]at a;injection a with a
  subst a;exact oU j (I _ rfl)
 refine⟨⟨f _ _ A ?_ ?_ ?_,f _ _ D ?_ ?_ ?_,f _ _ F ?_ ?_ ?_⟩,Ed G t.1⟩<;>first|decide|(intro cs e q;cases q<;>rfl)|(intro y q;subst q;intro j;cases j)
theorem GG.x{h:HF}{n:Nat}(g:GG h n)(t:Tx n h n' h'):GG h' n':=g.ext t.2 t.1
theorem IW.x{h:HF}{n:Nat}{b:Bool}{a:Option Addr}{l:Nat}{x:Int}(i:IW h n b a l c x)(t:Tx n h n' h'):IW h' n' b a l c x:=i.ext t.2 t.1
theorem zt{n:Nat}{h:HF}(t:Tr n h n' h':=by(repeat (first|exact Tr.refl _ _|(apply Tr.e;assumption;(first|assumption|exact Nat.le_refl _|exact Nat.le_succ _|omega))|(apply Tr.s;assumption)|(apply Tr.l;assumption)))):Tr n h n' h':=t
theorem zx{n:Nat}{h:HF}(t:Tx n h n' h':=by(repeat (first|exact Tx.refl _ _|(apply Tx.e;assumption;(first|assumption|exact Nat.le_refl _|exact Nat.le_succ _|omega))|(apply Tx.a;assumption;omega;omega)|(apply Tx.s;assumption;omega)|(apply Tx.o;assumption;omega)|(apply Tx.lp;assumption;omega)|(apply Tx.l;assumption;(first|assumption|exact Nat.le_refl _|exact Nat.le_succ _|omega);(intro b g;simp only[List.mem_cons,List.not_mem_nil,or_false]at g<;>omega))))):Tx n h n' h':=t
theorem zy{n:Nat}{B:List Nat}{h:HF}(t:Ty n B h n' h':=by(repeat (first|exact Ty.refl _ _ _|(apply Ty.e;assumption;(first|assumption|exact Nat.le_refl _|exact Nat.le_succ _|omega))|(apply Ty.a;assumption;omega;omega)|(apply Ty.s;assumption;(first|(left;omega)|(right;simp)))|(apply Ty.o;assumption;(first|(left;omega)|(right;simp)))|(apply Ty.lp;assumption;(first|(left;omega)|(right;simp)))|(apply Ty.l;assumption;(first|assumption|exact Nat.le_refl _|exact Nat.le_succ _|omega);(intro b g;simp only[List.mem_cons,List.not_mem_nil,or_false]at g⊢ <;>omega))))):ExtB n B h h':=t.2
theorem zp{b:Nat}{h:HF}{x:Option BF}(t:h b=x:=by(repeat (first|assumption|(apply KN.zz;assumption;omega)|(apply Lm.zz;assumption;omega)|(apply Only.zz;assumption;omega)|(apply LJ.zz;assumption;omega)|(apply Exa.zz;assumption;omega)|(apply ExtB.zz;assumption;omega;(simp only[List.mem_cons,List.not_mem_nil,or_false,not_false_eq_true]<;>omega))))):h b=x:=t
theorem Mh{h:HF}{b:Nat}{c:List Value}{e:TypeId}{r:List Value}(L:List Value)(g:GL.isAgg E ty=some true)(l:E.inf ty=some (sz,bt,z))(j:h b=some (.row c e))(a:c.drop off=L++r)(p:L.length=sz)(h1:0<L.length:=by exact Nat.succ_pos _):yE E ty h ⟨b,off,none⟩=some (.agg L.toArray):=by
 have h2:=congrArg List.length a;rw[List.length_drop,List.length_append]at h2;refine zF (cs:=L) ⟨g,l⟩ j rfl Z ?_;rw[a,←p,List.take_left]
theorem ld1{h:HF}{b:Nat}{c:List Value}{e:TypeId}{r:List Value}(a:GL.isAgg E ty=some true)(l:E.inf ty=some (1,bt,z))(g:h b=some (.row c e))(j:c.drop off=x1::r):yE E ty h ⟨b,off,none⟩=some (.agg #[x1]):=Mh [x1] a l g j rfl
theorem Nj{h:HF}{b:Nat}{c:List Value}{e:TypeId}{r:List Value}(a:GL.isAgg E ty=some true)(l:E.inf ty=some (2,bt,z))(g:h b=some (.row c e))(j:c.drop off=x1::x2::r):yE E ty h ⟨b,off,none⟩=some (.agg #[x1,x2]):=Mh [x1,x2] a l g j rfl
theorem Nk{h:HF}{b:Nat}{c:List Value}{e:TypeId}{r:List Value}(a:GL.isAgg E ty=some true)(l:E.inf ty=some (3,bt,z))(g:h b=some (.row c e))(j:c.drop off=x1::x2::x3::r):yE E ty h ⟨b,off,none⟩=some (.agg #[x1,x2,x3]):=Mh [x1,x2,x3] a l g j rfl
theorem Nl{h:HF}{b:Nat}{c:List Value}{e:TypeId}{r:List Value}(a:GL.isAgg E ty=some true)(l:E.inf ty=some (4,bt,z))(g:h b=some (.row c e))(j:c.drop off=x1::x2::x3::x4::r):yE E ty h ⟨b,off,none⟩=some (.agg #[x1,x2,x3,x4]):=Mh [x1,x2,x3,x4] a l g j rfl
theorem Nm{h:HF}{b:Nat}{c:List Value}{e:TypeId}{r:List Value}(a:GL.isAgg E ty=some true)(l:E.inf ty=some (5,bt,z))(g:h b=some (.row c e))(j:c.drop off=x1::x2::x3::x4::x5::r):yE E ty h ⟨b,off,none⟩=some (.agg #[x1,x2,x3,x4,x5]):=Mh [x1,x2,x3,x4,x5] a l g j rfl
theorem Nn{h:HF}{b:Nat}{c:List Value}{e:TypeId}{r:List Value}(a:GL.isAgg E ty=some true)(l:E.inf ty=some (6,bt,z))(g:h b=some (.row c e))(j:c.drop off=x1::x2::x3::x4::x5::x6::r):yE E ty h ⟨b,off,none⟩=some (.agg #[x1,x2,x3,x4,x5,x6]):=Mh [x1,x2,x3,x4,x5,x6] a l g j rfl
theorem ld10{h:HF}{b:Nat}{c:List Value}{e:TypeId}{r:List Value}(a:GL.isAgg E ty=some true)(l:E.inf ty=some (10,bt,z))(g:h b=some (.row c e))(j:c.drop off=x1::x2::x3::x4::x5::x6::x7::x8::x9::x10::r):yE E ty h ⟨b,off,none⟩=some (.agg #[x1,x2,x3,x4,x5,x6,x7,x8,x9,x10]):=Mh [x1,x2,x3,x4,x5,x6,x7,x8,x9,x10] a l g j rfl
theorem ld11{h:HF}{b:Nat}{c:List Value}{e:TypeId}{a:Value}{r:List Value}(g:GL.isAgg E ty=some true)(p:E.inf ty=some (11,bt,z))(j:h b=some (.row c e))(l:c.drop off=x1::x2::x3::x4::x5::x6::x7::x8::x9::x10::a::r):yE E ty h ⟨b,off,none⟩=some (.agg #[x1,x2,x3,x4,x5,x6,x7,x8,x9,x10,a]):=Mh [x1,x2,x3,x4,x5,x6,x7,x8,x9,x10,a] g p j l rfl
structure Hd (q:Prop):Prop where
 go:q
def Qa:Op→Bool
 | .move _=>true
 | .assign _=>true
 | .pick _ _ _=>true
 | .nilCheck _=>true
 | .unOp _ _ _=>true
 | .fieldAddr _ _ _=>true
 | .extract _ _=>true
 |_=>false
def Qb:Op→Bool
 | .binOp _ _ _ _ _=>true
 |_=>false
def litB:Value→Bool
 | Dk b=>b|| !b
 |_=>false
def Qc:Op→Option Operand
 | .call c=>(match c.callee,c.args.toList with| .builtin .len,[x]=>some x|_,_=>none)
 |_=>none
section
variable {X:CtxF}{t:TF}{o:Oper}{d:Tmp}
theorem VP(_:Qa o.op=true)(k:EO X ops (o::r) ⟨t,h,n,w⟩ Q):EO X ops (o::r) ⟨t,h,n,w⟩ Q:=k
theorem VQ(_:Qb o.op=true)(k:EO X ops (o::r) ⟨t,h,n,w⟩ Q):EO X ops (o::r) ⟨t,h,n,w⟩ Q:=k
theorem VR{x:Operand}{b:Nat}{y:BF}(_:o.op=.load ty x)(_:KM t x=Dn (some ⟨b,off,none⟩))(a:h b=some y)(k:h b=some y→EO X ops (o::r) ⟨t,h,n,w⟩ Q):EO X ops (o::r) ⟨t,h,n,w⟩ Q:=k a
theorem VS{x:Operand}{q:BinOp}(_:o.op=.binOp q ty x y ty')(_:litB (KM t x)=true)(_:litB (KM t y)=true)(k:EO X ops (o::r) ⟨t,h,n,w⟩ Q):EO X ops (o::r) ⟨t,h,n,w⟩ Q:=k
theorem VT{x:Operand}{a:Option Addr}{l:Nat}(_:Qc o.op=some x)(_:KM t x=Y a l c)(k:EO X ops (o::r) ⟨t,h,n,w⟩ Q):EO X ops (o::r) ⟨t,h,n,w⟩ Q:=k
end
section
variable {X:CtxF}{t:TF}{o:Oper}{d:Tmp}
theorem VU(_:Qa o.op=true)(k:ED X ops (o::r) (m::ms) i ⟨⟨t,h,n,w⟩,al,ld,ef⟩ Q):ED X ops (o::r) (m::ms) i ⟨⟨t,h,n,w⟩,al,ld,ef⟩ Q:=k
theorem VV(_:Qb o.op=true)(k:ED X ops (o::r) (m::ms) i ⟨⟨t,h,n,w⟩,al,ld,ef⟩ Q):ED X ops (o::r) (m::ms) i ⟨⟨t,h,n,w⟩,al,ld,ef⟩ Q:=k
theorem VW{x:Operand}{b:Nat}{y:BF}{g:HF}(_:o.op=.load ty x)(_:KM t x=Dn (some ⟨b,off,none⟩))(_:vm m ef i h=(u,g))(a:g b=some y)(k:g b=some y→ED X ops (o::r) (m::ms) i ⟨⟨t,h,n,w⟩,al,ld,ef⟩ Q):ED X ops (o::r) (m::ms) i ⟨⟨t,h,n,w⟩,al,ld,ef⟩ Q:=k a
theorem VY{x:Operand}{q:BinOp}(_:o.op=.binOp q ty x y ty')(_:litB (KM t x)=true)(_:litB (KM t y)=true)(k:ED X ops (o::r) (m::ms) i ⟨⟨t,h,n,w⟩,al,ld,ef⟩ Q):ED X ops (o::r) (m::ms) i ⟨⟨t,h,n,w⟩,al,ld,ef⟩ Q:=k
theorem VZ{x:Operand}{a:Option Addr}{l:Nat}(_:Qc o.op=some x)(_:KM t x=Y a l c)(k:ED X ops (o::r) (m::ms) i ⟨⟨t,h,n,w⟩,al,ld,ef⟩ Q):ED X ops (o::r) (m::ms) i ⟨⟨t,h,n,w⟩,al,ld,ef⟩ Q:=k
end
theorem zG{p q:Prop}(k:q)(e:Hd q→p:=by intro k;(repeat (first|refine hH R3 ?_|(refine VP rfl ?_;first|refine st_I R5 ?_|refine st_B R5 ?_|refine st_S R5 ?_|refine st_P R5 ?_|refine st_A R5 ?_|refine st_T R5 ?_|refine st_U R5 ?_|refine zA (v:=.pointer none) R5 ?_)|(refine VR rfl rfl (by(repeat (first|assumption|(apply KN.zz;assumption;omega)|(apply Lm.zz;assumption;omega)|(apply Only.zz;assumption;omega)|(apply LJ.zz;assumption;omega)|(apply Exa.zz;assumption;omega)|(apply ExtB.zz;assumption;omega;(simp only[List.mem_cons,List.not_mem_nil,or_false,not_false_eq_true]<;>omega))))) (fun a=>?_);first|refine zO R5 (zL rfl a R2) ?_|refine zO R5 (ld1 rfl rfl a rfl) ?_|refine zO R5 (Nj rfl rfl a rfl) ?_|refine zO R5 (Nk rfl rfl a rfl) ?_|refine zO R5 (Nl rfl rfl a rfl) ?_|refine zO R5 (Nm rfl rfl a rfl) ?_|refine zO R5 (Nn rfl rfl a rfl) ?_|refine zO R5 (ld10 rfl rfl a rfl) ?_|refine zO R5 (ld11 rfl rfl a rfl) ?_)|(refine VT rfl rfl ?_;refine st_I R5 ?_)|(refine VS rfl rfl rfl ?_;refine st_B R5 ?_)|(refine VQ rfl ?_;first|refine pZ R6 Z ?_|refine bP R6 Z ?_|refine oa R6 Z ?_|refine mh R6 Z ?_|refine mj R6 Z ?_|refine kD R6 Z ?_|refine kE R6 Z ?_|refine gb R6 Z ?_|refine bQ R6 Z ?_|refine bT R6 Z ?_|refine jA R6 Z ?_|refine jB R6 Z ?_|refine td R6 Z ?_|refine rZ R6 Z ?_)|simp only[NV,Nat.reduceEqDiff,reduceCtorEq]|refine(zc rfl).mpr ?_|refine(za rfl).mpr ?_));exact k.go):p:=e ⟨k⟩
theorem zH{p q:Prop}(k:q)(e:Hd q→p:=by intro k;(repeat (first|refine NJ rfl rfl rfl ?_|(refine VU rfl ?_;first|refine dr_I R5 ?_|refine dr_B R5 ?_|refine dr_S R4 rfl ?_|refine dr_P R5 ?_|refine dr_A R5 ?_|refine dr_T R5 ?_|refine dr_U R5 ?_)|(refine VW rfl rfl rfl (by(repeat (first|assumption|(apply KN.zz;assumption;omega)|(apply Lm.zz;assumption;omega)|(apply Only.zz;assumption;omega)|(apply LJ.zz;assumption;omega)|(apply Exa.zz;assumption;omega)|(apply ExtB.zz;assumption;omega;(simp only[List.mem_cons,List.not_mem_nil,or_false,not_false_eq_true]<;>omega))))) (fun a=>?_);first|refine zS R6 (zL rfl a R2) R2 ?_|refine zS R6 (ld1 rfl rfl a rfl) R2 ?_|refine zS R6 (Nj rfl rfl a rfl) R2 ?_|refine zS R6 (Nk rfl rfl a rfl) R2 ?_|refine zS R6 (Nl rfl rfl a rfl) R2 ?_|refine zS R6 (Nm rfl rfl a rfl) R2 ?_|refine zS R6 (Nn rfl rfl a rfl) R2 ?_|refine zS R6 (ld10 rfl rfl a rfl) R2 ?_|refine zS R6 (ld11 rfl rfl a rfl) R2 ?_)|(refine VZ rfl rfl ?_;refine dr_I R5 ?_)|(refine VY rfl rfl rfl ?_;refine dr_B R5 ?_)|(refine VV rfl ?_;first|refine Pb R6 Z ?_|refine Pc R6 Z ?_|refine Pe R6 Z ?_|refine Pf R6 Z ?_|refine Ph R6 Z ?_|refine Pi R6 Z ?_|refine Pk R6 Z ?_|refine Pl R6 Z ?_|refine Pn R6 Z ?_|refine Po R6 Z ?_|refine Pq R6 Z ?_|refine Pr R6 Z ?_|refine NK R6 Z ?_|refine NL R6 Z ?_)|simp only[NV,Nat.reduceEqDiff,reduceCtorEq]|refine(zc rfl).mpr ?_|refine(za rfl).mpr ?_));exact k.go):p:=e ⟨k⟩
theorem zJ{p q:Prop}(k:q)(e:Hd q→p:=by intro k;refine zH ?_;refine zG ?_;exact k.go):p:=e ⟨k⟩
section
variable {X:CtxF}{t:TF}{o:Oper}{d:Tmp}
theorem V1{m b i:Nat}{r:List (Nat×Nat)}(h:c≠b)(k:yd m [b] r=true):yd m [b] ((i,c)::r)=true:=by
 have a:memN c [b]=false:=by
  unfold memN;cases he:Eh c b with
  |false=>rfl
  |true=>exact oU (Eb he) h
 unfold yd;rw[a,Gf,H7];exact k
theorem vc_A(h:v=.agg ⟨cs⟩):zr v=cs:=by
 subst h;rfl
theorem sA{e:TypeId}(k:∀h',h' (3*n+2)=some (.row cs e)→KN n h h'→EO X ops r ⟨upd t d (.pointer (some ⟨3*n+2,0,none⟩)),h',n+1,w⟩ Q)(a:zh ops t o=true:=by exact rfl)(hd:o.dst=some d:=by exact rfl)(hn:zu X.nt (some d)=true:=by exact rfl)(ho:o.op=.alloc e:=by exact rfl)(hi:X.E.inf e=some (sz,bt,z):=by exact rfl)(hz:zr z=cs:=by first|exact vc_A rfl|exact rfl):EO X ops (o::r) ⟨t,h,n,w⟩ Q:=wO cs ⟨a,hd,hn,ho,hi,hz⟩ k
theorem sB{e:TypeId}(cs:List Value)(k:∀h',h' (3*n+2)=some (.row cs e)→KN n h h'→EO X ops r ⟨upd t d (.pointer (some ⟨3*n+2,0,none⟩)),h',n+1,w⟩ Q)(a:zh ops t o=true:=by exact rfl)(hd:o.dst=some d:=by exact rfl)(hn:zu X.nt (some d)=true:=by exact rfl)(hc:KS o.op=2:=by exact rfl)(hm:KX X.E o.op (KM t)=some ⟨cs,e,false,none⟩:=by exact rfl):EO X ops (o::r) ⟨t,h,n,w⟩ Q:=rY cs ⟨a,hd,hn,hc,hm⟩ k
theorem sC{P:Value→HF→Nat→Prop}(a:CX X.C f args h n P)(k:∀v h' n',P v h' n'→n≤n'→KN n h h'→EO X ops r ⟨upd t d v,h',n',w⟩ Q)(e:zh ops t o=true:=by exact rfl)(hd:o.dst=some d:=by exact rfl)(hn:zu X.nt (some d)=true:=by exact rfl)(hc:KS o.op=3:=by exact rfl)(he:effF X.E o.op (KM t) h n=some (.enter f args):=by exact rfl):EO X ops (o::r) ⟨t,h,n,w⟩ Q:=ed ⟨e,hd,hn,hc,he⟩ a k
theorem sT(cs:Array Value)(k:EO X ops r ⟨upd t d (.agg cs),h,n,w⟩ Q)(a:zh ops t o=true:=by exact rfl)(hd:o.dst=some d:=by exact rfl)(hn:zu X.nt (some d)=true:=by exact rfl)(hc:KS o.op=0:=by exact rfl)(hv:yJ X.E o.op (KM t)=some (.agg cs):=by exact rfl):EO X ops (o::r) ⟨t,h,n,w⟩ Q:=st_A ⟨a,hd,hn,hc,hv⟩ k
theorem sS{a x:Operand}{b:Nat}{c:List Value}{e:TypeId}(c':List Value)(k:∀h',h' b=some (.row c' e)→Lm b h h'→EO (Lf kk n0 nt) ops r ⟨t,h',n,w⟩ Q)(g:zh ops t o=true:=by exact rfl)(hd:o.dst=none:=by exact rfl)(ho:o.op=.store ty a x:=by exact rfl)(hi:KT.inf ty=some (sz,bt,z):=by exact rfl)(ha:KM t a=.pointer (some ⟨b,off,none⟩):=by exact rfl)(hb:h b=some (.row c e):=by exact zp)(hu:c.all nu=true:=by exact rfl)(hx:zr (KM t x)=cs:=by exact rfl)(hs:cs.length=sz:=by exact rfl)(h1:ones cs=true:=by exact rfl)(hl:off+sz≤c.length:=by exact zb)(hsp:zv c off cs=c':=by exact rfl)(hnew:3*n0≤b:=by omega):EO (Lf kk n0 nt) ops (o::r) ⟨t,h,n,w⟩ Q:=nO c' ⟨g,hd,ho,hi,ha⟩ hb ⟨hx,hs,h1⟩ hl hsp hnew fun h' p q=>k h' p ⟨q,_,_,hb,hu⟩
end
section
variable {X:CtxF}{t:TF}{o:Oper}{d:Tmp}
theorem dB{e:TypeId}(cs:List Value)(k:∀h',h' (3*n+2)=some (.row cs e)→KN n h h'→ED X ops r ms (i+1) ⟨⟨upd t d (.pointer (some ⟨3*n+2,0,none⟩)),h',n+1,w⟩,(i,3*n+2)::al,ld,ef⟩ Q)(a:zh ops t o=true:=by exact rfl)(hd:o.dst=some d:=by exact rfl)(hn:zu X.nt (some d)=true:=by exact rfl)(hc:KS o.op=2:=by exact rfl)(hm:KX X.E o.op (KM t)=some ⟨cs,e,false,none⟩:=by exact rfl):ED X ops (o::r) (m::ms) i ⟨⟨t,h,n,w⟩,al,ld,ef⟩ Q:=VL cs a hd hn hc hm k
theorem dC{P:Value→HF→Nat→Prop}(a:CX X.C f args h n P)(k:∀v h' n',P v h' n'→n≤n'→KN n h h'→ED X ops r ms (i+1) ⟨⟨upd t d v,h',n',w⟩,al,ld,(i,h,[])::ef⟩ Q)(e:zh ops t o=true:=by exact rfl)(hd:o.dst=some d:=by exact rfl)(hn:zu X.nt (some d)=true:=by exact rfl)(hc:KS o.op=3:=by exact rfl)(he:effF X.E o.op (KM t) h n=some (.enter f args):=by exact rfl)(h1:xF m ef=true:=by exact rfl)(h2:xW m al=true:=by exact rfl):ED X ops (o::r) (m::ms) i ⟨⟨t,h,n,w⟩,al,ld,ef⟩ Q:=VN e hd hn hc he a h1 h2 k
theorem dT(cs:Array Value)(k:ED X ops r ms (i+1) ⟨⟨upd t d (.agg cs),h,n,w⟩,al,ld,ef⟩ Q)(a:zh ops t o=true:=by exact rfl)(hd:o.dst=some d:=by exact rfl)(hn:zu X.nt (some d)=true:=by exact rfl)(hc:(KS o.op==0||KS o.op==4)=true:=by exact rfl)(hv:yJ X.E o.op (KM t)=some (.agg cs):=by exact rfl):ED X ops (o::r) (m::ms) i ⟨⟨t,h,n,w⟩,al,ld,ef⟩ Q:=dr_A ⟨a,hd,hn,hc,hv⟩ k
theorem dS{a x:Operand}{b:Nat}{c:List Value}{e:TypeId}(c':List Value)(k:∀h',h' b=some (.row c' e)→Lm b h h'→ED (Lf kk n0 nt) ops r ms (i+1) ⟨⟨t,h',n,w⟩,al,ld,(i,h,[b])::ef⟩ Q)(g:zh ops t o=true:=by exact rfl)(hd:o.dst=none:=by exact rfl)(ho:o.op=.store ty a x:=by exact rfl)(hi:KT.inf ty=some (sz,bt,z):=by exact rfl)(ha:KM t a=.pointer (some ⟨b,off,none⟩):=by exact rfl)(hb:h b=some (.row c e):=by exact zp)(hu:c.all nu=true:=by exact rfl)(hx:zr (KM t x)=cs:=by exact rfl)(hs:cs.length=sz:=by exact rfl)(h1:ones cs=true:=by exact rfl)(hl:off+sz≤c.length:=by exact zb)(hsp:zv c off cs=c':=by exact rfl)(hnew:3*n0≤b:=by omega)(g1:xF m ef=true:=by exact rfl)(g2:xW m al=true:=by exact rfl)(g3:yd m [b] ld=true:=by first|exact rfl|(repeat (first|exact rfl|(apply V1;omega)))):ED (Lf kk n0 nt) ops (o::r) (m::ms) i ⟨⟨t,h,n,w⟩,al,ld,ef⟩ Q:=VM c' g hd ho hi ha hb hx hs h1 hl hsp hnew g1 g2 g3 fun h' p q=>k h' p ⟨q,_,_,hb,hu⟩
end
theorem Qd{s:SV}{a:Tmp}{b:Nat}{y:BF}{r:List ResultVar}(_:s.t a=Dn (some ⟨b,off,none⟩))(e:s.h b=some y)(k:s.h b=some y→resF KT s (.cell a ty::r)=some vs):resF KT s (.cell a ty::r)=some vs:=k e
theorem zq{p:Prop}{P:Value→HF→Nat→Prop}{e:Ex}{t:TF}{h:HF}{n0 n:Nat}(hp:P (pw vs) h n)(go:Hd (RetH fn (Gw n0 h0 P) e ⟨t,h,n,[]⟩)→p:=by intro k;refine zH ?_;refine zG ?_;exact k.go)(he:rV e=true:=by exact rfl)(hr:resF KT ⟨t,h,n,[]⟩ fn.results.toList=some vs:=by(repeat (first|exact oi|(apply xH (v:=.bool _);exact rfl)|(apply xH (v:=.int _ _);exact rfl)|(apply xH (v:=.slice _ _ _);exact rfl)|(apply xH (v:=.agg #[_,_]);exact rfl)|(apply xH (v:=.agg #[_,_,_,_]);exact rfl)|(apply xH (v:=.string _);exact rfl)|(apply xH;exact rfl)|(apply Qd;exact rfl;(focus ((repeat (first|assumption|(apply KN.zz;assumption;omega)|(apply Lm.zz;assumption;omega)|(apply Only.zz;assumption;omega)|(apply LJ.zz;assumption;omega)|(apply Exa.zz;assumption;omega)|(apply ExtB.zz;assumption;omega;(simp only[List.mem_cons,List.not_mem_nil,or_false,not_false_eq_true]<;>omega))));done));intro hblk;first|(apply wW;exact rfl;exact zL rfl hblk R2)|(apply wW;exact rfl;exact ld1 rfl rfl hblk rfl)|(apply wW;exact rfl;exact Nj rfl rfl hblk rfl)|(apply wW;exact rfl;exact Nk rfl rfl hblk rfl)|(apply wW;exact rfl;exact Nl rfl rfl hblk rfl)|(apply wW;exact rfl;exact Nm rfl rfl hblk rfl)|(apply wW;exact rfl;exact Nn rfl rfl hblk rfl)|(apply wW;exact rfl;exact ld10 rfl rfl hblk rfl)|(apply wW;exact rfl;exact ld11 rfl rfl hblk rfl)))))(hf:tZ vs=false:=by exact rfl)(hx:Tx n0 h0 n h:=by exact zx):p:=go ⟨retX vs ⟨he,hr,hf⟩ hx.1 hx.2 hp⟩
theorem zf{p:Prop}{P:Value→Prop}{e:Ex}{s:SV}(hp:P (pw vs))(go:Hd (RetF fn P e s)→p:=by intro k;refine zH ?_;refine zG ?_;exact k.go)(he:rV e=true:=by exact rfl)(hr:resF KT s fn.results.toList=some vs:=by(repeat (first|exact oi|(apply xH (v:=.bool _);exact rfl)|(apply xH (v:=.int _ _);exact rfl)|(apply xH (v:=.slice _ _ _);exact rfl)|(apply xH (v:=.agg #[_,_]);exact rfl)|(apply xH (v:=.agg #[_,_,_,_]);exact rfl)|(apply xH (v:=.string _);exact rfl)|(apply xH;exact rfl)|(apply Qd;exact rfl;(focus ((repeat (first|assumption|(apply KN.zz;assumption;omega)|(apply Lm.zz;assumption;omega)|(apply Only.zz;assumption;omega)|(apply LJ.zz;assumption;omega)|(apply Exa.zz;assumption;omega)|(apply ExtB.zz;assumption;omega;(simp only[List.mem_cons,List.not_mem_nil,or_false,not_false_eq_true]<;>omega))));done));intro hblk;first|(apply wW;exact rfl;exact zL rfl hblk R2)|(apply wW;exact rfl;exact ld1 rfl rfl hblk rfl)|(apply wW;exact rfl;exact Nj rfl rfl hblk rfl)|(apply wW;exact rfl;exact Nk rfl rfl hblk rfl)|(apply wW;exact rfl;exact Nl rfl rfl hblk rfl)|(apply wW;exact rfl;exact Nm rfl rfl hblk rfl)|(apply wW;exact rfl;exact Nn rfl rfl hblk rfl)|(apply wW;exact rfl;exact ld10 rfl rfl hblk rfl)|(apply wW;exact rfl;exact ld11 rfl rfl hblk rfl)))))(hf:tZ vs=true:=by exact rfl)(hw:s.w=[]:=by exact rfl):p:=go ⟨retF vs he hr ⟨hf,hw⟩ hp⟩
theorem sF{X:CtxF}{c:Code}{t:TF}{h:HF}{n:Nat}{w:List Nat}{Q:Ex→SV→Prop}(e:α→List (Nat×Value))(I:α→HF→Nat→List Nat→Prop)(μ:α→Nat)(a:α)(j:I a h n w)(g:∀a t h n w,I a h n w→EC X c ⟨fI t (e a),h,n,w⟩ (oG e I μ a Q))(l:vu t (e a):=by repeat (first|exact trivial|refine⟨rfl,?_⟩))(hm:μ a<X.L:=by show _<LL;unfold LL;(try dsimp only);omega):EC X (.loop c) ⟨t,h,n,w⟩ Q:=zK e I μ a l j hm g
theorem sK{e:α→List (Nat×Value)}{I:α→HF→Nat→List Nat→Prop}{μ:α→Nat}{a:α}{Q:Ex→SV→Prop}{t:TF}{h:HF}{n:Nat}{w:List Nat}(g:α)(j:I g h n w)(h1:μ g<μ a:=by(try dsimp only);omega)(h2:vu t (e g):=by repeat (first|exact trivial|refine⟨rfl,?_⟩)):oG e I μ a Q .normal ⟨t,h,n,w⟩:=goOn g h1 h2 j
theorem Zs{p q:Prop}(k:q)(e:ZH q→p:=by intro k;refine zG ?_;refine sA ?_;exact k.go):p:=e ⟨k⟩
theorem Zt{p q:Prop}(k:q)(e:ZH q→p:=by intro k;refine zG ?_;refine zf ?_;exact k.go):p:=e ⟨k⟩
theorem ZB{p q:Prop}(k:q)(e:ZH q→p:=by intro k;refine zG ?_;refine zq ?_;exact k.go):p:=e ⟨k⟩
end
section
variable {cx:Nat}
theorem aU(k:Nat){x:Int}(a:IW h n sx ax lx cx x):VF (KO (k+1)) 126 [.agg #[Dk sx,Y ax lx cx]] h n fun v=>∃b:Bool,v=Dk b∧(b=true↔x=0):=by
 refine zB (fn:=Tryz.f126) R4<|zG ?_;refine sB [Dk sx,Y ax lx cx] ?_;intro c d e;refine zG ?_;by_cases q12:(lx:Int)=0
 .refine zf ?_;exact⟨_,rfl,A9⟩
 refine zf ?_;exact⟨_,rfl,A9⟩
theorem xv(k:Nat){a:Bool}{x:Int}(b:IW h n a ax lx cx x):CX (KO (k+1)) 126 [.agg #[Dk a,Y ax lx cx]] h n (BV (x=0)):=(aU k b).cx
theorem Wa(k:Nat){x:Int}(a:IW h n sx ax lx cx x):VF (KO (k+1)) 205 [.agg #[Dk sx,Y ax lx cx]] h n fun v=>∃s:Int,v=U .i64 s∧(s= -1∧x<0∨s=0∧x=0∨s=1∧0<x):=by
 refine zB (fn:=Tryz.f205) R4<|zG ?_;refine sB [Dk sx,Y ax lx cx] ?_;intro b c d;refine zG ?_;by_cases q12:(lx:Int)=0
 .refine zf ?_;exact⟨_,rfl,by have:=a.2.zero;omega⟩
 refine zG ?_;cases sx
 .refine zf ?_;exact⟨_,rfl,by have:=a.ge;have:=a.2.zero;omega⟩
 refine zf ?_;exact⟨_,rfl,by have:=a.lt;have:=a.2.zero;omega⟩
theorem N4(k:Nat){a:Bool}{x:Int}(b:IW h n a ax lx cx x):CX (KO (k+1)) 205 [.agg #[Dk a,Y ax lx cx]] h n (MQ x):=(Wa k b).cx
theorem qd(k:Nat){a:Bool}{x:Int}(f:IW h n a ax lx cx x):CX (KO (k+1)) 118 [.agg #[Dk a,Y ax lx cx]] h n (BV (x=1)):=by
 obtain⟨e,L,c,b,d⟩:=f;refine(aZ k c b).cx.mono ?_;rintro _ _ _ rfl;refine⟨_,rfl,?_⟩;rw[d,e,Bool.and_eq_true,Bool.not_eq_true',decide_eq_false_iff_not,decide_eq_true_iff];omega
theorem negX(k:Nat){x:Int}(a:IW h n sx ax lx cx x):CX (KO (k+2)) 153 [.agg #[Dk sx,Y ax lx cx]] h n (IV (-x)):=by
 refine zl (fn:=Tryz.f153) R4<|zG ?_;refine sB [Dk sx,Y ax lx cx] ?_;intro o C H;refine sA ?_;intro p D I;refine zG ?_;cases sx
 .refine zG ?_;refine sC (xg _ (a.t zt).2 true) ?_;rintro _ q w⟨d,b,l,f,rfl,i⟩ L J;refine sS [Dk d,Y b l f] ?_;intro s F A;refine zq ?_;exact⟨_,_,_,_,rfl,(i.t zt).as (by have:=a.ge;unfold Lw;(try simp only[JF,Gf,if_true,if_false,FE]);omega)⟩
 refine zG ?_;refine sC (xg _ (a.t zt).2 false) ?_;rintro _ u y⟨e,c,m,g,rfl,j⟩ M K;refine sS [Dk e,Y c m g] ?_;intro v G B;refine zq ?_;exact⟨_,_,_,_,rfl,(j.t zt).as (by have:=a.lt;unfold Lw;(try simp only[JF,Gf,if_true,if_false,FE]);omega)⟩
theorem addX(k:Nat){x:Int}{y:Int}(a:IW h n sx ax lx cx x)(b:IW h n sy ay ly cy y)(hx:x.natAbs<BW)(hy:y.natAbs<BW):CX (KO (k+4)) 127 [.agg #[Dk sx,Y ax lx cx],.agg #[Dk sy,Y ay ly cy]] h n (IV (x+y)):=by
 refine zl (fn:=Tryz.f127) R4<|zG ?_;refine sB [Dk sx,Y ax lx cx] ?_;intro ar cn d2;refine sB [Dk sy,Y ay ly cy] ?_;intro au co d3;refine sA ?_;intro av cp d4;refine zG ?_;cases sx
 .refine zG ?_;cases sy
  .refine zG ?_;refine zn [0,1,0,4,0,16,60,127,255] rfl<|zH ?_;refine dC (P5 _ (a.t zt).2 (b.t zt).2 Lu) ?_;rintro _ aw bw⟨ab,bo,aj,rfl,L⟩ dn d5;refine dC (xg _ L false) ?_;rintro _ az bx⟨p,e,a3,C,rfl,M⟩ dp d6;refine dS [Dk p,Y e a3 C] ?_;intro b0 cq cf;refine zq ?_;exact⟨_,_,_,_,rfl,(M.t zt).as (by have:=a.ge;have:=b.ge;unfold Lw;(try simp only[if_true,if_false,FE]);omega)⟩
  refine zG ?_;refine sC (Nh _ (a.t zt).2 (b.t zt).2 Lu) ?_;rintro _ b1 bz⟨d0,rfl,c⟩ dq d7;rcases c with⟨rfl,c⟩|⟨rfl,c⟩|⟨rfl,c⟩
  .refine zG ?_;refine zn [0,1,0,4,0,16,60,127,255] rfl<|zH ?_;refine dC (Mx _ (b.t zt).2 (a.t zt).2 Lu Z) ?_;rintro _ b2 c0⟨ac,bp,ak,rfl,N⟩ dr d8;refine dC (xg _ N true) ?_;rintro _ b3 c1⟨q,f,a4,D,rfl,Z1⟩ ds d9;refine dS [Dk q,Y f a4 D] ?_;intro b4 cr cg;refine zq ?_;exact⟨_,_,_,_,rfl,(Z1.t zt).as sa⟩
  .refine zG ?_;refine zn [0,1,0,4,0,16,60,127,255] rfl<|zH ?_;refine dC (Mx _ (a.t zt).2 (b.t zt).2 Lu Z) ?_;rintro _ b5 c2⟨ad,bq,al,rfl,P⟩ dt da;refine dC (xg _ P false) ?_;rintro _ b6 c3⟨s,g,a5,F,rfl,R⟩ du db;refine dS [Dk s,Y g a5 F] ?_;intro b7 cs ch;refine zq ?_;exact⟨_,_,_,_,rfl,(R.t zt).as sa⟩
  refine zG ?_;refine zn [0,1,0,4,0,16,60,127,255] rfl<|zH ?_;refine dC (Mx _ (a.t zt).2 (b.t zt).2 Lu Z) ?_;rintro _ b8 c4⟨ae,br,am,rfl,S⟩ dv dc;refine dC (xg _ S false) ?_;rintro _ b9 c5⟨u,i,a6,G,rfl,T⟩ dw dd;refine dS [Dk u,Y i a6 G] ?_;intro ba ct ci;refine zq ?_;exact⟨_,_,_,_,rfl,(T.t zt).as sa⟩
 refine zG ?_;cases sy
 .refine zG ?_;refine sC (Nh _ (a.t zt).2 (b.t zt).2 Lu) ?_;rintro _ bb c6⟨d1,rfl,d⟩ dx de;rcases d with⟨rfl,d⟩|⟨rfl,d⟩|⟨rfl,d⟩
  .refine zG ?_;refine zn [0,1,0,4,0,16,60,127,255] rfl<|zH ?_;refine dC (Mx _ (b.t zt).2 (a.t zt).2 Lu Z) ?_;rintro _ bc c7⟨af,bs,an,rfl,Z4⟩ dy df;refine dC (xg _ Z4 false) ?_;rintro _ bd c8⟨v,j,a7,H,rfl,V⟩ dz dg;refine dS [Dk v,Y j a7 H] ?_;intro be cu cj;refine zq ?_;exact⟨_,_,_,_,rfl,(V.t zt).as sk⟩
  .refine zG ?_;refine zn [0,1,0,4,0,16,60,127,255] rfl<|zH ?_;refine dC (Mx _ (a.t zt).2 (b.t zt).2 Lu Z) ?_;rintro _ bf c9⟨ag,bt,ao,rfl,W⟩ e0 dh;refine dC (xg _ W true) ?_;rintro _ bg ca⟨w,l,a8,I,rfl,Z3⟩ e1 di;refine dS [Dk w,Y l a8 I] ?_;intro bh cv ck;refine zq ?_;exact⟨_,_,_,_,rfl,(Z3.t zt).as sk⟩
  refine zG ?_;refine zn [0,1,0,4,0,16,60,127,255] rfl<|zH ?_;refine dC (Mx _ (a.t zt).2 (b.t zt).2 Lu Z) ?_;rintro _ bi cb⟨ah,bu,ap,rfl,Z0⟩ e2 dj;refine dC (xg _ Z0 true) ?_;rintro _ bj cc⟨A,m,a9,J,rfl,a0⟩ e3 dk;refine dS [Dk A,Y m a9 J] ?_;intro bk cw cl;refine zq ?_;exact⟨_,_,_,_,rfl,(a0.t zt).as sk⟩
 refine zG ?_;refine zn [0,1,0,4,0,16,60,127,255] rfl<|zH ?_;refine dC (P5 _ (a.t zt).2 (b.t zt).2 Lu) ?_;rintro _ bl cd⟨ai,bv,aq,rfl,a1⟩ e4 dl;refine dC (xg _ a1 true) ?_;rintro _ bm ce⟨B,o,aa,K,rfl,a2⟩ e5 dm;refine dS [Dk B,Y o aa K] ?_;intro bn cz cm;refine zq ?_;exact⟨_,_,_,_,rfl,(a2.t zt).as (by have:=a.lt;have:=b.lt;unfold Lw;(try simp only[if_true,if_false,FE]);omega)⟩
theorem sw{b:Bool}{x y:Int}(h:b=(decide (x<0) != decide (y<0))):Lw b (x.natAbs*y.natAbs)=x*y:=by
 subst h;by_cases hx:x<0<;>by_cases hy:y<0
 .rw[kA hx,kA hy];show((x.natAbs*y.natAbs:Nat):Int)=_;rw[E0,G5 Z,G5 Z,Int.neg_mul_neg]
 .rw[kA hx,aA hy];show -((x.natAbs*y.natAbs:Nat):Int)=_;rw[E0,G5 Z,HZ Z,Int.neg_mul,Hl]
 .rw[aA hx,kA hy];show -((x.natAbs*y.natAbs:Nat):Int)=_;rw[E0,HZ Z,G5 Z,Int.mul_neg,Hl]
 rw[aA hx,aA hy];show((x.natAbs*y.natAbs:Nat):Int)=_;rw[E0,HZ Z,HZ Z]
theorem jI{b:Bool}{x y:Int}(h:b=(decide (x<0) != decide (y<0))):Lw b (x.natAbs/y.natAbs)=x.tdiv y:=by
 subst h;by_cases hx:x<0<;>by_cases hy:y<0
 .obtain⟨a,rfl⟩:∃a:Nat,x= -(a:Int):=⟨x.natAbs,Z⟩;obtain⟨c,rfl⟩:∃c:Nat,y= -(c:Int):=⟨y.natAbs,Z⟩;rw[kA hx,kA hy,aa7,aa8,Hl,F3,F3];rfl
 .obtain⟨a,rfl⟩:∃a:Nat,x= -(a:Int):=⟨x.natAbs,Z⟩;obtain⟨c,rfl⟩:∃c:Nat,y=(c:Int):=⟨y.natAbs,Z⟩;rw[kA hx,aA hy,aa7,F3];rfl
 .obtain⟨a,rfl⟩:∃a:Nat,x=(a:Int):=⟨x.natAbs,Z⟩;obtain⟨c,rfl⟩:∃c:Nat,y= -(c:Int):=⟨y.natAbs,Z⟩;rw[aA hx,kA hy,aa8,F3];rfl
 obtain⟨a,rfl⟩:∃a:Nat,x=(a:Int):=⟨x.natAbs,Z⟩;obtain⟨c,rfl⟩:∃c:Nat,y=(c:Int):=⟨y.natAbs,Z⟩;rw[aA hx,aA hy];rfl
theorem mulX(k:Nat){x:Int}{y:Int}(a:IW h n sx ax lx cx x)(b:IW h n sy ay ly cy y)(hx:x.natAbs<BW)(hy:y.natAbs<BW):CX (KO (k+5)) 128 [.agg #[Dk sx,Y ax lx cx],.agg #[Dk sy,Y ay ly cy]] h n (IV (x*y)):=by
 refine zl (fn:=Tryz.f128) R4<|zG ?_;refine sB [Dk sx,Y ax lx cx] ?_;intro S ao az;refine sB [Dk sy,Y ay ly cy] ?_;intro T ap b0;refine sA ?_;intro Z4 aq b1;refine zG ?_;refine zn [0,1,0,4,15,0,32,0,128,480,1023,2047] rfl<|zH ?_;cases sx
 .refine zH ?_;cases sy
  .refine zH ?_;refine dC (MR _ (a.t zt).2 (b.t zt).2 Lu) ?_;rintro _ V ac⟨J,a8,N,rfl,s⟩ ba b2;refine dC (xg _ s false) ?_;rintro _ W ad⟨g,c,F,m,rfl,u⟩ bb b3;refine dS [Dk g,Y c F m] ?_;intro Z3 ar ak;refine zq ?_;exact⟨_,_,_,_,rfl,(u.t zt).as (by have:=a.ge;have:=b.ge;exact sw y0)⟩
  refine zH ?_;refine dC (MR _ (a.t zt).2 (b.t zt).2 Lu) ?_;rintro _ Z0 ae⟨K,a9,Z1,rfl,v⟩ bc b4;refine dC (xg _ v true) ?_;rintro _ a0 af⟨i,d,G,o,rfl,w⟩ bd b5;refine dS [Dk i,Y d G o] ?_;intro a1 au al;refine zq ?_;exact⟨_,_,_,_,rfl,(w.t zt).as (by have:=a.ge;have:=b.lt;exact sw y0)⟩
 refine zH ?_;cases sy
 .refine zH ?_;refine dC (MR _ (a.t zt).2 (b.t zt).2 Lu) ?_;rintro _ a2 ag⟨L,aa,P,rfl,A⟩ be b6;refine dC (xg _ A true) ?_;rintro _ a3 ah⟨j,e,H,p,rfl,B⟩ bf b7;refine dS [Dk j,Y e H p] ?_;intro a4 av am;refine zq ?_;exact⟨_,_,_,_,rfl,(B.t zt).as (by have:=a.lt;have:=b.ge;exact sw y0)⟩
 refine zH ?_;refine dC (MR _ (a.t zt).2 (b.t zt).2 Lu) ?_;rintro _ a5 ai⟨M,ab,R,rfl,C⟩ bg b8;refine dC (xg _ C false) ?_;rintro _ a6 aj⟨l,f,I,q,rfl,D⟩ bh b9;refine dS [Dk l,Y f I q] ?_;intro a7 aw an;refine zq ?_;exact⟨_,_,_,_,rfl,(D.t zt).as (by have:=a.lt;have:=b.lt;exact sw y0)⟩
theorem Wb(k:Nat){x:Int}{y:Int}(o:IW h n sx ax lx cx x)(m:IW h n sy ay ly cy y)(hx:x.natAbs<BW)(hy:y.natAbs<BW)(b9:y≠0):CX (KO (k+7)) 159 [.agg #[Dk sx,Y ax lx cx],.agg #[Dk sy,Y ay ly cy]] h n fun v V n'=>∃b a l c g d e f,v=.tuple #[.agg #[Dk b,Y a l c],.agg #[Dk g,Y d e f]]∧IW V n' b a l c (x.tdiv y)∧∃r,IW V n' g d e f r:=by
 refine zl (fn:=Tryz.f159) R4<|zG ?_;refine sB [Dk sx,Y ax lx cx] ?_;intro ai bu c9;refine sB [Dk sy,Y ay ly cy] ?_;intro aj bv ca;refine sA ?_;intro ak bw cb;refine sA ?_;intro al bx cc;refine zG ?_;by_cases q15:(ly:Int)=0
 .refine zG ?_;refine sT #[Dk false,Y none 0 0] ?_;refine sT #[Dk false,Y none 0 0] ?_;refine sS [Dk false,Y none 0 0] ?_;intro am bz bk;refine sS [Dk false,Y none 0 0] ?_;intro an c0 bl;refine zG ?_;exact oU (m.2.zero.1 Z) Z
 refine zG ?_;refine sC (P6 _ (o.t zt).2 (m.t zt).2 Lu Z) ?_;rintro _ ao bb⟨ad,ba,ae,af,ag,ah,rfl,i,j⟩ cm cd;refine zG ?_;refine zn [0,1,0,4,15,0,63,0,128,0,1023,2047,4095] rfl<|zH ?_;cases sx
 .refine zH ?_;cases sy
  .refine zH ?_;refine dC (xg _ i false) ?_;rintro _ ap bc⟨D,p,a5,M,rfl,W⟩ cn ce;refine zH ?_;refine dC (xg _ (j.t zt) false) ?_;rintro _ aq bd⟨F,q,a6,N,rfl,Z3⟩ co cf;refine dS [Dk D,Y p a5 M] ?_;intro ar c1 bm;refine dS [Dk F,Y q a6 N] ?_;intro au c2 bn;refine zq ?_;exact⟨_,_,_,_,_,_,_,_,rfl,(W.t zt).as (by have:=o.ge;have:=m.ge;exact jI y0),_,(Z3.t zt)⟩
  refine zH ?_;refine dC (xg _ i true) ?_;rintro _ av be⟨G,s,a7,Z1,rfl,Z0⟩ cp cg;refine zH ?_;refine dC (xg _ (j.t zt) false) ?_;rintro _ aw bf⟨H,u,a8,P,rfl,a0⟩ cq ch;refine dS [Dk G,Y s a7 Z1] ?_;intro az c3 bo;refine dS [Dk H,Y u a8 P] ?_;intro b0 c4 bp;refine zq ?_;exact⟨_,_,_,_,_,_,_,_,rfl,(Z0.t zt).as (by have:=o.ge;have:=m.lt;exact jI y0),_,(a0.t zt)⟩
 refine zH ?_;cases sy
 .refine zH ?_;refine dC (xg _ i true) ?_;rintro _ b1 bg⟨I,w,a9,R,rfl,a1⟩ cr ci;refine zH ?_;refine dC (xg _ (j.t zt) true) ?_;rintro _ b2 bh⟨J,A,aa,S,rfl,a2⟩ cs cj;refine dS [Dk I,Y w a9 R] ?_;intro b3 c5 bq;refine dS [Dk J,Y A aa S] ?_;intro b4 c6 br;refine zq ?_;exact⟨_,_,_,_,_,_,_,_,rfl,(a1.t zt).as (by have:=o.lt;have:=m.ge;exact jI y0),_,(a2.t zt)⟩
 refine zH ?_;refine dC (xg _ i false) ?_;rintro _ b5 bi⟨K,B,ab,T,rfl,a3⟩ ct ck;refine zH ?_;refine dC (xg _ (j.t zt) true) ?_;rintro _ b6 bj⟨L,C,ac,Z4,rfl,a4⟩ cu cl;refine dS [Dk K,Y B ab T] ?_;intro b7 c7 bs;refine dS [Dk L,Y C ac Z4] ?_;intro b8 c8 bt;refine zq ?_;exact⟨_,_,_,_,_,_,_,_,rfl,(a3.t zt).as (by have:=o.lt;have:=m.lt;exact jI y0),_,(a4.t zt)⟩
theorem quoX(k:Nat){x:Int}{y:Int}(p:IW h n sx ax lx cx x)(q:IW h n sy ay ly cy y)(hx:x.natAbs<BW)(s:y.natAbs<BW)(m:y≠0):CX (KO (k+8)) 129 [.agg #[Dk sx,Y ax lx cx],.agg #[Dk sy,Y ay ly cy]] h n (IV (x.tdiv y)):=by
 refine zl (fn:=Tryz.f129) R4<|zG ?_;refine sB [Dk sx,Y ax lx cx] ?_;intro v S a3;refine sB [Dk sy,Y ay ly cy] ?_;intro w T a4;refine sA ?_;intro A Z4 a5;refine zG ?_;refine sC (qd _ (q.t zt)) ?_;rintro _ B L⟨u,rfl,f⟩ aa a6;rcases K3 f with⟨rfl,e⟩|⟨rfl,e⟩
 .refine zG ?_;refine sC (Wb _ (p.t zt) (q.t zt) hx s m) ?_;rintro _ C M⟨b,a,d,c,l,g,i,j,rfl,o,a2,K⟩ ab a7;refine Zs ?_;intro D V a8;refine sA ?_;intro F W a9;refine sS [Dk b,Y a d c] ?_;intro G Z3 N;refine sS [Dk l,Y g i j] ?_;intro H Z0 Z1;refine zG ?_;refine sS [Dk b,Y a d c] ?_;intro I a0 P;refine zq ?_;exact⟨_,_,_,_,rfl,(o.t zt)⟩
 refine zG ?_;refine sS [Dk sx,Y ax lx cx] ?_;intro J a1 R;refine zq ?_;exact⟨_,_,_,_,rfl,(p.t zt).as (by rw[e,Int.tdiv_one])⟩
theorem gcdX(k:Nat){x:Int}{y:Int}(g:GG h n)(e:IW h n sx ax lx cx x)(f:IW h n sy ay ly cy y)(hx:x.natAbs<BW)(hy:y.natAbs<BW):CX (KO (k+8)) 117 [.agg #[Dk sx,Y ax lx cx],.agg #[Dk sy,Y ay ly cy]] h n (IV ((DH x.natAbs y.natAbs:Nat):Int)):=by
 refine zl (fn:=at6) R4<|zG ?_;refine sB [Dk sx,Y ax lx cx] ?_;intro i s A;refine sB [Dk sy,Y ay ly cy] ?_;intro j u B;refine sA ?_;intro l v C;refine zG ?_;refine sC (P7 _ (g.t zt) (e.t zt).2 (f.t zt).2 Lu) ?_;rintro _ m p⟨a,c,b,rfl,d⟩ F D;refine sT #[Dk false,Y a c b] ?_;refine sS [Dk false,Y a c b] ?_;intro o w q;refine zq ?_;exact⟨_,_,_,_,rfl,Be,(d.t zt)⟩
theorem Wc(k:Nat){x:Int}{y:Int}(a:IW h n sx ax lx cx x)(c:IW h n sy ay ly cy y)(hx:x.natAbs<BW)(hy:y.natAbs<BW):VF (KO (k+4)) 243 [.agg #[Dk sx,Y ax lx cx],.agg #[Dk sy,Y ay ly cy]] h n fun v=>∃b:Bool,v=Dk b∧(b=true↔x=y):=by
 refine zB (fn:=Tryz.f243) R4<|zG ?_;refine sB [Dk sx,Y ax lx cx] ?_;intro f o u;refine sB [Dk sy,Y ay ly cy] ?_;intro g p w;refine zG ?_;cases sx
 .refine zG ?_;cases sy
  .refine zG ?_;refine sC (Nh _ (a.t zt).2 (c.t zt).2 Lu) ?_;rintro _ i l⟨q,rfl,d⟩ C A;rcases d with⟨rfl,d⟩|⟨rfl,d⟩|⟨rfl,d⟩
   .refine zf ?_;exact⟨_,rfl,Ae⟩
   .refine zf ?_;exact⟨_,rfl,Ae⟩
   refine zf ?_;exact⟨_,rfl,Ae⟩
  refine zf ?_;exact⟨_,rfl,by have:=a.ge;have:=c.lt;simp only[reduceCtorEq,true_iff,false_iff];omega⟩
 refine zG ?_;cases sy
 .refine zf ?_;exact⟨_,rfl,by have:=a.lt;have:=c.ge;simp only[reduceCtorEq,true_iff,false_iff];omega⟩
 refine zG ?_;refine sC (Nh _ (a.t zt).2 (c.t zt).2 Lu) ?_;rintro _ j m⟨s,rfl,e⟩ D B;rcases e with⟨rfl,e⟩|⟨rfl,e⟩|⟨rfl,e⟩
 .refine zf ?_;exact⟨_,rfl,Af⟩
 .refine zf ?_;exact⟨_,rfl,Af⟩
 refine zf ?_;exact⟨_,rfl,Af⟩
end
end Go.Proofs.YtfajmfoofmienaaGreatDoor
