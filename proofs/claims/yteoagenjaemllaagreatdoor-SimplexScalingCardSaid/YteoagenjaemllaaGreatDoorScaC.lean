import Derived.KernelRfl
import Derived.Test.YteoagenjaemllaaGreatDoorScaB
open Option renaming some→ξ,none→θ
open Bool renaming true→φ,false→χ
open Go renaming Value→ψ
set_option linter.defProp false
open Bool renaming and_self→Eg,eq_false_iff→Hl,false_eq_true→ET,not_false→GX,not_true→Io,or_true→Jx
open Classical renaming byContradiction→Df
open Go.Proofs.Tryz renaming f152→av6,f168→av7
open Go.Proofs.YteoagenjaemllaaGreatDoor.Ko renaming refl→FI,upd→Hv
open Go.Proofs.YteoagenjaemllaaGreatDoor.Kq renaming nil→H7,snoc→Gt,zeros→ap5
open Go.Proofs.YteoagenjaemllaaGreatDoor.NW renaming last→an3,nil→Kl
open Go.Proofs.YteoagenjaemllaaGreatDoor.Norm renaming nil→IT
open Go.Value renaming bool→CV,int→U,pointer→CZ,slice→Y,string→CY
open Int renaming eq_ofNat_of_zero_le→Jq,gcd→JY,natAbs_natCast→Dk,natAbs_neg→E7,natAbs_of_nonneg→Hw,natAbs_tdiv→Gy,natCast_mul→EY,neg_neg→Hu,neg_tdiv→ab0,ofNat_natAbs_of_nonpos→Gs,sign_eq_one_of_pos→Gh,tdiv_neg→ab1,tdiv_nonneg→IA,tmod_nonneg→ag1,toNat_natCast→Ew
open List renaming all_eq_true→Fy,append_assoc→DH,append_nil→DJ,drop_drop→EH,drop_eq_nil_of_le→FA,drop_left'→Hc,drop_length→EI,drop_replicate→J2,drop_zero→DO,foldl→ar5,foldl_cons→Ix,getElem?_append_left→D7,getElem?_append_right→Dx,getElem?_drop→D9,getElem?_eq_getElem→CW,getElem?_eq_some_iff→C4,length→O,length_append→C1,length_cons→DM,length_drop→DN,length_eq_one_iff→Gi,length_eq_zero_iff→De,length_nil→FV,length_pos_iff→GS,length_replicate→DI,length_singleton→Db,length_take→DK,mem_append→Ei,mem_cons→DA,mem_cons_self→EM,mem_map→D2,mem_of_getElem?→C0,mem_of_mem_take→D8,mem_singleton→Dc,nil_append→DR,not_mem_nil→C6,replicate→C3,replicate_append_replicate→Ic,replicate_succ→GU,replicate_zero→Fp,set_append_right→Ej,take_append_drop→Eb,take_left'→JG,take_length→Ds,take_of_length_le→C7,take_succ_eq_append_getElem→Fr
open Nat renaming add_assoc→HP,add_comm→EE,add_mul→Dq,add_mul_div_left→Hq,add_mul_div_right→Hi,add_mul_mod_self_right→Gq,add_sub_cancel→Fh,add_zero→DV,beq→D5,ble→DC,ble_eq_true_of_le→C8,div_add_mod→Em,div_div_eq_div_mul→FB,div_eq_of_lt→EZ,div_le_self→EL,div_lt_iff_lt_mul→EF,div_one→Ht,eq_of_beq_eq_true→DU,eq_zero_or_pos→Fi,gcd→Dh,gcd_comm→E5,gcd_le_left→HU,gcd_rec→Ja,gcd_zero_right→G6,le_div_iff_mul_le→FF,le_mul_of_pos_right→FR,le_of_ble_eq_true→Dt,le_of_lt→EB,le_refl→Ez,le_sub_one_of_lt→JP,le_succ→Du,le_trans→Dy,lt_of_le_of_lt→Dw,lt_of_lt_of_le→Dm,lt_or_ge→En,lt_succ_self→FD,lt_trans→H8,lt_trichotomy→GD,min_eq_left→Ee,mod_eq_of_lt→Di,mod_lt→DS,mul_add→DW,mul_assoc→Dp,mul_comm→C5,mul_div_mul_right→Ie,mul_le_mul→DG,mul_le_mul_left→Do,mul_le_mul_right→C9,mul_left_comm→E2,mul_lt_mul_of_pos_right→EQ,mul_mod_mul_right→Hh,mul_one→D1,mul_pos→Fv,mul_right_comm→F5,mul_succ→JB,mul_zero→EJ,not_succ_le_zero→JR,one_le_div_iff→Km,one_mul→Et,or_comm→ae6,pow_add→Ef,pow_le_pow_left→GT,pow_le_pow_right→Dd,pow_mul→HZ,pow_pos→DQ,pow_succ→Dj,pow_zero→EV,sub_self→Ec,succ_mul→Ff,zero_add→Dl,zero_le→GA,zero_mod→aa9,zero_mul→Ep
open Rat renaming den_intCast→ag3,divInt→DT,num_intCast→ag2
open UInt8 renaming ofNat→EA,toNat_inj→Gz
set_option maxHeartbeats 8000000
set_option linter.unusedVariables false
set_option linter.unusedSimpArgs false
namespace Go.Proofs.YteoagenjaemllaaGreatDoor
open Go Go.GL
variable {ops:List Oper}{h h':HF}{n bytes size m i cap len top bt sz n' lo c1 c2 l1 l2 Z4 c' cX n0 b c j V a d r l P k N:Nat}{w ms ln Z0 A C L S X:List Nat}{t:TF}{Q:SV->Prop}{o:Oper}{al:List (Nat×Nat)}{ef:List (Nat×HF×List Nat)}{e e2 ty xT e3:TypeId}{z d1 d2 z2 n1 n2 v:ψ}{args new cs:List ψ}{body:Code}{ik' ik:IntKind}{fn:Func}{hi x:Operand}{ji:Int}{a1 a2:Option Addr}{b1 b2:Bool}{s:List UInt8}{q:Rat}{f:FuncId}{E:Env}
variable {ld:List Nat}{sT:TypeId}
def M9{a:Option Addr}{x:Int}{neg:Bool}(g:Sl h n 1 (Y a (O L) c) (u32s L))(e:Norm L)(hv:val L=x.natAbs)(d:x≠0->neg=decide (x<0)):IntR h n (CV (neg&&decide (0<O L))) (Y a (O L) c) x L:=by refine⟨?_,g,e,hv⟩;have f:=e.zero;rw[<-De]at f;by_cases hx:x=0;have:¬0<O L:=Z;rw[CM this,hx,Bool.and_false];rfl;have:0<O L:=Z;rw[CN this,Bool.and_true,d hx]
def Ps(k:Nat){s i:ψ}{x:Int}{l:List Nat}(hi:IntR h n s i x l):CF (Kp (k+2)) 88 [.agg #[s,i]] h n λv u D w=>w=[]/\n<=D/\Ko n h u/\∃c1',v=.agg #[c1',i]/\IntR u D c1' i (-x) l:=by
 refine zw (fn:=Tryz.f88) R4 ?_;obtain⟨rfl,g,j,q⟩:=hi;obtain⟨a,J,d,rfl,_⟩:=g.len;have G:=g.lenU;subst G;refine zN ?_;refine Lu (cs:=[CV (decide (x<0)),Y a (O l) d]) R5<|xV R5<|zN ?_;generalize hh:upd (upd h (3*n+2) _) (3*(n+1)+2) _=h1;have m:∃e,h1 (3*n+2)=ξ (.row [CV (decide (x<0)),Y a (O l) d] e):=⟨_,A9⟩;have p:∃e,h1 (3*(n+1)+2)=ξ (.row [CV χ,η] e):=⟨_,gP⟩;have B:Ko n h h1:=by rw[<-hh];intro b y;rw[zm Z,zm Z]
 have⟨K,m⟩:=m;have⟨F,p⟩:=p;repeat refine zR ?_
 refine zT R6 m (v:=CV (decide (x<0))) R2 ?_;repeat refine zR ?_
 refine zT R6 m (v:=Y a (O l) d) R2<|zF _ R5 (Mw k _ _ (!decide (x<0)) a (O l) d) ?_;rintro _ H M _⟨rfl,rfl,rfl,o⟩;refine yc [CV (!decide (x<0)&&decide (0<O l)),Y a (O l) d] R7 ω (by rw[o _ Z];exact p) ω dG ?_;refine zN ?_;have f:Ko n h (upd H (3*(n+1)+2) (ξ (.row [CV (!decide (x<0)&&decide (0<O l)),Y a (O l) d] F))):=λb y=>by rw[zm Z,o b Z];exact B b y
 refine uq R5 (zg _ _ _) ω ⟨ω,by show n<=n+1+1+1;omega,f,_,ω,M9 (g.ext f Z) j (by rw[q];omega) (λI=>?_)⟩;by_cases hx:x<0;rw[CN hx,CM Z];rfl;rw[CM hx,CN Z];rfl
def XV{P:ψ->HF->Nat->List Nat->Prop}{e:Ex}{t:TF}{a i:Tmp}{g s:TypeId}{j f l:Nat}{d:List ψ}(v:rI e=φ)(D:fn.results.toList=[.cell a ty,.cell i g])(u:t a=ι b)(m:t i=ι j)(y:GL.isAgg Kw ty=ξ φ)(p:GL.isAgg Kw g=ξ φ)(hi:Kw.inf ty=ξ (sz,bt,z))(q:Kw.inf g=ξ (f,l,z2))(hb:h b=ξ (.row cs s))(o:h j=ξ (.row d e2))(hl:O cs=sz)(H:O d=f)(B:P (.tuple #[.agg cs.toArray,.agg d.toArray]) h n w):RetH fn P e ⟨t,h,n,w⟩:=by refine retH [.agg cs.toArray,.agg d.toArray] ⟨v,?_,ω⟩ B;rw[D];have F:=yw ⟨y,hi⟩ hb ω (show 0+sz<=O cs from Z) (show(cs.drop 0).take sz=cs by rw[DO,C7 Z]);have G:=yw ⟨p,q⟩ o ω (show 0+f<=O d from Z) (show(d.drop 0).take f=d by rw[DO,C7 Z]);simp only[resF,u,m,F,G]
def RI(k:Nat){Z3 Z0:ψ}{x y:Int}(hx:IntR h n Z3 Z0 x A)(hy:IntR h n d1 d2 y C)(f:y≠0)(hb:O A<1000000000):
  CF (Kp (k+4)) 91 [.agg #[Z3,Z0],.agg #[d1,d2]] h n λv N W w=>w=[]/\n<=W/\Ko n h N/\∃q1 q2 r1 r2 g i,v=.tuple #[.agg #[q1,q2],.agg #[r1,r2]]/\IntR N W q1 q2 (x.tdiv y) g/\IntR N W r1 r2 (x.tmod y) i/\xC n q2/\xC n r2:=by
 refine zw (fn:=Tryz.f91) R4 ?_;obtain⟨rfl,P,nA,vA⟩:=hx;obtain⟨rfl,R,nC,vC⟩:=hy;obtain⟨a,la,G,rfl,_⟩:=P.len;obtain⟨c,lc,H,rfl,_⟩:=R.len;have e1:=P.lenU;have e2:=R.lenU;subst e1 e2;have a0:C≠[]:=λe=>f (by have:=nC.zero.2 e;omega);refine zN ?_;refine Lu (cs:=[CV (decide (x<0)),Y a (O A) G]) R5<|Lu (cs:=[CV (decide (y<0)),Y c (O C) H]) R5<|xV R5<|xV R5<|zN ?_;generalize hh:upd (upd (upd (upd h (3*n+2) _) (3*(n+1)+2) _) (3*(n+1+1)+2) _) (3*(n+1+1+1)+2) _=d;have o:∃e,d (3*n+2)=ξ (.row [CV (decide (x<0)),Y a (O A) G] e):=⟨_,by rw[<-hh,zm Z,zm Z,zm Z,zg]⟩;have p:∃e,d (3*(n+1)+2)=ξ (.row [CV (decide (y<0)),Y c (O C) H] e):=⟨_,AA⟩;have s:∃e,d (3*(n+1+1)+2)=ξ (.row [CV χ,η] e):=⟨_,by rw[<-hh,zm Z,zg];rfl⟩;have u:∃e,d (3*(n+1+1+1)+2)=ξ (.row [CV χ,η] e):=⟨_,gP⟩;have B:Ko n h d:=by rw[<-hh];intro b hb;rw[zm Z,zm Z,zm Z,zm Z]
 have⟨t1,o⟩:=o;have⟨t2,p⟩:=p;have⟨t3,s⟩:=s;have⟨t4,u⟩:=u;repeat refine zR ?_
 refine zT R6 o (v:=Y a (O A) G) R2 ?_;repeat refine zR ?_
 refine zT R6 p (v:=Y c (O C) H) R2<|zF _ R5 (RG k (P.ext B (show n<=n+1+1+1+1 from Z)) (R.ext B (show n<=n+1+1+1+1 from Z)) nA nC a0 hb) ?_;rintro _ h2 n2 _⟨rfl,a3,j,D,I,g,F,J,i,rfl,a1,a2,nq,nr,vq,vr,K,M⟩;refine oQ ?_;refine zl [0,1,0,4,15,0,63,0,128,0,1023,2047,4095] ω ?_;have q:h2 (3*n+2)=_:=(j _ Z).trans o;have T:h2 (3*(n+1)+2)=_:=(j _ Z).trans p;repeat refine zD ?_
 refine yd R6 (zX ω q (v:=CV (decide (x<0))) R2) R2 ?_;repeat refine zD ?_
 refine yd R6 (zX ω T (v:=CV (decide (y<0))) R2) R2<|dr_B (a:=decide (x<0) != decide (y<0)) R5 ?_;repeat refine zD ?_
 refine wa _ R7 (Mw (k+2) _ _ (decide (x<0) != decide (y<0)) D (O g) I) ?_;rintro _ h3 n3 _⟨rfl,rfl,rfl,l⟩;refine⟨ω,Z,?_⟩;repeat refine zD ?_
 refine yd R6 (zX ω q (v:=CV (decide (x<0))) R2) ⟨(Pd cA),ω⟩ ?_;repeat refine zD ?_
 refine wa _ R7 (Mw (k+2) _ _ (decide (x<0)) F (O i) J) ?_;rintro _ Z1 n4 _⟨rfl,rfl,rfl,m⟩;refine⟨ω,Z,?_⟩;have Z4:Z1 (3*(n+1+1)+2)=_:=(m _ Z).trans ((l _ Z).trans ((j _ Z).trans s));have V:Z1 (3*(n+1+1+1)+2)=_:=(m _ Z).trans ((l _ Z).trans ((j _ Z).trans u));refine uT (cs:=[CV ((decide (x<0) != decide (y<0))&&decide (0<O g)),Y D (O g) I]) R7 ω Z4 zb dG R3 ?_;refine uT (cs:=[CV (decide (x<0)&&decide (0<O i)),Y F (O i) J]) R7 ω ((zm Z).trans V) zb dG R3 ?_;refine zN ?_;have S:Ko n h (upd (upd Z1 (3*(n+1+1)+2) (ξ (.row [CV ((decide (x<0) != decide (y<0))&&decide (0<O g)),Y D (O g) I] t3))) (3*(n+1+1+1)+2) (ξ (.row [CV (decide (x<0)&&decide (0<O i)),Y F (O i) J] t4))):=λb hb=>(by rw[zm Z,zm Z,m b Z,l b Z,j b Z];exact B b hb);refine XV ω ω ω ω ω ω ω ω ((zm Z).trans (zg _ _ _)) (zg _ _ _) ω ω ⟨ω,by show n<=n2+1+1;omega,S,_,_,_,_,g,i,ω,?_,?_,?_,?_⟩;refine M9 (((((a1.ext l Zq).ext m Zq).old K Z).old K Z)) nq ?_ λh0=>?_;rw[vq,vA,vC,Gy];rfl;by_cases hx0:x<0<;>by_cases f:y<0;rw[CN hx0,CN f,CM (by have:=Int.tdiv_nonneg_of_nonpos_of_nonpos (a:=x) (b:=y) Z Z;omega)];rfl;have d:=IA (a:= -x) (b:=y) Z Z;rw[ab0]at d;rw[CN hx0,CM f,CN Z];rfl;have d:=IA (a:=x) (b:= -y) Z Z;rw[ab1]at d;rw[CM hx0,CN f,CN Z];rfl;rw[CM hx0,CM f,CM (by have:=IA (a:=x) (b:=y) Z Z;omega)];rfl;refine M9 (((((a2.ext l Zq).ext m Zq).old M Z).old M Z)) nr ?_ λh0=>?_;rw[vr,vA,vC,Int.natAbs_tmod];by_cases hx0:x<0;have d:=ag1 (a:= -x) y Z;rw[Int.neg_tmod]at d;rw[CN hx0,CN Z];rw[CM hx0,CM (by have:=ag1 (a:=x) y Z;omega)];exact K.mono Z;exact M.mono Z
def LR(m x y:Nat):Prop:=if m%2=0 then y<2^(m/2)else x<2^(m/2+1)/\y<x
theorem LR.pos{x y:Nat}(h:LR m x y)(a:0<y):0<m:=by grind [LR]
def XW{x y:Nat}(a:0<y)(h:y<x):2*(x%y)<x:=by have d:=DS x a;have e:=Em x y;have c:1<=x/y:=(FF a).2 Z;have f:y*1<=y*(x/y):=Do y c;omega
def LR.next{x y:Nat}(h:LR (m+1) x y)(a:0<y):LR m y (x%y):=by unfold LR at h⊢;by_cases hm:(m+1)%2=0;rw[CQ hm]at h;rw[CP Z];rw[show m/2+1=(m+1)/2 from Z];exact⟨h,DS x a⟩;rw[CP hm]at h;rw[CQ Z];have c:=XW a h.2;rw[show(m+1)/2+1=m/2+1 from Z,Dj]at h;omega
def KL(b:Nat):ψ->Prop
 | Y (ξ a) _ _=>a.block≠b
 |_=>True
def Sl.off{c:List ψ}{x:Option BF}(s:Sl h n sz v c)(d:KL b v):Sl (upd h b x) n sz v c:=
 s.keep (λa l f e=>by subst e;exact zm d) CS
theorem Below.off(h:Below m v)(hb:3*m<=b):KL b v:=by unfold Below at h;unfold KL;split<;>simp_all;omega
theorem xC.off(h:xC m v)(hb:b<3*m):KL b v:=by unfold xC at h;unfold KL;split<;>simp_all;omega
def XX(k:Nat){c1 Z4:ψ}{x y:Int}(hx:IntR h n c1 Z4 x A)(hy:IntR h n d1 d2 y C)(hb:O A<1000000000/\O C<1000000000):
  CF (Kp (k+4)) 89 [.agg #[c1,Z4],.agg #[d1,d2]] h n λv q u w=>w=[]/\n<=u/\Ko n h q/\∃g1 g2 L,v=.agg #[g1,g2]/\IntR q u g1 g2 ((Dh x.natAbs y.natAbs:Nat):Int) L/\O L<1000000000/\∀b,b<3*n->KL b Z4->KL b d2->KL b g2:=by
 refine zw (fn:=Tryz.f89) R4 ?_;obtain⟨rfl,P,nA,vA⟩:=hx;obtain⟨rfl,R,nC,vC⟩:=hy;obtain⟨a,la,o,rfl,_⟩:=P.len;obtain⟨c,lc,p,rfl,_⟩:=R.len;have e1:=P.lenU;have e2:=R.lenU;subst e1 e2;refine zN ?_;refine Lu (cs:=[CV (decide (x<0)),Y a (O A) o]) R5<|Lu (cs:=[CV (decide (y<0)),Y c (O C) p]) R5<|xV R5<|zN ?_;generalize hh:upd (upd (upd h (3*n+2) _) (3*(n+1)+2) _) (3*(n+1+1)+2) _=i;have I:∃e,i (3*n+2)=ξ (.row [CV (decide (x<0)),Y a (O A) o] e):=⟨_,AA⟩;have J:∃e,i (3*(n+1)+2)=ξ (.row [CV (decide (y<0)),Y c (O C) p] e):=⟨_,A9⟩;have K:∃e,i (3*(n+1+1)+2)=ξ (.row [CV χ,η] e):=⟨_,gP⟩;have M:Ko n h i:=by rw[<-hh];intro b hb;rw[zm Z,zm Z,zm Z]
 have⟨t1,I⟩:=I;have⟨t2,J⟩:=J;have⟨t3,K⟩:=K;rw[wb rfl];repeat refine zR ?_
 refine zT R6 I (v:=Y a (O A) o) R2 ?_;repeat refine zR ?_
 refine zT R6 J (v:=Y c (O C) p) R2<|oQ ?_;refine ye (α:=(Option Addr×Nat×List Nat)×(Option Addr×Nat×List Nat)×Nat) (λz=>[(4,ι (3*(n+1+1)+2)),(5,Y z.1.1 (O z.1.2.2) z.1.2.1),(6,Y z.2.1.1 (O z.2.1.2.2) z.2.1.2.1)])
  (λz q u w'=>n+1+1+1<=u/\w'=[]/\Ko (n+1+1+1) i q/\Sl q u 1 (Y z.1.1 (O z.1.2.2) z.1.2.1) (u32s z.1.2.2)/\Sl q u 1 (Y z.2.1.1 (O z.2.1.2.2) z.2.1.2.1) (u32s z.2.1.2.2)/\Norm z.1.2.2/\Norm z.2.1.2.2/\O z.1.2.2<1000000000/\O z.2.1.2.2<1000000000/\LR z.2.2 (val z.1.2.2) (val z.2.1.2.2)/\Dh (val z.1.2.2) (val z.2.1.2.2)=Dh x.natAbs y.natAbs/\(∀b,b<3*(n+1+1+1)->KL b (Y a (O A) o)->KL b (Y c (O C) p)->KL b (Y z.1.1 (O z.1.2.2) z.1.2.1))/\(∀b,b<3*(n+1+1+1)->KL b (Y a (O A) o)->KL b (Y c (O C) p)->KL b (Y z.2.1.1 (O z.2.1.2.2) z.2.1.2.1))) (λz=>z.2.2)
  ((a,o,A),(c,p,C),2*(32*O C)) P3 ⟨by show n+1+1+1<=n+1+1+1;omega,ω,FI _ _,P.ext M (show n<=n+1+1+1 from Z),R.ext M (show n<=n+1+1+1 from Z),nA,nC,hb.1,hb.2,?_,by rw[vA,vC],λ_ _ i _=>i,λ_ _ _ h2=>h2⟩ (by show 2*(32*O C)<LL;unfold LL;omega) ?_
 show LR (2*(32*O C)) (val A) (val C);unfold LR;rw[CQ Z,show 2*(32*O C)/2=32*O C from Z,HZ];exact Pe nC.1;rintro⟨⟨T,F,l⟩,⟨c',a0,g⟩,m⟩ t h2 n2 _ ⟨a1,rfl,N,G,H,Z1,f,D,S,Z3,W,Z0,oC⟩;simp only at G H Z1 f D S Z3 W Z0 oC;refine zN ?_;by_cases hC0:g=[];subst hC0;refine Zt ?_;refine zF _ R5 (Mw (k+2) _ _ χ T (O l) F) ?_;rintro _ h3 n3 _⟨rfl,rfl,rfl,d⟩;refine yc [CV (χ&&decide (0<O l)),Y T (O l) F] R7 ω (by rw[d _ Z,N _ Z];exact K) ω dG ?_;refine zN ?_;have V:Ko n h (upd h3 (3*(n+1+1)+2) (ξ (.row [CV (χ&&decide (0<O l)),Y T (O l) F] t3))):=λb hb=>by rw[zm Z,d b Z,N b Z];exact M b hb
 refine uq R5 (zg _ _ _) ω ⟨ω,by show n<=n2+1;omega,V,_,_,l,ω,M9 ((G.ext d Zq).off (Z0 _ Z (P.below.off Z) (R.below.off Z))) Z1 ?_ (λh0=>?_),D,λb hb=>Z0 b Z⟩;rw[<-W];simp[val];rw[CM Z];have a4:0<O g:=GS.2 hC0;have j:=f.pos hC0;refine Zk ?_;refine zF _ R5 (RG k G H Z1 f hC0 D) ?_;rintro _ h3 n3 _⟨rfl,a2,d,aq,cq,Lq,ar,cr,B,rfl,a7,a3,nq,nr,vq,vr,fq,fr⟩;refine Zg ?_;have a6:=Z3.pos j;obtain⟨s,rfl⟩:∃s,m=s+1:=⟨m-1,Z⟩;have a5:O B<=O g:=f.len_le nr (by rw[vr];exact EB (DS _ j));refine goOn ((c',a0,g),(ar,cr,B),s) (by show s<s+1;omega) P3 ⟨by show n+1+1+1<=n3;omega,ω,N.trans d a1,H.ext d a2,a3,f,nr,S,by show O B<1000000000;omega,?_,?_,oC,λb hb _ _=>fr.off Z⟩;show LR s (val g) (val B);rw[vr];exact Z3.next j;show Dh (val g) (val B)=_;rw[vr,<-W,E5 (val g),<-Ja,E5]
def IntR.off{c a:ψ}{x:Int}{l:List Nat}{y:Option BF}(r:IntR h n c a x l)(d:KL b a):IntR (upd h b y) n c a x l:=⟨r.neg,r.sl.off d,r.norm,r.val⟩
def IntR.len_le{e f:ψ}{x y:Int}{l c:List Nat}(r:IntR h n e f x l)(d:IntR h' n' d1 d2 y c)(a:y.natAbs<=x.natAbs):O c<=O l:=r.norm.len_le d.norm (by rw[r.val,d.val];exact a)
def IntR.ones{c a:ψ}{x:Int}{l:List Nat}(r:IntR h n c a x l):ones [c,a]=φ:=by rw[r.neg];show GL.ones (a::_)=φ;rw[r.sl.ones];rfl
def Away(n:Nat)(c0 v:ψ):Prop:=(v=c0/\Below n v)\/xC (n+1+1+1) v
def Away.off{a:ψ}(h:Away n a v)(c:3*n<=b)(d:b<3*(n+1+1+1)):KL b v:=by obtain h|h:=h;exact h.2.off c;exact h.off d
def Away.or{a:ψ}(h:Away n a v):v=a\/xC n v:=by obtain h|h:=h;exact .inl h.1;exact .inr (h.mono Z)
structure FrS (n:Nat)(c0 d0:ψ)(h h':HF)(n':Nat)(c1 c2 d1 d2:ψ)(x y:Int)(A C:List Nat):Prop where
 n3:n+1+1+1<=n'
 ext:Ko n h h'
 b2:∃e,h' (3*n+2)=ξ (.row [c1,c2] e)
 b3:∃e,h' (3*(n+1)+2)=ξ (.row [d1,d2] e)
 b4:∃e,h' (3*(n+1+1)+2)=ξ (.row [CV χ,Y θ 0 0,CV χ,Y θ 0 0] e)
 ix:IntR h' n' c1 c2 x A
 iy:IntR h' n' d1 d2 y C
 ox:Away n c0 c2
 oy:Away n d0 d2
def FrS.exts{d d0:ψ}{a:HF}{c:Nat}{e f:ψ}{x y:Int}(s:FrS n d d0 h h' n' e f d1 d2 x y A C)(hx:Ko n' h' a)(g:n'<=c):FrS n d d0 h a c e f d1 d2 x y A C:=by have⟨D,ext,⟨m,i⟩,⟨o,j⟩,⟨p,l⟩,q,u,w,B⟩:=s;exact⟨Z,ext.trans hx Z,⟨m,by rw[hx _ Z];exact i⟩,⟨o,by rw[hx _ Z];exact j⟩,⟨p,by rw[hx _ Z];exact l⟩,q.ext hx g,u.ext hx g,w,B⟩
def FrS.putx{c d0:ψ}{p q:ψ}{x y:Int}(s:FrS n c d0 h h' n' p q d1 d2 x y A C){d a:ψ}{j:Int}{f:List Nat}(i:IntR h' n' d a j f)(o:Away n c a)(e:TypeId):FrS n c d0 h (upd h' (3*n+2) (ξ (.row [d,a] e))) n' d a d1 d2 j y f C:=by have⟨I,ext,⟨G,F⟩,⟨u,l⟩,⟨w,m⟩,H,D,J,g⟩:=s;exact⟨Z,λb B=>by rw[zm Z];exact ext b B,⟨e,zg _ _ _⟩,⟨u,by rw[zm Z];exact l⟩,⟨w,by rw[zm Z];exact m⟩,i.off (o.off Z Z),D.off (g.off Z Z),o,g⟩
def FrS.puty{f d0:ψ}{g j:ψ}{x y:Int}(s:FrS n f d0 h h' n' g j d1 d2 x y A C){c a:ψ}{m:Int}{d:List Nat}(i:IntR h' n' c a m d)(o:Away n d0 a)(e:TypeId):FrS n f d0 h (upd h' (3*(n+1)+2) (ξ (.row [c,a] e))) n' g j c a x m A d:=by have⟨I,ext,⟨u,p⟩,⟨G,F⟩,⟨w,q⟩,D,H,l,J⟩:=s;exact⟨Z,λb B=>by rw[zm Z];exact ext b B,⟨u,by rw[zm Z];exact p⟩,⟨e,zg _ _ _⟩,⟨w,by rw[zm Z];exact q⟩,D.off (l.off Z Z),i.off (o.off Z Z),l,o⟩
def XY{x y:Int}(a:0<y):(DT x y).num=x/((Dh x.natAbs y.natAbs:Nat):Int):=by rw[Rat.num_divInt,Gh a,Int.one_mul];unfold JY;rw[E5]
theorem XZ{x y:Int}(a:0<y):(DT x y).den=y.natAbs/Dh x.natAbs y.natAbs:=by grind [Rat.den_divInt,JY,E5]
def RJ{x:Int}{g:Nat}(h:g∣x.natAbs):x.tdiv (g:Int)=x/(g:Int):=Int.tdiv_eq_ediv_of_dvd (Int.ofNat_dvd_left.2 h)
theorem X0{y:Int}(h:0<y)(g:Nat):y/(g:Int)=((y.natAbs/g:Nat):Int):=by grind
structure DenR (h:HF)(n:Nat)(d1 d2:ψ)(q:Nat)(ld:List Nat):Prop where
 neg:d1=CV χ
 sl:Sl h n 1 d2 (u32s ld)
 norm:Norm ld
 val:val ld=if q=1 then 0 else q
def RK(k:Nat){c1 a:ψ}{x y:Int}(hx:IntR h n c1 a x A)(hy:IntR h n d1 d2 y C)(al:y≠0)(hb:O A<1000000000/\O C<1000000000):
  CF (Kp (k+5)) 41 [.agg #[c1,a],.agg #[d1,d2]] h n λv h' n' w=>w=[]/\n<=n'/\Ko n h h'/\∃c m e1 s ln ld,v=.agg #[c,m,e1,s]/\RatR h' n' c m e1 s (DT x y) ln ld/\O ln<=O A/\O ld<=O C/\(m=a\/xC n m)/\(s=d2\/xC n s):=by
 refine zw (fn:=Tryz.f41) R4 ?_;obtain⟨q,hq⟩:∃q,q=DT x y:=⟨_,ω⟩;rw[<-hq];refine zN ?_;refine Lu (cs:=[c1,a]) R5<|Lu (cs:=[d1,d2]) R5<|xV R5<|zN ?_;generalize hh:upd (upd (upd h (3*n+2) _) (3*(n+1)+2) _) (3*(n+1+1)+2) _=h1;have W:Ko n h h1:=by rw[<-hh];intro b hb;rw[zm Z,zm Z,zm Z]
 have R:FrS n a d2 h h1 (n+1+1+1) c1 a d1 d2 x y A C:=⟨CS,W,⟨_,AA⟩,⟨_,A9⟩,⟨_,gP⟩,hx.ext W Z,hy.ext W Z,.inl ⟨ω,hx.sl.below⟩,.inl ⟨ω,hy.sl.below⟩⟩;have⟨ak,J⟩:=R.b2;have⟨a8,d⟩:=R.b3;repeat refine zR ?_
 refine zT R6 d (v:=d1) R2<|zN ?_;refine yj (α:=(ψ×ψ)×Int×Int) (λ_=>[(2,ι (3*n+2)),(3,ι (3*(n+1)+2)),(4,ι (3*(n+1+1)+2))]) (λz h' n' w=>w=[]/\FrS n a d2 h h' n' z.1.1 a z.1.2 d2 z.2.1 z.2.2 A C/\0<z.2.2/\DT z.2.1 z.2.2=q) ?_ ?_;by_cases hn:y<0;rw[ze (by show d1=_;rw[hy.neg,CN hn])];refine zl [0,1,0,7,15,31] rfl<|yd (v:=.agg #[c1,a]) R6 (yw R2 J ω zb ω) R2<|wa _ R7 (Ps (k+2) R.ix) ?_;rintro _ h2 n2 _⟨rfl,B,M,c,rfl,i1⟩;refine⟨ω,B,?_⟩;refine yd (v:=.agg #[d1,d2]) R6 (yw R2 d ω zb ω) ⟨(Pd cA),ω⟩ ?_;refine wa _ R7 (Ps (k+2) (R.iy.ext M B)) ?_;rintro _ h3 n3 _⟨rfl,I,F,l,rfl,i2⟩;refine⟨ω,I,?_⟩;have o:=(R.exts M B).exts F I;have ai:=i1.ext F I;have⟨s,a0⟩:=o.b2;refine uT (cs:=[c,a]) R7 i1.ones a0 zb dG R3 ?_;have T:=o.putx ai o.ox s;have⟨e3,ad⟩:=T.b3;refine uT (cs:=[l,d2]) R7 i2.ones ad zb dG R3 ?_;have S5:=T.puty (i2.off (T.oy.off Z Z)) T.oy e3;refine zN ?_;exact⟨((c,l),-x,-y),P3,ω,S5,by show 0< -y;omega,by show DT (-x) (-y)=q;rw[Rat.divInt_neg',Hu,hq]⟩;rw[za (by show d1=_;rw[hy.neg,CM hn])];refine zN ?_;exact⟨((c1,d1),x,y),P3,ω,R,by show 0<y;omega,hq.symm⟩;rintro⟨⟨c,l⟩,x',y'⟩ t h1 n1 _ ⟨rfl,S,Z3,a7⟩;simp only at S Z3 a7;have L:=XY (x:=x') Z3;have K:=XZ (x:=x') Z3;rw[a7]at L K;refine zN ?_;have⟨ak,J⟩:=S.b2;have⟨a8,d⟩:=S.b3;refine z7 (v:=.agg #[c,a]) R5 (yw R2 J ω zb ω)<|z7 (v:=.agg #[l,d2]) R5 (yw R2 d ω zb ω)<|zF _ R5 (XX k S.ix S.iy hb) ?_;rintro _ h2 n2 _⟨rfl,B,M,g1,g2,G,rfl,ig,bG,og⟩;generalize hg:Dh x'.natAbs y'.natAbs=g at*;refine xV R5<|yc [g1,g2] R7 ig.ones (zg _ _ _) ω (by show 3*n<=_;have:=S.n3;omega) ?_;rw[uk];have S2:=S.exts M B;generalize hh:upd h2 (3*n2+2) _=h3;have F:Ko n2 h2 h3:=by rw[<-hh];exact Cy
 have D:∃e,h3 (3*n2+2)=ξ (.row [g1,g2] e):=⟨_,mp⟩;have⟨tg,D⟩:=D;have o:=S2.exts F Zq;have Z0:=ig.ext F Zq;refine zN ?_;refine z7 (v:=.agg #[g1,g2]) R5 (yw R2 D ω zb ω)<|yi _ R5 (RH (k+3) Z0 bG) ?_;rintro _⟨b,rfl,H,p⟩;rw[Dk]at H p;have a2:0<g:=by rw[<-hg];exact Nat.gcd_pos_of_pos_right _ Z
 have a3:g∣x'.natAbs:=by rw[<-hg];exact Nat.gcd_dvd_left _ _
 have a4:g∣y'.natAbs:=by rw[<-hg];exact Nat.gcd_dvd_right _ _
 refine M4 R6<|zN ?_;have I:=o.n3;refine yj (α:=(ψ×ψ×ψ×ψ)×List Nat×List Nat) (λ_=>[(2,ι (3*n+2)),(3,ι (3*(n+1)+2)),(4,ι (3*(n+1+1)+2))]) (λz h' n' w=>w=[]/\FrS n a d2 h h' n' z.1.1 z.1.2.1 z.1.2.2.1 z.1.2.2.2 q.num (q.den:Int) z.2.1 z.2.2/\O z.2.1<=O A/\O z.2.2<=O C) ?_ ?_;by_cases hgt:(1:Int)<(b:Int);rw[ze (by show CV (decide ((1:Int)<(b:Int)))=_;rw[CN hgt])];refine zN ?_;have⟨s,a0⟩:=o.b2;refine z7 (v:=.agg #[c,a]) R5 (yw R2 a0 ω zb ω)<|z7 (v:=.agg #[g1,g2]) R5 (yw R2 D ω zb ω)<|zF _ R5 (RI k o.ix Z0 Z hb.1) ?_;rintro _ h4 n4 _⟨rfl,a6,a1,q1,q2,r1,r2,Lq,Lr,rfl,iq,ir,fq,fr⟩;repeat refine zR ?_
 have T:=o.exts a1 a6;have⟨e4,ae⟩:=T.b2;refine yc [q1,q2] R7 iq.ones ae ω dG ?_;have S5:=T.putx iq (.inr (fq.mono Z)) e4;refine zN ?_;have⟨e5,af⟩:=S5.b3;have a9:=(zm (f:=h4) (i:=3*n+2) (v:=ξ (.row [q1,q2] e4)) (j:=3*n2+2) Z).trans ((a1 _ Z).trans D);refine z7 (v:=.agg #[l,d2]) R5 (yw R2 af ω zb ω)<|z7 (v:=.agg #[g1,g2]) R5 (yw R2 a9 ω zb ω) ?_;have aj:KL (3*n+2) g2:=og _ (by have:=S.n3;omega) (S.ox.off Z Z) (S.oy.off Z Z);refine zF _ R5 (RI k S5.iy ((Z0.ext a1 a6).off aj) Z hb.2) ?_;rintro _ h6 n6 _⟨rfl,ab,ah,p1,p2,s1,s2,Lp,Ls,rfl,ip,is,fp,fs⟩;repeat refine zR ?_
 have S6:=S5.exts ah ab;have⟨e6,ag⟩:=S6.b3;refine yc [p1,p2] R7 ip.ones ag ω dG ?_;have S7:=S6.puty ip (.inr (fp.mono Z)) e6;refine zN ?_;rw[RJ a3,<-L,RJ a4,show y'/(g:Int)=(q.den:Int)from by rw[K];exact X0 Z3 g]at S7;refine zA ((q1,q2,p1,p2),Lq,Lp) P3 ⟨ω,S7,o.ix.len_le iq ?_,o.iy.len_le ip ?_⟩;rw[Gy];exact Cr;rw[Gy];exact Cr;rw[za (by show CV (decide ((1:Int)<(b:Int)))=_;rw[CM hgt])];refine zN ?_;have aa:g=1:=Z;subst aa;rw[show((1:Nat):Int)=1 from ω,Int.ediv_one]at L;rw[Ht]at K;refine zA ((c,a,l,d2),A,C) P3 ⟨ω,?_,CS,CS⟩;show FrS n a d2 h h3 (n2+1) c a l d2 q.num (q.den:Int) A C;rw[L,K,show((y'.natAbs:Nat):Int)=y' from Z];exact o;rintro⟨⟨c,m,l,P⟩,L1,L2⟩ t h5 n5 _ ⟨rfl,S,a5,u⟩;simp only at S a5 u;refine zN ?_;have⟨a8,d⟩:=S.b3;refine z7 (v:=.agg #[l,P]) R5 (yw R2 d ω zb ω)<|yi _ R5 (RH (k+3) S.iy Z) ?_;rintro _⟨b,rfl,H,p⟩;rw[Dk]at H p;refine Mu R6<|zN ?_;refine yj (α:=(ψ×ψ)×List Nat) (λ_=>[(2,ι (3*n+2)),(3,ι (3*(n+1)+2)),(4,ι (3*(n+1+1)+2))]) (λz h' n' w=>w=[]/\n+1+1+1<=n'/\Ko n h h'/\(∃e,h' (3*n+2)=ξ (.row [c,m] e))/\(∃e,h' (3*(n+1)+2)=ξ (.row [z.1.1,z.1.2] e))/\(∃e,h' (3*(n+1+1)+2)=ξ (.row [CV χ,η,CV χ,η] e))/\IntR h' n' c m q.num L1/\DenR h' n' z.1.1 z.1.2 q.den z.2/\Away n a m/\Away n d2 z.1.2/\O z.2<=O C) ?_ ?_;by_cases hd:(b:Int)=1;rw[ze (by show CV (decide ((b:Int)=1))=_;rw[CN hd])];refine zN ?_;refine zS (v:=.agg #[CV χ,η]) R4 rfl<|yc [CV χ,η] R7 ω d ω dG ?_;refine zN ?_;have Z4:q.den=1:=p.1 Z;have⟨n3,ext,⟨s,b2⟩,_,⟨e4,b4⟩,N,iy,Z1,oy⟩:=S;exact zA ((CV χ,η),[]) P3 ⟨ω,n3,λb hb=>(zm Z).trans (ext b hb),⟨s,(zm Z).trans b2⟩,⟨_,zg _ _ _⟩,⟨e4,(zm Z).trans b4⟩,N.off (Z1.off Z Z),⟨ω,.nil (.inl ω),IT,by rw[CQ Z4];rfl⟩,Z1,.inr trivial,CT⟩;rw[za (by show CV (decide ((b:Int)=1))=_;rw[CM hd])];refine zN ?_;have Z4:q.den≠1:=λe=>hd (by have:=p.2 e;omega);have⟨n3,ext,b2,b3,b4,N,iy,Z1,oy⟩:=S;exact zA ((l,P),L2) P3 ⟨ω,n3,ext,b2,b3,b4,N,⟨by rw[iy.neg];simp,iy.sl,iy.norm,by rw[CP Z4,iy.val,Dk]⟩,Z1,oy,u⟩;rintro⟨⟨l,P⟩,L2⟩ t h6 n6 _ ⟨rfl,n3,ext,⟨s,b2⟩,⟨e3,b3⟩,⟨e4,b4⟩,N,V,Z1,oy,u⟩;simp only at b2 b3 b4 N V Z1 oy u;refine zN ?_;refine z7 (v:=.agg #[c,m]) R5 (yw R2 b2 ω zb ω)<|z7 (v:=.agg #[l,P]) R5 (yw R2 b3 ω zb ω)<|zS (v:=.agg #[c,m,l,P]) R4 ω ?_;have ac:ones [c,m,l,P]=φ:=(by rw[N.neg];show GL.ones (m::_)=φ;rw[N.sl.ones,V.neg];show GL.ones (P::_)=φ;rw[V.sl.ones];rfl);refine yc [c,m,l,P] R7 ac b4 ω dG ?_;refine zN ?_;refine uq R5 (zg _ _ _) ω ⟨ω,by show n<=n6;omega,λb hb=>(zm Z).trans (ext b hb),_,_,_,_,L1,L2,ω,⟨N.off (Z1.off Z Z),V.neg,V.sl.off (oy.off Z Z),V.norm,V.val⟩,a5,u,Z1.or,oy.or⟩
def AllD(s:List UInt8):Prop:=∀b∈s,48<=b.toNat/\b.toNat<=57
def dval:List UInt8->Nat:=ar5 (λv b=>10*v+(b.toNat-48)) 0
def X1(s:List UInt8):∀v,ar5 (λv b=>10*v+(b.toNat-48)) v s=v*10^O s+dval s:=by
 induction s with
 |nil=>intro v;simp[dval]
 |cons b s ih=>
  intro v;unfold dval;rw[Ix,Ix,ih,ih (10*0+_),DM,Dj,Dq,Dq];rw[show 10*v*10^O s=v*(10^O s*10)from by rw[C5 10 v,Dp,C5 10]];omega
def sJ(a b:List UInt8):dval (a++b)=dval a*10^O b+dval b:=by
 conv=>lhs;unfold dval
 rw[List.foldl_append];exact X1 b (dval a)
def rK(a:List UInt8)(b:UInt8):dval (a++[b])=10*dval a+(b.toNat-48):=by rw[sJ];simp[dval];omega
def qy(h:AllD s):dval s<10^O s:=by
 induction s with
 |nil=>simp[dval]
 |cons b s ih=>
  have e:=h b cA;have f:=ih λx c=>h x (by simp[c]);rw[show b::s=[b]++s from ω,sJ];simp only[C1,Db];rw[EE 1,Dj];have a:dval [b]<=9:=by simp[dval];omega
  have g:dval [b]*10^O s<=9*10^O s:=C9 _ a;omega
def Norm.len_pow(h:Norm L)(hv:val L<10^i):O L<=i:=by apply Df;intro a;obtain⟨j,d,rfl⟩:=snoc (l:=L) (by intro e;rw[e]at a;simp at a);have m:=h.last;rw[Of]at hv;have c:4294967296^O j*1<=4294967296^O j*YteoagenjaemllaaGreatDoor.val [d]:=Do _ (by simp[YteoagenjaemllaaGreatDoor.val];omega);have f:4294967296^i<=4294967296^O j:=Dd Z (by simp at a;omega);have g:10^i<=4294967296^i:=GT Z _;omega
def AllD.take_succ{b:UInt8}(h:AllD (s.take i))(hb:s[i]?=ξ b)(e:48<=b.toNat/\b.toNat<=57):AllD (s.take (i+1)):=by obtain⟨c,rfl⟩:=C4.1 hb;rw[Fr c];intro x a;obtain a|a:=Ei.1 a;exact h x a;rw[Dc.1 a];exact e
def mA{b:UInt8}(hb:s[i]?=ξ b):s.take (i+1)=s.take i++[b]:=by obtain⟨a,rfl⟩:=C4.1 hb;rw[Fr a]
section
variable {X:CtxF}{r:List Oper}{d:Tmp}
theorem yH{i:Operand}{b:UInt8}(a:qu X ops t o d (o.op=.index ty x i/\X.E.und ty=ξ .string/\Kn t x=CY ⟨⟨s⟩⟩/\Kn t i=U ik ji/\ji=(j:Int)))(hb:s[j]?=ξ b)
  (k:EO X ops r ⟨upd t d (U .u8 (b.toNat:Int)),h,n,w⟩ Q):EO X ops (o::r) ⟨t,h,n,w⟩ Q:=by
 obtain⟨a,f,l,e,m,p,g,c⟩:=a;subst c;refine zS ⟨a,f,l,AG⟩ ?_ k;rw[e];show iK X.E ty (Kn t x) (Kn t i)=_;rw[p,g];simp only[iK,m,Ew,hb,CQ (Int.natCast_nonneg j)]
end
def X2(n:Nat)(h:HF)(s:List UInt8)(v:ψ)(h':HF)(n':Nat)(w:List Nat):Prop:=w=[]/\n<=n'/\Ko n h h'/\∃c1 c2 L ok,∃x:Nat,v=.tuple #[.agg #[c1,c2],CV ok]/\IntR h' n' c1 c2 (x:Int) L/\O L<=O s/\xC n c2/\(AllD s/\s≠[]->ok=φ/\x=dval s)/\(ok=φ->AllD s/\s≠[])
def Na{P:ψ->HF->Nat->List Nat->Prop}{e:Ex}{t:TF}{h:HF}{n:Nat}{w:List Nat}{a f:Tmp}{l:TypeId}{u:ψ}(c:rI e=φ/\fn.results.toList=[.cell a ty,.tmp f]/\t a=ι b/\t f=u/\GL.isAgg Kw ty=ξ φ/\Kw.inf ty=ξ (sz,bt,z))(hb:h b=ξ (.row cs l))(hl:O cs=sz/\uQ [.agg cs.toArray,u]=χ)(y:P (.tuple #[.agg cs.toArray,u]) h n w):RetH fn P e ⟨t,h,n,w⟩:=by have⟨c,A,m,g,q,v⟩:=c;have⟨hl,p⟩:=hl;refine retH [.agg cs.toArray,u] ⟨c,?_,p⟩ y;rw[A];have B:=yw ⟨q,v⟩ hb ω (show 0+sz<=O cs from Z) (show(cs.drop 0).take sz=cs by rw[DO,C7 Z]);simp only[resF,m,g,B]
def RL(k:Nat)(h:HF)(n:Nat)(s:List UInt8)(hs:O s<1000000):CF (Kp (k+3)) 93 [CY ⟨⟨s⟩⟩] h n (X2 n h s):=by
 refine zw (fn:=Tryz.f93) R4<|zN ?_;refine xV R5<|Zg ?_;refine oQ ?_;generalize hh:upd h (3*n+2) _=S;have ag:∃e,S (3*n+2)=ξ (.row [CV χ,η] e):=⟨_,gP⟩;have ao:Ko n h S:=by rw[<-hh];exact Cy
 refine ye (α:=Nat×Option Addr×Nat×List Nat) (λz=>[(0,CY ⟨⟨s⟩⟩),(2,ι (3*n+2)),(4,Y z.2.1 (O z.2.2.2) z.2.2.1),(5,U .i64 (z.1:Int))])
  (λz H R w'=>w'=[]/\n+1<=R/\Ko n h H/\(∃e,H (3*n+2)=ξ (.row [CV χ,η] e))/\z.1<=O s/\AllD (s.take z.1)/\Sl H R 1 (Y z.2.1 (O z.2.2.2) z.2.2.1) (u32s z.2.2.2)/\Norm z.2.2.2/\val z.2.2.2=dval (s.take z.1)/\xC (n+1) (Y z.2.1 (O z.2.2.2) z.2.2.1)) (λz=>O s-z.1)
  (0,θ,0,[]) P4 ⟨ω,CS,ao,ag,CT,λb g=>CO g cA,.nil (.inl ω),IT,ω,CR⟩ (by show O s-0<LL;unfold LL;omega) ?_
 rintro⟨i,a,c,L⟩ t h2 K _ ⟨rfl,av,P,⟨e2,N⟩,hi,p,Z3,u,q,T⟩;simp only at hi p Z3 u q T;have ar:O L<=i:=u.len_pow (by rw[q];have:=qy p;rw[DK,Ee hi]at this;exact this);refine zN ?_;by_cases hie:i=O s;have al:s.take i=s:=by rw[hie,Ds]
 rw[al]at p q;refine mZ ?_;refine st_I (ik:=.i64) (a:=(O s:Int)) R5<|Zt ?_;refine zF _ R5 (Mw (k+1) _ _ χ a (O L) c) ?_;rintro _ h3 n3 _⟨rfl,rfl,rfl,a0⟩;refine zM ?_;refine st_B (a:= !(s==[])) R5<|yc [CV (χ&&decide (0<O L)),Y a (O L) c] R7 ω (by rw[a0 _ Z];exact N) ω dG ?_;refine oQ ?_;refine Na R6 (zg _ _ _) R2 ⟨ω,by show n<=K+1;omega,λb g=>(zm Z).trans ((a0 b Z).trans (P b g)),_,_,L,_,dval s,ω,M9 ((Z3.ext a0 Zq).off (T.off Z)) u (by rw[q];simp) (λ_=>by rw[CM Z]),Z,T.mono Z,λy=>⟨by simpa using y.2,ω⟩,λy=>⟨p,by simpa using y⟩⟩;have aq:i<O s:=Z;refine mZ ?_;refine st_I (ik:=.i64) (a:=(O s:Int)) R5<|Zi ?_;repeat refine zR ?_
 simp only[yu,xg,zK,yY];refine yj (α:=Nat) (λz=>[(0,CY ⟨⟨s⟩⟩),(2,ι (3*n+2)),(4,Y a (O L) c),(5,U .i64 ((i+z:Nat):Int)),(6,U .u32 ((dval ((s.drop i).take z):Nat):Int)),(7,U .u32 ((10^z:Nat):Int))])
  (λz H R w'=>h2=H/\R=K/\w'=[]/\1<=z/\z<=9/\i+z<=O s/\AllD (s.take (i+z))) ?_ ?_
 refine zN ?_;refine ye (α:=Nat) (λz=>[(0,CY ⟨⟨s⟩⟩),(2,ι (3*n+2)),(4,Y a (O L) c),(5,U .i64 ((i+z:Nat):Int)),(6,U .u32 ((dval ((s.drop i).take z):Nat):Int)),(7,U .u32 ((10^z:Nat):Int)),(8,U .i64 (z:Int))])
   (λz H R w'=>h2=H/\R=K/\w'=[]/\z<=9/\i+z<=O s/\AllD (s.take (i+z))) (λz=>9-z) 0 P7 ⟨ω,ω,ω,CT,by show i+0<=O s;omega,p⟩ (by show 9-0<LL;decide) ?_
 rintro z t h3 n3 _⟨rfl,rfl,rfl,a1,M,f⟩;refine zN ?_;by_cases hz:z=9;subst hz;refine Zb ?_;exact zA 9 P6 ⟨ω,ω,ω,by decide,by decide,M,f⟩;have ap:z<=8:=Z;by_cases hie2:i+z=O s;refine zM ?_;refine jC R6 Z<|Zo ?_;refine st_I (ik:=.i64) (a:=(O s:Int)) R5<|Zb ?_;exact zA z P6 ⟨ω,ω,ω,Z,a1,M,f⟩;have a2:i+z<O s:=Z;obtain⟨b,g⟩:∃b,s[i+z]?=ξ b:=⟨s[i+z],CW a2⟩;refine zM ?_;refine jC R6 Z<|Zo ?_;refine st_I (ik:=.i64) (a:=(O s:Int)) R5<|Zp ?_;refine yH (j:=i+z) R8 g ?_;have Z4:b∈s:=C0 g;by_cases hb1:b.toNat<48;refine Zh ?_;refine zS (v:=.agg #[CV χ,η]) R4 rfl<|yc [CV χ,η] R7 ω N ω dG ?_;refine oQ ?_;refine Na R6 (zg _ _ _) R2 ⟨ω,by show n<=n3;omega,λb g=>(zm Z).trans (P b g),_,_,[],χ,0,ω,⟨ω,.nil (.inl ω),IT,ω⟩,CT,trivial,λy=>by have:=y.1 b Z4;omega,λy=>by cases y⟩;repeat refine zR ?_
 refine yH (j:=i+z) R8 g ?_;by_cases hb2:57<b.toNat;refine Zh ?_;refine zS (v:=.agg #[CV χ,η]) R4 rfl<|yc [CV χ,η] R7 ω N ω dG ?_;refine oQ ?_;refine Na R6 (zg _ _ _) R2 ⟨ω,by show n<=n3;omega,λb g=>(zm Z).trans (P b g),_,_,[],χ,0,ω,⟨ω,.nil (.inl ω),IT,ω⟩,CT,trivial,λy=>by have:=y.1 b Z4;omega,λy=>by cases y⟩;refine Zb ?_;have I:AllD ((s.drop i).take z):=λx J=>f x Bs;have m:=qy I;have D:O ((s.drop i).take z)=z:=by rw[DK,DN];omega
 rw[D]at m;have a7:10^z<=10^8:=Dd Z ap;have a3:(s.drop i).take (z+1)=(s.drop i).take z++[b]:=mA (by rw[D9];exact g);have a5:dval ((s.drop i).take (z+1))=dval ((s.drop i).take z)*10+(b.toNat-48):=by rw[a3,rK];omega
 have a9:10^(z+1)=10^z*10:=Dj _ _;generalize hV:dval ((s.drop i).take z)=V at m a5;generalize hF:10^z=F at m a7 a9;rw[show(10:Nat)^8=100000000 from rfl]at a7;refine zM ?_;refine xM (a:=V) (b:=10) R6 Z<|mZ ?_;refine yH (j:=i+z) R8 g<|jA (a:=b.toNat) (b:=48) R6 Z<|M6 (c:=b.toNat-48) R7 Z<|xu (a:=V*10) (b:=b.toNat-48) R6 Z<|zM ?_;refine xM (a:=F) (b:=10) R6 Z<|Zg ?_;refine oQ ?_;refine goOn (z+1) (by show 9-(z+1)<9-z;omega) ⟨ω,ω,ω,gL,by show U .u32 _=U .u32 _;rw[a5],by show U .u32 _=U .u32 _;rw[a9],gL,CR⟩ ⟨ω,ω,ω,by show z+1<=9;omega,by show i+(z+1)<=O s;omega,AllD.take_succ f g Z⟩;rintro z t _ K _⟨rfl,rfl,rfl,ay,a1,M,f⟩;have I:AllD ((s.drop i).take z):=λx J=>f x Bs;have m:=qy I;have D:O ((s.drop i).take z)=z:=by rw[DK,DN];omega
 have B:dval (s.take (i+z))=dval (s.take i)*10^z+dval ((s.drop i).take z):=by rw[List.take_add,sJ,D]
 rw[D]at m;have a8:10^z<=10^9:=Dd Z a1;generalize hV:dval ((s.drop i).take z)=V at m B;generalize hF:10^z=F at m a8 B;rw[show(10:Nat)^9=1000000000 from rfl]at a8;refine Zl ?_;refine pZ (cs:=[U .u32 (F:Int)]) R5 ?_;have ad:=Rq k (h:=upd h2 (3*K+2) (ξ (.row [U .u32 (F:Int)] 145))) (n:=K+1) (A:=L) (C:=[F]) (Z3.ext (Hv Z) (Du K)) (Sl.own (Z1:=[F]) (len:=1) (cap:=1) (zg _ _ _) Z ω CS) u.1 (λx J=>by simp at J;omega) dO;refine zF _ R5 ad ?_;rintro v4 h4 n4 w4⟨L4,⟨rfl,aw,aa,a4,c4,rfl,ah,G,au⟩,Z0⟩;refine zM ?_;refine pZ (cs:=[U .u32 (V:Int)]) R5 ?_;have ak:=LQ (k+1) (l:=[V]) (h:=upd h4 (3*n4+2) (ξ (.row [U .u32 (V:Int)] 145))) (n:=n4+1) cA (Sl.own (Z1:=[V]) (len:=1) (cap:=1) (zg _ _ _) Z ω CS);refine zF _ R5 ak ?_;rintro _ _ _ _⟨e5,e6,rfl,rfl,ai⟩;subst e5 e6;have an:val [F]=F:=by simp[val]
 rw[an]at Z0;have ae:O L4<1000000000:=(by have S:=qy p;rw[DK,Ee hi]at S;have h2:=G.len_pow (i:=i+z) (by rw[Z0,q,Ef,hF];exact EQ S (by rw[<-hF];exact DQ Z));omega);have ac:=Ro k (h:=upd h4 (3*n4+2) (ξ (.row [U .u32 (V:Int)] 145))) (n:=n4+1) (A:=L4) (C:=yf [V]) (ah.ext (Hv Z) (Du n4)) ai G.1 (Pf _ (λx J=>by simp at J;omega)) ⟨ae,by have:=xU [V];simp at this;omega⟩;refine zF _ R5 ac ?_;rintro v6 h6 n6 w6⟨L6,⟨rfl,ax,ab,a6,c6,rfl,aj,W,af⟩,am⟩;refine oQ ?_;refine goOn (i+z,a6,c6,L6) (by show O s-(i+z)<O s-i;omega) P4 ⟨ω,by show n+1<=n6;omega,λb g=>?_,⟨e2,?_⟩,M,f,aj,W,?_,af.mono Z⟩;exact(ab b Z).trans ((zm Z).trans ((aa b Z).trans ((zm Z).trans (P b g))));exact(ab _ Z).trans ((zm Z).trans ((aa _ Z).trans ((zm Z).trans N)));show val L6=dval (s.take (i+z));rw[am,Z0,q,B,lj];simp[val]
def len8:List UInt8:=[0,1,2,2,3,3,3,3,4,4,4,4,4,4,4,4,5,5,5,5,5,5,5,5,5,5,5,5,5,5,5,5,6,6,6,6,6,6,6,6,6,6,6,6,6,6,6,6,6,6,6,6,6,6,6,6,6,6,6,6,6,6,6,6,7,7,7,7,7,7,7,7,7,7,7,7,7,7,7,7,7,7,7,7,7,7,7,7,7,7,7,7,7,7,7,7,7,7,7,7,7,7,7,7,7,7,7,7,7,7,7,7,7,7,7,7,7,7,7,7,7,7,7,7,7,7,7,7,8,8,8,8,8,8,8,8,8,8,8,8,8,8,8,8,8,8,8,8,8,8,8,8,8,8,8,8,8,8,8,8,8,8,8,8,8,8,8,8,8,8,8,8,8,8,8,8,8,8,8,8,8,8,8,8,8,8,8,8,8,8,8,8,8,8,8,8,8,8,8,8,8,8,8,8,8,8,8,8,8,8,8,8,8,8,8,8,8,8,8,8,8,8,8,8,8,8,8,8,8,8,8,8,8,8,8,8,8,8,8,8,8,8,8,8,8,8,8,8,8,8,8,8,8,8,8,8]
def X6:∀i,i<256->∃b,len8[i]?=ξ b/\b.toNat<=8/\i<2^b.toNat/\(i≠0->2^b.toNat<=2*i):=by
 intro i d;have h:∀i:Fin 256,(len8[i.val]?).any (λb=>decide (b.toNat<=8/\i.val<2^b.toNat/\(i.val≠0->2^b.toNat<=2*i.val)))=φ:=by decide+kernel
 have:=h ⟨i,d⟩;rw[Option.any_eq_true]at this;have⟨b,a,c⟩:=this;exact⟨b,a,of_decide_eq_true c⟩
def Ya{x m i L:Nat}(hi:x/2^m=i)(b:i<2^L)(c:i≠0->2^L<=2*i)(h3:m=0\/i≠0):x<2^(m+L)/\(x≠0->2^(m+L)<=2*x):=by have e:0<2^m:=DQ zd;have d:=Em x (2^m);have f:=DS x e;rw[hi]at d;rw[Ef];constructor;have:2^m*(i+1)<=2^m*2^L:=Do _ b;rw[DW,D1]at this;omega;intro g;have a:i≠0:=(by obtain rfl|h3:=h3;rw[EV,Ht]at hi;omega;exact h3);have:=Do (2^m) (c a);rw[E2]at this;omega
def bi(k:Nat)(h:HF)(n:Nat){x:Nat}(hx:x<18446744073709551616):VF (Kp (k+1)) 171 [U .u64 (x:Int)] h n λv=>∃m:Nat,v=U .i64 (m:Int)/\m<=64/\x<2^m/\(x≠0->2^m<=2*x):=by
 refine zO (fn:=Tryz.f171) R4 ?_;have o:∀m s,x/2^m/2^s=x/2^(m+s):=λm s=>by rw[FB,<-Ef]
 refine Zu ?_;refine yj (α:=Nat×Nat) (λz=>[(0,U .u64 (z.2:Int)),(2,U .i64 (z.1:Int))]) (λz g l w=>h=g/\n=l/\w=[]/\x/2^z.1=z.2/\z.2<4294967296/\z.1<=32/\(z.1=0\/z.2≠0)) ?_ ?_;by_cases hge:4294967296<=x;rw[ze Ai];refine Za ?_;refine yn (a:=x) (s:=32) R6 zd<|Zg ?_;exact zA (32,x/2^32) P2 ⟨ω,ω,ω,ω,by show x/2^32<_;omega,Ez 32,.inr (by show x/2^32≠0;omega)⟩;rw[za Ae];refine zN ?_;exact zA (0,x) P2 ⟨ω,ω,ω,by show x/2^0=x;rw[EV,Ht],by show x<_;omega,GA 32,.inl ω⟩;rintro⟨m,i⟩ t _ _ _ ⟨rfl,rfl,rfl,c,e,f,d⟩;simp only at c e f d;refine mM ?_;refine yj (α:=Nat×Nat) (λz=>[(0,U .u64 (z.2:Int)),(2,U .i64 (z.1:Int))]) (λz g l w=>h=g/\n=l/\w=[]/\x/2^z.1=z.2/\z.2<65536/\z.1<=48/\(z.1=0\/z.2≠0)) ?_ ?_;by_cases hge:65536<=i;rw[ze Ai];refine Za ?_;refine yn (a:=i) (s:=16) R6 zd<|Zg ?_;exact zA (m+16,i/2^16) P2 ⟨ω,ω,ω,by show x/2^(m+16)=i/2^16;rw[<-c,o],by show i/2^16<_;omega,by show m+16<=48;omega,.inr (by show i/2^16≠0;omega)⟩;rw[za Ae];refine zN ?_;exact zA (m,i) P2 ⟨ω,ω,ω,c,by show i<_;omega,by show m<=48;omega,d⟩;rintro⟨m,i⟩ t _ _ _ ⟨rfl,rfl,rfl,c,e,f,d⟩;simp only at c e f d;refine mM ?_;refine yj (α:=Nat×Nat) (λz=>[(0,U .u64 (z.2:Int)),(2,U .i64 (z.1:Int))]) (λz g l w=>h=g/\n=l/\w=[]/\x/2^z.1=z.2/\z.2<256/\z.1<=56/\(z.1=0\/z.2≠0)) ?_ ?_;by_cases hge:256<=i;rw[ze Ai];refine Za ?_;refine yn (a:=i) (s:=8) R6 zd<|Zg ?_;exact zA (m+8,i/2^8) P2 ⟨ω,ω,ω,by show x/2^(m+8)=i/2^8;rw[<-c,o],by show i/2^8<_;omega,by show m+8<=56;omega,.inr (by show i/2^8≠0;omega)⟩;rw[za Ae];refine zN ?_;exact zA (m,i) P2 ⟨ω,ω,ω,c,by show i<_;omega,by show m<=56;omega,d⟩;rintro⟨m,i⟩ t _ _ _ ⟨rfl,rfl,rfl,c,e,f,d⟩;simp only at c e f d;have⟨b,A,B,p,q⟩:=X6 i e;refine Zl ?_;refine mE (a:=i) R7 ?_;rw[Di e];refine yH (s:=len8) (j:=i) (b:=b) R8 A<|vj (a:=(b.toNat:Int)) R7 Z<|oQ ?_;have⟨u,y⟩:=Ya c p q d;exact retF _ ω (zi ω) R2 ⟨m+b.toNat,ω,Z,u,y⟩
def fX(k:Nat)(h:HF)(n:Nat){x:Nat}(hx:x<18446744073709551616)(h0:x≠0):VF (Kp (k+2)) 159 [U .u64 (x:Int)] h n λv=>∃s:Nat,v=U .i64 (s:Int)/\s<64/\9223372036854775808<=x*2^s/\x*2^s<18446744073709551616:=by
 refine zO (fn:=Tryz.f159) R4<|Zm ?_;refine yi _ R5 (bi k h n hx) ?_;rintro _⟨m,rfl,g,b,c⟩;refine oQ ?_;have f:m≠0:=λe=>by subst e;simp at b;omega
 refine retF _ ω (zi ω) R2 ⟨64-m,bJ,Z,?_,?_⟩;have a:=C9 (2^(64-m)) (c h0);rw[<-Ef,show m+(64-m)=64 from Z,Dp]at a;have d:(2:Nat)^64=18446744073709551616:=rfl;omega;have a:=EQ b (DQ (n:=64-m) (show 0<2 by decide));rw[<-Ef,show m+(64-m)=64 from Z]at a;exact a
section
def iZ{Z4 y s Q r:Nat}(h:Z4*2^s=Q*(y*2^s)+r)(a:r<y*2^s):Z4/y=Q/\Z4%y=r/2^s:=by
 have d:0<2^s:=DQ zd;have f:0<y:=Nat.pos_of_ne_zero λe=>by rw[e,Ep]at a;omega
 have b:Z4*2^s/(y*2^s)=Q:=(by rw[h,EE,Hi _ _ Z,EZ a,Dl]);have c:Z4*2^s%(y*2^s)=r:=(by rw[h,EE,Gq,Di a]);rw[Ie _ _ d]at b;rw[Hh]at c;exact⟨b,by rw[<-c,Nat.mul_div_cancel _ d]⟩
def jG{lo s:Nat}(a:s<=64):lo*2^s=lo/2^(64-s)*18446744073709551616+lo*2^s%18446744073709551616:=by have e:lo*2^s/18446744073709551616=lo/2^(64-s):=(by rw[show(18446744073709551616:Nat)=2^(64-s)*2^s from by rw[<-Ef,show 64-s+s=64 from Z],Ie _ _ (DQ zd)]);have:=Em (lo*2^s) 18446744073709551616;rw[e,C5]at this;exact this.symm
def jZ{a b s:Nat}(hb:b<2^s):a*2^s|||b=a*2^s+b:=by have:=Nat.shiftLeft_add_eq_or_of_lt hb a;rw[Nat.shiftLeft_eq]at this;exact this.symm
theorem Yb{top N b a d c Z3 Z0:Nat}(e:b*Z3+d=top*4294967296+N/4294967296)(f:a*Z3+c=d*4294967296+N%4294967296)(g:Z0=Z3):top*18446744073709551616+N=(b*4294967296+a)*Z0+c:=by grind
set_option maxRecDepth 100000
def pH(k:Nat)(h:HF)(n:Nat){hi lo y:Nat}(M:hi<y)(P:lo<18446744073709551616)(W:y<18446744073709551616):VF (Kp (k+3)) 165 [U .u64 (hi:Int),U .u64 (lo:Int),U .u64 (y:Int)] h n λv=>v=.tuple #[U .u64 (((hi*18446744073709551616+lo)/y:Nat):Int),U .u64 (((hi*18446744073709551616+lo)%y:Nat):Int)]:=by
 refine zO (fn:=Tryz.f165) R4<|mM ?_;refine Zj ?_;refine Zw ?_;by_cases h0:hi=0;subst h0;refine Zh ?_;rw[N6 rfl];refine mZ ?_;refine xN (a:=lo) (b:=y) R6 Z<|mZ ?_;refine vO (a:=lo) (b:=y) R6 Z<|oQ ?_;exact retF [U .u64 _,U .u64 _] ω ω R2 (by rw[Ep,Dl];rfl);refine Zr ?_;refine yi _ R5 (fX k h n W Z) ?_;rintro _⟨s,rfl,hs,K,C⟩;refine se (c:=s) R7 Z<|Zv ?_;refine xK (a:=y) (s:=s) R6 Z ?_;rw[Di C];have hp:0<2^s:=DQ zd;have Z1:hi*2^s+2^s<=y*2^s:=(by have:=C9 (2^s) (show hi+1<=y from M);rw[Dq,Et]at this;exact this);have I:lo/2^(64-s)<2^s:=(by rw[EF (DQ zd),<-Ef,show s+(64-s)=64 from Z];exact P);have S:=jG (lo:=lo) (s:=s) Z;have J:lo*2^s%18446744073709551616<18446744073709551616:=DS _ zd;have H:(hi*18446744073709551616+lo)*2^s=(hi*2^s+lo/2^(64-s))*18446744073709551616+lo*2^s%18446744073709551616:=(by rw[Dq,Dq,F5];omega);refine oQ ?_;generalize hYe:y*2^s=Z3 at K C Z1⊢;repeat refine zW ?_
 refine zN ?_;repeat refine zW ?_
 refine Zl ?_;refine xK (a:=hi) (s:=s) R6 Z ?_;rw[Di (show hi*2^s<18446744073709551616 from Z)];refine mZ ?_;refine ym (a:=64) (b:=s) R6 Z<|yn (a:=lo) (s:=64-s) R6 Z<|wG (a:=hi*2^s) (b:=lo/2^(64-s)) R6 Z ?_;rw[jZ I];have w:hi*2^s+lo/2^(64-s)<Z3:=Z;generalize hi*2^s+lo/2^(64-s)=top at H w⊢;refine Zv ?_;refine xK (a:=lo) (s:=s) R6 Z ?_;generalize lo*2^s%18446744073709551616=N at H J⊢;refine oQ ?_;repeat refine zW ?_
 refine zN ?_;repeat refine zW ?_
 refine zN ?_;obtain⟨d,T⟩:∃d,d=Z3/4294967296:=⟨_,ω⟩;obtain⟨m,V⟩:∃m,m=Z3%4294967296:=⟨_,ω⟩;have D:d*4294967296+m=Z3:=Z;rw[<-T,<-V];refine mZ ?_;refine xN (a:=top) (b:=d) R6 Z<|oQ ?_;have L:top/d*d+top%d=top:=by rw[C5];exact CG
 refine Zo ?_;refine xt (a:=top/d) (b:=d) R6 Z<|ym (a:=top) (b:=top/d*d) R6 Z ?_;rw[show top-top/d*d=top%d from Z];repeat refine zR ?_
 simp only[yY,ug,yu,xg,zK];refine XB (va:=U .u64 (Z3:Int)) (vb:=U .u64 (s:Int)) (vc:=U .u64 (top:Int)) (vd:=U .u64 ((N%4294967296:Nat):Int)) (v1:=d) (v2:=m) (w2:=N/4294967296) (top:=top) Z Z Z Z ω P9 λt2 g i o=>?_;rw[<-wU o];rw[D]at i;obtain⟨e,l⟩:∃e,e=(top*4294967296+N/4294967296)%Z3:=⟨_,ω⟩;have p:=Em (top*4294967296+N/4294967296) Z3;have F:=DS (top*4294967296+N/4294967296) (show 0<Z3 from Z);rw[<-l]at F;rw[<-i,<-l]at p;rw[C5]at p;simp only[yY,ug,yu,xg,zK];refine zM ?_;refine wk (a:=top) (b:=4294967296) R6<|zM ?_;refine uo (a:=top*4294967296%18446744073709551616) (b:=N/4294967296) R6<|mZ ?_;refine wk (a:=g) (b:=Z3) R6<|sd (a:=(top*4294967296%18446744073709551616+N/4294967296)%18446744073709551616) (b:=g*Z3%18446744073709551616) R6 Z ?_;rw[show((top*4294967296%18446744073709551616+N/4294967296)%18446744073709551616+18446744073709551616-g*Z3%18446744073709551616)%18446744073709551616=e from Z];repeat refine zR ?_
 simp only[yY,ug,yu,xg,zK];refine mZ ?_;refine xN (a:=e) (b:=d) R6 Z ?_;repeat refine zR ?_
 simp only[yY,ug,yu,xg,zK];have L:e/d*d+e%d=e:=by rw[C5];exact CG
 refine Zo ?_;refine xt (a:=e/d) (b:=d) R6 Z<|ym (a:=e) (b:=e/d*d) R6 Z ?_;rw[show e-e/d*d=e%d from Z];repeat refine zR ?_
 simp only[yY,ug,yu,xg,zK];refine XC (va:=U .u64 (Z3:Int)) (vb:=U .u64 (s:Int)) (vc:=U .u64 (g:Int)) (vd:=U .u64 (e:Int)) (v1:=d) (v2:=m) (w2:=N%4294967296) (top:=e) Z Z Z Z ω P9 λt3 A f o=>?_;rw[<-wU o];rw[D]at f;obtain⟨B,j⟩:∃B,B=(e*4294967296+N%4294967296)%Z3:=⟨_,ω⟩;have q:=Em (e*4294967296+N%4294967296) Z3;have G:=DS (e*4294967296+N%4294967296) (show 0<Z3 from Z);have R:(e*4294967296+N%4294967296)/Z3<4294967296:=(by rw[EF Z];have:(e+1)*4294967296<=Z3*4294967296:=C9 _ F;rw[C5 4294967296];omega);rw[<-f]at R;rw[<-j]at G;rw[<-f,<-j]at q;have Z0:g<4294967296:=(by apply Df;intro hn;have h1:4294967296*Z3<=g*Z3:=C9 _ Z;have h2:(top+1)*4294967296<=Z3*4294967296:=C9 _ w;omega);rw[C5]at q;refine Za ?_;refine xt (a:=g) (b:=4294967296) R6 Z<|zM ?_;refine yT (a:=g*4294967296) (b:=A) R6 Z<|zM ?_;refine wk (a:=e) (b:=4294967296) R6<|zM ?_;refine uo (a:=e*4294967296%18446744073709551616) (b:=N%4294967296) R6<|mZ ?_;refine wk (a:=A) (b:=Z3) R6<|sd (a:=(e*4294967296%18446744073709551616+N%4294967296)%18446744073709551616) (b:=A*Z3%18446744073709551616) R6 Z ?_;rw[show((e*4294967296%18446744073709551616+N%4294967296)%18446744073709551616+18446744073709551616-A*Z3%18446744073709551616)%18446744073709551616=B from Z];refine zM ?_;refine yn (a:=B) (s:=s) R6 Z<|oQ ?_;have u:=iZ (Z4:=hi*18446744073709551616+lo) (y:=y) (s:=s) (Q:=g*4294967296+A) (r:=B) (H.trans (Yb p q hYe)) (by rw[hYe];exact G);refine retF [U .u64 _,U .u64 _] ω ω R2 ?_;rw[u.1,u.2];rfl
end
def cH(j:Nat)(q:List Nat)(d:Nat):(C3 (j+1) 0++q).set j d=C3 j 0++d::q:=by rw[List.replicate_succ',DH,Ej _ _ cA,DI,Ec];rfl
def pQ{Vq:Nat}(c:0<d)(b:V=d*Vq+r):(a+18446744073709551616*V)/d=(r*18446744073709551616+a)/d+18446744073709551616*Vq/\(a+18446744073709551616*V)%d=(r*18446744073709551616+a)%d:=by have e:a+18446744073709551616*V=(r*18446744073709551616+a)+d*(18446744073709551616*Vq):=(by rw[b,DW,E2];omega);rw[e];exact⟨Hq _ _ c,Nat.add_mul_mod_self_left _ _ _⟩
def RM(b:r<d)(c:a<18446744073709551616):(r*18446744073709551616+a)/d<18446744073709551616:=by rw[EF Z];have:(r+1)*18446744073709551616<=d*18446744073709551616:=C9 _ b;rw[C5 18446744073709551616];omega
def gI{l:List Nat}(h:l[j]?=ξ a):wv (l.drop j)=a+18446744073709551616*wv (l.drop (j+1)):=by rw[uR h];rfl
def RN(k:Nat){a:Option Addr}{l:List Nat}(hb:O l<1099511627)(hl:Kq l)(e:0<d/\d<18446744073709551616)(hv:Sl h n 1 (Y a len cap) (u64s l)):
  VF (Kp (k+4)) 133 [Y a len cap,U .u64 (d:Int)] h n λv=>v=U .u64 ((wv l%d:Nat):Int):=by
 refine zO (fn:=Tryz.f133) R4 ?_;have b:=hv.lenW;subst b;refine mM ?_;refine Zg ?_;refine ye (α:=Nat×Nat) (λx=>[(0,Y a (O l) cap),(1,U .u64 (d:Int)),(5,U .u64 (x.2:Int)),(6,U .i64 ((x.1:Int)-1))])
  (λx o q w=>h=o/\n=q/\w=[]/\x.1<=O l/\x.2=wv (l.drop x.1)%d) (λx=>x.1)
  (O l,0) P4 ⟨ω,ω,ω,CS,by rw[EI];exact(aa9 _).symm⟩ tp ?_
 rintro⟨j,r⟩ t _ _ _ ⟨rfl,rfl,rfl,p,c⟩;simp only at p c;have i:r<d:=by rw[c];exact DS _ e.1
 refine zN ?_;cases j with
 |zero=>
  refine Zj ?_;exact retF _ ω (zi ω) R2 (by rw[c,DO];rfl)
 |succ j=>
  obtain⟨x,g⟩:∃x,l[j]?=ξ x:=⟨l[j]'Z,CW Z⟩;have m:=hl.get g;refine Zk ?_;refine yE (f:=λd:Nat=>U .u64 (d:Int)) (j:=j) R7 hv ⟨ω,Z⟩ g (λ_=>rfl) R4 λ_=>?_;repeat refine zR ?_
  refine yi _ R5 (pH k h n i m e.2) ?_;rintro _ rfl;refine Zg ?_;refine goOn (j,(r*18446744073709551616+x)%d) AE ⟨ω,ω,ω,bJ,CR⟩ ⟨ω,ω,ω,Bp,?_⟩;show _%d=wv (l.drop j)%d;rw[gI g,(pQ (V:=wv (l.drop (j+1))) (Vq:=wv (l.drop (j+1))/d) (r:=r) (a:=x) e.1 (by rw[c];exact(Em _ _).symm)).2]
def Yc(k:Nat){a:Option Addr}{l:List Nat}(hb:O l<1099511627)(hl:Kq l)(m:0<d/\d<18446744073709551616)(hv:Sl h n 1 (Y a len cap) (u64s l)):
  CF (Kp (k+4)) 184 [Y a len cap,U .u64 (d:Int)] h n λv p D w=>∃v1 L,v=.tuple #[v1,U .u64 ((wv l%d:Nat):Int)]/\ResW n h v1 p D w L/\wv L=wv l/d/\O L<=O l/\xC n v1:=by
 refine zw (fn:=Tryz.f184) R4 ?_;have s:=hv.lenW;subst s;refine Zm ?_;refine vB (len:=O l) (cap:=O l) R9 Z ?_;rw[show zn (U .u64 0)=[U .u64 0]from ω,xO];refine Zg ?_;refine oQ ?_;refine ye (α:=Nat×List Nat×Nat) (λx=>[(0,Y a (O l) cap),(1,U .u64 (d:Int)),(6,Y (ξ ⟨3*n+2,0,θ⟩) (O l) (O l)),(7,U .u64 (x.2.2:Int)),(8,U .i64 ((x.1:Int)-1))])
  (λx p D w=>D=n+1/\w=[]/\Ko n h p/\x.1<=O l/\(∃e,p (3*n+2)=ξ (.row (u64s (C3 x.1 0++x.2.1)) e))/\x.1+O x.2.1=O l/\Kq x.2.1/\x.2.2<d/\wv (l.drop x.1)=d*wv x.2.1+x.2.2) (λx=>x.1)
  (O l,[],0) P5 ⟨ω,ω,Hv Z,CS,⟨_,by rw[zg,DJ]⟩,cA,H7,m.1,by rw[EI];rfl⟩ tp ?_
 rintro⟨j,q,r⟩ t F _ _ ⟨rfl,rfl,g,Z1,⟨e,c⟩,I,A,o,i⟩;simp only at Z1 c I A o i;refine zN ?_;cases j with
 |zero=>
  rw[Fp,DR]at c;have R:O q=O l:=Z;refine Zt ?_;have J:=xi (k+2) (h:=F) (n:=n+1) (a:=ξ ⟨3*n+2,0,θ⟩) (len:=O l) (cap:=O l) (l:=q) Z (λ_ e=>by injection e with e;rw[<-e]) (.at_ Z c ω CS (by rw[zL];omega) AZ);refine zF _ R5 J ?_;rintro S _ _ _⟨rfl,rfl,rfl,rfl,P⟩;refine oQ ?_;rw[DO]at i;have G:wv l/d=wv q:=by rw[i,Nat.mul_add_div m.1,EZ o,DV]
  have H:wv l%d=r:=by rw[i,Nat.mul_add_mod,Di o]
  refine retH [Y _ _ _,U .u64 _] R3 ⟨_,yf q,by rw[H];rfl,⟨ω,Am,g,P,NW.trim A⟩,?_,?_,aD⟩;rw[G];exact Oh _ _;have:=xU q;omega
 |succ j=>
  obtain⟨x,B⟩:∃x,l[j]?=ξ x:=⟨l[j]'Z,CW Z⟩;have u:=hl.get B;have K:=hv.ext g (Du n);refine Zk ?_;refine yE (f:=λd:Nat=>U .u64 (d:Int)) (j:=j) R7 K ⟨ω,Z⟩ B (λ_=>rfl) R4 λ_=>?_;repeat refine zR ?_
  refine yi _ R5 (pH k F (n+1) o u m.2) ?_;rintro _ rfl;repeat refine zR ?_
  refine uH (j:=j) (v:=U .u64 (((r*18446744073709551616+x)/d:Nat):Int)) R8 Z Ay c aD (λ_=>rfl) R3 (λ_=>rfl) ω λ_=>?_;rw[yk,cH];refine Zg ?_;have⟨M,N⟩:=pQ (V:=wv (l.drop (j+1))) (Vq:=wv q) (r:=r) (a:=x) m.1 i;refine goOn (j,(r*18446744073709551616+x)/d::q,(r*18446744073709551616+x)%d) AE ⟨ω,ω,ω,ω,bJ,CR⟩ ⟨ω,ω,λb hb=>(zm Z).trans (g b hb),Bp,⟨e,zg _ _ _⟩,by show j+O (_::q)=_;simp;omega,?_,DS _ m.1,?_⟩;intro y C;obtain rfl|C:=DA.1 C;exact RM o u;exact A y C;show wv (l.drop j)=d*wv (_::q)+_;rw[gI B,<-N];have:=Em (x+18446744073709551616*wv (l.drop (j+1))) d;rw[M]at this;exact this.symm
def Ok(h:c<10):(EA (48+c)).toNat=48+c:=by rw[UInt8.toNat_ofNat',Di Z]
def pI:∀V,AllD ((decB V).map EA)/\dval ((decB V).map EA)=V:=by
 intro V;induction V using Nat.strongRecOn with
 |ind V ih=>
  by_cases h0:V=0;subst h0;unfold decB;rw[xo];exact⟨λb a=>CO a cA,ω⟩;have e:decB V=decB (V/10)++[48+V%10]:=(by unfold decB;rw[wy h0];simp);have⟨f,g⟩:=ih (V/10) Z;have d:=Ok (c:=V%10) Z;rw[e,List.map_append,List.map_cons,List.map_nil];refine⟨λb a=>?_,?_⟩;obtain a|a:=Ei.1 a;exact f b a;rw[Dc.1 a,d];omega;rw[rK,g,d];omega
theorem wx(V:Nat):AllD (decT V)/\dval (decT V)=V/\decT V≠[]:=by unfold decT;by_cases h0:V=0;rw[CQ h0,h0];exact⟨λb a=>by rw[Dc.1 a];decide,ω,cA⟩;rw[CP h0];refine⟨(pI V).1,(pI V).2,λe=>?_⟩;have:=(pI V).2;rw[e]at this;exact h0 this.symm
def Ol(t:List UInt8)(j:Nat):Prop:=j<=O t/\(∀i,i<j->t[i]?≠ξ 47)/\(j=O t\/t[j]?=ξ 47)
def AllD.slash{a:List UInt8}(h:AllD a):a[i]?≠ξ 47:=λe=>by
 have:=h 47 (C0 e);have b:(47:UInt8).toNat=47:=rfl;omega
def Ol.uniq{a r:List UInt8}(m:AllD a)(o:r=[]\/∃f,r=47::f)(h:Ol (a++r) j):j=O a:=by have⟨g,l,b⟩:=h;obtain e|rfl|d:=GD j (O a);exfalso;obtain b|b:=b;rw[C1]at b;omega;rw[D7 e]at b;exact m.slash b;rfl;exfalso;obtain rfl|⟨f,rfl⟩:=o;simp at g;omega;refine l (O a) d ?_;rw[Dx CS,Ec];rfl
def vF(s:List UInt8):Prop:=∃q:Rat,ratT q=s
def z6(s:List UInt8):Bool:=s[0]?==ξ 45
def xB(s:List UInt8):List UInt8:=if z6 s then s.drop 1 else s
theorem qj(q:Rat):z6 (ratT q)=decide (q.num<0)/\xB (ratT q)=decT q.num.natAbs++(if q.den=1 then[]else 47::decT q.den):=by
 have a:z6 (ratT q)=decide (q.num<0):=by
  unfold z6 ratT;by_cases hn:q.num<0;rw[CQ hn,CN hn];rfl;rw[CP hn,CM hn,DR];have⟨f,_,g⟩:=wx q.num.natAbs;rw[D7 (GS.2 g)];cases hd:(decT q.num.natAbs)[0]? with
  |none=>rfl
  |some b=>
   have:=f b (C0 hd);show(ξ b==ξ 45)=χ;have d:b≠45:=λe=>by subst e;have l:(45:UInt8).toNat=45:=rfl;omega
   simpa using d
 refine⟨a,?_⟩;unfold xB;rw[a];by_cases hn:q.num<0;rw[CQ (CN hn)];unfold ratT;rw[CQ hn];rfl;rw[CP Ax];unfold ratT;rw[CP hn];rfl
def Yd(e:ratT q=s)(hj:Ol (xB s) j):z6 s=decide (q.num<0)/\(xB s).take j=decT q.num.natAbs/\(q.den=1->j=O (xB s))/\(q.den≠1->j<O (xB s)/\(xB s).drop (j+1)=decT q.den):=by subst e;have⟨b,d⟩:=qj q;rw[d]at hj⊢;have f:=hj.uniq (wx _).1 (by by_cases a:q.den=1<;>simp[a]);subst f;refine⟨b,JG ω,λa=>by rw[CQ a];simp,λa=>?_⟩;rw[CP a];refine⟨cA,?_⟩;rw[<-EH,Hc rfl];rfl
theorem RO(s:List UInt8):O (xB s)<=O s:=by grind [xB]
section
variable {X:CtxF}{r:List Oper}{d:Tmp}
theorem u4{i:Operand}(a:qu X ops t o d (o.op=.slice ty x (ξ i) θ θ/\X.E.und ty=ξ .string/\Kn t x=CY ⟨⟨s⟩⟩/\Kn t i=U ik ji/\ji=(j:Int)))(hl:j<=O s)
  (k:EO X ops r ⟨upd t d (CY ⟨⟨s.drop j⟩⟩),h,n,w⟩ Q):EO X ops (o::r) ⟨t,h,n,w⟩ Q:=by
 obtain⟨a,g,m,e,p,u,l,c⟩:=a;subst c;refine zS ⟨a,g,m,AG⟩ ?_ k;rw[e];show xc X.E ty (Kn t x) (ξ (Kn t i)) θ=_;rw[u,l];have f:(0:Int)<=(j:Int)/\(j:Int)<=(O s:Int):=Z;simp only[xc,p,KV,CQ f,Ew];rw[C7 (by rw[DN];exact Ez _)]
theorem NC{i:Operand}(a:qu X ops t o d (o.op=.slice ty x θ (ξ i) θ/\X.E.und ty=ξ .string/\Kn t x=CY ⟨⟨s⟩⟩/\Kn t i=U ik ji/\ji=(j:Int)))(hl:j<=O s)
  (k:EO X ops r ⟨upd t d (CY ⟨⟨s.take j⟩⟩),h,n,w⟩ Q):EO X ops (o::r) ⟨t,h,n,w⟩ Q:=by
 obtain⟨a,g,m,e,p,u,l,c⟩:=a;subst c;refine zS ⟨a,g,m,AG⟩ ?_ k;rw[e];show xc X.E ty (Kn t x) θ (ξ (Kn t i))=_;rw[u,l];have f:(0:Int)<=(j:Int)/\(j:Int)<=(O s:Int):=Z;simp only[xc,p,KV,CQ f,Ew,DO,Nat.sub_zero]
end
def RatR.off{h:HF}{n:Nat}{y:Option BF}(r:RatR h n n1 n2 d1 d2 q ln ld)(a:KL b n2)(c:KL b d2):RatR (upd h b y) n n1 n2 d1 d2 q ln ld:=⟨r.num.off a,r.neg,r.sl.off c,r.norm,r.val⟩
def RatR.ones{h:HF}{n:Nat}(r:RatR h n n1 n2 d1 d2 q ln ld):ones [n1,n2,d1,d2]=φ:=by rw[r.num.neg];show GL.ones (n2::_)=φ;rw[r.num.sl.ones,r.neg];show GL.ones (d2::_)=φ;rw[r.sl.ones];rfl
def RatR.zero(h:HF)(n:Nat):RatR h n (CV χ) (η) (CV χ) (η) 0 [] []:=⟨⟨ω,.nil (.inl ω),IT,ω⟩,ω,.nil (.inl ω),IT,ω⟩
def Ye(h:q.den=1):q=((q.num:Int):Rat):=by apply Rat.ext;rw[ag2];rw[ag3,h]
def RatR.whole{h:HF}{n:Nat}{a c:ψ}{x:Int}{l:List Nat}(r:IntR h n a c x l):RatR h n a c (CV χ) (η) (x:Rat) l []:=⟨by rw[ag2];exact r,ω,.nil (.inl ω),IT,by rw[ag3];rfl⟩
def Yf(n:Nat)(h:HF)(s:List UInt8)(v:ψ)(h':HF)(n':Nat)(w:List Nat):Prop:=w=[]/\n<=n'/\Ko n h h'/\∃n1 n2 d1 d2 q ln ld ok,v=.tuple #[.agg #[n1,n2,d1,d2],CV ok]/\RatR h' n' n1 n2 d1 d2 q ln ld/\O ln<=O s/\O ld<=O s/\xC n n2/\xC n d2/\(ok=φ->ratT q=s)/\(vF s->ok=φ)
def Yg(k:Nat)(h:HF)(n:Nat)(s:List UInt8)(hs:O s<1000000):CF (Kp (k+6)) 43 [CY ⟨⟨s⟩⟩] h n (Yf n h s):=by
 refine zw (fn:=Tryz.f43) R4<|zN ?_;refine xV R5<|Zc ?_;simp only[yu,xg,zK,yY];generalize hh:upd h (3*n+2) _=h1;have a8:∃e,h1 (3*n+2)=ξ (.row [CV χ,η,CV χ,η] e):=⟨_,gP⟩;have av:Ko n h h1:=by rw[<-hh];exact Cy
 have⟨e1,a8⟩:=a8;have ao:=RO s;refine MG [(0,CY ⟨⟨s⟩⟩),(2,ι (3*n+2)),(4,CY ⟨⟨s⟩⟩),(5,CV (z6 s))] (λu F w=>h1=u/\F=n+1/\w=[]) ?_ ?_;refine Za ?_;refine st_I (ik:=.i64) (a:=(O s:Int)) R5 ?_;by_cases hs0:O s=0;refine oQ ?_;exact LH ⟨ω,ω,ω,by rw[De.1 hs0];rfl,CR⟩ R3;obtain⟨b,g⟩:∃b,s[0]?=ξ b:=⟨s[0]'Z,CW Z⟩;refine MI R6 Z ?_;repeat refine zR ?_
 refine yH (j:=0) R8 g ?_;have l:z6 s=decide (b.toNat=45):=(by unfold z6;rw[g];by_cases h45:b=45;subst h45;rfl;rw[show decide (b.toNat=45)=χ from CM (λe=>h45 (Gz.1 e))];simpa using h45);by_cases h45:b.toNat=45;refine oQ ?_;exact LH ⟨ω,ω,ω,by rw[l,CN h45];rfl,CR⟩ R3;refine oQ ?_;exact LH ⟨ω,ω,ω,by rw[l,CM h45];rfl,CR⟩ R3;rintro t _ _ _⟨rfl,rfl,rfl⟩;refine mM ?_;refine MG [(0,CY ⟨⟨s⟩⟩),(2,ι (3*n+2)),(4,CY ⟨⟨xB s⟩⟩),(5,CV (z6 s))] (λu F w=>h1=u/\F=n+1/\w=[]) ?_ ?_;by_cases l:z6 s=φ;rw[ze (by show CV (z6 s)=_;rw[l])];refine Za ?_;have au:1<=O s:=by
  unfold z6 at l;cases s with
  |nil=>simp at l
  |cons=>simp
 refine u4 (j:=1) R8 au<|oQ ?_;exact LH ⟨ω,ω,by unfold xB;rw[CQ l];rfl,ω,CR⟩ R3;rw[za (by show CV (z6 s)=_;rw[Hl.2 l])];refine zN ?_;exact LH ⟨ω,ω,by unfold xB;rw[CP l];rfl,ω,CR⟩ R3;rintro t _ _ _⟨rfl,rfl,rfl⟩;generalize hT:xB s=T at ao;refine Za ?_;refine st_I (ik:=.i64) (a:=(O T:Int)) R5<|Zc ?_;simp only[yu,xg,zK,yY];refine yj (α:=Nat) (λz=>[(0,CY ⟨⟨s⟩⟩),(2,ι (3*n+2)),(4,CY ⟨⟨T⟩⟩),(5,CV (z6 s)),(6,U .i64 (z:Int))]) (λz u F w=>h1=u/\F=n+1/\w=[]/\Ol T z) ?_ ?_;refine zN ?_;refine ye (α:=Nat) (λz=>[(0,CY ⟨⟨s⟩⟩),(2,ι (3*n+2)),(4,CY ⟨⟨T⟩⟩),(5,CV (z6 s)),(6,U .i64 (O T:Int)),(7,U .i64 (z:Int))]) (λz u F w=>h1=u/\F=n+1/\w=[]/\z<=O T/\∀i,i<z->T[i]?≠ξ 47) (λz=>O T-z) 0 P6 ⟨ω,ω,ω,CT,λi hi=>CO hi (Nat.not_lt_zero i)⟩ (by show O T-0<LL;unfold LL;omega) ?_;rintro z t _ _ _⟨rfl,rfl,rfl,hz,a3⟩;refine Zl ?_;refine st_I (ik:=.i64) (a:=(O T:Int)) R5 ?_;by_cases hze:z=O T;refine Zb ?_;exact zA (O T) P5 ⟨ω,ω,ω,CS,by rw[<-hze];exact a3,.inl ω⟩;obtain⟨b,g⟩:∃b,T[z]?=ξ b:=⟨T[z]'Z,CW Z⟩;refine Zp ?_;refine yH (j:=z) R8 g ?_;by_cases h47:b.toNat=47;have al:b=47:=Gz.1 h47;subst al;refine Zi ?_;exact zA z P5 ⟨ω,ω,ω,hz,a3,.inr g⟩;refine Zj ?_;refine goOn (z+1) (by show O T-(z+1)<O T-z;omega) ⟨ω,ω,ω,ω,ω,gL,CR⟩ ⟨ω,ω,ω,by show z+1<=O T;omega,λi hi=>?_⟩;by_cases hiz:i<z;exact a3 i hiz;have:i=z:=Z;subst this;rw[g];intro e;injection e with e;subst e;exact h47 rfl;rintro z t _ _ _⟨rfl,rfl,rfl,ah⟩;refine zN ?_;have ay:z<=O T:=ah.1;have m:∀c,ratT c=s->z6 s=decide (c.num<0)/\T.take z=decT c.num.natAbs/\(c.den=1->z=O T)/\(c.den≠1->z<O T/\T.drop (z+1)=decT c.den):=(by intro c f;have:=Yd f (j:=z) (by rw[hT];exact ah);rw[hT]at this;exact this);refine mZ ?_;refine NC (j:=z) R8 ay ?_;have b8:O (T.take z)<=O s:=by rw[DK];omega
 refine zF _ R5 (RL (k+2) _ _ (T.take z) Z) ?_;rintro _ h2 n2 _⟨rfl,b5,ai,c1,c2,L,ok,x,rfl,ix,b3,fx,a5,am⟩;repeat refine zR ?_
 refine xV R5<|yc [c1,c2] R7 ix.ones (zg _ _ _) ω dG ?_;rw[uk];generalize hh:upd h2 (3*n2+2) _=h3;have ac:Ko n2 h2 h3:=by rw[<-hh];exact Cy
 have Z4:∃e,h3 (3*n2+2)=ξ (.row [c1,c2] e):=⟨_,mp⟩;have⟨e8,Z4⟩:=Z4;have H:=ix.ext ac Zq;have a9:h3 (3*n+2)=_:=(ac _ Z).trans ((ai _ Z).trans a8);have N:Ko n h h3:=λb g=>(ac b Z).trans ((ai b Z).trans (av b g));refine oQ ?_;cases ok with
 |false=>
  refine Zh ?_;refine zS (v:=.agg #[CV χ,η,CV χ,η]) R4 rfl<|yc [CV χ,η,CV χ,η] R7 ω a9 ω dG ?_;refine oQ ?_;refine Na R6 (zg _ _ _) R2 ⟨ω,by show n<=n2+1;omega,λb g=>(zm Z).trans (N b g),_,_,_,_,0,[],[],χ,ω,RatR.zero _ _,CT,CT,trivial,trivial,λh=>CO h cA,?_⟩;rintro⟨c,f⟩;have⟨_,p2,_,_⟩:=m c f;have C:=wx c.num.natAbs;rw[<-p2]at C;exact CO (a5 ⟨C.1,C.2.2⟩).1 cA
 |true=>
 refine Zb ?_;have ak:=am rfl;have ax:=(a5 ak).2;obtain⟨a,b9,p,rfl,_⟩:=H.sl.len;have e1:=H.sl.lenU;subst e1;repeat refine zR ?_
 refine zT R6 Z4 (v:=Y a (O L) p) R2<|zF _ R5 (Mw (k+4) _ _ (z6 s) a (O L) p) ?_;rintro _ h4 n4 _⟨rfl,rfl,rfl,W⟩;refine zS (v:=.agg #[CV (z6 s&&decide (0<O L)),Y a (O L) p,CV χ,η]) R4 rfl<|xV R5<|yc [CV (z6 s&&decide (0<O L)),Y a (O L) p,CV χ,η] R7 ω (zg _ _ _) ω dG ?_;rw[uk];generalize hh:upd h4 (3*(n2+1+1)+2) _=h5;have Z3:Ko (n2+1+1) h4 h5:=by rw[<-hh];exact Cy
 have A:∃e,h5 (3*(n2+1+1)+2)=ξ (.row [CV (z6 s&&decide (0<O L)),Y a (O L) p,CV χ,η] e):=⟨_,mp⟩;have aa:h5 (3*n+2)=_:=(Z3 _ Z).trans ((W _ Z).trans a9);have Z1:Ko n h h5:=λb g=>(Z3 b Z).trans ((W b Z).trans (N b g));obtain⟨K,V⟩:∃K:Int,K=if z6 s then -(x:Int)else x:=⟨_,ω⟩;have iN:IntR h5 (n2+1+1+1) (CV (z6 s&&decide (0<O L))) (Y a (O L) p) K L:=(by refine M9 ((H.sl.ext W Zq).ext Z3 Zq) H.norm ?_ λh0=>?_;rw[H.val,V];split<;>omega;rw[V]at h0⊢;by_cases l:z6 s=φ;rw[CQ l]at h0⊢;rw[l,CN Z];rw[CP l,Hl.2 l,CM Z]);have a4:∀c,ratT c=s->K=c.num:=(by intro c f;have⟨p1,p2,_,_⟩:=m c f;rw[V,ax,p2,(wx _).2.1,p1];by_cases hn:c.num<0;rw[CQ (CN hn)];omega;rw[CP Ax];omega);refine Zl ?_;refine st_I (ik:=.i64) (a:=(O T:Int)) R5<|lW R6<|zN ?_;refine yj (α:=(ψ×ψ×ψ×ψ)×Rat×List Nat×List Nat) (λ_=>[(0,CY ⟨⟨s⟩⟩),(2,ι (3*n+2)),(10,ι (3*(n2+1+1)+2))])
  (λz u F w=>w=[]/\n2+1+1+1<=F/\Ko n h u/\u (3*n+2)=ξ (.row [CV χ,η,CV χ,η] e1)/\(∃e,u (3*(n2+1+1)+2)=ξ (.row [z.1.1,z.1.2.1,z.1.2.2.1,z.1.2.2.2] e))/\RatR u F z.1.1 z.1.2.1 z.1.2.2.1 z.1.2.2.2 z.2.1 z.2.2.1 z.2.2.2/\O z.2.2.1<=O s/\O z.2.2.2<=O s/\xC (n+1) z.1.2.1/\xC (n+1) z.1.2.2.2/\∀c,ratT c=s->z.2.1=c) ?_ ?_
 by_cases hzT:(z:Int)<(O T:Int);rw[ze (by show CV (decide ((z:Int)<(O T:Int)))=_;rw[CN hzT])];refine kG ?_;refine u4 (j:=z+1) R8 Z ?_;have b4:O (T.drop (z+1))<=O s:=by rw[DN];omega
 refine zF _ R5 (RL (k+2) _ _ (T.drop (z+1)) Z) ?_;rintro _ h6 n6 _⟨rfl,aq,Z0,d1,d2,D,af,y,rfl,iy,b2,fy,ag,b0⟩;repeat refine zR ?_
 refine xV R5<|yc [d1,d2] R7 iy.ones (zg _ _ _) ω dG ?_;rw[uk];generalize hh:upd h6 (3*n6+2) _=h7;have G:Ko n6 h6 h7:=by rw[<-hh];exact Cy
 have B:∃e,h7 (3*n6+2)=ξ (.row [d1,d2] e):=⟨_,mp⟩;have⟨b1,B⟩:=B;have ab:h7 (3*n+2)=_:=(G _ Z).trans ((Z0 _ Z).trans aa);have P:Ko n h h7:=λb g=>(G b Z).trans ((Z0 b Z).trans (Z1 b g));have ae:=iy.ext G Zq;have M:∀c,ratT c=s->af=φ/\y=c.den:=by
  intro c f;have⟨p1,p2,p3,p4⟩:=m c f;have ap:c.den≠1:=λe=>by have:=p3 e;omega
  have C:=wx c.den;rw[<-(p4 ap).2]at C;have:=ag ⟨C.1,C.2.2⟩;rw[C.2.1]at this;exact this
 refine oQ ?_;by_cases hfine:af=φ/\y≠0;obtain⟨rfl,aj⟩:=hfine;repeat refine zR ?_
 refine z7 (v:=.agg #[d1,d2]) R5 (yw R2 B ω zb ω)<|yi _ R5 (Pg (k+4) ae) ?_;rintro _ rfl;rw[Gh Z];refine Zb ?_;have⟨an,A⟩:=A;have S:h7 (3*(n2+1+1)+2)=_:=(G _ Z).trans ((Z0 _ Z).trans A);repeat refine zR ?_
 refine z7 (v:=.agg #[CV (z6 s&&decide (0<O L)),Y a (O L) p]) R5 (yw R2 S ω zb ω)<|z7 (v:=.agg #[d1,d2]) R5 (yw R2 B ω zb ω) ?_;have az:=(iN.ext Z0 aq).ext G Zq;refine zF _ R5 (RK k az ae Z Z) ?_;rintro _ h8 n8 _⟨rfl,b6,ad,u1,I,v1,J,ln,ld,rfl,R,a1,a2,o1,o2⟩;have a6:h8 (3*(n2+1+1)+2)=_:=(ad _ Z).trans S;refine yc [u1,I,v1,J] R7 R.ones a6 ω dG ?_;refine zN ?_;have f1:xC (n+1) I:=(by obtain rfl|o1:=o1;exact fx;exact o1.mono Z);have f2:xC (n+1) J:=(by obtain rfl|o2:=o2;exact fy.mono Z;exact o2.mono Z);have g1:KL (3*(n2+1+1)+2) I:=(by obtain rfl|o1:=o1;exact ix.sl.below.off Z;exact o1.off Z);have g2:KL (3*(n2+1+1)+2) J:=(by obtain rfl|o2:=o2;exact fy.off Z;exact o2.off Z);refine zA ((u1,I,v1,J),DT K (y:Int),ln,ld) P3 ⟨ω,by show n2+1+1+1<=n8;omega,λb g=>(zm Z).trans ((ad b Z).trans (P b g)),(zm Z).trans ((ad _ Z).trans ab),⟨_,zg _ _ _⟩,R.off g1 g2,by show O ln<=O s;omega,by show O ld<=O s;omega,f1,f2,λc f=>?_⟩;show DT K (y:Int)=c;rw[a4 c f,(M c f).2];exact Rat.num_divInt_den c;have a0:¬vF s:=λ⟨c,f⟩=>hfine ⟨(M c f).1,by rw[(M c f).2];exact c.den_nz⟩;cases af with
 |false=>
  exact BC
 |true=>
  have aj:y=0:=Df λe=>hfine ⟨ω,e⟩;subst aj;repeat refine zR ?_
  refine z7 (v:=.agg #[d1,d2]) R5 (yw R2 B ω zb ω)<|yi _ R5 (Pg (k+4) ae) ?_;rintro _ rfl;exact BC
 rw[za (by show CV (decide ((z:Int)<(O T:Int)))=_;rw[CM hzT])];refine zN ?_;refine zA ((CV (z6 s&&decide (0<O L)),Y a (O L) p,CV χ,η),(K:Rat),L,[]) P3 ⟨ω,CS,Z1,aa,A,RatR.whole iN,by show O L<=O s;omega,CT,fx,trivial,λc f=>?_⟩;have⟨p1,p2,p3,p4⟩:=m c f;have C:c.den=1:=Df λe=>by have:=(p4 e).1;omega
 show(K:Rat)=c;rw[a4 c f];exact(Ye C).symm;rintro⟨⟨u1,I,v1,J⟩,q,ln,ld⟩ t h9 n9 _ ⟨rfl,b7,aw,ar,⟨an,a7⟩,R,a1,a2,f1,f2,f⟩;simp only at a7 R a1 a2 f1 f2 f;refine zN ?_;refine zl [0,0,2,0,14,7,63] rfl<|yd (v:=.agg #[u1,I,v1,J]) R6 (yw R2 a7 ω zb ω) R2<|yd (v:=.agg #[u1,I,v1,J]) R6 (yw R2 a7 ω zb ω) R2<|Mv _ R7 (Ri (k+1) R Z) ?_;rintro _ rfl;refine zE ?_;refine dr_B (a:=ratT q==s) R5<|uT (cs:=[u1,I,v1,J]) R7 R.ones ar zb dG R3 ?_;repeat refine zE ?_
 refine zN ?_;exact Na R6 (zg _ _ _) R2 ⟨ω,by show n<=n9;omega,λb g=>(zm Z).trans (aw b g),_,_,_,_,q,ln,ld,_,ω,R.off (f1.off Z) (f2.off Z),a1,a2,f1.mono Z,f2.mono Z,λhe=>eq_of_beq he,λ⟨c,hq⟩=>by rw[f c hq,hq];exact beq_self_eq_true s⟩
section
variable {X:CtxF}{r:List Oper}{d:Tmp}
def Yh{a:TypeId}(u:zh ops t o=φ)(p:o.dst=ξ d)(q:zv X.nt (ξ d)=φ)(f:o.op=.convert ty e x)(hx:Kn t x=CY ⟨⟨s⟩⟩)(hm:vI X.E ty e (CY ⟨⟨s⟩⟩)=ξ ⟨s.map λb=>U .u8 b.toNat,a,φ,ξ (O s,O s)⟩)
  (k:EO X ops r ⟨upd t d (Y (ξ ⟨3*n+1,0,θ⟩) (O s) (O s)),upd h (3*n+1) (ξ (.row (s.map λb=>U .u8 b.toNat) a)),n+1,w⟩ Q):EO X ops (o::r) ⟨t,h,n,w⟩ Q:=by
 have⟨y,g,j⟩:=k;refine⟨y,?_,j⟩;rw[seqF,u];have m:Ku o.op=4:=by rw[f];rfl
 have l:KD X.E o.op (Kn t)=ξ ⟨s.map λb=>U .u8 b.toNat,a,φ,ξ (O s,O s)⟩:=by rw[f];show vI X.E ty e (Kn t x)=_;rw[hx];exact hm
 simp only[Lt,m,l,Mr,xH,p,q,addW];exact g
end
def Gro.inv2{h:HF}{n:Nat}{c:List ψ}(g:Gro h lo n e sz v len c)(h0:len≠0):∃b,v=Y (ξ ⟨b,0,θ⟩) len len/\gro b=φ/\3*lo<=b/\b<3*n/\h b=ξ (.row c e)/\O c=len*sz:=by
 cases g with
 |nil=>exact CO ω h0
 |at_ hg hlo hb hr hl ho=>exact⟨_,ω,hg,hlo,hb,hr,hl⟩
def Nc{E D:List Nat}{x:Nat}(d:Nat)(h:D[O E]?=ξ x):(E++D.drop (O E)).set (O E) d=(E++[d])++D.drop (O (E++[d])):=by rw[uR h,Ej _ _ CS,Ec];simp
def cL(h:i<=19):10^i<=10000000000000000000:=Dd zd h
def NW.len_pow(h:NW L)(hv:wv L<10^i):O L<=i:=
 h.len_le (Dm hv (GT zd i))
def NW.of_low(h:Kq L)(hl:O L=i+1)(hv:18446744073709551616^i<=wv L):NW L:=by obtain⟨l,d,rfl⟩:=Go.Proofs.YteoagenjaemllaaGreatDoor.snoc (l:=L) (by intro e;rw[e]at hl;simp at hl);refine⟨h,xy l λe=>?_⟩;subst e;rw[wv,qz,EJ,DV]at hv;have a:=Mf (B:=18446744073709551616) (l:=l) λx f=>h x (by simp[f]);simp at hl;rw[hl]at a;omega
def Yi{w:Nat}(f:w<18446744073709551616)(hb:b<18446744073709551616)(a:c<18446744073709551616):(w*b+c)/18446744073709551616<18446744073709551616:=by rw[EF zd];have:w*b<=18446744073709551615*18446744073709551615:=DG Z Z;omega
def mc(k:Nat)(h:HF)(n:Nat)(hs:AllD s)(hl:O s<1000000):CF (Kp (k+3)) 156 [CY ⟨⟨s⟩⟩] h n λv H M w=>∃L,ResW n h v H M w L/\wv L=dval s/\xC n v:=by
 refine zw (fn:=Tryz.f156) R4<|Zu ?_;refine ye (α:=List UInt8×List UInt8×ψ×List Nat) (λz=>[(0,CY ⟨⟨z.2.1⟩⟩),(3,z.2.2.1)])
  (λz H M w=>w=[]/\n<=M/\Ko n h H/\s=z.1++z.2.1/\Gro H n M 164 1 z.2.2.1 (O z.2.2.2) (u64s z.2.2.2)/\NW z.2.2.2/\wv z.2.2.2=dval z.1) (λz=>O z.2.1)
  ([],s,η,[]) P2 ⟨ω,CS,FI _ _,ω,.nil,Kl,ω⟩ (by show O s<LL;unfold LL;omega) ?_
 rintro⟨q,g,v3,D⟩ t h1 A _ ⟨rfl,a6,a7,F,K,J,R⟩;simp only at F K J R;have b0:O q+O g<1000000:=by rw[F,C1]at hl;exact hl
 have am:AllD q:=λb u=>hs b (by rw[F];simp[u]);have ao:AllD g:=λb u=>hs b (by rw[F];simp[u]);have aw:O D<=O q:=J.len_pow (by rw[R];exact qy am);obtain⟨Z3,rfl,_⟩:=K.shape;refine zN ?_;by_cases hr0:g=[];.subst hr0;refine Zj ?_;rw[DJ]at F;exact retH _ ⟨ω,(zi ω),ω⟩ ⟨D,⟨ω,a6,a7,K.sl,J⟩,by rw[R,F],K.fresh⟩
 have az:0<O g:=GS.2 hr0;obtain⟨sz,b1⟩:∃sz,sz=(O g-1)%19+1:=⟨_,ω⟩;have au:1<=sz/\sz<=19/\sz<=O g:=Z;have af:O (g.take sz)=sz:=by rw[DK];omega
 have Z1:AllD (g.take sz):=λb u=>ao b (D8 u);refine zM ?_;refine st_I (ik:=.i64) (a:=(O g:Int)) R5<|Zx ?_;refine st_I (ik:=.i64) (a:=(O g:Int)) R5<|Ma (a:=(O g:Int)) (b:=1) R6 Z<|QE (a:=(O g:Int)-1) (b:=19) R6 zd ?_;rw[show((O g:Int)-1).tmod 19=(((O g-1)%19:Nat):Int)from by rw[show(O g:Int)-1=((O g-1:Nat):Int)from Z];rfl];refine uI (a:=(((O g-1)%19:Nat):Int)) (b:=1) R6 Z ?_;rw[show(((O g-1)%19:Nat):Int)+1=(sz:Int)from Z];refine Zg ?_;refine mZ ?_;refine NC (s:=g) (j:=sz) R8 Z<|Yh (s:=g.take sz) ω ω ω ω ω ω ?_;generalize hC:g.take sz=C at af Z1⊢;generalize hh2:upd h1 (3*A+1) _=h2;have I:∃el,h2 (3*A+1)=ξ (.row (C.map λb=>U .u8 b.toNat) el):=⟨_,by rw[<-hh2,zg]⟩;have⟨el,I⟩:=I;have a8:Ko A h1 h2:=by rw[<-hh2];exact Cy
 have aa:=K.ext a8 (Du A);have ai:Sl h2 (A+1) 1 (Y (ξ ⟨3*A+1,0,θ⟩) (O C) (O C)) (C.map λb=>U .u8 (b.toNat:Int)):=.at_ Z I ω CS cA (by rw[DO,C7 cA]);refine st_I (ik:=.i64) (a:=(O C:Int)) R5<|oQ ?_;refine ye (α:=Nat) (λi=>[(0,CY ⟨⟨g⟩⟩),(3,Y Z3 (O D) (O D)),(4,U .i64 (sz:Int)),(5,U .u64 ((dval (C.take i):Nat):Int)),(6,U .u64 ((10^i:Nat):Int)),(23,Y (ξ ⟨3*A+1,0,θ⟩) (O C) (O C)),(24,U .i64 (O C:Int)),(25,U .i64 (i:Int))]) (λi H M w=>h2=H/\M=A+1/\w=[]/\i<=O C) (λi=>O C-i) 0 P8 ⟨ω,ω,ω,CT⟩ AH ?_;rintro i t _ _ _⟨rfl,rfl,rfl,hi⟩;refine zN ?_;by_cases hiC:i=O C;case neg=>
  obtain⟨b,u⟩:∃b,C[i]?=ξ b:=⟨C[i]'Z,CW Z⟩;have ax:=Z1 b (C0 u);have ay:dval (C.take i)<10^i:=(by have:=qy (s:=C.take i) λb u=>Z1 b (D8 u);exact BL);have hp:=cL (i:=i+1) Z;rw[Dj]at hp;refine Zh ?_;refine yE (f:=λb:UInt8=>U .u8 (b.toNat:Int)) (j:=i) R7 ai R2 u (λ_=>rfl) R4 λ_=>?_;refine oQ ?_;refine zM ?_;refine xt (a:=10) (b:=dval (C.take i)) R6 Z<|zM ?_;refine jA (a:=b.toNat) (b:=48) R6 Z<|se (c:=b.toNat-48) R7 Z<|yT (a:=10*dval (C.take i)) (b:=b.toNat-48) R6 Z<|oQ ?_;refine zM ?_;refine xt (a:=10^i) (b:=10) R6 Z<|Zg ?_;refine goOn (i+1) (by show O C-(i+1)<O C-i;omega) ⟨ω,ω,ω,?_,?_,ω,ω,ω,CR⟩ ⟨ω,ω,ω,An⟩;show U .u64 _=U .u64 _;rw[mA u,rK];show U .u64 _=U .u64 _;rw[Dj]
 subst hiC;refine Zb ?_;rw[Ds];refine mZ ?_;refine u4 (s:=g) (j:=sz) R8 Z<|Zg ?_;refine oQ ?_;have av:dval C<10^O C:=qy Z1;have hp:=cL (i:=O C) Z;refine ye (α:=List Nat×Nat) (λz=>[(0,CY ⟨⟨g.drop sz⟩⟩),(3,Y Z3 (O D) (O D)),(6,U .u64 ((10^O C:Nat):Int)),(9,U .u64 (z.2:Int)),(42,Y Z3 (O D) (O D)),(43,U .i64 (O D:Int)),(44,U .i64 (O z.1:Int))])
  (λz H M w=>M=A+1/\w=[]/\Ko n h H/\Gro H n (A+1) 164 1 (Y Z3 (O D) (O D)) (O D) (u64s (z.1++D.drop (O z.1)))/\O z.1<=O D/\Kq z.1/\z.2<18446744073709551616/\wv z.1+z.2*18446744073709551616^O z.1=wv (D.take (O z.1))*10^O C+dval C) (λz=>O D-O z.1)
  ([],dval C) P7 ⟨ω,ω,a7.trans a8 a6,aa,CT,H7,by show dval C<_;omega,qe⟩ (by show O D-0<LL;unfold LL;omega) ?_
 rintro⟨E,c⟩ t h3 _ _ ⟨rfl,rfl,a2,G,ah,S,hc,N⟩;simp only at G ah S hc N;refine zN ?_;by_cases hED:O E=O D;case neg=>
  obtain⟨x,hx⟩:∃x,D[O E]?=ξ x:=⟨D[O E]'Z,CW Z⟩;have a9:=J.1.get hx;have⟨b,Z0,an,ak,al,ae,ab⟩:=G.inv2 Z;injection Z0 with Z0 _ _;subst Z0;have ag:Sl h3 (A+1) 1 (Y (ξ ⟨b,0,θ⟩) (O D) (O D)) (u64s (E++D.drop (O E))):=G.sl;have ar:(E++D.drop (O E))[O E]?=ξ x:=by rw[Dx CS,Ec,D9,DV,hx]
  refine Zk ?_;refine yE (f:=λd:Nat=>U .u64 (d:Int)) (j:=O E) R7 ag R2 ar (λ_=>rfl) R4 λ_=>?_;refine Zc ?_;refine yi _ R5 (uN k h3 (A+1) a9 (show 10^O C<18446744073709551616 from Z) hc) ?_;rintro _ rfl;repeat refine zR ?_
  refine uH (j:=O E) (v:=U .u64 (((x*10^O C+c)%18446744073709551616:Nat):Int)) R8 ω (by rw[ab];omega) ae (by show 3*n<=b;omega) (λ_=>rfl) R3 (λ_=>rfl) ω λ_=>?_;rw[yk,Nc _ hx];refine Zg ?_;have ad:(x*10^O C+c)%18446744073709551616<18446744073709551616:=DS _ zd;refine goOn (E++[(x*10^O C+c)%18446744073709551616],(x*10^O C+c)/18446744073709551616) (by show O D-O (E++[_])<O D-O E;simp;omega) ⟨ω,ω,ω,ω,ω,ω,p0,CR⟩ ⟨ω,ω,λb' aj=>(zm Z).trans (a2 b' aj),.at_ an ak al (zg _ _ _) ?_ (xW _),by show(E++[_]).length<=_;simp;omega,Gt S ad,Yi a9 Z hc,?_⟩;rw[zL,C1,DN];simp;omega;show wv (E++[_])+_*18446744073709551616^O (E++[_])=wv (D.take (O (E++[_])))*_+_;simp only[C1,Db];have ap:wv (D.take (O E+1))=wv (D.take (O E))+18446744073709551616^O E*x:=wJ hx;rw[ap,Dj];have:=Pm (B:=18446744073709551616) (P:=18446744073709551616^O E) (V:=wv E) (V':=wv (E++[(x*10^O C+c)%18446744073709551616])) (c:=c) (p:=x*10^O C) (d:=(x*10^O C+c)%18446744073709551616) (c':=(x*10^O C+c)/18446744073709551616) (by rw[wv,qz,C5];rfl) (by rw[EE c];exact Em _ _);rw[this,N];generalize 18446744073709551616^O E=P;generalize 10^O C=T;generalize wv (D.take (O E))=W;rw[Dq,C5 P x,F5];omega
 rw[hED,EI,DJ]at G;rw[hED,Ds]at N;refine Zb ?_;have a1:s=(q++C)++g.drop sz:=by rw[F,<-hC,DH,Eb]
 have a4:dval (q++C)=wv D*10^O C+dval C:=by rw[sJ,R]
 have Z4:O (g.drop sz)<O g:=by rw[DN];omega
 by_cases hc0:c=0;.subst hc0;refine Zb ?_;rw[Ep,DV]at N;refine goOn (q++C,g.drop sz,Y Z3 (O D) (O D),E) Z4 P2 ⟨ω,by show n<=A+1;omega,a2,a1,by show Gro _ _ _ _ _ _ (O E) _;rw[hED];exact G,?_,by show wv E=dval (q++C);rw[N,a4]⟩;show NW E;cases hDn:D with
  |nil=>
   rw[hDn]at hED;rw[De.1 hED];exact Kl
  |cons y D'=>
   have⟨l,d,a0⟩:=Go.Proofs.YteoagenjaemllaaGreatDoor.snoc (l:=D) (by rw[hDn];simp);have ac:=(show NW (l++[d])by rw[<-a0];exact J).low;rw[<-a0]at ac;refine NW.of_low (i:=O l) S (by rw[hED,a0];simp) ?_;rw[N];have:wv D*1<=wv D*10^O C:=Do _ (DQ zd);omega
 refine Zk ?_;refine pZ (cs:=[U .u64 (c:Int)]) R5<|cm (m:=1) R8 zd (G.ext (Hv Z) Zq) (yp (zg _ _ _) R2) CS Z ω ω (by show n<=n/\_;omega) ?_;intro v' h5 a5 aq _;obtain⟨a',rfl,_⟩:=a5.shape;refine oQ ?_;refine goOn (q++C,g.drop sz,Y a' (O D+1) (O D+1),E++[c]) Z4 P2 ⟨ω,by show n<=A+1+1+1;omega,λb u=>(aq b u).trans ((zm Z).trans (a2 b u)),a1,?_,⟨Gt S hc,xy E hc0⟩,?_⟩;.show Gro _ _ _ _ _ _ (O (E++[c])) (u64s (E++[c]));rw[vg,C1,hED];exact a5
 show wv (E++[c])=dval (q++C);rw[wv,qz,a4,<-N,hED,C5];rfl
def zB(n:Nat):gro (3*n+2)=χ:=by exact Cp
section
variable {sT:TypeId}{x:ψ}
def nG{m:Nat}(hu:E.und sT=ξ (.slice e))(hi:E.inf e=ξ (size,bytes,z))(u:O (zn z)=size)(a:1<=size/\1<=bytes)(hx:argS h size x m new)(hb:m*bytes<=1099511627776)(s:gro b=χ)(hm:m≠0):
  yW E h n sT (Y (ξ ⟨b,0,θ⟩) 0 0) x=ξ (.val (Y (ξ ⟨3*n+1,0,θ⟩) m m) (upd h (3*n+1) (ξ (.row new e))) (n+1) []):=by
 have⟨c,hc⟩:=hx;have f:DC (m*bytes) 1099511627776=φ:=C8 hb;have g:D5 (O (zn z)) size=φ:=by rw[u];exact B8
 have j:DC 1 size=φ:=C8 a.1;have l:DC 1 bytes=φ:=C8 a.2;have p:DC m 0=χ:=by
  cases hb:DC m 0 with
  |false=>rfl
  |true=>have:=Dt hb;omega
 have q:yD h size 0 (Y (ξ ⟨b,0,θ⟩) 0 0)=ξ []:=by simp[yD]
 simp only[yW,hu,hi,c,hc,Dl,f,g,j,l,p,q,Eg,MF,s,DR]
def nE{a:Option Addr}{L:Nat}(hu:E.und sT=ξ (.slice e))(hi:E.inf e=ξ (size,bytes,z))(s:O (zn z)=size)(c:1<=size/\1<=bytes)(hx:argS h size x 0 [])(hb:L*bytes<=1099511627776):
  yW E h n sT (Y a L L) x=ξ (.val (Y a L L) h n []):=by
 have⟨f,hc⟩:=hx;have g:DC (L*bytes) 1099511627776=φ:=C8 hb;have j:D5 (O (zn z)) size=φ:=by rw[s];exact B8
 have l:DC 1 size=φ:=C8 c.1;have p:DC 1 bytes=φ:=C8 c.2;have q:DC L L=φ:=C8 CS;simp only[yW,hu,hi,f,hc,DV,g,j,l,p,q,Eg,uB]
inductive Gr0 (h:HF) (lo n:Nat) (e:TypeId) (sz:Nat):ψ->Nat->List ψ->Prop
 |gro {v:ψ} {len:Nat} {c:List ψ} (g:Gro h lo n e sz v len c):Gr0 h lo n e sz v len c
 |emp {m:Nat} (hlo:lo<=m) (hm:m<n):Gr0 h lo n e sz (Y (ξ ⟨3*m+2,0,θ⟩) 0 0) 0 []
def Gr0.ext{h:HF}{n:Nat}{e:TypeId}{c:List ψ}(g:Gr0 h lo n e sz v len c)(a:Ko n h h')(f:n<=n'):Gr0 h' lo n' e sz v len c:=by
 cases g with
 |gro g=>exact .gro (g.ext a f)
 |emp hlo hm=>exact .emp hlo Z
def Gr0.shape{h:HF}{n:Nat}{e:TypeId}{c:List ψ}(g:Gr0 h lo n e sz v len c):∃a,v=Y a len len/\O c=len*sz:=by
 cases g with
 |gro g=>exact g.shape
 |emp hlo hm=>exact⟨_,ω,cA⟩
def Yj{m:Nat}{c:List ψ}(hu:E.und sT=ξ (.slice e))(hi:E.inf e=ξ (size,bytes,z))(l:O (zn z)=size)(g:1<=size/\1<=bytes)(f:Gr0 h lo n e size v len c)(hx:argS h size x m new)(hb:(len+m)*bytes<=1099511627776)(hl:O new=m*size)(j:ones new=φ)(s:lo<=n):
  ∃v' h' n' W,yW E h n sT v x=ξ (.val v' h' n' W)/\n<=n'/\Gr0 h' lo n' e size v' (len+m) (c++new)/\Ko lo h h'/\Keep v n h h'/\(∀b∈W,3*lo<=b/\gro b=φ)/\(v'=v\/xC n v'):=by
 by_cases hm:m=0;subst hm;have p:new=[]:=De.1 (by rw[hl];simp);subst p;obtain⟨a,rfl,_⟩:=f.shape;exact⟨_,_,_,_,nE hu hi l g hx hb,CS,by rw[DJ];exact f,FI _ _,λ_ _ _=>rfl,λb hb=>CO hb C6,.inl ω⟩;cases f with
 |emp hlo2 hm2=>
  rw[Dl]at hb⊢;refine⟨_,_,_,_,nG hu hi l g hx hb (zB _) hm,Du n,.gro (.at_ (uD n) Z Z (zg _ _ _) hl j),Hv Z,λb hb _=>zm Z,λb hb=>CO hb C6,.inr sn⟩
 |gro f=>
  cases f with
  |nil=>
   refine⟨_,_,_,_,append_nil hu hi l g.1 g.2 hx Z AO,Du n,?_,Hv Z,λb hb _=>zm Z,λb hb=>CO hb C6,.inr sn⟩;rw[Dl];exact .gro (.at_ (uD n) Z Z (zg _ _ _) hl j)
  |at_ f hlo2 hb2 hr hl2 ho2=>
   refine⟨_,_,_,_,ue hu hi l g.1 g.2 hx Z hb f hr hl2 (yZ ho2 j) hl,Du n,.gro (.at_ (uD n) Z Z (zg _ _ _) (by rw[C1,hl2,hl,Dq]) (yZ ho2 j)),λb hb=>?_,λb hb q=>?_,λb hb=>?_,.inr sn⟩;rw[zm Z,zm Z];rw[zm Z,zm (λe=>q 0 len len (by rw[e]))];have hb:=Dc.1 hb;rw[hb];exact⟨hlo2,f⟩
end
def Yk{m:Nat}:∀{l:List (Nat×Nat)},(∀x∈l,x.2≠b)->ya m [b] l=φ:=by
 intro l;induction l with
 |nil=>intro _;rfl
 |cons x l ih=>
  intro h;have⟨i,c⟩:=x;have a:memN c [b]=χ:=by
   unfold memN;cases he:D5 c b with
   |false=>rfl
   |true=>exact CO (DU he) (h (i,c) cA)
  unfold ya;rw[a,GX,Jx];exact ih λy f=>h y (by simp[f])
section
variable {X:CtxF}{r:List Oper}{d:Tmp}
def RP{sT e:TypeId}{s x:Operand}{size bytes m:Nat}{z:ψ}{c:List ψ}(f:qu X ops t o d (o.op=.call {callee:=.builtin .append,args:=#[s,x],argTypes:=#[sT,xT]}/\(match X.E.und xT with|some (.int _)=>χ|none=>χ|_=>φ)=φ/\X.E.und sT=ξ (.slice e)/\X.E.inf e=ξ (size,bytes,z)/\O (zn z)=size))(p:1<=size/\1<=bytes)(F:Gr0 h lo n e size (Kn t s) len c)(hx:argS h size (Kn t x) m new)(hb:(len+m)*bytes<=1099511627776)(hl:O new=m*size)(j:ones new=φ)(g:X.n0<=lo/\lo<=n)
  (k:∀a h' n',n<=n'->Gr0 h' lo n' e size a (len+m) (c++new)->Ko lo h h'->Keep (Kn t s) n h h'->(a=Kn t s\/xC n a)->EO X ops r ⟨upd t d a,h',n',w⟩ Q):EO X ops (o::r) ⟨t,h,n,w⟩ Q:=by have⟨f,hd,hn,H,l,I,G,J⟩:=f;have⟨a,h',n',W,q,u,y,A,B,C,D⟩:=Yj I G J p F hx hb hl j g.2;refine yM ⟨f,hd,hn,H,l⟩ q ?_;rw[zV λb hb=>by have:=(C b hb).1;omega];exact k a h' n' u y A B D
end
section
variable {X:CtxF}{r:List Oper}{ld:List (Nat×Nat)}{d:Tmp}
end
def Sl.zero{a:Option Addr}(s:Sl h n 1 (Y a l c) (u64s A))(d:a=θ):A=[]:=by have i:=s.lenW;by_cases h0:l=0;exact De.1 Z;have⟨b,f,x,g,e,_⟩:=s.inv h0;rw[d]at e;cases e
def ub(k:Nat){a:Option Addr}(j:Sl h n 1 (Y a len cap) (u64s L))(hl:O L<1000000000):CF (Kp (k+1)) 127 [Y a len cap] h n λv g m w=>w=[]/\n<=m/\Ko n h g/\Sl g m 1 v (u64s L)/\(L≠[]->Gro g n m 164 1 v (O L) (u64s L)):=by
 refine zw (fn:=Tryz.f127) R4 ?_;have i:=j.lenW;subst i;refine Zm ?_;cases a with
 |none=>
  have d:=j.zero rfl;subst d;refine zN ?_;rw[ze rfl];refine mM ?_;exact retH _ ⟨ω,(zi ω),ω⟩ ⟨ω,CS,FI _ _,.nil (.inl ω),λh=>CO ω h⟩
 |some ad=>
  refine zN ?_;refine Zw ?_;refine pZ (cs:=[]) R5 ?_;repeat refine zR ?_
  have f:=j.ext (Hv (h:=h) (b:=3*n+2) (x:=ξ (.row [] 164)) (show 3*n<=3*n+2 from Z)) (Du n);by_cases d:L=[];subst d;refine yM R5 (nE (L:=0) ω ω ω zd (uX f) zd)<|oQ ?_;exact retH _ ⟨ω,(zi ω),ω⟩ ⟨ω,Du n,Hv Z,.nil (.inr ⟨_,_,_,ω,by show 3*n+2<3*(n+1);omega⟩),λh=>CO ω h⟩;have o:O L≠0:=λe=>d (De.1 e);refine yM R5 (nG ω ω ω zd (uX f) Z (zB n) o)<|oQ ?_;have p:Gro (upd (upd h (3*n+2) (ξ (.row [] 164))) (3*(n+1)+1) (ξ (.row (u64s L) 164))) n (n+1+1) 164 1 (Y (ξ ⟨3*(n+1)+1,0,θ⟩) (O L) (O L)) (O L) (u64s L):=.at_ (uD (n+1)) Z Z (zg _ _ _) (by rw[zL,D1]) (xW L);exact retH _ ⟨ω,(zi ω),ω⟩ ⟨ω,by show n<=n+1+1;omega,(Hv Z).trans (Hv Z) (Du n),p.sl,λ_=>p⟩
theorem ma(k:Nat)(h:HF)(n:Nat)(m:AllD s)(hl:O s<=570):CF (Kp (k+4)) 125 [CY ⟨⟨s⟩⟩,η] h n λv d e w=>∃L,ResW n h v d e w L/\wv L=dval s/\xC n v:=by
 refine zw (fn:=Tryz.f125) R4 ?_;refine Zu ?_;refine ye (α:=Unit) (λ_=>[(0,CY ⟨⟨s⟩⟩),(5,U .i64 (-1))]) (λ_ d e w=>h=d/\n=e/\w=[]) (λ_=>0) () ⟨rfl,rfl,CR⟩ ⟨rfl,rfl,rfl⟩ (by show 0<LL;decide) ?_;rintro _ t _ _ _⟨rfl,rfl,rfl⟩;refine mM ?_;rw[za rfl];refine mM ?_;rw[ze rfl];refine Za ?_;refine zF _ R5 (mc k h n m Z) ?_;rintro v p q _⟨L,⟨rfl,f,g,b,i⟩,o,j⟩;obtain⟨a,l,c,rfl,_⟩:=b.len;refine oQ ?_;exact retH _ ⟨rfl,(zi rfl),rfl⟩ ⟨L,⟨rfl,f,g,b,i⟩,o,j⟩
def nZ(k:Nat)(h:HF)(n:Nat)(j:AllD s)(hl:O s<=570):CF (Kp (k+5)) 98 [CY ⟨⟨s⟩⟩] h n λv f o w=>∃L,ResW n h v f o w L/\wv L=dval s/\xC n v:=by refine zw (fn:=Tryz.f98) R4<|Zu ?_;refine zM ?_;refine st_I (ik:=.i64) (a:=(O s:Int)) R5<|Zy ?_;refine zF _ R5 (ma k h n j hl) ?_;rintro v p q _⟨L,⟨rfl,d,e,b,g⟩,m,i⟩;obtain⟨a,l,c,rfl,_⟩:=b.len;refine oQ ?_;exact retH _ ⟨ω,(zi ω),ω⟩ ⟨L,⟨ω,d,e,b,g⟩,m,i⟩
def NatR(n:Nat)(h:HF)(v:ψ)(h':HF)(n':Nat)(w:List Nat)(x:Nat):Prop:=∃a l c L,v=.agg #[CV χ,Y a l c]/\ResW n h (Y a l c) h' n' w L/\wv L=x
def Pt(k:Nat)(h:HF)(n:Nat)(m:AllD s)(hl:O s<=570):CF (Kp (k+6)) 46 [CY ⟨⟨s⟩⟩] h n λv g p w=>NatR n h v g p w (dval s):=by refine zw (fn:=Tryz.f46) R4<|zN ?_;refine xV R5<|Za ?_;refine zF _ R5 (nZ k _ _ m hl) ?_;rintro v y q _⟨L,⟨rfl,u,e,d,i⟩,o,j⟩;obtain⟨a,l,c,rfl,_⟩:=d.len;have f:=(e (3*n+2) Z).trans (zg _ _ _);refine zS (v:=.agg #[CV χ,Y a l c]) R4 rfl<|yc [CV χ,Y a l c] R7 ω f ω aD ?_;refine zN ?_;exact uq R5 (zg _ _ _) ω ⟨_,_,_,L,ω,⟨ω,by show n<=q;omega,λb f=>(zm Z).trans ((e b Z).trans (zm Z)),d.off (j.off Z),i⟩,o⟩
def pP(c:Nat):wv [c]=c:=by simp[wv,dv]
def RQ{x:Nat}:Dh c (x%c)=Dh x c:=by rw[E5,<-Ja,E5]
def Yl(k:Nat)(hG:GK.G h)(hn:20<=n)(p:Sl h n 1 (Y a1 l1 c1) (u64s A))(q:Sl h n 1 (Y a2 l2 c2) (u64s C))(e:NW A)(f:NW C)(hb:O A<1000000/\O C<1000000)(b:O A<=1\/O C<=1):
  CF (Kp (k+5)) 99 [Y a1 l1 c1,Y a2 l2 c2] h n λv g m w=>∃L,ResW n h v g m w L/\wv L=Dh (wv A) (wv C)/\(xC n v\/v=Y a1 l1 c1\/v=Y a2 l2 c2):=by
 refine zw (fn:=Tryz.f99) R4<|mM ?_;refine mZ ?_;refine yi _ R5 (uF (k+1) p q e f Z) ?_;rintro _ rfl;refine lW R6 ?_;simp only[yu,xg,zK,yY];refine yj (α:=(Option Addr×Nat×Nat×List Nat)×(Option Addr×Nat×Nat×List Nat)) (λz=>[(0,Y z.1.1 z.1.2.1 z.1.2.2.1),(1,Y z.2.1 z.2.2.1 z.2.2.2.1)]) (λz g m w=>h=g/\n=m/\w=[]/\Sl h n 1 (Y z.1.1 z.1.2.1 z.1.2.2.1) (u64s z.1.2.2.2)/\Sl h n 1 (Y z.2.1 z.2.2.1 z.2.2.2.1) (u64s z.2.2.2.2)/\NW z.1.2.2.2/\NW z.2.2.2.2/\O z.1.2.2.2<1000000/\O z.2.2.2.2<=1/\Dh (wv z.1.2.2.2) (wv z.2.2.2.2)=Dh (wv A) (wv C)/\(Y z.1.1 z.1.2.1 z.1.2.2.1=Y a1 l1 c1\/Y z.1.1 z.1.2.1 z.1.2.2.1=Y a2 l2 c2)) ?_ ?_;by_cases hlt:wv A<wv C;rw[ze (by show CV _=_;rw[sM hlt];rfl)];refine mM ?_;refine zA ((a2,l2,c2,C),(a1,l1,c1,A)) P2 ⟨ω,ω,ω,q,p,f,e,hb.2,?_,E5 _ _,.inr ω⟩;show (O A)<=1;obtain b|b:=b;exact b;obtain i|i:=En (O C) (O A);have:=f.len_lt e i;omega;omega;rw[za (by
  show CV _=_;obtain h|h:=En (wv C) (wv A);rw[sO h];rfl;rw[show wv A=wv C from Z,jd];rfl)]
 refine zN ?_;refine zA ((a1,l1,c1,A),(a2,l2,c2,C)) P2 ⟨ω,ω,ω,p,q,e,f,hb.1,?_,ω,.inl ω⟩;show (O C)<=1;obtain b|b:=b;obtain i|i:=En (O A) (O C);have:=e.len_lt f i;omega;omega;exact b;rintro⟨⟨a,l,c,X⟩,⟨a',l',c',Z3⟩⟩ t _ _ _ ⟨rfl,rfl,rfl,u,B,S,T,W,F,Z1,hv⟩;simp only at u B S T W F Z1 hv;rw[<-Z1];have eX:=u.lenW;have eY:=B.lenW;subst eX eY;refine zN ?_;cases Z3 with
 |nil=>
  refine Zi ?_;exact retH _ ⟨ω,(zi ω),ω⟩ ⟨X,⟨ω,CS,FI _ _,u,S⟩,by rw[show wv []=0 from ω,G6],.inr hv⟩
 |cons y Z3=>
 have Z0:Z3=[]:=by simpa using F
 subst Z0;have D:y<18446744073709551616:=T.1 y cA;have ae:y≠0:=an3 (l:=[]) T;rw[pP];rw[show[y].length=1 from rfl]at B⊢;refine Zr ?_;refine zF _ R5 (ub (k+3) u Z) ?_;rintro v5 h2 n2 _⟨rfl,H,M,J,_⟩;obtain⟨a5,l5,c5,rfl,_⟩:=J.len;refine zM ?_;refine zF _ R5 (ub (k+3) (L:=[y]) (B.ext M H) cA) ?_;rintro v6 o R _⟨rfl,a4,N,ad,a3⟩;obtain⟨b6,rfl,_,ab,aa,I,_⟩:=(a3 cA).inv2 cA;rw[show[y].length=1 from rfl];have j:Ko n h o:=M.trans N H;have Z4:GK.G o:=rR hG j hn;have P:=J.ext N a4;refine oQ ?_;refine ye (α:=Unit) (λ_=>[(5,Y a5 l5 c5),(6,Y (ξ ⟨b6,0,θ⟩) 1 1)]) (λ_ g m w=>o=g/\R=m/\w=[]) (λ_=>0) () P2 R3 (by show 0<LL;decide) ?_;rintro _ t _ _ _⟨rfl,rfl,rfl⟩;refine mM ?_;rw[za rfl];refine mM ?_;refine Zw ?_;refine zl [0,1,3,0,0,16,48,120,255,511,1023] ω ?_;repeat refine zD ?_
 refine yd R6 (zX ω I (v:=U .u64 (y:Int)) R2) R2 ?_;repeat refine zD ?_
 refine yd R6 (zX ω I (v:=U .u64 (y:Int)) R2) R2<|Mv _ R7 (RN k (l:=X) (d:=y) Z S.1 ⟨Z,D⟩ P) ?_;rintro _ rfl;refine Mv _ R7 (Rn (k+2) Z4 R D (H8 (DS _ Z) D)) ?_;rintro _ rfl;refine wa _ R7 (sH (k+3) o R (Dw (HU _ Z) D)) ?_;rintro v9 h9 n9 _⟨L9,⟨rfl,a6,a8,K,V⟩,a7,ac,a0⟩;obtain⟨a9,l9,c9,rfl,_⟩:=K.len;refine⟨sj,a6,?_⟩;repeat refine zD ?_
 refine zN ?_;exact retH _ ⟨ω,(zi ω),ω⟩ ⟨L9,⟨ω,by show n<=n9;omega,j.trans a8 Z,K,V⟩,by rw[a7,RQ],.inl (a0.mono Z)⟩
def Ym(k:Nat)(H:GK.G h)(J:20<=n)(q:Sl h n 1 (Y a1 l1 c1) (u64s A))(u:Sl h n 1 (Y a2 l2 c2) (u64s C))(P:NW A)(R:NW C)(hb:O A<1000000/\O C<1000000)(D:O A<=1\/O C<=1):
  CF (Kp (k+6)) 47 [.agg #[CV b1,Y a1 l1 c1],.agg #[CV b2,Y a2 l2 c2]] h n λv B N w=>NatR n h v B N w (Dh (wv A) (wv C)):=by
 refine zw (fn:=Tryz.f47) R4<|zN ?_;refine Lu (cs:=[CV b1,Y a1 l1 c1]) R5<|Lu (cs:=[CV b2,Y a2 l2 c2]) R5<|xV R5 ?_;generalize hh:upd (upd (upd h (3*n+2) _) (3*(n+1)+2) _) (3*(n+1+1)+2) _=h2;have d:Ko n h h2:=λb hb=>by rw[<-hh,zm Z,zm Z,zm Z]
 have m:∃e,h2 (3*n+2)=ξ (.row [CV b1,Y a1 l1 c1] e):=⟨_,AA⟩;have o:∃e,h2 (3*(n+1)+2)=ξ (.row [CV b2,Y a2 l2 c2] e):=⟨_,A9⟩;have p:∃e,h2 (3*(n+1+1)+2)=ξ (.row [CV χ,η] e):=⟨_,gP⟩;have⟨T,m⟩:=m;have⟨Z4,o⟩:=o;have⟨V,p⟩:=p;refine kG ?_;refine zT R6 m (v:=Y a1 l1 c1) R2 ?_;repeat refine zR ?_
 refine zT R6 o (v:=Y a2 l2 c2) R2 ?_;have f:n<=n+1+1+1:=Z;refine zF _ R5 (Yl k (rR H d J) (show 20<=n+1+1+1 from Z) (q.ext d f) (u.ext d f) P R hb D) ?_;rintro v F Z1 _⟨L,⟨rfl,S,i,g,I⟩,M,j⟩;have K:KL (3*(n+1+1)+2) v:=(by obtain j|rfl|rfl:=j;exact j.off Z;exact q.below.off Z;exact u.below.off Z);obtain⟨a,l,c,rfl,_⟩:=g.len;have y:F (3*(n+1+1)+2)=_:=(i _ Z).trans p;refine zS (v:=.agg #[CV χ,Y a l c]) R4 rfl<|yc [CV χ,Y a l c] R7 ω y ω (by show 3*n<=3*(n+1+1)+2;omega) ?_;refine zN ?_;exact uq R5 (zg _ _ _) ω ⟨_,_,_,L,ω,⟨ω,by show n<=Z1;omega,λb hb=>(zm Z).trans ((i b Z).trans (d b hb)),g.off K,I⟩,M⟩
def RR(k:Nat){neg:Bool}{a:Option Addr}(m:Sl h n 1 (Y a l c) (u64s L))(p:NW L):VF (Kp (k+1)) 48 [.agg #[CV neg,Y a l c]] h n λv=>v=CV (!neg&&decide (wv L=1)):=by
 refine zO (fn:=Tryz.f48) R4 ?_;have i:=m.lenW;subst i;refine zN ?_;refine Lu (cs:=[CV neg,Y a (O L) c]) R5 ?_;generalize hh:upd h (3*n+2) _=h1;have o:Ko n h h1:=by rw[<-hh];exact Cy
 have b:∃e,h1 (3*n+2)=ξ (.row [CV neg,Y a (O L) c] e):=⟨_,mp⟩;have⟨u,b⟩:=b;have g:=m.ext o (Du n);refine Zc ?_;refine zT R6 b (v:=CV neg) R2 ?_;cases neg with
 |true=>
  refine oQ ?_;exact BG
 |false=>
 repeat refine zR ?_
 refine zT R6 b (v:=Y a (O L) c) R2 ?_;by_cases h1:O L=1;obtain⟨d,rfl⟩:=Gi.1 h1;rw[show[d].length=1 from rfl]at b g⊢;repeat refine zR ?_
 refine zT R6 b (v:=Y a 1 c) R2 ?_;refine yE (f:=λd:Nat=>U .u64 (d:Int)) (l:=[d]) (j:=0) R7 g ⟨ω,cA⟩ ω (λ_=>rfl) R4 λ_=>?_;rw[pP];by_cases hd:d=1;refine oQ ?_;exact retF _ ω (zi ω) R2 (by rw[CN hd];rfl);refine oQ ?_;exact retF _ ω (zi ω) R2 (by rw[CM hd];rfl);have q:wv L≠1:=λe=>h1 (by rw[p.inj (NW.one (d:=1) zd zd) (by rw[e,pP])];rfl);refine oQ ?_;exact retF _ ω (zi ω) R2 (by rw[CM q];rfl)
def ExtT(n bt:Nat)(h h':HF):Prop:=∀b,b<3*n->b≠bt->h' b=h b
def ExtT.refl(n a:Nat)(h:HF):ExtT n a h h:=λ_ _ _=>rfl
def strs(l:List (List UInt8)):List ψ:=l.map λs=>CY ⟨⟨s⟩⟩
def fg(a b:List (List UInt8)):strs (a++b)=strs a++strs b:=by simp[strs]
def Yn(a:List (List UInt8)):O (strs a)=O a:=by simp[strs]
def RT{m:Nat}{W:List Nat}:∀{l:List (Nat×Nat)},xJ m l=φ->ya m W l=φ:=by
 intro l;induction l with
 |nil=>intro _;rfl
 |cons x l ih=>
  intro h;have⟨i,b⟩:=x;unfold xJ at h;split at h;rename_i hb;unfold ya;rw[hb,Bool.true_or];exact ih h;cases h
section
variable {X:CtxF}{r:List Oper}{ld:List (Nat×Nat)}{d:Tmp}
def Yo{xT sT e:TypeId}{s x:Operand}{lo len a f mm:Nat}{z:ψ}{c new:List ψ}(K:zh ops t o=φ)(hd:o.dst=ξ d)(hn:zv X.nt (ξ d)=φ)(J:o.op=.call {callee:=.builtin .append,args:=#[s,x],argTypes:=#[sT,xT]})(q:(match X.E.und xT with|some (.int _)=>χ|none=>χ|_=>φ)=φ)
  (hu:X.E.und sT=ξ (.slice e))(hi:X.E.inf e=ξ (a,f,z))(L:O (zn z)=a)(A:1<=a/\1<=f)(u:xq m ef=φ)(v:xJ m al=φ)(y:xJ m ld=φ)(I:Gro h lo n e a (Kn t s) len c)(hx:argS h a (Kn t x) mm new)(hm:1<=mm)(hb:(len+mm)*f<=1099511627776)(hl:O new=mm*a)(p:ones new=φ)(l:X.n0<=lo/\lo<=n)
  (k:∀j g W,Gro g lo (n+1) e a j (len+mm) (c++new)->Ko lo h g->Keep (Kn t s) n h g->xC n j->ED X ops r ms (i+1) ⟨⟨upd t d j,g,n+1,w⟩,al,ld,(i,h,W)::ef⟩ Q):ED X ops (o::r) (m::ms) i ⟨⟨t,h,n,w⟩,al,ld,ef⟩ Q:=by have⟨j,g,W,B,C,D,G,F,H⟩:=uf hu hi L A I hx hm hb hl p l.2;refine iV K hd hn J q B u v (RT y) Zq ?_;rw[zV λb hb=>by have:=F b hb;omega];exact k j g W C D G H
end
def rT{h:HF}{n:Nat}{P:ψ->HF->Nat->List Nat->Prop}(g:GK.orc f args=θ/\Kw.fn f=ξ fn/\fn.body=ξ body/\DC (O args) fn.ntmps=φ)
  (hx:EC (Lg k n fn.ntmps) body ⟨mj args,h,n,[]⟩ λe s=>rI e=φ/\∃a,resF Kw s fn.results.toList=ξ a/\P (qm a) s.h s.n s.w/\(s.w=[]->P (qm a) h n [])):CF (Kp (k+1)) f args h n P:=by have⟨g,i,D,p⟩:=g;refine jn g i D p (sW hx λe s⟨q,a,u,y,B⟩=>⟨q,a,u,?_⟩);unfold endF;split;rename_i hw;exact B hw;exact y
section
variable {X:CtxF}{r:List Oper}{d:Tmp}
theorem upd_self{x:Option BF}(hb:h b=x):upd h b x=h:=by grind [zg,zm]
def tH{w:List Nat}:addW n0 [] w=w:=rfl
def lZ{s:Operand}{a:Nat}{c:List ψ}(q:qu X ops t o d (o.op=.call {callee:=.builtin .copy,args:=#[s,x],argTypes:=#[sT,xT]}/\X.E.und sT=ξ (.slice e)/\X.E.inf e=ξ (size,bytes,z)/\Kn t s=Y (ξ ⟨b,0,θ⟩) a cap))(hx:argS h size (Kn t x) m cs)(hm:m<=a)(hb:h b=ξ (.row c e3))(hl:O cs<=O c)(J:ones cs=φ)(p:3*X.n0<=b)
  (k:EO X ops r ⟨upd t d (U .i64 (m:Int)),upd h b (ξ (.row (cs++c.drop (O cs)) e3)),n,w⟩ Q):EO X ops (o::r) ⟨t,h,n,w⟩ Q:=by
 have⟨q,hd,hn,F,I,D,G⟩:=q;have g:Nat.min m a=m:=Ee hm;have hc:∃W,M0 X.E h n sT (Kn t s) (Kn t x)=ξ (.val (U .i64 (m:Int)) (upd h b (ξ (.row (cs++c.drop (O cs)) e3))) n W)/\∀y∈W,y=b:=by
  have⟨u,B⟩:=hx;cases cs with
  |nil=>
   refine⟨[],?_,λy i=>by cases i⟩;rw[DR,FV,DO,upd_self hb];simp only[M0,I,D,G,u,g,B];rfl
  |cons v cs=>
   refine⟨[b],?_,λy i=>Dc.1 i⟩;have H:LY h ⟨b,0,θ⟩ (v::cs)=ξ (upd h b (ξ (.row ((v::cs)++c.drop (O (v::cs))) e3))):=(by rw[uZ hb Z J];unfold zu;rw[List.take_zero,DR,Dl]);simp only[M0,I,D,G,u,g,B,H];rfl
 have⟨W,hc,K⟩:=hc;have M:effF X.E o.op (Kn t) h n=ξ (.val (U .i64 (m:Int)) (upd h b (ξ (.row (cs++c.drop (O cs)) e3))) n W):=(by rw[F];exact hc);rw[rS q (by rw[hd];exact hn) (by rw[F];rfl) M,hd,zV λy i=>by rw[K y i];exact p];exact k
end
def Sl.extW{h:HF}{n:Nat}{c:List ψ}(s:Sl h n sz v c)(e:ExtT n b h h')(p:KL b v):Sl h' n sz v c:=
 s.keep (λa l cap g=>by
  have i:=s.below;subst g;exact e _ i p) CS
def jK{h:HF}{n:Nat}{X:List Nat}(hb:b<3*n)(g:h b=ξ (.row (u64s X) e))(a:O X<=cap):Sl h n 1 (Y (ξ ⟨b,0,θ⟩) (O X) cap) (u64s X):=.at_ hb g ω a (by rw[zL];omega) AZ
theorem uy{D X:List Nat}{x:Nat}(hx:X[O D]?=ξ x):(D++X.drop (O D))[O D]?=ξ x:=by grind
def zQ{X:List Nat}{x:Nat}(hx:X[j]?=ξ x):wv (X.take (j+1))=wv (X.take j)+18446744073709551616^j*x:=wJ hx
theorem yO(D:List Nat)(d:Nat):wv (D++[d])=wv D+18446744073709551616^O D*d:=qz _ _ _
theorem wZ(D E:List Nat):wv (D++E)=wv D+18446744073709551616^O D*wv E:=vm _ _ _
def pu(X:List Nat)(j:Nat)(hj:j<=O X):wv X=wv (X.take j)+18446744073709551616^j*wv (X.drop j):=by
 conv=>lhs;rw[<-Eb j X]
 rw[wZ,DK,Ee hj]
theorem nK{x y s:Nat}(a:V+c*P=Z4)(g:18446744073709551616*c'+s=x+y+c):V+P*s+c'*(P*18446744073709551616)=Z4+P*x+P*y:=by grind
theorem vK{W x y s:Nat}(a:V+W=Z4+c*P)(g:s+y+c=x+18446744073709551616*c'):V+P*s+(W+P*y)=Z4+P*x+c'*(P*18446744073709551616):=by grind
theorem ND{x y:Nat}(hx:x<18446744073709551616)(g:y<18446744073709551616)(a:c<=1):(x+18446744073709551616-y-c)%18446744073709551616+y+c=x+18446744073709551616*(if y+c<=x then 0 else 1):=by grind
def RowW(n:Nat)(h:HF)(b:Nat)(e:TypeId)(h':HF)(n':Nat)(w:List Nat)(L:List Nat):Prop:=(∀c∈w,c=b)/\n'=n/\ExtT n b h h'/\h' b=ξ (.row (u64s L) e)
def Yp(k:Nat){h:HF}{n N:Nat}{M:Option Addr}{X Z3:List Nat}(hb:b<3*n)(a4:h b=ξ (.row (u64s X) e))(a9:O X<=cX)(hX:Kq X)(a0:Sl h n 1 (Y M l N) (u64s Z3))(hY:Kq Z3)(ho:KL b (Y M l N))(hl:O Z3<=O X)(a8:O X<1000000000)(hv:wv X+wv Z3<18446744073709551616^O X):
  CF (Kp (k+1)) 152 [Y (ξ ⟨b,0,θ⟩) (O X) cX,Y M l N] h n λ_ h' W w=>∃L,RowW n h b e h' W w L/\Kq L/\O L=O X/\wv L=wv X+wv Z3:=by
 refine rT (fn:=av6) R4 ?_;have a6:=a0.lenW;subst a6;have Z0:∀(t:TF) (h':HF) (w:List Nat) (D:List Nat) (c:Nat),(∀x∈w,x=b)->ExtT n b h h'->(w=[]->h'=h)->h' b=ξ (.row (u64s (D++X.drop (O D))) e)->O D<=O X->Kq D->wv D+c*18446744073709551616^O D=wv (X.take (O D))+wv Z3->c=0->(rI .normal=φ/\∃vs,resF Kw ⟨t,h',n,w⟩ (av6).results.toList=ξ vs/\(∃L,RowW n h b e h' n w L/\Kq L/\O L=O X/\wv L=wv X+wv Z3)/\(w=[]->∃L,RowW n h b e h n [] L/\Kq L/\O L=O X/\wv L=wv X+wv Z3)):=by
  intro t h' w D c g1 g2 g3 g4 g5 g6 g7 g8;have hL:∃L,RowW n h b e h' n w L/\Kq L/\O L=O X/\wv L=wv X+wv Z3:=⟨_,⟨g1,ω,g2,g4⟩,g6.append (hX.drop _),eP,by
   subst g8;rw[wZ];have h1:=pu X (O D) g5;omega⟩
  refine⟨ω,[],ω,hL,λF=>?_⟩;subst F;rw[g3 rfl]at hL;exact hL
 refine Zu ?_;refine ye (α:=List Nat×Nat) (λz=>[(0,Y (ξ ⟨b,0,θ⟩) (O X) cX),(1,Y M (O Z3) N),(4,U .u64 (z.2:Int)),(8,Y M (O Z3) N),(9,U .i64 (O Z3:Int)),(10,U .i64 (O z.1:Int))])
  (λz h' W w=>n=W/\(∀x∈w,x=b)/\ExtT n b h h'/\(w=[]->h'=h)/\h' b=ξ (.row (u64s (z.1++X.drop (O z.1))) e)/\O z.1<=O Z3/\Kq z.1/\z.2<=1/\wv z.1+z.2*18446744073709551616^O z.1=wv (X.take (O z.1))+wv (Z3.take (O z.1))) (λz=>O Z3-O z.1)
  ([],0) P6 ⟨ω,λx u=>CO u C6,ExtT.refl _ _ _,λ_=>rfl,a4,CT,H7,Bw,qe⟩ AC ?_
 rintro⟨D,c⟩ t h1 _ w ⟨rfl,F,i,G,a,K,g,I,p⟩;simp only at a K g I p;refine zN ?_;by_cases hDY:O D=O Z3;case neg=>
  obtain⟨y,hy⟩:∃y,Z3[O D]?=ξ y:=⟨Z3[O D]'Z,CW Z⟩;obtain⟨x,u⟩:∃x,X[O D]?=ξ x:=⟨X[O D]'Z,CW Z⟩;have aa:=hY.get hy;have a7:=hX.get u;have Z1:=jK (cap:=cX) hb a eP;rw[show(D++X.drop (O D)).length=O X from by rw[C1,DN];omega]at Z1;refine Zk ?_;refine yE (f:=λd:Nat=>U .u64 (d:Int)) (j:=O D) R7 (a0.extW i ho) R2 hy (λ_=>rfl) R4 λ_=>?_;refine Zc ?_;refine yE (f:=λd:Nat=>U .u64 (d:Int)) (j:=O D) R7 Z1 R2 (uy u) (λ_=>rfl) R4 λ_=>?_;repeat refine zR ?_
  refine vt (x:=x) (y:=y) (c:=c) R5 I ?_;obtain⟨s,J⟩:∃s,s=(x+y+c)%18446744073709551616:=⟨_,ω⟩;obtain⟨c',q⟩:∃c',c'=(x+y+c)/18446744073709551616:=⟨_,ω⟩;rw[<-J,<-q];repeat refine zR ?_
  refine yG (j:=O D) (off:=0) (v:=U .u64 (s:Int)) R8 ω ⟨Z,ru⟩ a hb (λ_=>rfl) R3 (λ_=>rfl) ω λ_=>?_;rw[Dl,yk,Nc _ u];refine Zg ?_;have T:s<18446744073709551616:=by rw[J];exact BQ
  have R:c'<=1:=by rw[q];omega
  have S:18446744073709551616*c'+s=x+y+c:=by rw[J,q];omega
  refine goOn (D++[s],c') Aj ⟨ω,ω,ω,ω,ω,eC,CR⟩ ⟨ω,λz B=>by
   obtain rfl|B:=DA.1 B;rfl;exact F z B,λz B H=>(zm H).trans (i z B H),λh=>AI,zg _ _ _,kF,Gt g T,R,?_⟩
  simp only;rw[C1,Db,yO,zQ u,zQ hy,Dj];have:=nK p S;omega
 have a3:Z3.take (O D)=Z3:=by rw[hDY,Ds]
 rw[a3]at p;refine Zj ?_;refine ye (α:=List Nat×Nat) (λz=>[(0,Y (ξ ⟨b,0,θ⟩) (O X) cX),(4,U .u64 (z.2:Int)),(7,U .i64 (O z.1:Int))])
  (λz h' W w=>n=W/\(∀x∈w,x=b)/\ExtT n b h h'/\(w=[]->h'=h)/\h' b=ξ (.row (u64s (z.1++X.drop (O z.1))) e)/\O z.1<=O X/\Kq z.1/\z.2<=1/\wv z.1+z.2*18446744073709551616^O z.1=wv (X.take (O z.1))+wv Z3) (λz=>O X-O z.1)
  (D,c) ⟨ω,ω,By,CR⟩ ⟨ω,F,i,G,a,by show O D<=_;omega,g,I,p⟩ (by show O X-O D<LL;unfold LL;omega) ?_
 rintro⟨D,c⟩ t h1 _ w ⟨rfl,F,i,G,a,K,g,I,p⟩;simp only at a K g I p;refine zN ?_;by_cases hc0:c=0;.refine Zb ?_;exact Z0 _ _ _ D c F i G a K g p hc0
 by_cases hDX:O D=O X;.refine Zb ?_;refine Z0 _ _ _ D c F i G a K g p ?_;have a5:=wW g;rw[hDX,Ds]at p;rw[hDX]at a5;obtain h|h:=Fi c;exact h;have:=C9 (18446744073709551616^O X) h;omega
 obtain⟨x,u⟩:∃x,X[O D]?=ξ x:=⟨X[O D]'Z,CW Z⟩;have a7:=hX.get u;have Z1:=jK (cap:=cX) hb a eP;rw[show(D++X.drop (O D)).length=O X from by rw[C1,DN];omega]at Z1;refine Zk ?_;refine yE (f:=λd:Nat=>U .u64 (d:Int)) (j:=O D) R7 Z1 R2 (uy u) (λ_=>rfl) R4 λ_=>?_;repeat refine zR ?_
 refine vt (x:=x) (y:=0) (c:=c) R5 I ?_;obtain⟨s,J⟩:∃s,s=(x+0+c)%18446744073709551616:=⟨_,ω⟩;obtain⟨c',q⟩:∃c',c'=(x+0+c)/18446744073709551616:=⟨_,ω⟩;rw[<-J,<-q];repeat refine zR ?_
 refine yG (j:=O D) (off:=0) (v:=U .u64 (s:Int)) R8 ω ⟨Z,ru⟩ a hb (λ_=>rfl) R3 (λ_=>rfl) ω λ_=>?_;rw[Dl,yk,Nc _ u];refine Zg ?_;have T:s<18446744073709551616:=by rw[J];exact BQ
 have R:c'<=1:=by rw[q];omega
 have S:18446744073709551616*c'+s=x+0+c:=by rw[J,q];omega
 refine goOn (D++[s],c') Al ⟨ω,ω,eC,CR⟩ ⟨ω,λz B=>by
  obtain rfl|B:=DA.1 B;rfl;exact F z B,λz B H=>(zm H).trans (i z B H),λh=>AI,zg _ _ _,kF,Gt g T,R,?_⟩
 simp only;rw[C1,Db,yO,zQ u,Dj];have:=nK p S;omega
def mB(k:Nat){h:HF}{n N:Nat}{M:Option Addr}{X Z3:List Nat}(hb:b<3*n)(a6:h b=ξ (.row (u64s X) e))(aa:O X<=cX)(hX:Kq X)(a3:Sl h n 1 (Y M l N) (u64s Z3))(hY:Kq Z3)(ho:KL b (Y M l N))(hl:O Z3<=O X)(a9:O X<1000000000)(hv:wv Z3<=wv X):
  CF (Kp (k+1)) 168 [Y (ξ ⟨b,0,θ⟩) (O X) cX,Y M l N] h n λ_ h' Z0 w=>∃L,RowW n h b e h' Z0 w L/\Kq L/\O L=O X/\wv L+wv Z3=wv X:=by
 refine rT (fn:=av7) R4 ?_;have a8:=a3.lenW;subst a8;have a0:∀(t:TF) (h':HF) (w:List Nat) (D:List Nat) (c:Nat),(∀x∈w,x=b)->ExtT n b h h'->(w=[]->h'=h)->h' b=ξ (.row (u64s (D++X.drop (O D))) e)->O D<=O X->Kq D->wv D+wv Z3=wv (X.take (O D))+c*18446744073709551616^O D->c=0->(rI .normal=φ/\∃vs,resF Kw ⟨t,h',n,w⟩ (av7).results.toList=ξ vs/\(∃L,RowW n h b e h' n w L/\Kq L/\O L=O X/\wv L+wv Z3=wv X)/\(w=[]->∃L,RowW n h b e h n [] L/\Kq L/\O L=O X/\wv L+wv Z3=wv X)):=by
  intro t h' w D c g1 g2 g3 g4 g5 g6 g7 g8;have hL:∃L,RowW n h b e h' n w L/\Kq L/\O L=O X/\wv L+wv Z3=wv X:=⟨_,⟨g1,ω,g2,g4⟩,g6.append (hX.drop _),eP,by
   subst g8;rw[wZ];have h1:=pu X (O D) g5;omega⟩
  refine⟨ω,[],ω,hL,λG=>?_⟩;subst G;rw[g3 rfl]at hL;exact hL
 refine Zu ?_;refine ye (α:=List Nat×Nat) (λz=>[(0,Y (ξ ⟨b,0,θ⟩) (O X) cX),(1,Y M (O Z3) N),(4,U .u64 (z.2:Int)),(8,Y M (O Z3) N),(9,U .i64 (O Z3:Int)),(10,U .i64 (O z.1:Int))])
  (λz h' Z0 w=>n=Z0/\(∀x∈w,x=b)/\ExtT n b h h'/\(w=[]->h'=h)/\h' b=ξ (.row (u64s (z.1++X.drop (O z.1))) e)/\O z.1<=O Z3/\Kq z.1/\z.2<=1/\wv z.1+wv (Z3.take (O z.1))=wv (X.take (O z.1))+z.2*18446744073709551616^O z.1) (λz=>O Z3-O z.1)
  ([],0) P6 ⟨ω,λx u=>CO u C6,ExtT.refl _ _ _,λ_=>rfl,a6,CT,H7,Bw,qe⟩ AC ?_
 rintro⟨D,c⟩ t h1 _ w ⟨rfl,G,i,H,a,K,g,F,p⟩;simp only at a K g F p;refine zN ?_;by_cases hDY:O D=O Z3;case neg=>
  obtain⟨y,hy⟩:∃y,Z3[O D]?=ξ y:=⟨Z3[O D]'Z,CW Z⟩;obtain⟨x,u⟩:∃x,X[O D]?=ξ x:=⟨X[O D]'Z,CW Z⟩;have a5:=hY.get hy;have W:=hX.get u;have Z1:=jK (cap:=cX) hb a eP;rw[show(D++X.drop (O D)).length=O X from by rw[C1,DN];omega]at Z1;refine Zk ?_;refine yE (f:=λd:Nat=>U .u64 (d:Int)) (j:=O D) R7 (a3.extW i ho) R2 hy (λ_=>rfl) R4 λ_=>?_;refine Zc ?_;refine yE (f:=λd:Nat=>U .u64 (d:Int)) (j:=O D) R7 Z1 R2 (uy u) (λ_=>rfl) R4 λ_=>?_;repeat refine zR ?_
  refine rn (x:=x) (y:=y) (c:=c) R5 F ?_;obtain⟨s,J⟩:∃s,s=(x+18446744073709551616-y-c)%18446744073709551616:=⟨_,ω⟩;obtain⟨c',q⟩:∃c',c'=(if y+c<=x then 0 else 1):=⟨_,ω⟩;rw[<-J,<-q];repeat refine zR ?_
  refine yG (j:=O D) (off:=0) (v:=U .u64 (s:Int)) R8 ω ⟨Z,ru⟩ a hb (λ_=>rfl) R3 (λ_=>rfl) ω λ_=>?_;rw[Dl,yk,Nc _ u];refine Zg ?_;have T:s<18446744073709551616:=by rw[J];exact BQ
  have R:c'<=1:=by rw[q];split<;>decide
  have S:s+y+c=x+18446744073709551616*c':=by rw[J,q];exact ND W (by first|exact a5|decide) F
  refine goOn (D++[s],c') Aj ⟨ω,ω,ω,ω,ω,eC,CR⟩ ⟨ω,λz B=>by
   obtain rfl|B:=DA.1 B;rfl;exact G z B,λz B I=>(zm I).trans (i z B I),λh=>AI,zg _ _ _,kF,Gt g T,R,?_⟩
  simp only;rw[C1,Db,yO,zQ u,zQ hy,Dj];have:=vK p S;omega
 have a4:Z3.take (O D)=Z3:=by rw[hDY,Ds]
 rw[a4]at p;refine Zj ?_;refine ye (α:=List Nat×Nat) (λz=>[(0,Y (ξ ⟨b,0,θ⟩) (O X) cX),(4,U .u64 (z.2:Int)),(7,U .i64 (O z.1:Int))])
  (λz h' Z0 w=>n=Z0/\(∀x∈w,x=b)/\ExtT n b h h'/\(w=[]->h'=h)/\h' b=ξ (.row (u64s (z.1++X.drop (O z.1))) e)/\O z.1<=O X/\Kq z.1/\z.2<=1/\wv z.1+wv Z3=wv (X.take (O z.1))+z.2*18446744073709551616^O z.1) (λz=>O X-O z.1)
  (D,c) ⟨ω,ω,By,CR⟩ ⟨ω,G,i,H,a,by show O D<=_;omega,g,F,p⟩ (by show O X-O D<LL;unfold LL;omega) ?_
 rintro⟨D,c⟩ t h1 _ w ⟨rfl,G,i,H,a,K,g,F,p⟩;simp only at a K g F p;refine zN ?_;by_cases hc0:c=0;.refine Zb ?_;exact a0 _ _ _ D c G i H a K g p hc0
 by_cases hDX:O D=O X;.refine Zb ?_;refine a0 _ _ _ D c G i H a K g p ?_;have a7:=wW g;rw[hDX,Ds]at p;rw[hDX]at a7;obtain h|h:=Fi c;exact h;have:=C9 (18446744073709551616^O X) h;omega
 obtain⟨x,u⟩:∃x,X[O D]?=ξ x:=⟨X[O D]'Z,CW Z⟩;have W:=hX.get u;have Z1:=jK (cap:=cX) hb a eP;rw[show(D++X.drop (O D)).length=O X from by rw[C1,DN];omega]at Z1;refine Zk ?_;refine yE (f:=λd:Nat=>U .u64 (d:Int)) (j:=O D) R7 Z1 R2 (uy u) (λ_=>rfl) R4 λ_=>?_;repeat refine zR ?_
 refine rn (x:=x) (y:=0) (c:=c) R5 F ?_;obtain⟨s,J⟩:∃s,s=(x+18446744073709551616-0-c)%18446744073709551616:=⟨_,ω⟩;obtain⟨c',q⟩:∃c',c'=(if 0+c<=x then 0 else 1):=⟨_,ω⟩;rw[<-J,<-q];repeat refine zR ?_
 refine yG (j:=O D) (off:=0) (v:=U .u64 (s:Int)) R8 ω ⟨Z,ru⟩ a hb (λ_=>rfl) R3 (λ_=>rfl) ω λ_=>?_;rw[Dl,yk,Nc _ u];refine Zg ?_;have T:s<18446744073709551616:=by rw[J];exact BQ
 have R:c'<=1:=by rw[q];split<;>decide
 have S:s+0+c=x+18446744073709551616*c':=by rw[J,q];exact ND W (by first|exact a5|decide) F
 refine goOn (D++[s],c') Al ⟨ω,ω,eC,CR⟩ ⟨ω,λz B=>by
  obtain rfl|B:=DA.1 B;rfl;exact G z B,λz B I=>(zm I).trans (i z B I),λh=>AI,zg _ _ _,kF,Gt g T,R,?_⟩
 simp only;rw[C1,Db,yO,zQ u,Dj];have:=vK p S;omega
def xr{n:Nat}{h:HF}(hb:b<3*n)(a:h b=ξ (.row (u64s L) e))(hl:O L=l):Sl h n 1 (Y (ξ ⟨b,0,θ⟩) l l) (u64s L):=by subst hl;exact jK hb a CS
def xD(h:Kq L):NW (yf L)/\wv (yf L)=wv L:=⟨NW.trim h,Oh _ _⟩
def Pu(n:Nat)(v u1 u2:ψ):Prop:=xC n v\/v=u1\/v=u2
def dK(k:Nat){h:HF}{n:Nat}(H:Sl h n 1 (Y a1 l1 c1) (u64s A))(I:Sl h n 1 (Y a2 l2 c2) (u64s C))(nA:NW A)(nC:NW C)(hb:O A<100000000/\O C<100000000):
  CF (Kp (k+2)) 141 [Y a1 l1 c1,Y a2 l2 c2] h n λv h' N w=>∃L,ResW n h v h' N w L/\wv L=wv A+wv C/\Pu n v (Y a1 l1 c1) (Y a2 l2 c2):=by
 refine zw (fn:=Tryz.f141) R4 ?_;have e1:=H.lenW;have e2:=I.lenW;subst e1 e2;refine mM ?_;refine zM ?_;refine st_I (ik:=.i64) (a:=(O A:Int)) R5<|zM ?_;refine st_I (ik:=.i64) (a:=(O C:Int)) R5<|lW R6 ?_;simp only[yu,xg,zK,yY];refine yj (α:=(Option Addr×Nat×List Nat)×(Option Addr×Nat×List Nat)) (λz=>[(0,Y z.1.1 (O z.1.2.2) z.1.2.1),(1,Y z.2.1 (O z.2.2.2) z.2.2.1)]) (λz h' N w=>h=h'/\n=N/\w=[]/\Sl h n 1 (Y z.1.1 (O z.1.2.2) z.1.2.1) (u64s z.1.2.2)/\Sl h n 1 (Y z.2.1 (O z.2.2.2) z.2.2.1) (u64s z.2.2.2)/\NW z.1.2.2/\NW z.2.2.2/\O z.2.2.2<=O z.1.2.2/\O z.1.2.2<100000000/\wv z.1.2.2+wv z.2.2.2=wv A+wv C/\(Y z.1.1 (O z.1.2.2) z.1.2.1=Y a1 (O A) c1\/Y z.1.1 (O z.1.2.2) z.1.2.1=Y a2 (O C) c2)) ?_ ?_;by_cases hlt:O A<O C;rw[ze eU];refine mM ?_;exact zA ((a2,c2,C),(a1,c1,A)) P2 ⟨ω,ω,ω,I,H,nC,nA,AV,hb.2,EE _ _,.inr ω⟩;rw[za eS];refine zN ?_;exact zA ((a1,c1,A),(a2,c2,C)) P2 ⟨ω,ω,ω,H,I,nA,nC,AW,hb.1,ω,.inl ω⟩;rintro⟨⟨a,c,X⟩,⟨a',c',Z3⟩⟩ t _ _ _ ⟨rfl,rfl,rfl,J,K,u,Z1,D,W,q,hv⟩;simp only at J K u Z1 D W q hv;rw[<-q];refine zN ?_;by_cases hY0:O Z3=0;refine Zi ?_;rw[De.1 hY0];exact retH _ ⟨ω,(zi ω),ω⟩ ⟨X,⟨ω,CS,FI _ _,J,u⟩,ω,.inr hv⟩;refine Zt ?_;refine vB (len:=O X+1) (cap:=O X+1) R9 Z ?_;rw[show zn (U .u64 0)=[U .u64 0]from ω,xO];refine Zc ?_;have B:=J.ext (Hv (h:=h) (b:=3*n+2) (x:=ξ (.row (u64s (C3 (O X+1) 0)) 164)) (show 3*n<=3*n+2 from Z)) (Du n);refine lZ (m:=O X) R7 (uX B) Zq (zg _ _ _) (by rw[zL,zL];simp) (xW X) aD ?_;rw[uk,zL,rf,<-vg,J2,show (O X)+1-O X=1 from Z];generalize hh:upd h (3*n+2) _=s;have p:∃e,s (3*n+2)=ξ (.row (u64s (X++[0])) e):=⟨_,gP⟩;have⟨e,p⟩:=p;have G:Ko n h s:=by rw[<-hh];exact Cy
 have g:O (X++[0])=O X+1:=by simp
 have F:wv (X++[0])=wv X:=by rw[yO,EJ,DV]
 have M:wv (X++[0])+wv Z3<18446744073709551616^O (X++[0]):=(by have s:=wW u.1;have R:=wW Z1.1;have h3:18446744073709551616^O Z3<=18446744073709551616^O X:=Dd zd D;rw[F,g,Dj];omega);refine kG ?_;have i:=Yp k (h:=s) (n:=n+1) (b:=3*n+2) (X:=X++[0]) (cX:=O X+1) Z p Z (Gt u.1 zd) (K.ext G (Du n)) Z1.1 (K.below.off Z) Z Z M;rw[g]at i;refine zF _ R5 i ?_;rintro _ R _ w2⟨L,⟨a3,rfl,a4,Z0⟩,S,a5,T⟩;try simp only[tH]
 rw[zV (w:=[]) λy hy=>by rw[a3 y hy];show 3*n<=3*n+2;omega];refine Zc ?_;have a0:=xi k (h:=R) (n:=n+1) (a:=ξ ⟨3*n+2,0,θ⟩) (len:=O X+1) (cap:=O X+1) (l:=L) Z (λ_ e=>by injection e with e;rw[<-e]) (xr Z Z0 Z);refine zF _ R5 a0 ?_;rintro _ _ _ _⟨rfl,rfl,rfl,rfl,hs⟩;refine oQ ?_;have⟨t1,t2⟩:=xD S;exact retH _ ⟨ω,(zi ω),ω⟩ ⟨_,⟨ω,Du n,λb hb=>(a4 b Z Z).trans (G b hb),hs,t1⟩,by rw[t2,T,F],.inl aD⟩
def fe(k:Nat){h:HF}{n:Nat}(u:Sl h n 1 (Y a1 l1 c1) (u64s A))(B:Sl h n 1 (Y a2 l2 c2) (u64s C))(F:NW A)(S:NW C)(hb:O A<100000000)(J:wv C<=wv A):
  CF (Kp (k+2)) 142 [Y a1 l1 c1,Y a2 l2 c2] h n λv h' n' w=>∃L,ResW n h v h' n' w L/\wv L=wv A-wv C/\Pu n v (Y a1 l1 c1) (Y a2 l2 c2):=by
 refine zw (fn:=Tryz.f142) R4 ?_;have T:=u.lenW;have W:=B.lenW;subst T W;have g:O C<=O A:=(by obtain D|D:=En (O A) (O C);have:=F.len_lt S D;omega;exact D);refine mM ?_;by_cases hC0:O C=0;refine Zi ?_;rw[De.1 hC0];exact retH _ ⟨ω,(zi ω),ω⟩ ⟨A,⟨ω,CS,FI _ _,u,F⟩,ω,.inr (.inl ω)⟩;refine Zr ?_;refine zF _ R5 (ub k u Z) ?_;rintro v1 h1 n1 _⟨rfl,q,s,a3,I⟩;obtain⟨b,rfl,_,i,p,K,_⟩:=(I (λe=>by rw[e]at g;simp at g;exact hC0 gY)).inv2 Z;refine Zc ?_;refine zF _ R5 (mB k (cX:=O A) p K CS F.1 (B.ext s q) S.1 (B.below.off Z) g Z J) ?_;rintro _ Z3 n2 w2⟨L,⟨Z1,rfl,R,M⟩,G,H,a0⟩;try simp only[tH]
 rw[zV (w:=[]) λy hy=>by rw[Z1 y hy];exact i];refine Zc ?_;have N:=xi k (h:=Z3) (n:=n2) (a:=ξ ⟨b,0,θ⟩) (len:=O A) (cap:=O A) (l:=L) Z (λ_ e=>by injection e with e;rw[<-e]) (xr p M H);refine zF _ R5 N ?_;rintro _ _ _ _⟨rfl,rfl,rfl,rfl,hs⟩;refine oQ ?_;have⟨t1,t2⟩:=xD G;exact retH _ ⟨ω,(zi ω),ω⟩ ⟨_,⟨ω,q,λc Z0=>(R c Z Z).trans (s c Z0),hs,t1⟩,by rw[t2];omega,.inl i⟩
section
variable {off:Nat}
section
variable {X:CtxF}{r:List Oper}{d:Tmp}
def rt{lo:Operand}{j u:Int}(m a:Nat)(g:qu X ops t o d (o.op=.slice ty x (ξ lo) (ξ hi) θ/\X.E.und ty=ξ (.slice e)/\X.E.inf e=ξ (sz,bt,z)/\Kn t x=Y (ξ ⟨b,off,θ⟩) len cap/\Kn t lo=U ik j/\Kn t hi=U ik' u))(hm:j=(m:Int))(q:u=(a:Int))(K:m<=a/\a<=cap/\m<cap)
  (k:EO X ops r ⟨upd t d (Y (ξ ⟨b,off+m*sz,θ⟩) (a-m) (cap-m)),h,n,w⟩ Q):EO X ops (o::r) ⟨t,h,n,w⟩ Q:=by
 have⟨g,F,H,s,I,i,J,G,p⟩:=g;refine zS ⟨g,F,H,(by rw[s];rfl)⟩ ?_ k;rw[s];subst hm q;show xc X.E ty (Kn t x) (ξ (Kn t lo)) (ξ (Kn t hi))=_;rw[J,G,p];have y:(0:Int)<=(a:Int)/\(a:Int)<=cap:=Z;have v:(0:Int)<=(m:Int)/\(m:Int)<=a:=Z;have f:DC cap m=χ:=by
  cases f:DC cap m with
  |false=>rfl
  |true=>have:=Dt f;omega
 have B:(gro b&&(DC 1 m&&DC cap m))=χ:=by rw[f];simp
 have D:offA cap m sz ⟨b,off,θ⟩=⟨b,off+m*sz,θ⟩:=by
  unfold offA;have:D5 cap m=χ:=by
   cases f:D5 cap m with
   |false=>rfl
   |true=>have:=DU f;omega
  rw[this,wO]
 simp only[xc,I,i,KV,CQ y,CQ v,Ew,B,D]
end
def dP{h:HF}{n:Nat}{P:List Nat}(hb:b<3*n)(f:h b=ξ (.row (u64s (P++(Z0++S))) e))(a:O Z0<=cap):Sl h n 1 (Y (ξ ⟨b,O P,θ⟩) (O Z0) cap) (u64s Z0):=by refine .at_ hb f ω a (by rw[zL];simp only[C1];omega) ?_;rw[rf,re,Hc ω,D1,JG rfl]
def kg{P D:List Nat}{x:Nat}(d:Nat)(hx:Z0[O D]?=ξ x):(P++((D++Z0.drop (O D))++S)).set (O P+O D) d=P++(((D++[d])++Z0.drop (O (D++[d])))++S):=by have a:O D<O Z0:=(C4.1 hx).1;rw[Ej _ _ Z,show (O P)+O D-O P=O D from Z,List.set_append_left _ _ eP,Nc d hx]
def qW{v w:Nat}(hv:v<18446744073709551616)(a:w<18446744073709551616):v*w<=340282366920938463426481119284349108225:=Dy (DG (JP hv) (JP a)) zd
theorem be{W z v w s:Nat}(a:V+c*P=Z4+W*w)(f:18446744073709551616*c'+s=z+v*w+c):V+P*s+c'*(P*18446744073709551616)=Z4+P*z+(W+P*v)*w:=by grind
def li(k:Nat){h:HF}{n cZ:Nat}{F:Option Addr}{P X:List Nat}{w:Nat}(hb:b<3*n)(R:h b=ξ (.row (u64s (P++(Z0++S))) e))(ad:O Z0<=cZ)(hZ:Kq Z0)(J:Sl h n 1 (Y F l cX) (u64s X))(hX:Kq X)(ho:KL b (Y F l cX))(hl:O Z0=O X)(ac:O X<1000000000)(i:w<18446744073709551616):
  CF (Kp (k+2)) 150 [Y (ξ ⟨b,O P,θ⟩) (O Z0) cZ,Y F l cX,U .u64 (w:Int)] h n λv m n' W=>∃(L:List Nat) (c:Nat),v=U .u64 (c:Int)/\c<18446744073709551616/\RowW n h b e m n' W (P++(L++S))/\Kq L/\O L=O Z0/\wv L+c*18446744073709551616^O Z0=wv Z0+wv X*w:=by
 refine rT (fn:=Tryz.f150) R4 ?_;have a6:=J.lenW;subst a6;refine mM ?_;refine Zg ?_;refine ye (α:=List Nat×Nat) (λz=>[(0,Y (ξ ⟨b,O P,θ⟩) (O Z0) cZ),(2,U .u64 (w:Int)),(7,U .u64 (z.2:Int)),(14,Y F (O X) cX),(15,U .i64 (O X:Int)),(16,U .i64 (O z.1:Int))])
  (λz m n' W=>n=n'/\(∀x∈W,x=b)/\ExtT n b h m/\(W=[]->m=h)/\m b=ξ (.row (u64s (P++((z.1++Z0.drop (O z.1))++S))) e)/\O z.1<=O X/\Kq z.1/\z.2<18446744073709551616/\wv z.1+z.2*18446744073709551616^O z.1=wv (Z0.take (O z.1))+wv (X.take (O z.1))*w) (λz=>O X-O z.1)
  ([],0) P6 ⟨ω,λx u=>CO u C6,ExtT.refl _ _ _,λ_=>rfl,R,CT,H7,s9,qe⟩ AJ ?_
 rintro⟨D,c⟩ t h1 _ W ⟨rfl,hW,B,ab,g,hD,q,hc,G⟩;simp only at g hD q hc G;refine zN ?_;by_cases hDX:O D=O X;refine Zj ?_;have a0:Z0.drop (O D)=[]:=by rw[hDX,<-hl,EI]
 rw[a0,DJ]at g;rw[hDX,Ds,<-hl,Ds]at G;have Z1:∃(L:List Nat) (c':Nat),U .u64 (c:Int)=U .u64 (c':Int)/\c'<18446744073709551616/\RowW n h b e h1 n W (P++(L++S))/\Kq L/\O L=O Z0/\wv L+c'*18446744073709551616^O Z0=wv Z0+wv X*w:=⟨D,c,ω,hc,⟨hW,ω,B,g⟩,q,Z,G⟩;refine⟨ω,[U .u64 (c:Int)],ω,Z1,λi=>?_⟩;have i:W=[]:=i;subst i;rw[ab rfl]at Z1;exact Z1;obtain⟨v,T⟩:∃x,X[O D]?=ξ x:=⟨X[O D]'Z,CW Z⟩;obtain⟨z,H⟩:∃x,Z0[O D]?=ξ x:=⟨Z0[O D]'Z,CW Z⟩;have M:=hX.get T;have ae:=hZ.get H;have s:(D++Z0.drop (O D)).length=O Z0:=by rw[C1,DN];omega
 have K:=dP (cap:=cZ) hb g Z;rw[s]at K;have aa:=qW M i;refine Zk ?_;refine yE (f:=λd:Nat=>U .u64 (d:Int)) (j:=O D) R7 (J.extW B ho) R2 T (λ_=>rfl) R4 λ_=>?_;refine Zc ?_;refine yi _ R5 (pC k h1 n M i) ?_;rintro _ rfl;obtain⟨p,hp⟩:∃p,p=v*w:=⟨_,ω⟩;rw[<-hp]at aa⊢;obtain⟨hi,a5⟩:∃x,x=p/18446744073709551616:=⟨_,ω⟩;obtain⟨Z3,a7⟩:∃x,x=p%18446744073709551616:=⟨_,ω⟩;rw[<-a5,<-a7];refine Zc ?_;refine vt (x:=Z3) (y:=c) (c:=0) R5 zd ?_;obtain⟨s1,a8⟩:∃x,x=(Z3+c+0)%18446744073709551616:=⟨_,ω⟩;obtain⟨c1,a3⟩:∃x,x=(Z3+c+0)/18446744073709551616:=⟨_,ω⟩;rw[<-a8,<-a3];refine Zv ?_;refine yT (a:=hi) (b:=c1) R6 Z<|Zc ?_;refine yE (f:=λd:Nat=>U .u64 (d:Int)) (j:=O D) R7 K R2 (uy H) (λ_=>rfl) R4 λ_=>?_;repeat refine zR ?_
 refine vt (x:=z) (y:=s1) (c:=0) R5 zd ?_;obtain⟨I,a9⟩:∃x,x=(z+s1+0)%18446744073709551616:=⟨_,ω⟩;obtain⟨c2,a4⟩:∃x,x=(z+s1+0)/18446744073709551616:=⟨_,ω⟩;rw[<-a9,<-a4];repeat refine zR ?_
 refine yG (j:=O D) (off:=O P) (v:=U .u64 (I:Int)) R8 ω ⟨Z,by rw[zL,C1,C1,s];omega⟩ g hb (λ_=>rfl) R3 (λ_=>rfl) ω λ_=>?_;rw[yk,kg _ H];refine Zv ?_;refine yT (a:=hi+c1) (b:=c2) R6 Z<|Zg ?_;refine goOn (D++[I],hi+c1+c2) (by show O X-O (D++[I])<O X-O D;rw[C1,Db];omega) ⟨ω,ω,ω,ω,ω,eC,CR⟩ ⟨ω,λx u=>by
  obtain rfl|u:=DA.1 u;rfl;exact hW x u,λy hy N=>(zm N).trans (B y hy N),λh=>AI,zg _ _ _,by show(D++[I]).length<=_;rw[C1,Db];omega,Gt q Z,by show hi+c1+c2<_;omega,?_⟩
 simp only;rw[C1,Db,yO,zQ T,zQ H,Dj];exact be G (by rw[<-hp];omega)
theorem Yq{P X:List Nat}{w:Nat}(a:O L=O Z0)(f:wv L+c*18446744073709551616^O Z0=wv Z0+wv X*w):wv (P++(L++[c]))=wv (P++Z0)+wv X*(18446744073709551616^O P*w):=by grind [wZ,yO]
def fV(k:Nat){h:HF}{n:Nat}(H:Sl h n 1 (Y a1 l1 c1) (u64s A))(I:Sl h n 1 (Y a2 l2 c2) (u64s C))(nA:NW A)(nC:NW C)(hb:O A<100000000/\O C<100000000)(a0:O A<40\/O C<40):
  CF (Kp (k+3)) 120 [Y a1 l1 c1,Y a2 l2 c2] h n λv s u w=>∃L,ResW n h v s u w L/\wv L=wv A*wv C/\Pu n v (Y a1 l1 c1) (Y a2 l2 c2):=by
 refine zw (fn:=Tryz.f120) R4 ?_;have e1:=H.lenW;have e2:=I.lenW;subst e1 e2;refine mM ?_;refine zM ?_;refine st_I (ik:=.i64) (a:=(O A:Int)) R5<|zM ?_;refine st_I (ik:=.i64) (a:=(O C:Int)) R5<|lW R6 ?_;simp only[yu,xg,zK,yY];refine yj (α:=(Option Addr×Nat×List Nat)×(Option Addr×Nat×List Nat)) (λz=>[(0,Y z.1.1 (O z.1.2.2) z.1.2.1),(1,Y z.2.1 (O z.2.2.2) z.2.2.1)]) (λz s u w=>h=s/\n=u/\w=[]/\Sl h n 1 (Y z.1.1 (O z.1.2.2) z.1.2.1) (u64s z.1.2.2)/\Sl h n 1 (Y z.2.1 (O z.2.2.2) z.2.2.1) (u64s z.2.2.2)/\NW z.1.2.2/\NW z.2.2.2/\O z.2.2.2<=O z.1.2.2/\O z.2.2.2<40/\O z.1.2.2<100000000/\wv z.1.2.2*wv z.2.2.2=wv A*wv C/\(Y z.1.1 (O z.1.2.2) z.1.2.1=Y a1 (O A) c1\/Y z.1.1 (O z.1.2.2) z.1.2.1=Y a2 (O C) c2)) ?_ ?_;by_cases hlt:O A<O C;rw[ze eU];refine mM ?_;exact zA ((a2,c2,C),(a1,c1,A)) P2 ⟨ω,ω,ω,I,H,nC,nA,AV,by show O A<40;omega,hb.2,C5 _ _,.inr ω⟩;rw[za eS];refine zN ?_;exact zA ((a1,c1,A),(a2,c2,C)) P2 ⟨ω,ω,ω,H,I,nA,nC,AW,by show O C<40;omega,hb.1,ω,.inl ω⟩;rintro⟨⟨a,c,X⟩,⟨a',c',Z3⟩⟩ t _ _ _ ⟨rfl,rfl,rfl,K,M,nX,nY,a8,T,a7,q,hv⟩;simp only at K M nX nY a8 T a7 q hv;rw[<-q];refine Za ?_;refine st_I (ik:=.i64) (a:=(O X:Int)) R5<|uI (a:=(O X:Int)) (b:=1) R6 Z<|st_I (ik:=.i64) (a:=((O X:Int)+1).tdiv 2) ⟨ω,ω,ω,ω,(by show ξ (U .i64 (IntKind.wrap .i64 _))=_;rw[vZ (by have:=IA (a:=(O X:Int)+1) (b:=2) Z Z;have:=Int.tdiv_le_self (a:=(O X:Int)+1) (b:=2) Z;omega)])⟩ ?_;refine oQ ?_;by_cases hY0:O Z3=0;refine Zi ?_;exact retH _ ⟨ω,(zi ω),ω⟩ ⟨[],⟨ω,CS,FI _ _,.nil (.inl ω),Kl⟩,by rw[De.1 hY0];rfl,.inl trivial⟩;refine lF ?_;simp only[yu,xg,zK,yY];refine yj (α:=Bool) (λz=>[(0,Y a (O X) c),(1,Y a' (O Z3) c'),(32,CV z)]) (λz s u w=>h=s/\n=u/\w=[]/\(z=φ->wv Z3=1)) ?_ ?_;by_cases hY1:O Z3=1;obtain⟨y,rfl⟩:=Gi.1 hY1;rw[show[y].length=1 from rfl]at M⊢;refine kG ?_;refine yE (f:=λd:Nat=>U .u64 (d:Int)) (l:=[y]) (j:=0) R7 M ⟨ω,cA⟩ ω (λ_=>rfl) R4 λ_=>?_;by_cases hy:y=1;refine oQ ?_;exact zA φ P3 ⟨ω,ω,ω,λ_=>by rw[pP,hy]⟩;refine oQ ?_;exact zA χ P3 ⟨ω,ω,ω,λh=>by cases h⟩;refine mM ?_;exact zA χ P3 ⟨ω,ω,ω,λh=>by cases h⟩;rintro z t _ _ _⟨rfl,rfl,rfl,hz⟩;cases z with
 |true=>
  rw[ze rfl];refine mM ?_;exact retH _ ⟨ω,(zi ω),ω⟩ ⟨X,⟨ω,CS,FI _ _,K,nX⟩,by rw[hz ω,D1],.inr hv⟩
 |false=>
 rw[za rfl];refine mM ?_;rw[ze rfl];refine kG ?_;refine vB (len:=O X+O Z3) (cap:=O X+O Z3) R9 Z ?_;rw[show zn (U .u64 0)=[U .u64 0]from ω,xO];generalize hh:upd h (3*n+2) _=G;have g:∃e,G (3*n+2)=ξ (.row (u64s (C3 (O X) 0++C3 (O Z3) 0)) e):=⟨_,by rw[<-hh,zg,Ic]⟩;have⟨e,g⟩:=g;have p:Ko n h G:=by rw[<-hh];exact Cy
 refine Zg ?_;refine ye (α:=Nat×List Nat) (λz=>[(0,Y a (O X) c),(6,Y (ξ ⟨3*n+2,0,θ⟩) (O X+O Z3) (O X+O Z3)),(53,Y a' (O Z3) c'),(54,U .i64 (O Z3:Int)),(55,U .i64 (z.1:Int))])
  (λz s u w=>u=n+1/\w=[]/\Ko n h s/\s (3*n+2)=ξ (.row (u64s (z.2++C3 (O Z3-z.1) 0)) e)/\O z.2=O X+z.1/\Kq z.2/\z.1<=O Z3/\wv z.2=wv X*wv (Z3.take z.1)) (λz=>O Z3-z.1)
  (0,C3 (O X) 0) P5 ⟨ω,ω,p,g,cA,ap5 _,CT,by simp[wv,dv,pc]⟩ AC ?_
 rintro⟨i,D⟩ t G _ _ ⟨rfl,rfl,p,g,N,B,hi,J⟩;simp only at g N B hi J;refine zN ?_;by_cases hiY:i=O Z3;subst hiY;rw[Ec,Fp,DJ]at g;rw[Ds]at J;refine Zt ?_;have aa:=xi (k+1) (h:=G) (n:=n+1) (a:=ξ ⟨3*n+2,0,θ⟩) (len:=O X+O Z3) (cap:=O X+O Z3) (l:=D) Z (λ_ e=>by injection e with e;rw[<-e]) (xr Z g N);refine zF _ R5 aa ?_;rintro _ _ _ _⟨rfl,rfl,rfl,rfl,hs⟩;refine oQ ?_;have⟨t1,t2⟩:=xD B;exact retH _ ⟨ω,(zi ω),ω⟩ ⟨_,⟨ω,Du n,p,hs,t1⟩,by rw[t2,J],.inl aD⟩;obtain⟨w,hw⟩:∃x,Z3[i]?=ξ x:=⟨Z3[i]'Z,CW Z⟩;have ac:=nY.1.get hw;obtain⟨P,Z0,a5,hP,W⟩:∃P Z0,D=P++Z0/\O P=i/\O Z0=O X:=⟨D.take i,D.drop i,(Eb i D).symm,gQ,by rw[DN];omega⟩;subst a5 hP;rw[DH]at g;have a6:=K.ext p (Du n);refine Zk ?_;refine yE (f:=λd:Nat=>U .u64 (d:Int)) (j:=O P) R7 (M.ext p (Du n)) R2 hw (λ_=>rfl) R4 λ_=>?_;refine Zc ?_;refine rt (O P) (O P+O X) R9 ω ω Z ?_;rw[show 0+O P*1=O P from Z,show (O P)+O X-O P=O Z0 from Z];repeat refine zR ?_
 refine zF _ R5 (li k (n:=n+1) (b:=3*n+2) Z g Z (λd hd=>B d (by simp[hd])) a6 nX.1 (K.below.off Z) W Z ac) ?_;rintro _ h2 _ w2⟨L,cc,rfl,a9,⟨ab,rfl,ad,R⟩,a3,F,a4⟩;try simp only[tH]
 rw[zV (w:=[]) λy hy=>by rw[ab y hy];show 3*n<=3*n+2;omega];obtain⟨m,hm⟩:∃m,O Z3-O P=m+1:=⟨O Z3-O P-1,Z⟩;rw[hm,<-DH]at R;have Z1:O (P++L)=O P+O X:=by rw[C1,F,W]
 refine uH (j:=O P+O X) (v:=U .u64 (cc:Int)) R8 ω ⟨Z,by rw[zL,C1,Z1,DI];omega⟩ R aD (λ_=>rfl) R3 (λ_=>rfl) ω λ_=>?_;rw[yk,<-Z1,cI];refine Zg ?_;refine goOn (O P+1,P++(L++[cc])) (by show O Z3-(O P+1)<O Z3-O P;omega) P5 ⟨ω,ω,λb hb=>(zm Z).trans ((ad b Z Z).trans (p b hb)),?_,?_,?_,by show O P+1<=_;omega,?_⟩;refine(zg _ _ _).trans ?_;simp only;rw[show (O Z3)-(O P+1)=m from Z,DH P L];simp only;rw[C1,C1,F,W,Db];omega;exact Kq.append (λd hd=>B d (by simp[hd])) (Gt a3 a9);simp only;rw[Yq F a4,J,zQ hw,DW]
end
theorem Yr{P V Z4 W z v w c s c':Nat}(a:V+W*w=Z4+c*P)(b:s+v*w+c=z+18446744073709551616*c'):V+P*s+(W+P*v)*w=Z4+P*z+c'*(P*18446744073709551616):=by grind
def Ys(k:Nat){h:HF}{n b cZ cX l:Nat}{F:Option Addr}{P Z0 S X:List Nat}{e:TypeId}{w:Nat}(hb:b<3*n)(V:h b=ξ (.row (u64s (P++(Z0++S))) e))(ad:O Z0<=cZ)(hZ:Kq Z0)(N:Sl h n 1 (Y F l cX) (u64s X))(hX:Kq X)(ho:KL b (Y F l cX))(hl:O Z0=O X)(aa:O X<1000000000)(o:w<18446744073709551616):
  CF (Kp (k+2)) 186 [Y (ξ ⟨b,O P,θ⟩) (O Z0) cZ,Y F l cX,U .u64 (w:Int)] h n λv q n' W=>∃(L:List Nat) (c:Nat),v=U .u64 (c:Int)/\c<18446744073709551616/\RowW n h b e q n' W (P++(L++S))/\Kq L/\O L=O Z0/\wv L+wv X*w=wv Z0+c*18446744073709551616^O Z0:=by
 refine rT (fn:=Tryz.f186) R4 ?_;have a3:=N.lenW;subst a3;refine mM ?_;refine Zg ?_;refine ye (α:=List Nat×Nat) (λz=>[(0,Y (ξ ⟨b,O P,θ⟩) (O Z0) cZ),(2,U .u64 (w:Int)),(7,U .u64 (z.2:Int)),(14,Y F (O X) cX),(15,U .i64 (O X:Int)),(16,U .i64 (O z.1:Int))])
  (λz q n' W=>n=n'/\(∀x∈W,x=b)/\ExtT n b h q/\(W=[]->q=h)/\q b=ξ (.row (u64s (P++((z.1++Z0.drop (O z.1))++S))) e)/\O z.1<=O X/\Kq z.1/\z.2<18446744073709551616/\wv z.1+wv (X.take (O z.1))*w=wv (Z0.take (O z.1))+z.2*18446744073709551616^O z.1) (λz=>O X-O z.1)
  ([],0) P6 ⟨ω,λx A=>CO A C6,ExtT.refl _ _ _,λ_=>rfl,V,CT,H7,s9,qe⟩ AJ ?_
 rintro⟨D,c⟩ t h1 _ W ⟨rfl,hW,B,a8,g,hD,s,hc,I⟩;simp only at g hD s hc I;refine zN ?_;by_cases hDX:O D=O X;refine Zj ?_;have a0:Z0.drop (O D)=[]:=by rw[hDX,<-hl,EI]
 rw[a0,DJ]at g;rw[hDX,Ds,<-hl,Ds]at I;have Z4:∃(L:List Nat) (c':Nat),U .u64 (c:Int)=U .u64 (c':Int)/\c'<18446744073709551616/\RowW n h b e h1 n W (P++(L++S))/\Kq L/\O L=O Z0/\wv L+wv X*w=wv Z0+c'*18446744073709551616^O Z0:=⟨D,c,ω,hc,⟨hW,ω,B,g⟩,s,Z,I⟩;refine⟨ω,[U .u64 (c:Int)],ω,Z4,λo=>?_⟩;have o:W=[]:=o;subst o;rw[a8 rfl]at Z4;exact Z4;obtain⟨v,hv⟩:∃x,X[O D]?=ξ x:=⟨X[O D]'Z,CW Z⟩;obtain⟨z,K⟩:∃x,Z0[O D]?=ξ x:=⟨Z0[O D]'Z,CW Z⟩;have R:=hX.get hv;have a9:=hZ.get K;have u:(D++Z0.drop (O D)).length=O Z0:=by rw[C1,DN];omega
 have Z1:=dP (cap:=cZ) hb g Z;rw[u]at Z1;have a7:=qW R o;refine Zk ?_;refine yE (f:=λd:Nat=>U .u64 (d:Int)) (j:=O D) R7 (N.extW B ho) R2 hv (λ_=>rfl) R4 λ_=>?_;refine Zc ?_;refine yi _ R5 (pC k h1 n R o) ?_;rintro _ rfl;obtain⟨p,hp⟩:∃p,p=v*w:=⟨_,ω⟩;rw[<-hp]at a7⊢;obtain⟨J,a2⟩:∃x,x=p/18446744073709551616:=⟨_,ω⟩;obtain⟨lo,a4⟩:∃x,x=p%18446744073709551616:=⟨_,ω⟩;rw[<-a2,<-a4];refine Zc ?_;refine vt (x:=lo) (y:=c) (c:=0) R5 zd ?_;obtain⟨M,a5⟩:∃x,x=(lo+c+0)%18446744073709551616:=⟨_,ω⟩;obtain⟨G,a1⟩:∃x,x=(lo+c+0)/18446744073709551616:=⟨_,ω⟩;rw[<-a5,<-a1];refine Zv ?_;refine yT (a:=J) (b:=G) R6 Z<|Zc ?_;refine yE (f:=λd:Nat=>U .u64 (d:Int)) (j:=O D) R7 Z1 R2 (uy K) (λ_=>rfl) R4 λ_=>?_;repeat refine zR ?_
 refine rn (x:=z) (y:=M) (c:=0) R5 zd ?_;obtain⟨C,m⟩:∃x,x=(z+18446744073709551616-M-0)%18446744073709551616:=⟨_,ω⟩;obtain⟨H,i⟩:∃x,x=(if M+0<=z then 0 else 1):=⟨_,ω⟩;rw[<-m,<-i];have Z3:M<18446744073709551616:=Z;have a6:=ND (c:=0) a9 Z3 zd;rw[<-m,<-i]at a6;have ab:H<=1:=by rw[i];split<;>decide
 have ac:C<18446744073709551616:=by rw[m];exact BQ
 repeat refine zR ?_
 refine yG (j:=O D) (off:=O P) (v:=U .u64 (C:Int)) R8 ω ⟨Z,by rw[zL,C1,C1,u];omega⟩ g hb (λ_=>rfl) R3 (λ_=>rfl) ω λ_=>?_;rw[yk,kg _ K];refine Zv ?_;refine yT (a:=J+G) (b:=H) R6 Z<|Zg ?_;refine goOn (D++[C],J+G+H) (by show O X-O (D++[C])<O X-O D;rw[C1,Db];omega) ⟨ω,ω,ω,ω,ω,eC,CR⟩ ⟨ω,λx A=>by
  obtain rfl|A:=DA.1 A;rfl;exact hW x A,λy hy T=>(zm T).trans (B y hy T),λh=>AI,zg _ _ _,by show(D++[C]).length<=_;rw[C1,Db];omega,Gt s Z,by show J+G+H<_;omega,?_⟩
 simp only;rw[C1,Db,yO,zQ hv,zQ K,Dj];exact Yr I (by rw[<-hp];omega)
def Yt{B v1 v2 vr a w2 wr P:Nat}(y:2<=B)(j:B<=2*v1)(b:v2<B)(l:vr<P)(m:w2<B):B-1<=(((v1*B+a)*B+w2)*P+wr)/((v1*B+v2)*P+vr)+1:=by
 have g:0<P:=Z;have i:0<(v1*B+v2)*P+vr:=(by have:1*1<=v1*B:=DG Z Z;have:1*1<=(v1*B+v2)*P:=DG Z g;omega);obtain⟨D,rfl⟩:∃D,B=D+2:=⟨B-2,Z⟩;have o:D<=(((v1*(D+2)+a)*(D+2)+w2)*P+wr)/((v1*(D+2)+v2)*P+vr):=by
  rw[FF i];have e:(v1*(D+2)+v2)*P+vr<=(v1*(D+2)+v2+1)*P:=by rw[Dq _ 1];omega
  refine Dy (Do D e) ?_;rw[<-Dp];have f:D*(v1*(D+2)+v2+1)<=v1*(D+2)*(D+2):=by
   have c:D*(v1*(D+2)+v2+1)=D*(v1*(D+2))+D*(v2+1):=by rw[HP,DW]
   have d:v1*(D+2)*(D+2)=v1*(D+2)*D+v1*(D+2)*2:=DW _ _ _;have p:D*(v2+1)<=D*(D+2):=Do _ b;have q:(D+2)*(D+2)<=2*v1*(D+2):=C9 _ j;have s:D*(D+2)<=(D+2)*(D+2):=C9 _ Z;have u:2*v1*(D+2)=v1*(D+2)*2:=by rw[Dp,C5 2]
   rw[c,d,C5 D (v1*(D+2))];omega
  have v:=C9 P f;have w:v1*(D+2)*(D+2)*P<=((v1*(D+2)+a)*(D+2)+w2)*P:=C9 P (by rw[Dq];omega);omega
 omega
structure WinD (W V:List Nat)(m:Nat):Prop where
 wl:O W=m+3
 vl:O V=m+2
 wd:Kq W
 vd:Kq V
 top:∀x,V[m+1]?=ξ x->9223372036854775808<=x
 lt:wv W<18446744073709551616*wv V
def eO(k:Nat){h:HF}{n:Nat}{a1 a2:Option Addr}{l1 Z4 l2 c2 m:Nat}{W V:List Nat}(Z0:Sl h n 1 (Y a1 l1 Z4) (u64s W))(Z3:Sl h n 1 (Y a2 l2 c2) (u64s V))(hD:WinD W V m)(hb:m<1000000000):
  VF (Kp (k+4)) 185 [Y a1 l1 Z4,Y a2 l2 c2] h n λv=>∃q:Nat,v=U .u64 (q:Int)/\q<18446744073709551616/\wv W/wv V<=q/\q<=wv W/wv V+1:=by
 refine zO (fn:=Tryz.f185) R4 ?_;have e1:=Z0.lenW;have e2:=Z3.lenW;subst e1 e2;have⟨wl,vl,wd,vd,a8,C⟩:=hD;rw[wl]at Z0⊢;rw[vl]at Z3⊢;obtain⟨c,F⟩:∃x,V[m+1]?=ξ x:=⟨V[m+1]'Z,CW Z⟩;obtain⟨g,R⟩:∃x,V[m]?=ξ x:=⟨V[m]'Z,CW Z⟩;obtain⟨A,H⟩:∃x,W[m+2]?=ξ x:=⟨W[m+2]'Z,CW Z⟩;obtain⟨w1,S⟩:∃x,W[m+1]?=ξ x:=⟨W[m+1]'Z,CW Z⟩;obtain⟨i,I⟩:∃x,W[m]?=ξ x:=⟨W[m]'Z,CW Z⟩;have hn:=a8 c F;have a7:=vd.get F;have u:=vd.get R;have ao:=wd.get H;have ai:=wd.get S;have T:=wd.get I;have eW:wv W=((A*18446744073709551616+w1)*18446744073709551616+i)*18446744073709551616^m+wv (W.take m):=Rv wl H S I;have eV:wv V=(c*18446744073709551616+g)*18446744073709551616^m+wv (V.take m):=Pp vl F R;have a6:wv (W.take m)<18446744073709551616^m:=(by have:=wW (wd.take m);exact BL);have G:wv (V.take m)<18446744073709551616^m:=(by have:=wW (vd.take m);exact BL);rw[eW,eV]at C⊢;generalize 18446744073709551616^m=P at*;generalize wv (W.take m)=wr at*;generalize wv (V.take m)=vr at*;have ah:=Ru G u C;obtain⟨e,ht⟩:∃t,t=A*18446744073709551616+w1:=⟨_,ω⟩;rw[<-ht]at C ah⊢;have al:((e*18446744073709551616+i)*P+wr)/((c*18446744073709551616+g)*P+vr)<18446744073709551616:=(by rw[EF Z];exact C);refine Zu ?_;rw[wb rfl];repeat refine zR ?_
 refine yE (f:=λd:Nat=>U .u64 (d:Int)) (j:=m+1) R7 Z3 ⟨ω,Z⟩ F (λ_=>rfl) R4 λ_=>?_;repeat refine zR ?_
 refine yE (f:=λd:Nat=>U .u64 (d:Int)) (j:=m) R7 Z3 ⟨ω,Z⟩ R (λ_=>rfl) R4 λ_=>?_;refine Zc ?_;refine yE (f:=λd:Nat=>U .u64 (d:Int)) (j:=m+2) R7 Z0 ⟨ω,Z⟩ H (λ_=>rfl) R4 λ_=>?_;by_cases hfull:c<=A;refine Zi ?_;have h0:A=c:=Z;subst h0;refine retF _ ω (zi ω) R2 ⟨18446744073709551615,ω,by decide,Z,?_⟩;rw[ht];exact Yt (B:=18446744073709551616) zd Z u G T;refine Zb ?_;refine zl [0,0,3,7,0,0,32,112,240,0,1023,2047,4095,4095,8191,32767] ω ?_;obtain⟨b1,o1,x1,a9,rfl,am,J,o,aj,ak,L⟩:=Z0.inv Z;have l:∀{j x:Nat},W[j]?=ξ x->a9[o1+j]?=ξ (U .u64 (x:Int)):=λhj=>qG L (by rw[u64s,List.getElem?_map,hj];rfl);repeat refine zE ?_
 refine Oe R8 Z<|yd R6 (zX ω J (v:=U .u64 (A:Int)) ⟨o,(by rw[<-l H];congr 1;omega)⟩) R2 ?_;repeat refine zE ?_
 refine Oe R8 Z<|yd R6 (zX ω J (v:=U .u64 (w1:Int)) ⟨o,(by rw[<-l S];congr 1;omega)⟩) R2 ?_;repeat refine zE ?_
 refine Mv _ R7 (pH k h n (show A<c from Z) ai a7) ?_;rintro _ rfl;rw[<-ht];repeat refine zE ?_
 refine zN ?_;have Z1:=kB (B:=18446744073709551616) (v1:=c) (v2:=g) (vr:=vr) (top:=e) (w2:=i) (wr:=wr) (P:=P) Z T a6;have ab:e/c*c+e%c=e:=by rw[C5];exact CG
 have aa:e/c<18446744073709551616:=(by rw[EF Z,ht];have:(A+1)*18446744073709551616<=c*18446744073709551616:=C9 _ Z;rw[C5 18446744073709551616];omega);refine ye (α:=Nat×Nat) (λz=>[(0,Y (ξ ⟨b1,o1,θ⟩) (m+3) Z4),(5,U .i64 ((m+2:Nat):Int)),(6,U .u64 (c:Int)),(7,U .u64 (g:Int)),(8,U .u64 (z.1:Int)),(9,U .u64 (z.2:Int))])
  (λz K n' w=>h=K/\n=n'/\w=[]/\z.1<18446744073709551616/\z.2<18446744073709551616/\z.1*c+z.2=e/\((e*18446744073709551616+i)*P+wr)/((c*18446744073709551616+g)*P+vr)<=z.1) (λz=>2-z.2/9223372036854775808)
  (e/c,e%c) P6 ⟨ω,ω,ω,aa,H8 (DS _ Z) a7,ab,Z1⟩ (by show 2-e%c/9223372036854775808<LL;unfold LL;omega) ?_
 rintro⟨q,r⟩ t _ _ _ ⟨rfl,rfl,rfl,M,hr,D,a5⟩;simp only at M hr D a5;refine Zl ?_;refine yi _ R5 (pC (k+2) h n M u) ?_;rintro _ rfl;obtain⟨p,hp⟩:∃p,p=q*g:=⟨_,ω⟩;have ag:=qW M u;rw[<-hp]at ag⊢;have a3:∀t':TF,t' 4=U .u64 (q:Int)->p<=r*18446744073709551616+i->∃y:Nat,U .u64 (q:Int)=U .u64 (y:Int)/\y<18446744073709551616/\((e*18446744073709551616+i)*P+wr)/((c*18446744073709551616+g)*P+vr)<=y/\y<=((e*18446744073709551616+i)*P+wr)/((c*18446744073709551616+g)*P+vr)+1:=λ_ _ hc=>
  ⟨q,ω,M,a5,Po Z zd G D (by rw[<-hp];exact hc) M⟩
 obtain⟨s,ad⟩:∃x,x=p/18446744073709551616:=⟨_,ω⟩;obtain⟨lo,ae⟩:∃x,x=p%18446744073709551616:=⟨_,ω⟩;rw[<-ad,<-ae];have af:p=s*18446744073709551616+lo:=Z;repeat refine zR ?_
 simp only[yu,xg,zK,yY];by_cases L:s<r;refine mM ?_;rw[ze rfl];refine mM ?_;exact retF _ ω (zi ω) R2 (a3 (λ_=>U .u64 (q:Int)) ω (by
  have:(s+1)*18446744073709551616<=r*18446744073709551616:=C9 _ L;omega))
 by_cases a4:s=r/\lo<=i;obtain⟨rfl,a4⟩:=a4;refine kG ?_;refine oe R8 Z<|zT R6 J (v:=U .u64 (i:Int)) ⟨o,(by rw[<-l I];congr 1;omega)⟩ ?_;refine Zi ?_;exact retF _ ω (zi ω) R2 (a3 (λ_=>U .u64 (q:Int)) ω Z);have ac:r*18446744073709551616+i<q*g:=(by rw[<-hp,af];obtain K|K:=En r s;have:(r+1)*18446744073709551616<=s*18446744073709551616:=C9 _ K;omega;have:s=r:=Z;subst this;omega);have a0:=Oi (vr:=vr) T a6 D ac;have an:1<=q:=Dw CT a0;refine yj (α:=Unit) (λ_=>[(0,Y (ξ ⟨b1,o1,θ⟩) (m+3) Z4),(5,U .i64 ((m+2:Nat):Int)),(6,U .u64 (c:Int)),(7,U .u64 (g:Int)),(8,U .u64 (q:Int)),(9,U .u64 (r:Int)),(66,CV χ)]) (λ_ K n' w=>h=K/\n=n'/\w=[]) ?_ ?_;by_cases hc3:s=r;subst hc3;refine kG ?_;refine oe R8 Z<|zT R6 J (v:=U .u64 (i:Int)) ⟨o,(by rw[<-l I];congr 1;omega)⟩ ?_;refine oQ ?_;exact zA () P7 R3;refine mM ?_;exact zA () P7 R3;rintro _ t _ _ _⟨rfl,rfl,rfl⟩;rw[za rfl];refine Za ?_;refine ym (a:=q) (b:=1) R6 Z<|Zv ?_;refine uo (a:=r) (b:=c) R6<|oQ ?_;have N:(q-1)*c+(r+c)=e:=(by obtain⟨y,rfl⟩:∃y,q=y+1:=⟨q-1,Z⟩;rw[Dq]at D;rw[Fh];omega);by_cases hov:r+c<18446744073709551616;rw[Di hov];refine Zb ?_;exact goOn (q-1,r+c) (by show 2-(r+c)/9223372036854775808<2-r/9223372036854775808;omega) P6 ⟨ω,ω,ω,by show q-1<_;omega,hov,N,by show _<=q-1;omega⟩;rw[show(r+c)%18446744073709551616=r+c-18446744073709551616 from Z];refine Zi ?_;refine retF _ ω (zi ω) R2 ⟨q-1,ω,Z,Z,Po Z zd G N ?_ Z⟩;have h1:=qW (v:=q-1) (w:=g) Z u;have h2:18446744073709551616*18446744073709551616<=(r+c)*18446744073709551616:=C9 _ Z;omega
def fa{s:Nat}(a:s<=64):(18446744073709551616:Nat)=2^(64-s)*2^s:=by rw[<-Ef,show 64-s+s=64 from Z]
def fE{w s:Nat}(a:s<=64):w*2^s%18446744073709551616=w%2^(64-s)*2^s:=by rw[fa a,Hh]
def Yu{w s:Nat}(b:s<=64)(a:c<2^s):c|||w*2^s%18446744073709551616=c+w*2^s%18446744073709551616:=by rw[fE b,ae6,jZ a,EE]
def RU{w s:Nat}(a:s<=64)(e:c<2^s):c+w*2^s%18446744073709551616<18446744073709551616:=by have b:w%2^(64-s)+1<=2^(64-s):=DS _ (DQ zd);have d:=C9 (2^s) b;rw[Dq,Et,<-fa a]at d;rw[fE a];omega
def RV{w s:Nat}(a:s<=64)(b:w<18446744073709551616):w/2^(64-s)<2^s:=by rw[EF (DQ zd),C5,<-fa a];exact b
theorem jV(n:Nat):2^n=18446744073709551616^(n/64)*2^(n%64):=by grind [HZ,Ef,Em]
theorem Yv{w s S:Nat}(a:V+c*P=Z4*S)(d:w*S=c'*18446744073709551616+lo)(b:s=c+lo):V+P*s+c'*(P*18446744073709551616)=(Z4+P*w)*S:=by grind
def RW(m:Nat):wv (C3 m 0)=0:=pc _ _
def tL(k:Nat){a:Option Addr}(I:Sl h n 1 (Y a l c) (u64s X))(Z3:NW X)(hb:O X<100000000/\m<6400000000):
  CF (Kp (k+2)) 178 [Y a l c,U .u64 (m:Int)] h n λv G W w=>∃L,ResW n h v G W w L/\wv L=wv X*2^m/\(xC n v\/v=Y a l c):=by
 refine zw (fn:=Tryz.f178) R4 ?_;have e1:=I.lenW;subst e1;refine mM ?_;by_cases hX0:O X=0;have S:=De.1 hX0;refine Zi ?_;exact retH _ ⟨ω,(zi ω),ω⟩ ⟨X,⟨ω,CS,FI _ _,I,Z3⟩,by rw[S,show wv []=0 from ω,Ep],.inr ω⟩;by_cases hm0:m=0;refine Zi ?_;exact retH _ ⟨ω,(zi ω),ω⟩ ⟨X,⟨ω,CS,FI _ _,I,Z3⟩,by rw[hm0,EV,D1],.inr ω⟩;refine Zb ?_;rw[jV m];obtain⟨g,Z1⟩:∃x,x=m/64:=⟨_,ω⟩;obtain⟨s,hs⟩:∃x,x=m%64:=⟨_,ω⟩;rw[<-Z1,<-hs];have o:s<=64:=Z;refine zM ?_;refine xN (a:=m) (b:=64) R6 Z ?_;rw[<-Z1];refine wm (ik:=.i64) (a:=(g:Int)) R6 vT ?_;refine zM ?_;refine vO (a:=m) (b:=64) R6 Z ?_;rw[<-hs];refine Zc ?_;refine vB (len:=O X+g+1) (cap:=O X+g+1) R9 Z ?_;rw[show zn (U .u64 0)=[U .u64 0]from ω,xO];generalize hh:upd h (3*n+2) _=A;have i:∃e,A (3*n+2)=ξ (.row (u64s (C3 g 0++([]++0::C3 (O X) 0))) e):=⟨_,by rw[<-hh,zg,DR,<-GU,Ic,show g+(O X+1)=O X+g+1 from Z]⟩;have⟨e,i⟩:=i;have q:Ko n h A:=by rw[<-hh];exact Cy
 refine Zg ?_;refine ye (α:=List Nat×Nat) (λz=>[(5,U .i64 (g:Int)),(6,U .u64 (s:Int)),(7,Y (ξ ⟨3*n+2,0,θ⟩) (O X+g+1) (O X+g+1)),(29,Y a (O X) c),(30,U .i64 (O X:Int)),(31,U .i64 (O z.1:Int))])
  (λz G W w=>W=n+1/\w=[]/\Ko n h G/\G (3*n+2)=ξ (.row (u64s (C3 g 0++(z.1++z.2::C3 (O X-O z.1) 0))) e)/\O z.1<=O X/\Kq z.1/\z.2<2^s/\wv z.1+z.2*18446744073709551616^O z.1=wv (X.take (O z.1))*2^s) (λz=>O X-O z.1)
  ([],0) P6 ⟨ω,ω,q,i,CT,H7,DQ zd,qe⟩ AJ ?_
 rintro⟨D,p⟩ t A _ _ ⟨rfl,rfl,q,i,hD,B,y,H⟩;simp only at i hD B y H;have C:p<18446744073709551616:=Dm y (Dy (Dd zd o) zd);refine zN ?_;by_cases hDX:O D=O X;rw[hDX,Ec,Fp]at i;rw[hDX,Ds]at H;refine Zt ?_;have a3:=xi k (h:=A) (n:=n+1) (a:=ξ ⟨3*n+2,0,θ⟩) (len:=O X+g+1) (cap:=O X+g+1) (l:=C3 g 0++(D++[p])) dO (λ_ e=>by injection e with e;rw[<-e]) (xr Z i dO);refine zF _ R5 a3 ?_;rintro _ _ _ _⟨rfl,rfl,rfl,rfl,a2⟩;refine oQ ?_;have⟨t1,t2⟩:=xD (L:=C3 g 0++(D++[p])) ((ap5 g).append (Gt B C));refine retH _ ⟨ω,(zi ω),ω⟩ ⟨_,⟨ω,Du n,q,a2,t1⟩,?_,.inl aD⟩;rw[t2,wZ,RW,DI,Dl,yO,hDX,C5 (18446744073709551616^O X) p,H,E2];obtain⟨w,T⟩:∃x,X[O D]?=ξ x:=⟨X[O D]'Z,CW Z⟩;have a4:=Z3.1.get T;obtain⟨u,a0⟩:∃m,O X-O D=m+1:=⟨O X-O D-1,Z⟩;rw[a0]at i;have F:O (C3 g 0++(D++p::C3 (u+1) 0))=O X+g+1:=by simp;omega
 have hZ:=xr (n:=n+1) Z i F;have J:(C3 g 0++(D++p::C3 (u+1) 0))[O D+g]?=ξ p:=(by rw[Dx cA,DI,Fh,Dx CS,Ec];rfl);have K:∀d,(C3 g 0++(D++p::C3 (u+1) 0)).set (O D+g) d=C3 g 0++(D++d::C3 (u+1) 0):=λd=>(by rw[Ej _ _ cA,DI,Fh,Ej _ _ CS,Ec];rfl);have M:∀d R,(C3 g 0++(D++d::C3 (u+1) 0)).set (O D+g+1) R=C3 g 0++((D++[d])++R::C3 u 0):=λd R=>(by rw[Ej _ _ dO,DI,show (O D)+g+1-g=O D+1 from Z,Ej _ _ Z,show (O D)+1-O D=1 from Z,GU];simp);refine Zk ?_;refine yE (f:=λd:Nat=>U .u64 (d:Int)) (j:=O D) R7 (I.ext q (Du n)) R2 T (λ_=>rfl) R4 λ_=>?_;refine Zc ?_;refine yE (f:=λd:Nat=>U .u64 (d:Int)) (j:=O D+g) R7 hZ ⟨ω,Z⟩ J (λ_=>rfl) R4 λ_=>?_;refine mZ ?_;refine xK (a:=w) (s:=s) R6 o<|wG (a:=p) (b:=w*2^s%18446744073709551616) R6 ⟨C,DS _ zd⟩ ?_;rw[Yu o y];have N:=RU (w:=w) o y;obtain⟨d,Z0⟩:∃d,d=p+w*2^s%18446744073709551616:=⟨_,ω⟩;rw[<-Z0]at N⊢;refine uH (j:=O D+g) (v:=U .u64 (d:Int)) R8 Z ⟨Z,by rw[zL,F];omega⟩ i aD (λ_=>rfl) R3 (λ_=>rfl) ω λ_=>?_;rw[yk,K];generalize hh:upd A (3*n+2) _=h2;have a1:h2 (3*n+2)=ξ (.row (u64s (C3 g 0++(D++d::C3 (u+1) 0))) e):=by rw[<-hh,zg]
 have a5:Ko n h h2:=λb hb=>by rw[<-hh,zm Z,q b hb]
 refine Zl ?_;refine zM ?_;refine zR ?_;refine zR ?_;refine mZ ?_;refine ym (a:=64) (b:=s) R6 Z<|yn (a:=w) (s:=64-s) R6 Z ?_;refine uH (j:=O D+g+1) (v:=U .u64 ((w/2^(64-s):Nat):Int)) R8 Z ⟨Z,Ay⟩ a1 aD (λ_=>rfl) R3 (λ_=>rfl) ω λ_=>?_;rw[yk,M];refine Zg ?_;refine goOn (D++[d],w/2^(64-s)) (by show O X-O (D++[d])<O X-O D;rw[C1,Db];omega) ⟨ω,ω,ω,ω,ω,eC,CR⟩ ⟨ω,ω,λb hb=>(zm Z).trans (a5 b hb),?_,by show(D++[d]).length<=_;rw[C1,Db];omega,Gt B N,RV o a4,?_⟩;refine(zg _ _ _).trans ?_;simp only;rw[show (O X)-O (D++[d])=u from by rw[C1,Db];omega];simp only;rw[C1,Db,yO,zQ T,Dj];exact Yv H (jG o) Z0
def My(X:List Nat)(j s:Nat):Nat:=((X[j]?).getD 0)%2^s
def Yw{x S z a:Nat}(i:V*S+r=Z4+x%S*P)(g:z*S=x-x%S+a*18446744073709551616)(hx:x%S<=x):(V+P*z)*S+r=Z4+P*x+a*(P*18446744073709551616):=by
 have e:(V+P*z)*S=V*S+P*(z*S):=by rw[Dq,Dp]
 obtain⟨y,f⟩:∃y,x=y+x%S:=⟨x-x%S,Z⟩;have b:x-x%S=y:=Z;rw[e,g,b,DW];have d:P*x=P*y+P*(x%S):=by conv=>lhs;rw[f,DW]
 rw[d,E2 a P,C5 P (x%S)];omega
def Yx{x y s:Nat}(d:s<=64):(x/2^s|||y*2^(64-s)%18446744073709551616)*2^s=x-x%2^s+y%2^s*18446744073709551616\/18446744073709551616<=x:=by
 by_cases hx:x<18446744073709551616;left;have e:x/2^s<2^(64-s):=(by rw[EF (DQ zd),<-fa d];exact hx);have b:64-(64-s)=s:=Z;have a:=fE (w:=y) (s:=64-s) Z;rw[b]at a;rw[a,ae6,jZ e,Dq,Dp,<-fa d,EE];have:=Em x (2^s);have f:x/2^s*2^s=x-x%2^s:=by rw[C5];omega
 rw[f];right;omega
def Yy(X:List Nat)(j s:Nat):My X j s<2^s:=DS _ (DQ zd)
def RX{s x:Nat}(h:X[j]?=ξ x):My X j s=x%2^s:=by unfold My;rw[h];rfl
def RY{s:Nat}(h:O X<=j):My X j s=0:=by unfold My;rw[List.getElem?_eq_none h];exact aa9 _
def Yz(a:Kq X):wv X/2^m=wv (X.drop (m/64))/2^(m%64):=by rw[jV m,<-FB];congr 1;obtain h|h:=En (O X) (m/64);rw[FA Z,show wv []=0 from ω,EZ];exact Dm (wW a) (Dd zd Z);have b:wv (X.take (m/64))<18446744073709551616^(m/64):=(by have:=wW (a.take (m/64));rw[DK,Ee h]at this;exact this);rw[pu X (m/64) h,Hq _ _ (DQ zd),EZ b,Dl]
def om(k:Nat){a:Option Addr}(T:Sl h n 1 (Y a l c) (u64s X))(nX:NW X)(hb:O X<100000000/\m<18446744073709551616):
  CF (Kp (k+2)) 183 [Y a l c,U .u64 (m:Int)] h n λv p I w=>∃L,ResW n h v p I w L/\wv L=wv X/2^m/\xC n v:=by
 refine zw (fn:=Tryz.f183) R4 ?_;have e1:=T.lenW;subst e1;rw[Yz nX.1];obtain⟨g,C⟩:∃x,x=m/64:=⟨_,ω⟩;obtain⟨s,hs⟩:∃x,x=m%64:=⟨_,ω⟩;have B:s<=64:=Z;rw[<-C,<-hs];refine mM ?_;refine zM ?_;refine xN (a:=m) (b:=64) R6 Z ?_;rw[<-C];refine zM ?_;refine st_I (ik:=.i64) (a:=(O X:Int)) R5<|se (c:=O X) R7 Z ?_;by_cases hbig:O X<=g;refine Zi ?_;exact retH _ ⟨ω,(zi ω),ω⟩ ⟨[],⟨ω,CS,FI _ _,.nil (.inl ω),Kl⟩,by rw[FA hbig,show wv []=0 from ω,Nat.zero_div],CR⟩;refine Zr ?_;refine xN (a:=m) (b:=64) R6 Z ?_;rw[<-C];refine wm (ik:=.i64) (a:=(g:Int)) R6 vT ?_;refine zM ?_;refine vO (a:=m) (b:=64) R6 Z ?_;rw[<-hs];refine oQ ?_;obtain⟨N,hN⟩:∃N,N=O X-g:=⟨_,ω⟩;refine zM ?_;refine st_I (ik:=.i64) (a:=(O X:Int)) R5<|zM ?_;refine Ma (a:=(O X:Int)) (b:=(g:Int)) R6 Z ?_;rw[show(O X:Int)-(g:Int)=(N:Int)from Z];refine vB (len:=N) (cap:=N) R9 Z ?_;rw[show zn (U .u64 0)=[U .u64 0]from ω,xO];generalize hh:upd h (3*n+2) _=q;have i:∃e,q (3*n+2)=ξ (.row (u64s ([]++C3 N 0)) e):=⟨_,gP⟩;have⟨e,i⟩:=i;have o:Ko n h q:=by rw[<-hh];exact Cy
 have R:O (X.drop g)=N:=by rw[DN];omega
 obtain⟨Z3,W⟩:∃Z3,Z3=X.drop g:=⟨_,ω⟩;rw[<-W]at R⊢;have Z1:∀j,Z3[j]?=X[j+g]?:=λj=>by rw[W,D9,EE]
 have a9:Kq Z3:=by rw[W];exact nX.1.drop g
 refine Zg ?_;refine ye (α:=List Nat) (λD=>[(0,Y a (O X) c),(5,U .i64 (g:Int)),(6,U .u64 (s:Int)),(7,Y (ξ ⟨3*n+2,0,θ⟩) N N),(26,U .i64 (N:Int)),(27,U .i64 (O D:Int))])
  (λD p I w=>I=n+1/\w=[]/\Ko n h p/\p (3*n+2)=ξ (.row (u64s (D++C3 (N-O D) 0)) e)/\O D<=N/\Kq D/\wv D*2^s+My Z3 0 s=wv (Z3.take (O D))+My Z3 (O D) s*18446744073709551616^O D) (λD=>N-O D)
  [] P6 ⟨ω,ω,o,i,CT,H7,qe⟩ (by show N-0<LL;unfold LL;omega) ?_
 rintro D t q _ _⟨rfl,rfl,o,i,hD,K,J⟩;refine zN ?_;by_cases hDN:O D=N;rw[hDN,Ec,Fp,DJ]at i;rw[hDN,RY (X:=Z3) (j:=N) Z,Ep,DV,<-R,Ds]at J;refine Zt ?_;have a4:=xi k (h:=q) (n:=n+1) (a:=ξ ⟨3*n+2,0,θ⟩) (len:=N) (cap:=N) (l:=D) Z (λ_ e=>by injection e with e;rw[<-e]) (xr Z i hDN);refine zF _ R5 a4 ?_;rintro _ _ _ _⟨rfl,rfl,rfl,rfl,a3⟩;refine oQ ?_;have⟨t1,t2⟩:=xD K;refine retH _ ⟨ω,(zi ω),ω⟩ ⟨_,⟨ω,Du n,o,a3,t1⟩,?_,aD⟩;rw[t2,<-J,EE,Hi _ _ (DQ zd),EZ (Yy _ _ _),Dl];obtain⟨x,hx⟩:∃x,X[O D+g]?=ξ x:=⟨X[O D+g]'Z,CW Z⟩;have a6:=nX.1.get hx;have S:Z3[O D]?=ξ x:=by rw[Z1];exact hx
 obtain⟨H,a1⟩:∃m,N-O D=m+1:=⟨N-O D-1,Z⟩;rw[a1]at i;have M:=T.ext o (Du n);have G:x/2^s<18446744073709551616:=Dw (EL _ _) a6;refine Zi ?_;repeat refine zR ?_
 refine yE (f:=λd:Nat=>U .u64 (d:Int)) (j:=O D+g) R7 M ⟨ω,Z⟩ hx (λ_=>rfl) R4 λ_=>?_;refine zM ?_;refine yn (a:=x) (s:=s) R6 B ?_;refine uH (j:=O D) (v:=U .u64 ((x/2^s:Nat):Int)) R8 ω ⟨Z,by rw[zL];simp⟩ i aD (λ_=>rfl) R3 (λ_=>rfl) ω λ_=>?_;rw[yk,cI];generalize hh:upd q (3*n+2) _=h2;have A:h2 (3*n+2)=ξ (.row (u64s ((D++[x/2^s])++C3 H 0)) e):=by rw[<-hh,zg]
 have F:Ko n h h2:=λb hb=>by rw[<-hh,zm Z,o b hb]
 have a0:=T.ext F (Du n);have u:O ((D++[x/2^s])++C3 H 0)=N:=by simp;omega
 have Z0:((D++[x/2^s])++C3 H 0)[O D]?=ξ (x/2^s):=by rw[DH,Dx CS,Ec];rfl
 refine kG ?_;simp only[yu,xg,zK,yY];refine RC (α:=Nat) (λ_=>[(0,Y a (O X) c),(5,U .i64 (g:Int)),(6,U .u64 (s:Int)),(7,Y (ξ ⟨3*n+2,0,θ⟩) N N),(26,U .i64 (N:Int)),(27,U .i64 (O D:Int))])
  (λz p I w=>I=n+1/\w=[]/\Ko n h p/\p (3*n+2)=ξ (.row (u64s ((D++[z])++C3 H 0)) e)/\z<18446744073709551616/\z*2^s=x-x%2^s+My Z3 (O D+1) s*18446744073709551616) ?_ ?_
 by_cases hlast:O D+g+1<O X;obtain⟨y,hy⟩:∃x,X[O D+g+1]?=ξ x:=⟨X[O D+g+1]'Z,CW Z⟩;have a7:Z3[O D+1]?=ξ y:=by rw[Z1,show (O D)+1+g=O D+g+1 from Z];exact hy
 rw[ze eU];rw[Rz rfl];repeat refine zR ?_
 refine yE (f:=λd:Nat=>U .u64 (d:Int)) (j:=O D) R7 (xr (n:=n+1) Z A u) R2 Z0 (λ_=>rfl) R4 λ_=>?_;repeat refine zR ?_
 refine yE (f:=λd:Nat=>U .u64 (d:Int)) (j:=O D+g+1) R7 a0 ⟨ω,Z⟩ hy (λ_=>rfl) R4 λ_=>?_;refine zM ?_;refine ym (a:=64) (b:=s) R6 Z<|xK (a:=y) (s:=64-s) R6 Z<|wG (a:=x/2^s) (b:=y*2^(64-s)%18446744073709551616) R6 ⟨G,DS _ zd⟩ ?_;refine uH (j:=O D) (v:=U .u64 ((x/2^s|||y*2^(64-s)%18446744073709551616:Nat):Int)) R8 ω ⟨Z,by rw[zL,u];omega⟩ A aD (λ_=>rfl) R3 (λ_=>rfl) ω λ_=>?_;rw[yk,DH,Ej _ _ CS,Ec];refine zN ?_;refine zA (x/2^s|||y*2^(64-s)%18446744073709551616) P6 ⟨ω,ω,λb hb=>(zm Z).trans (F b hb),(zg _ _ _).trans (by rw[DH];rfl),Nat.or_lt_two_pow (n:=64) G (DS _ zd),?_⟩;rw[RX a7];exact(Yx B).resolve_right Z;rw[za eS];refine zN ?_;refine zA (x/2^s) P6 ⟨ω,ω,F,A,G,?_⟩;rw[RY Z,Ep,DV];have:=Em x (2^s);rw[C5]at this;omega;rintro z t h3 _ _⟨rfl,rfl,a5,a2,a8,hz⟩;refine mM ?_;refine goOn (D++[z]) (by show N-O (D++[z])<N-O D;rw[C1,Db];omega) ⟨ω,ω,ω,ω,ω,eC,CR⟩ ⟨ω,ω,a5,?_,Bt,Gt K a8,?_⟩;refine a2.trans ?_;rw[show N-O (D++[z])=H from by rw[C1,Db];omega];rw[C1,Db,yO,zQ S,Dj];rw[RX S]at J;exact Yw J hz (Nat.mod_le _ _)
def YA{Z3 V:List Nat}{a s:Nat}(F:O Z3=m+2)(B:NW Z3)(y:Z3[m+1]?=ξ a)(q:9223372036854775808<=a*2^s)(i:a*2^s<18446744073709551616)(Z1:s<64)(e:NW V)(j:wv V=wv Z3*2^s):
  (O V)=m+2/\(∀x,V[m+1]?=ξ x->9223372036854775808<=x)/\wv V<18446744073709551616^(m+2)/\18446744073709551616^(m+1)*9223372036854775808<=wv V:=by
 have g:wv Z3=wv (Z3.take (m+1))+18446744073709551616^(m+1)*a:=(by rw[<-zQ y,show m+1+1=O Z3 from Z,Ds]);have I:wv (Z3.take (m+1))<18446744073709551616^(m+1):=(by have:=wW (B.1.take (m+1));exact BL);have o:(a+1)*2^s<=18446744073709551616:=(by rw[fa (s:=s) Z]at i⊢;exact C9 _ (Nat.lt_of_mul_lt_mul_right i));rw[Dj _ (m+1)];generalize hP:18446744073709551616^(m+1)=P at*;have D:0<P:=Z;have f:wv V<P*18446744073709551616:=by
  rw[j,g];have J:(wv (Z3.take (m+1))+P*a)*2^s<(P*(a+1))*2^s:=(by refine EQ ?_ (DQ zd);rw[DW,D1];omega);have K:P*(a+1)*2^s<=P*18446744073709551616:=by rw[Dp];exact Do _ o
  omega
 have p:P*9223372036854775808<=wv V:=(by rw[j,g,Dq,Dp];have:=Do P q;omega);have H:O V<=m+2:=e.len_le (by rw[Dj _ (m+1),hP];exact f);have G:m+2<=O V:=(by obtain l|l:=En (O V) (m+2);have M:=wW e.1;have u:18446744073709551616^O V<=18446744073709551616^(m+1):=Dd zd Z;rw[hP]at u;omega;exact l);refine⟨Z,λx w=>?_,f,p⟩;have L:wv V=wv (V.take (m+1))+P*x:=(by rw[<-hP,<-zQ w,show m+1+1=O V from Z,Ds]);have v:wv (V.take (m+1))<P:=(by have:=wW (e.1.take (m+1));rw[DK,Ee Z,hP]at this;exact this);obtain b|b:=En x 9223372036854775808;have:=Do P b;rw[JB]at this;omega;exact b
def YB{P V:List Nat}(f:O Z0=N)(j:Kq Z0)(p:wv V<18446744073709551616^N)(h:wv ((P++(Z0++top::S)).drop (O P+1))<wv V)(o:1<=N):
  wv S=0/\wv (Z0++[top])<18446744073709551616*wv V:=by
 have e:(P++(Z0++top::S)).drop (O P+1)=(Z0++top::S).drop 1:=by rw[<-EH,Hc rfl]
 rw[e]at h;cases Z0 with
 |nil=>simp at f;omega
 |cons z Z0=>
  rw[List.cons_append,List.drop_succ_cons,DO]at h;rw[wZ,show wv (top::S)=top+18446744073709551616*wv S from rfl]at h;have g:O Z0+1=N:=by simpa using f
  have b:wv S=0:=(by obtain a|a:=Fi (wv S);exact a;have i:18446744073709551616^O Z0*(18446744073709551616*1)<=18446744073709551616^O Z0*(18446744073709551616*wv S):=Do _ (Do _ a);rw[D1,<-Dj,show Z0.length.succ=N from g]at i;rw[DW]at h;omega);refine⟨b,?_⟩;have l:wv (Z0++[top])<wv V:=(by rw[yO];rw[b,EJ,DV]at h;exact h);have q:=j z cA;show z+18446744073709551616*wv (Z0++[top])<_;omega
def YC(P Z0 S:List Nat)(top:Nat):wv (P++(Z0++top::S))=wv P+18446744073709551616^O P*(wv (Z0++[top])+18446744073709551616^(O Z0+1)*wv S):=by rw[show Z0++top::S=(Z0++[top])++S from by simp,wZ,wZ,C1,Db]
def YD{P a V Q:List Nat}{b q e:Nat}(i:O a=O Z0)(g:wv (a++[b])+wv V*q=wv (Z0++[top]))(f:e=wv (P++(Z0++top::S))+wv V*wv Q*18446744073709551616^(O P+1)):
  e=wv (P++(a++b::S))+wv V*wv (q::Q)*18446744073709551616^O P:=by rw[YC]at f⊢;rw[f,i,<-g,Dj _ (O P),show wv (q::Q)=q+18446744073709551616*wv Q from rfl];generalize 18446744073709551616^O P=A;generalize 18446744073709551616^(O Z0+1)*wv S=T;generalize wv (a++[b])=Z4;generalize wv V=v;generalize wv Q=w;rw[DW v,Dq,DW A,DW A,DW A];have j:v*(18446744073709551616*w)*A=v*w*(A*18446744073709551616):=(by rw[E2 v,C5 A,<-Dp (v*w),C5 (v*w)]);have l:A*(v*q)=v*q*A:=C5 _ _;omega
def YE{a V:List Nat}(b:O a=N)(G:O Z0=N)(i:Kq a)(l:0<wv V)(D:wv a+wv V*d=wv Z0+c*18446744073709551616^N)(u:wv (Z0++[top])/wv V<=d)(s:d<=wv (Z0++[top])/wv V+1):
  (c<=top->d=wv (Z0++[top])/wv V/\wv (a++[top-c])=wv (Z0++[top])%wv V)/\(top<c->d=wv (Z0++[top])/wv V+1/\wv (Z0++[top])%wv V+(c-top)*18446744073709551616^N=wv a+wv V):=by
 have w:=wW i;rw[b]at w;have K:wv (Z0++[top])=wv Z0+18446744073709551616^N*top:=by rw[yO,G]
 have j:∀t,wv (a++[t])=wv a+18446744073709551616^N*t:=λt=>by rw[yO,b]
 have e:=Em (wv (Z0++[top])) (wv V);have B:=DS (wv (Z0++[top])) l;obtain⟨q,H⟩:∃q,q=wv (Z0++[top])/wv V:=⟨_,ω⟩;obtain⟨r,I⟩:∃r,r=wv (Z0++[top])%wv V:=⟨_,ω⟩;rw[<-H]at e u s⊢;rw[<-I]at e B⊢;generalize 18446744073709551616^N=P at*;generalize wv V=v at*;generalize wv Z0=z at*;have p:d=q\/d=q+1:=Z;constructor;intro o;obtain⟨y,g⟩:∃y,top=c+y:=⟨top-c,Z⟩;rw[j];have f:top-c=y:=Z;have F:P*top=c*P+P*y:=by rw[g,DW,C5 P c]
 rw[f];obtain rfl|rfl:=p;exact⟨ω,Z⟩;rw[DW,D1]at D;omega;intro o;obtain⟨y,g⟩:∃y,c=top+(y+1):=⟨c-top-1,Z⟩;have f:c-top=y+1:=Z;have F:c*P=P*top+(y+1)*P:=by rw[g,Dq,C5 P top]
 have J:(y+1)*P=y*P+P:=by rw[Dq,Et]
 rw[f];obtain rfl|rfl:=p;omega;rw[DW,D1]at D;exact⟨ω,Z⟩
theorem iY(k:Nat)(hA:Sl h n 1 (Y a1 l1 c1) (u64s A))(hC:Sl h n 1 (Y a2 l2 c2) (u64s C))(nA:NW A)(nC:NW C)(hb:O A<10000000/\O C<10000000)(a9:0<wv C):
  CF (Kp (k+5)) 161 [Y a1 l1 c1,Y a2 l2 c2] h n λv p n' w=>∃vq vr Lq Lr,v=.tuple #[vq,vr]/\w=[]/\n<=n'/\Ko n h p/\Sl p n' 1 vq (u64s Lq)/\NW Lq/\Sl p n' 1 vr (u64s Lr)/\NW Lr/\wv Lq=wv A/wv C/\wv Lr=wv A%wv C/\xC n vq/\(xC n vr\/vr=Y a1 l1 c1):=by
 refine zw (fn:=Tryz.f161) R4 ?_;have e1:=hA.lenW;have e2:=hC.lenW;subst e1 e2;refine mM ?_;refine mZ ?_;refine yi _ R5 (uF (k+1) hA hC nA nC Z) ?_;rintro _ rfl;by_cases hlt:wv A<wv C
 .rw[sM hlt];refine Zi ?_;exact retH [η,Y a1 (O A) c1] R3 ⟨_,_,[],A,rfl,rfl,CS,FI _ _,.nil (.inl rfl),Kl,hA,nA,by rw[EZ hlt];rfl,by rw[Di hlt],trivial,.inr rfl⟩
 have dw:¬cmpZ (wv A) (wv C)<0:=by
  rcases En (wv C) (wv A)with h|h
  .rw[sO h];decide
  rw[show wv A=wv C from Z,jd];decide
 refine Zb ?_;by_cases hC1:O C=1
 .obtain⟨y,rfl⟩:=Gi.1 hC1;have L:=nC.1 y cA;rw[pP]at a9⊢;rw[show[y].length=1 from rfl]at hC⊢;refine Zk ?_;refine yE (f:=λd:Nat=>U .u64 (d:Int)) (l:=[y]) (j:=0) R7 hC R2 rfl (λ_=>rfl) R4 λ_=>?_;refine zF _ R5 (Yc k Z nA.1 ⟨a9,L⟩ hA) ?_;rintro _ G g _⟨v1,L1,rfl,⟨rfl,ar,az,H,cx⟩,dk,_,d9⟩;obtain⟨a3,l3,c3,rfl,_⟩:=H.len;refine Zc ?_;refine zF _ R5 (sH (k+3) G g (w:=wv A%y) (H8 (DS _ a9) L)) ?_;rintro v2 h2 n2 _⟨L2,⟨rfl,dd,a5,ax,cy⟩,dl,_,da⟩;obtain⟨a4,l4,c4,rfl,_⟩:=ax.len;refine oQ ?_;exact retH [Y a3 l3 c3,Y a4 l4 c4] R3 ⟨_,_,L1,L2,rfl,rfl,by show n<=n2;omega,az.trans a5 ar,H.ext a5 dd,cx,ax,cy,dk,dl,d9,.inl (da.mono ar)⟩
 have e0:2<=O C:=by
  rcases En (O C) 2 with h|h
  .have:O C=0:=Z;rw[De.1 this]at a9;exact CO a9 zd
  exact h
 obtain⟨m,hm⟩:∃m,O C=m+2:=⟨O C-2,Z⟩;have dz:m+2<=O A:=by
  rcases En (O A) (O C) with hl|hl
  .have:=nA.len_lt nC hl;omega
  omega
 rw[hm]at hC⊢;refine Zj ?_;obtain⟨y1,af⟩:∃x,C[m+1]?=ξ x:=⟨C[m+1]'Z,CW Z⟩;have cu:=nC.1.get af;have ct:y1≠0:=by
  obtain⟨i,d,bb⟩:=Go.Proofs.YteoagenjaemllaaGreatDoor.snoc (l:=C) (by intro e;rw[e]at hm;simp at hm);have dc:O i=m+1:=by rw[bb]at hm;simp at hm;omega
  rw[bb,<-dc,Dx CS,Ec]at af;have:d=y1:=by simpa using af
  rw[<-this];exact an3 (by rw[<-bb];exact nC)
 repeat refine zR ?_
 refine yE (f:=λd:Nat=>U .u64 (d:Int)) (j:=m+1) R7 hC ⟨rfl,Z⟩ af (λ_=>rfl) R4 λ_=>?_;refine yi _ R5 (fX (k+2) h n cu ct) ?_;rintro _⟨s,rfl,co,H,ax⟩;refine se (c:=s) R7 Z ?_;refine Zv ?_;refine zF _ R5 (tL (k+2) (m:=s) hC nC Z) ?_;rintro vV G g _⟨V,⟨rfl,ar,az,a0,nV⟩,bi,e4⟩;obtain⟨an,bq,cj,ci⟩:=YA hm nC af H ax co nV bi;obtain⟨aV,lV,cV,rfl,_⟩:=a0.len;have ao:=a0.lenW;rw[an]at ao;subst ao;refine Zc ?_;refine vB (len:=O A+1) (cap:=O A+1) R9 Z ?_;rw[show zn (U .u64 0)=[U .u64 0]from rfl,xO];generalize hh:upd G (3*g+2) _=h2;have aw:∃e,h2 (3*g+2)=ξ (.row (u64s (C3 (O A+1) 0)) e):=⟨_,mp⟩;obtain⟨eR,aw⟩:=aw;have a5:Ko g G h2:=by rw[<-hh];exact Cy
 clear hh;refine oQ ?_;refine Zo ?_;refine zF _ R5 (tL (k+2) (m:=s) (hA.ext (az.trans a5 ar) (show n<=g+1 by omega)) nA Z) ?_;rintro vS h3 o _⟨S0,⟨rfl,e5,bj,ay,nS⟩,cd,_⟩;obtain⟨aS,lS,cS,rfl,_⟩:=ay.len;have bo:=ay.lenW;subst bo;have c0:h3 (3*g+2)=_:=(bj _ Z).trans aw;have b0:=wW nA.1;have ch:wv S0<18446744073709551616^(O A+1):=by
  rw[cd,Dj];have G:(2:Nat)^s<18446744073709551616:=Nat.pow_lt_pow_right zd (show s<64 by omega);have h2:wv A*2^s<=wv A*18446744073709551616:=Do _ Z;have h3:wv A*18446744073709551616<18446744073709551616^O A*18446744073709551616:=EQ b0 zd;omega
 have b5:O S0<=O A+1:=nS.len_le ch;refine lZ (m:=O S0) R7 (uX ay) b5 c0 (by rw[zL,zL,DI];exact b5) (xW S0) AK ?_;rw[zL,rf,<-vg,J2];obtain⟨K,aa⟩:∃R,R=S0++C3 (O A+1-O S0) 0:=⟨_,rfl⟩;rw[<-aa];have b3:O K=O A+1:=by rw[aa,C1,DI];omega
 have b2:Kq K:=by rw[aa];exact nS.1.append (ap5 _)
 have ag:wv K=wv A*2^s:=by rw[aa,wZ,RW,EJ,DV,cd]
 generalize hh:upd h3 (3*g+2) _=h4;have c5:h4 (3*g+2)=ξ (.row (u64s K) eR):=by rw[<-hh,zg]
 have ce:Ko g G h4:=λb hb=>by rw[<-hh,zm Z,bj b Z,a5 b hb]
 clear hh c0 aw a5 bj ay;refine zN ?_;obtain⟨M,hM⟩:∃M,M=O A-(m+2):=⟨_,rfl⟩;repeat refine zR ?_
 rw[show(O A:Int)-((m+2:Nat):Int)+1=((M+1:Nat):Int)from Z];refine vB (len:=M+1) (cap:=M+1) R9 Z ?_;rw[show zn (U .u64 0)=[U .u64 0]from rfl,xO];generalize hh:upd h4 (3*o+2) _=h5;have au:∃e,h5 (3*o+2)=ξ (.row (u64s (C3 (M+1) 0++[])) e):=⟨_,by rw[<-hh,zg,DJ]⟩;obtain⟨eQ,au⟩:=au;have c6:h5 (3*g+2)=ξ (.row (u64s K) eR):=by rw[<-hh,zm Z];exact c5
 have cf:Ko g G h5:=λb hb=>by rw[<-hh,zm Z,ce b hb]
 clear hh c5 ce;refine Zg ?_;have ad:wv (K.drop (M+1))<wv V:=by
  have G:=pu K (M+1) Z;have h2:18446744073709551616^(M+1)*wv (K.drop (M+1))<18446744073709551616^(M+1)*wv V:=by
   refine Dw (show _<=wv K by omega) ?_;rw[ag];have h3:(2:Nat)^s<=9223372036854775808:=Dd zd (show s<=63 by omega);have h4:wv A*2^s<=wv A*9223372036854775808:=Do _ h3;have h5:wv A*9223372036854775808<18446744073709551616^O A*9223372036854775808:=EQ b0 zd;have h6:18446744073709551616^O A*9223372036854775808=18446744073709551616^(M+1)*(18446744073709551616^(m+1)*9223372036854775808):=by
    rw[<-Dp,<-Ef,show M+1+(m+1)=O A from Z]
   have h7:=Do (18446744073709551616^(M+1)) ci;omega
  exact Nat.lt_of_mul_lt_mul_left h2
 have b6:0<wv V:=Z;refine ye (α:=Nat×List Nat×List Nat) (λz=>[(8,U .i64 ((m+2:Nat):Int)),(9,U .u64 (s:Int)),(10,Y aV (m+2) cV),(11,Y (ξ ⟨3*g+2,0,θ⟩) (O A+1) (O A+1)),(12,Y (ξ ⟨3*o+2,0,θ⟩) (M+1) (M+1)),(13,U .i64 ((z.1:Int)-1))])
  (λz p n' w=>n'=o+1/\w=[]/\Ko g G p/\p (3*g+2)=ξ (.row (u64s z.2.1) eR)/\p (3*o+2)=ξ (.row (u64s (C3 z.1 0++z.2.2)) eQ)/\O z.2.1=O A+1/\Kq z.2.1/\z.1<=M+1/\O z.2.2=M+1-z.1/\Kq z.2.2/\wv A*2^s=wv z.2.1+wv V*wv z.2.2*18446744073709551616^z.1/\wv (z.2.1.drop z.1)<wv V) (λz=>z.1)
  (M+1,K,[]) ⟨rfl,rfl,rfl,rfl,rfl,bJ,CR⟩ ⟨rfl,rfl,cf,c6,au,b3,b2,CS,cA,H7,by rw[ag,show wv []=0 from rfl,EJ,Ep,DV],ad⟩ (by show M+1<LL;unfold LL;omega) ?_
 clear c6 au cf ad ag b2 b3 aa;rintro⟨j,R,Q⟩ t h6 _ _ ⟨rfl,rfl,bk,ac,ab,b4,T,hj,d2,b1,hE,J⟩;simp only at ac ab b4 T hj d2 b1 hE J;refine zN ?_;cases j with
 |zero=>
  rw[DO]at J;rw[Fp,DR]at ab;rw[EV,D1,bi]at hE;rw[bi]at J;obtain⟨r1,r2⟩:=iZ (Z4:=wv A) (y:=wv C) (s:=s) (Q:=wv Q) (r:=wv R) (by rw[hE,EE,C5 (wv Q)]) J;refine Zt ?_;have dj:=xi (k+3) (h:=h6) (n:=o+1) (a:=ξ ⟨3*o+2,0,θ⟩) (len:=M+1) (cap:=M+1) (l:=Q) Z (λ_ e=>by injection e with e;rw[<-e]) (xr Z ab Z);refine zF _ R5 dj ?_;rintro _ h6 _ _⟨rfl,rfl,rfl,rfl,dh⟩;repeat refine zR ?_
  have cr:=xi (k+3) (h:=h6) (n:=o+1) (a:=ξ ⟨3*g+2,0,θ⟩) (len:=O A+1) (cap:=O A+1) (l:=R) Z (λ_ e=>by injection e with e;rw[<-e]) (xr Z ac b4);refine zF _ R5 cr ?_;rintro _ h6 _ _⟨rfl,rfl,rfl,rfl,di⟩;obtain⟨dq,dr⟩:=xD b1;obtain⟨ds,dt⟩:=xD T;repeat refine zR ?_
  refine zF _ R5 (om (k+2) (m:=s) di ds (by have:=xU R;omega)) ?_;rintro vr h7 n7 _⟨L7,⟨rfl,de,a6,c8,cz⟩,dm,db⟩;obtain⟨a7,l7,c7,rfl,_⟩:=c8.len;refine oQ ?_;exact retH [Y (ξ ⟨3*o+2,0,θ⟩) (O (yf Q)) (M+1),Y a7 l7 c7] R3 ⟨_,_,_,L7,rfl,rfl,by show n<=n7;omega,λb hb=>(a6 b Z).trans ((bk b Z).trans (az b hb)),dh.ext a6 de,dq,c8,cz,by rw[dr,r1],by rw[dm,dt,r2],by show 3*n<=3*o+2;omega,.inl (db.mono Z)⟩
 |succ i=>
 obtain⟨P,Z0,top,S,d0,hP,hZ⟩:∃P Z0 top S,R=P++(Z0++top::S)/\O P=i/\O Z0=m+2:=by
  have hd:(R.drop i).drop (m+2)≠[]:=by
   intro e;have:=congrArg O e;rw[DN,DN,FV]at this;omega
  obtain⟨top,S,hS⟩:=List.exists_cons_of_ne_nil hd;exact⟨R.take i,(R.drop i).take (m+2),top,S,by rw[<-hS,Eb,Eb],gQ,pe⟩
 subst d0 hP;have b5:O S+(O P+m+3)=O A+1:=by
  rw[<-b4];exact Bm
 have d1:Kq P:=λd hd=>T d (by simp[hd]);have b7:Kq Z0:=λd hd=>T d (by simp[hd]);have ca:top<18446744073709551616:=T top cA;have d4:Kq S:=λd hd=>T d (by simp[hd]);obtain⟨d3,ck⟩:=YB hZ b7 cj J Z;have bf:=(a0.ext bk (show g<=o+1 by omega));have bp:KL (3*g+2) (Y aV (m+2) cV):=a0.below.off Z;refine Zk ?_;refine rt (O P) (O P+m+3) R9 Z Z Z ?_;rw[show 0+O P*1=O P from Z,show (O P)+m+3-O P=m+3 from Z];repeat refine zR ?_
 have bs:Sl h6 (o+1) 1 (Y (ξ ⟨3*g+2,O P,θ⟩) (m+3) (O A+1-O P)) (u64s (Z0++[top])):=by
  have:=dP (h:=h6) (n:=o+1) (b:=3*g+2) (cap:=O A+1-O P) (P:=P) (Z0:=Z0++[top]) (S:=S) (e:=eR) Z (by rw[ac];simp) Bt;rw[C1,Db,hZ]at this;exact this
 refine yi _ R5 (eO k bs bf (m:=m) ⟨by rw[C1,Db,hZ],an,Gt b7 ca,nV.1,bq,ck⟩ Z) ?_;rintro _⟨d,rfl,bv,d7,d8⟩;refine Zc ?_;refine rt (O P) (O P+(m+2)) R9 Z Z Z ?_;rw[show 0+O P*1=O P from Z,show (O P)+(m+2)-O P=O Z0 from Z];repeat refine zR ?_
 refine zF _ R5 (Ys (k+2) (n:=o+1) (b:=3*g+2) Z ac Z b7 bf nV.1 bp Z Z bv) ?_;rintro _ h7 _ w7⟨u,c,rfl,d6,⟨dn,rfl,a6,bd⟩,ah,du,bh⟩;try simp only[tH]
 rw[zV (w:=[]) λy L=>by rw[dn y L];show 3*n<=3*g+2;omega];have Z3:O u=m+2:=Z;rw[hZ]at bh;obtain⟨g1,g2⟩:=YE Z3 hZ ah b6 bh d7 d8;have bw:h7 (3*o+2)=_:=(a6 _ Z Z).trans ab;have ak:Ko g G h7:=λb hb=>by rw[a6 b Z Z,bk b hb]
 clear a6 ac ab bs;have cp:=(a0.ext ak (show g<=o+1 by omega));have ap:∀F,O (P++(u++F::S))=O A+1:=λF=>by simp only[C1,DM];omega
 have cn:∀F,(P++(u++F::S))[O P+(m+2)]?=ξ F:=λF=>by
  rw[Dx Z,show (O P)+(m+2)-O P=O u from Z,Dx CS,Ec];rfl
 have bg:∀(Z2:List Nat) F bn,O Z2=m+2->(P++(Z2++F::S)).set (O P+(m+2)) bn=P++(Z2++bn::S):=λZ2 F bn h2=>by
  rw[Ej _ _ Z,show (O P)+(m+2)-O P=O Z2 from Z,Ej _ _ CS,Ec];rfl
 refine Zc ?_;refine yE (f:=λd:Nat=>U .u64 (d:Int)) (j:=O P+(m+2)) R7 (xr (n:=o+1) Z bd (ap top)) ⟨rfl,Z⟩ (cn top) (λ_=>rfl) R4 λ_=>?_;refine oQ ?_;refine Zo ?_;refine zR ?_;refine mZ ?_;refine sd (a:=top) (b:=c) R6 ⟨ca,d6⟩ ?_;obtain⟨Z1,cb⟩:∃x,x=(top+18446744073709551616-c)%18446744073709551616:=⟨_,rfl⟩;rw[<-cb];have cq:Z1<18446744073709551616:=by rw[cb];exact BQ
 refine uH (j:=O P+(m+2)) (v:=U .u64 (Z1:Int)) R8 Z ⟨Z,by rw[zL,ap];omega⟩ bd AK (λ_=>rfl) R3 (λ_=>rfl) rfl λ_=>?_;rw[yk,bg u top Z1 Z3];generalize hh:upd h7 (3*g+2) _=h8;have be:h8 (3*g+2)=ξ (.row (u64s (P++(u++Z1::S))) eR):=by rw[<-hh,zg]
 have bc:h8 (3*o+2)=ξ (.row (u64s (C3 (O P+1) 0++Q)) eQ):=by rw[<-hh,zm Z];exact bw
 have bl:Ko g G h8:=λb hb=>by rw[<-hh,zm Z,ak b hb]
 clear hh bd bw ak cp;refine Zl ?_;refine lW R6 ?_;simp only[yu,xg,zK,yY];refine yj (α:=List Nat×Nat×Nat) (λz=>[(8,U .i64 ((m+2:Nat):Int)),(9,U .u64 (s:Int)),(10,Y aV (m+2) cV),(11,Y (ξ ⟨3*g+2,0,θ⟩) (O A+1) (O A+1)),(12,Y (ξ ⟨3*o+2,0,θ⟩) (M+1) (M+1)),(13,U .i64 (O P:Int)),(14,U .u64 (z.2.2:Int))])
  (λz p n' w=>n'=o+1/\w=[]/\Ko g G p/\p (3*g+2)=ξ (.row (u64s (P++(z.1++z.2.1::S))) eR)/\p (3*o+2)=ξ (.row (u64s (C3 (O P+1) 0++Q)) eQ)/\O z.1=m+2/\Kq z.1/\z.2.1<18446744073709551616/\z.2.2=wv (Z0++[top])/wv V/\z.2.2<18446744073709551616/\wv (z.1++[z.2.1])=wv (Z0++[top])%wv V) ?_ ?_
 .by_cases hlt2:top<c;case neg=>
   obtain⟨al,a8⟩:=g1 Z;rw[za eS];refine zN ?_;have aj:Z1=top-c:=Z;exact zA (u,Z1,d) ⟨rfl,rfl,rfl,rfl,rfl,bJ,rfl,CR⟩ ⟨rfl,rfl,bl,be,bc,Z3,ah,cq,al,bv,by simp only;rw[aj];exact a8⟩
  obtain⟨al,a8⟩:=g2 hlt2;have dx:1<=d:=by rw[al];exact Nat.le_add_left _ _
  rw[ze eU];refine Za ?_;refine ym (a:=d) (b:=1) R6 Z ?_;refine Zg ?_;refine oQ ?_;refine ye (α:=List Nat×Nat) (λz=>[(8,U .i64 ((m+2:Nat):Int)),(9,U .u64 (s:Int)),(10,Y aV (m+2) cV),(11,Y (ξ ⟨3*g+2,0,θ⟩) (O A+1) (O A+1)),(12,Y (ξ ⟨3*o+2,0,θ⟩) (M+1) (M+1)),(13,U .i64 (O P:Int)),(14,U .u64 ((d-1:Nat):Int)),(17,U .u64 (z.2:Int)),(113,Y aV (m+2) cV),(114,U .i64 ((m+2:Nat):Int)),(115,U .i64 (O z.1:Int))])
   (λz p n' w=>n'=o+1/\w=[]/\Ko g G p/\p (3*g+2)=ξ (.row (u64s (P++((z.1++u.drop (O z.1))++Z1::S))) eR)/\p (3*o+2)=ξ (.row (u64s (C3 (O P+1) 0++Q)) eQ)/\O z.1<=m+2/\Kq z.1/\z.2<=1/\wv z.1+z.2*18446744073709551616^O z.1=wv (u.take (O z.1))+wv (V.take (O z.1))) (λz=>m+2-O z.1)
   ([],0) ⟨rfl,rfl,rfl,rfl,rfl,bJ,rfl,rfl,rfl,rfl,rfl,CR⟩ ⟨rfl,rfl,bl,be,bc,CT,H7,Bw,qe⟩ (by show m+2-0<LL;unfold LL;omega) ?_
  clear be bc bl;rintro⟨D,cc⟩ t h9 _ _ ⟨rfl,rfl,ae,B,av,cv,am,ba,W⟩;simp only at B cv am ba W;refine zN ?_;by_cases hDm:O D=m+2
  .have cl:u.drop (O D)=[]:=by rw[hDm,<-Z3,EI]
   rw[cl,DJ]at B;rw[hDm,<-Z3,Ds,Z3,<-an,Ds,an]at W;refine Zb ?_;have cg:=wW am;rw[hDm]at cg;have dy:=DS (wv (Z0++[top])) b6;have dp:c-top=1/\cc=1:=by
    obtain⟨y,L⟩:∃y,c-top=y+1:=⟨c-top-1,Z⟩;rw[L]at a8⊢;rw[<-a8]at W;generalize 18446744073709551616^(m+2)=PP at*
    have e1:(y+1)*PP=y*PP+PP:=by rw[Dq,Et]
    rcases Fi y with bm|bm
    .subst bm;rcases Fi cc with bu|bu
     .subst bu;rw[Ep]at W;omega
     exact⟨rfl,Z⟩
    have e2:1*PP<=y*PP:=C9 _ bm;have e3:cc*PP<=1*PP:=C9 _ ba;omega
   obtain⟨cs,rfl⟩:=dp;have cw:wv D=wv (Z0++[top])%wv V:=by
    rw[<-a8,cs]at W;omega
   have aj:Z1=18446744073709551615:=Z;subst aj;repeat refine zR ?_
   refine yE (f:=λd:Nat=>U .u64 (d:Int)) (j:=O P+(m+2)) R7 (xr (n:=o+1) (l:=O A+1) Z B Bm) ⟨rfl,Z⟩ (show(P++(D++18446744073709551615::S))[O P+(m+2)]?=ξ 18446744073709551615 from by rw[Dx Z,show (O P)+(m+2)-O P=O D from Z,Dx CS,Ec];rfl) (λ_=>rfl) R4 λ_=>?_;refine zM ?_;refine uo (a:=18446744073709551615) (b:=1) R6 ?_;rw[show(18446744073709551615+1)%18446744073709551616=0 from rfl];refine uH (j:=O P+(m+2)) (v:=U .u64 ((0:Nat):Int)) R8 Z ⟨Z,by rw[zL];simp only[C1,DM];omega⟩ B AK (λ_=>rfl) R3 (λ_=>rfl) rfl λ_=>?_;rw[yk,bg D _ 0 hDm];refine oQ ?_;exact zA (D,0,d-1) ⟨rfl,rfl,rfl,rfl,rfl,rfl,rfl,CR⟩ ⟨rfl,rfl,λb hb=>(zm Z).trans (ae b hb),zg _ _ _,(zm Z).trans av,hDm,am,s9,by show d-1=_;rw[al];exact Fh _ _,by show d-1<_;omega,by show wv (D++[0])=_;rw[yO,EJ,DV,cw]⟩
  obtain⟨y,L⟩:∃x,V[O D]?=ξ x:=⟨V[O D]'Z,CW Z⟩;obtain⟨x,I⟩:∃x,u[O D]?=ξ x:=⟨u[O D]'Z,CW Z⟩;have e7:=nV.1.get L;have e6:=ah.get I;have aq:(P++((D++u.drop (O D))++Z1::S)).length=O A+1:=by simp only[C1,DM,DN];omega
  refine Zk ?_;refine yE (f:=λd:Nat=>U .u64 (d:Int)) (j:=O D) R7 (a0.ext ae (show g<=o+1 by omega)) R2 L (λ_=>rfl) R4 λ_=>?_;refine Zc ?_;refine yE (f:=λd:Nat=>U .u64 (d:Int)) (j:=O P+O D) R7 (xr (n:=o+1) Z B aq) ⟨rfl,Z⟩ (show(P++((D++u.drop (O D))++Z1::S))[O P+O D]?=ξ x from by rw[Dx Z,show (O P)+O D-O P=O D from Z,D7 eP];exact uy I) (λ_=>rfl) R4 λ_=>?_;repeat refine zR ?_
  refine vt (x:=x) (y:=y) (c:=cc) R5 ba ?_;obtain⟨s1,H⟩:∃z,z=(x+y+cc)%18446744073709551616:=⟨_,rfl⟩;obtain⟨c1,b9⟩:∃z,z=(x+y+cc)/18446744073709551616:=⟨_,rfl⟩;rw[<-H,<-b9];repeat refine zR ?_
  refine uH (j:=O P+O D) (v:=U .u64 (s1:Int)) R8 Z ⟨Z,by rw[zL,aq];omega⟩ B AK (λ_=>rfl) R3 (λ_=>rfl) rfl λ_=>?_;rw[yk,kg _ I];refine Zg ?_;have dg:s1<18446744073709551616:=by rw[H];exact BQ
  have cm:c1<=1:=by rw[b9];omega
  have df:18446744073709551616*c1+s1=x+y+cc:=by rw[H,b9];omega
  refine goOn (D++[s1],c1) (by show m+2-O (D++[s1])<m+2-O D;rw[C1,Db];omega) ⟨rfl,rfl,rfl,rfl,rfl,rfl,rfl,rfl,rfl,rfl,eC,CR⟩ ⟨rfl,rfl,λb hb=>(zm Z).trans (ae b hb),zg _ _ _,(zm Z).trans av,by show(D++[s1]).length<=_;rw[C1,Db];omega,Gt am dg,cm,?_⟩;simp only;rw[C1,Db,yO,zQ I,zQ L,Dj];have:=nK W df;omega
 rintro⟨Zf,F,q⟩ t h9 _ _ ⟨rfl,rfl,ae,B,av,bt,b8,c9,bx,bz,ai⟩;simp only at B bt b8 c9 bx bz ai;refine kG ?_;refine uH (j:=O P) (v:=U .u64 (q:Int)) R8 rfl ⟨Z,by rw[zL,C1,DI];omega⟩ av (by show 3*n<=3*o+2;omega) (λ_=>rfl) R3 (λ_=>rfl) rfl λ_=>?_;rw[yk,cH];refine Zg ?_;have d5:wv (Zf++[F])+wv V*q=wv (Z0++[top]):=by rw[ai,bx,EE];exact CG
 have br:=YD (P:=P) (S:=S) (V:=V) (Q:=Q) (bt.trans hZ.symm) d5 hE;refine goOn (O P,P++(Zf++F::S),q::Q) (by show O P<O P+1;omega) ⟨rfl,rfl,rfl,rfl,rfl,rfl,CR⟩ ⟨rfl,rfl,λb hb=>(zm Z).trans (ae b hb),(zm Z).trans B,zg _ _ _,Bm,d1.append (b8.append (λx I=>by
  rcases DA.1 I with rfl|I
  .exact c9
  .exact d4 x I)),by show O P<=_;omega,by show(q::Q).length=_;rw[DM];omega,λx I=>by
  rcases DA.1 I with rfl|I
  .exact bz
  .exact b1 x I,br,?_⟩
 simp only;rw[Hc rfl,show Zf++F::S=(Zf++[F])++S from by simp,wZ,d3,EJ,DV,ai];exact DS _ b6
end Go.Proofs.YteoagenjaemllaaGreatDoor
namespace Go.Proofs.YteoagenjaemllaaGreatDoor
variable {B m r0 r1 u u0 u1 u2 v1 v2:Nat}{odd:Bool}
def sg(odd:Bool):Int:=if odd then -1 else 1
def mJ(o:Bool):sg (!o)= - sg o:=by cases o<;>rfl
def RZ(o:Bool):sg o*sg o=1:=by cases o<;>rfl
def lp(A B:Nat)(s:Int)(u v:Nat):Int:=s*((u:Int)*A-(v:Int)*B)
structure LehS (A B r0 r1 E:Nat):Prop where
 a:E*r0<=A/\A<E*r0+E
 b:E*r1<=B/\B<E*r1+E
 le:B<=A
 pos:1<=B
structure Leh (A B r0 r1:Nat)(x y u0 u1 u2 v0 v1 v2:Nat)(odd:Bool):Prop where
 hx:(x:Int)=lp r0 r1 (sg odd) u1 v1
 hy:(y:Int)=lp r0 r1 (- sg odd) u2 v2
 Kx:(u1:Int)*v2-u2*v1=sg odd
 le:u2<=v2/\u1+u2<=v1+v2/\1<=v2
 yx:y<=x
 gcd:JY (lp A B (sg odd) u1 v1) (lp A B (- sg odd) u2 v2)=Dh A B
 sum:(v1=0/\u1=1/\u2=0/\v2=1/\odd=χ)\/(1<=v1/\lp A B (sg odd) u1 v1+lp A B (- sg odd) u2 v2<=A/\lp A B (sg odd) u1 v1<=B)
 out:v0=0\/(0<=lp A B (sg odd) u1 v1/\lp A B (sg odd) u1 v1<=lp A B (- sg odd) u0 v0/\JY (lp A B (- sg odd) u0 v0) (lp A B (sg odd) u1 v1)=Dh A B/\lp A B (- sg odd) u0 v0+lp A B (sg odd) u1 v1<=A/\lp A B (- sg odd) u0 v0<=B)
def Leh.init{A:Nat}(h:r1<=r0):Leh A B r0 r1 r0 r1 0 1 0 0 0 1 χ:=by refine⟨by simp[lp,sg],by simp[lp,sg],by simp[sg],Z,h,by simp[lp,sg],.inl R5,.inl ω⟩
theorem R0{A E:Nat}(c:LehS A B r0 r1 E){s:Int}(d:s=1\/s= -1){v z:Nat}(i:(z:Int)=lp r0 r1 s u v)(hu:u<=m)(hv:v<=m)(hm:m<=z):0<=lp A B s u v:=by
 obtain⟨α,j⟩:∃α,A=E*r0+α:=⟨A-E*r0,by have:=c.a;omega⟩;obtain⟨β,l⟩:∃β,B=E*r1+β:=⟨B-E*r1,by have:=c.b;omega⟩;have y:α<E:=by have:=c.a;omega
 have C:β<E:=by have:=c.b;omega
 have f:u*α<=z*E:=DG Z Z;have g:v*β<=z*E:=DG Z Z;have o:(u:Int)*α<=z*E:=by exact_mod_cast f
 have p:(v:Int)*β<=z*E:=by exact_mod_cast g
 have q:(0:Int)<=(u:Int)*α:=by exact_mod_cast GA (u*α)
 have w:(0:Int)<=(v:Int)*β:=by exact_mod_cast GA (v*β)
 have e:lp A B s u v=z*E+s*(u*α - v*β):=(by rw[i];unfold lp;rw[j,l];push_cast;grind);rw[e];obtain rfl|rfl:=d<;>omega
def YG(o:Bool):sg o=1\/sg o= -1:=by cases o<;>simp[sg]
def YH(o:Bool): - sg o=1\/ - sg o= -1:=by cases o<;>simp[sg]
theorem R1(A B:Nat)(s:Int)(u v a v':Nat):lp A B s u v+lp A B s a v'=lp A B s (u+a) (v+v'):=by unfold lp;push_cast;grind
theorem iE(A B:Nat)(s:Int)(u v:Nat):lp A B (- s) u v= - lp A B s u v:=by unfold lp;grind
theorem Leh.step{A E x y V:Nat}(G:LehS A B r0 r1 E)(h:Leh A B r0 r1 x y u0 u1 u2 V v1 v2 odd)(L:v2<=y)(M:v1+v2<=x-y):
  Leh A B r0 r1 y (x%y) u1 u2 (u1+x/y*u2) v1 v2 (v1+x/y*v2) (!odd)/\u1+x/y*u2<=r0/\v1+x/y*v2<=r0/\x%y<y/\1<=y:=by
 have⟨o,e,f,⟨H,Z4,Z0⟩,K,C,d,T⟩:=h;have a:1<=y:=Z;have b:x%y<y:=DS _ a;have Z3:1<=x/y:=(Km a).2 K;have j:x%y+x/y*y=x:=by rw[C5];exact Nat.mod_add_div x y
 generalize hqq:x/y=q at*;generalize hrr:x%y=r at*;have J:0<=lp A B (- sg odd) u2 v2:=R0 G (YH odd) e H CS L;have I:0<=lp A B (sg odd) (u1+u2) (v1+v2):=(by refine R0 G (YG odd) (z:=x-y) ?_ Z4 CS M;rw[<-R1,Int.natCast_sub K,o,e,iE];omega);rw[<-R1]at I;have W:lp A B (- sg odd) u2 v2= - lp A B (sg odd) u2 v2:=iE ..;have c:lp A B (sg odd) (u1+q*u2) (v1+q*v2)=lp A B (sg odd) u1 v1-q*lp A B (- sg odd) u2 v2:=(by rw[iE];unfold lp;push_cast;grind);have D:lp A B (- sg odd) u2 v2<=q*lp A B (- sg odd) u2 v2:=(by have:=Int.mul_le_mul_of_nonneg_right (show(1:Int)<=q from Z) J;omega);have F:(r0:Int)=v2*x+v1*y:=(by rw[o,e,iE];unfold lp;have s:=RZ odd;rw[<-f]at*;grind);have l:r0=v2*x+v1*y:=by exact_mod_cast F
 have i:v1+q*v2<=r0:=by
  rw[l,<-j];have s:v1<=v1*y:=FR _ a;have N:q*v2<=q*v2*y:=FR _ a;have Z1:v2*(r+q*y)=v2*r+q*v2*y:=by grind
  omega
 have g:u1+q*u2<=v1+q*v2:=(by obtain⟨p,rfl⟩:∃p,q=p+1:=⟨q-1,Z⟩;have s:p*u2<=p*v2:=Do _ H;have N:(p+1)*u2=p*u2+u2:=Ff _ _;have Z1:(p+1)*v2=p*v2+v2:=Ff _ _;omega);refine⟨⟨?_,?_,?_,?_,EB b,?_,?_,?_⟩,Dy g i,i,b,a⟩;rw[mJ];exact e;rw[mJ,Hu];have:(r:Int)=x-q*y:=by(have:(x:Int)=r+q*y:=by exact_mod_cast j.symm);omega
 rw[this,o,e];unfold lp;push_cast;grind;rw[mJ,<-f];push_cast;grind;refine⟨g,Z,Z⟩;rw[mJ,Hu,c,<-C];rw[Int.gcd_comm];simp[Int.mul_comm];right;rw[mJ,Hu,c];obtain⟨rfl,rfl,rfl,rfl,rfl⟩|⟨_,S,w⟩:=d;have P:lp A B (sg χ) 1 0=A:=by simp[lp,sg]
 have v:lp A B (- sg χ) 0 1=B:=by simp[lp,sg]
 rw[v]at D;rw[P,v];exact⟨Z,Z,Z⟩;exact⟨Z,Z,Z⟩;rw[mJ,Hu];obtain⟨R,_⟩|⟨_,S,w⟩:=d;exact .inl R;right;exact⟨J,Z,C,Z,w⟩
theorem Leh.tot{A x y e:Nat}(h:Leh A B r0 r1 x y u0 u1 u2 e v1 v2 odd):r0=v2*x+v1*y:=by have⟨c,d,a,_,_,_,_,_⟩:=h;have b:(r0:Int)=v2*x+v1*y:=(by rw[c,d,iE];unfold lp;have f:=RZ odd;rw[<-a]at*;grind);exact_mod_cast b
def LehS.r_le{A E:Nat}(h:LehS A B r0 r1 E):r1<=r0:=by obtain c|c:=En r0 r1;have d:=Do E c;rw[JB]at d;have:=h.a;have:=h.b;have:=h.le;omega;exact c
theorem Leh.done{A x y c:Nat}(h:Leh A B r0 r1 x y u0 u1 u2 c v1 v2 odd)(hv:c≠0):
  ∃a b:Nat,(odd=χ->c*B=u0*A+a/\u1*A=v1*B+b)/\(odd=φ->u0*A=c*B+a/\v1*B=u1*A+b)/\b<=a/\Dh a b=Dh A B/\a+b<=A/\a<=B:=by
 obtain f|⟨g,j,i,l,o⟩:=h.out;exact CO f hv;generalize e1:lp A B (sg odd) u1 v1=b at*;generalize e2:lp A B (- sg odd) u0 c=a at*;obtain⟨e,rfl⟩:=Jq g;obtain⟨d,rfl⟩:=Jq (show(0:Int)<=a from Z);refine⟨d,e,?_,?_,Z,by simpa using i,Z,Z⟩;rintro rfl;simp only[lp,sg]at e1 e2;constructor;have:(c:Int)*B=u0*A+d:=by simp at e2;grind
 exact_mod_cast this;have:(u1:Int)*A=v1*B+e:=by simp at e1;grind
 exact_mod_cast this;rintro rfl;simp only[lp,sg]at e1 e2;constructor;have:(u0:Int)*A=c*B+d:=by simp at e2;grind
 exact_mod_cast this;have:(v1:Int)*B=u1*A+e:=by simp at e1;grind
 exact_mod_cast this
end Go.Proofs.YteoagenjaemllaaGreatDoor
namespace Go.Proofs.YteoagenjaemllaaGreatDoor
open Go Go.GL
variable {ops r:List Oper}{h h' h1 h2:HF}{n m n0 off i lo n' bt sz nt kk bytes b c size len Z4 c1 c2 l1 l2 c' cr u0 u1 v1 m' n1 n2 cy lx ly P V d B:Nat}{w ms C Z0 A X S T L:List Nat}{Q:SV->Prop}{args cl cs vs:List ψ}{al ld:List (Nat×Nat)}{ef:List (Nat×HF×List Nat)}{z v x4 x5 x6:ψ}{ty ty' eB e' xT:TypeId}{fn:Func}{f:FuncId}{E:Env}{odd sx sy:Bool}{a1 a2 ax ay:Option Addr}{α:Type}{y:Operand}
variable {h0:HF}
def ng(k:Nat)(j:Sl h n 1 (Y a1 l1 c1) (u64s A))(l:Sl h n 1 (Y a2 l2 c2) (u64s C))(Z1:NW A)(R:NW C)(hb:O A<10000000/\O C<80)(o:0<wv C):
  CF (Kp (k+6)) 129 [Y a1 l1 c1,Y a2 l2 c2] h n λv g i w=>∃d c a b,v=.tuple #[d,c]/\w=[]/\n<=i/\Ko n h g/\Sl g i 1 d (u64s a)/\NW a/\Sl g i 1 c (u64s b)/\NW b/\wv a=wv A/wv C/\wv b=wv A%wv C/\xC n d/\(xC n c\/c=Y a1 l1 c1):=by refine zw (fn:=Tryz.f129) R4 ?_;have I:=j.lenW;have J:=l.lenW;subst I J;refine mM ?_;refine Zy ?_;refine zF _ R5 (iY k j l Z1 R Z o) ?_;rintro _ S T _⟨d,c,a,b,rfl,rfl,s,B,e,u,f,y,K,L,p,q⟩;obtain⟨D,M,G,rfl,_⟩:=e.len;obtain⟨F,N,H,rfl,_⟩:=f.len;refine oQ ?_;exact retH [Y D M G,Y F N H] R3 ⟨_,_,a,b,ω,ω,s,B,e,u,f,y,K,L,p,q⟩
def fc{x0 x1 s:Nat}(g:Z4<P)(d:s<=64):P*2^(64-s)*(x1*2^s+x0/2^(64-s))<=Z4+P*(x0+18446744073709551616*x1)/\Z4+P*(x0+18446744073709551616*x1)<P*2^(64-s)*(x1*2^s+x0/2^(64-s))+P*2^(64-s):=by
 have f:=Em x0 (2^(64-s));have b:=DS x0 (DQ (n:=64-s) (show 0<2 by decide));have c:=fa d;generalize 2^(64-s)=D at*;generalize 2^s=S at*;have e:x0+18446744073709551616*x1=D*(x1*S+x0/D)+x0%D:=by
  have a:D*(x1*S)=18446744073709551616*x1:=by rw[E2,<-c,C5]
  rw[DW,a];omega
 generalize x1*S+x0/D=R at*;generalize x0%D=m at*;rw[e,DW,<-Dp];have a:=Do P (show m+1<=D from b);rw[JB]at a;omega
def lE{x0 x1:Nat}(hl:O X=m+2)(h0:X[m]?=ξ x0)(a:X[m+1]?=ξ x1):wv X=wv (X.take m)+18446744073709551616^m*(x0+18446744073709551616*x1):=by
 have e:wv X=wv (X.take (m+2)):=by rw[<-hl,Ds]
 rw[e,zQ a,zQ h0,Dj,DW,Dp,HP]
def YI{x0:Nat}(hl:O X=m+1)(h0:X[m]?=ξ x0):wv X=wv (X.take m)+18446744073709551616^m*x0:=by
 have e:wv X=wv (X.take (m+1)):=by rw[<-hl,Ds]
 rw[e,zQ h0]
def uY(a:Kq X)(hm:m<=O X):wv (X.take m)<18446744073709551616^m:=by have:=wW (a.take m);rw[DK,Ee hm]at this;exact this
def YJ{x0 x1 i a:Nat}(o:O A=m+2)(p:O C=m+2)(c:Kq A)(b:A[m]?=ξ x0)(e:A[m+1]?=ξ x1)(f:C[m]?=ξ i)(g:C[m+1]?=ξ a)(d:wv C<=wv A):a<=x1:=by obtain h|h:=En x1 a;have q:=uY c (m:=m) Z;have s:=c.get b;rw[lE o b e,lE p f g]at d;generalize 18446744073709551616^m=P at*;have j:x0+18446744073709551616*x1+1<=i+18446744073709551616*a:=Z;have l:=Do P j;rw[JB]at l;omega;exact h
def SimR(A B:Nat)(v:ψ):Prop:=∃x y u0 u1 u2 v0 v1 v2 r0 r1:Nat,∃odd:Bool,v=.agg #[U .u64 (u0:Int),U .u64 (u1:Int),U .u64 (v0:Int),U .u64 (v1:Int),CV odd]/\Leh A B r0 r1 x y u0 u1 u2 v0 v1 v2 odd/\u0<=18446744073709551615/\u1<=18446744073709551615/\v0<=18446744073709551615/\v1<=18446744073709551615
structure LSt where
 x:Nat
 y:Nat
 u0:Nat
 u1:Nat
 u2:Nat
 v0:Nat
 v1:Nat
 v2:Nat
 odd:Bool
def LSt.row(z:LSt):List ψ:=[U .u64 (z.u0:Int),U .u64 (z.u1:Int),U .u64 (z.v0:Int),U .u64 (z.v1:Int),CV z.odd]
def LSt.bd(z:LSt):Prop:=z.x<=18446744073709551615/\z.u0<=18446744073709551615/\z.u1<=18446744073709551615/\z.u2<=18446744073709551615/\z.v0<=18446744073709551615/\z.v1<=18446744073709551615/\z.v2<=18446744073709551615
def fC(k:Nat)(hA:Sl h n 1 (Y a1 l1 c1) (u64s A))(hC:Sl h n 1 (Y a2 l2 c2) (u64s C))(nA:NW A)(Z3:NW C)(hb:O A<10000000)(a6:wv C<=wv A)(ba:2<=O A)(ab:0<wv C):
  CF (Kp (k+3)) 128 [Y a1 l1 c1,Y a2 l2 c2] h n λv R n' w=>w=[]/\n<=n'/\Ko n h R/\SimR (wv A) (wv C) v:=by
 refine zw (fn:=Tryz.f128) R4 ?_;have e1:=hA.lenW;have e2:=hC.lenW;subst e1 e2;have bb:O C<=O A:=(by obtain hl|hl:=En (O A) (O C);have:=nA.len_lt Z3 hl;omega;exact hl);obtain⟨m,T⟩:∃m,O A=m+2:=⟨O A-2,Z⟩;obtain⟨I,G⟩:∃x,A[m+1]?=ξ x:=⟨A[m+1]'Z,CW Z⟩;obtain⟨L,a9⟩:∃x,A[m]?=ξ x:=⟨A[m]'Z,CW Z⟩;have aq:=nA.1.get G;have V:=nA.1.get a9;have ap:I≠0:=by
  have⟨i,d,ad⟩:=Go.Proofs.YteoagenjaemllaaGreatDoor.snoc (l:=A) (by intro e;rw[e]at T;simp at T);have av:O i=m+1:=by rw[ad]at T;simp at T;omega
  rw[ad,<-av,Dx CS,Ec]at G;have:d=I:=by simpa using G
  rw[<-this];exact an3 (by rw[<-ad];exact nA)
 rw[T]at hA⊢;refine zN ?_;refine xV R5 ?_;generalize hh:upd h (3*n+2) _=h1;have a4:Ko n h h1:=by rw[<-hh];exact Cy
 have J:∃e,h1 (3*n+2)=ξ (.row [U .u64 0,U .u64 0,U .u64 0,U .u64 0,CV χ] e):=⟨_,gP⟩;have a0:=hA.ext a4 (Du n);have a3:=hC.ext a4 (Du n);refine Zm ?_;refine yE (f:=λd:Nat=>U .u64 (d:Int)) (j:=m+1) R7 a0 ⟨ω,Z⟩ G (λ_=>rfl) R4 λ_=>?_;refine yi _ R5 (fX k h1 (n+1) aq ap) ?_;rintro _⟨s,rfl,az,bc,a8⟩;refine se (c:=s) R7 Z<|oQ ?_;have a7:∀x,x<18446744073709551616->x/2^(64-s)<2^s:=λx hx=>RV Z hx;obtain⟨K,ae⟩:∃r,r=I*2^s+L/2^(64-s):=⟨_,ω⟩;have an:K<=18446744073709551615:=(by have:=RU (w:=I) (s:=s) Z (a7 L V);rw[Di a8]at this;omega);obtain⟨E,hE⟩:∃E,E=18446744073709551616^m*2^(64-s):=⟨_,ω⟩;have B:=fc (Z4:=wv (A.take m)) (x0:=L) (x1:=I) (s:=s) (uY nA.1 Z) Z;rw[<-lE T a9 G,<-hE,<-ae]at B;rw[wb rfl];repeat refine zR ?_
 refine yE (f:=λd:Nat=>U .u64 (d:Int)) (j:=m+1) R7 a0 ⟨ω,Z⟩ G (λ_=>rfl) R4 λ_=>?_;refine zM ?_;refine xK (a:=I) (s:=s) R6 Z ?_;rw[Di a8];repeat refine zR ?_
 refine yE (f:=λd:Nat=>U .u64 (d:Int)) (j:=m) R7 a0 ⟨ω,Z⟩ a9 (λ_=>rfl) R4 λ_=>?_;refine zM ?_;refine ym (a:=64) (b:=s) R6 Z<|yn (a:=L) (s:=64-s) R6 Z<|wG (a:=I*2^s) (b:=L/2^(64-s)) R6 ⟨a8,Dw (EL _ _) V⟩ ?_;rw[jZ (a7 L V),<-ae];refine oQ ?_;refine Zc ?_;simp only[yu,xg,zK,yY];refine yj (α:=Nat) (λz=>[(4,ι (3*n+2)),(7,U .u64 (K:Int)),(8,U .u64 (z:Int))])
  (λz R n' w=>h1=R/\n+1=n'/\w=[]/\LehS (wv A) (wv C) K z E) ?_ ?_
 .refine zN ?_;by_cases hl2:O C=m+2;obtain⟨y1,N⟩:∃x,C[m+1]?=ξ x:=⟨C[m+1]'Z,CW Z⟩;obtain⟨M,F⟩:∃x,C[m]?=ξ x:=⟨C[m]'Z,CW Z⟩;have b9:=Z3.1.get N;have W:=Z3.1.get F;have al:=YJ T hl2 nA.1 a9 G F N a6;have ak:y1*2^s<18446744073709551616:=Dw (C9 _ al) a8;have D:=fc (Z4:=wv (C.take m)) (x0:=M) (x1:=y1) (s:=s) (uY Z3.1 Z) Z;rw[<-lE hl2 F N,<-hE]at D;refine lI ?_;rw[wb rfl];repeat refine zR ?_
  refine yE (f:=λd:Nat=>U .u64 (d:Int)) (j:=m+1) R7 a3 ⟨ω,Z⟩ N (λ_=>rfl) R4 λ_=>?_;refine zM ?_;refine xK (a:=y1) (s:=s) R6 Z ?_;rw[Di ak];repeat refine zR ?_
  refine yE (f:=λd:Nat=>U .u64 (d:Int)) (j:=m) R7 a3 ⟨ω,Z⟩ F (λ_=>rfl) R4 λ_=>?_;refine zM ?_;refine ym (a:=64) (b:=s) R6 Z<|yn (a:=M) (s:=64-s) R6 Z<|wG (a:=y1*2^s) (b:=M/2^(64-s)) R6 ⟨ak,Dw (EL _ _) W⟩ ?_;rw[jZ (a7 M W)];refine oQ ?_;exact zA (y1*2^s+M/2^(64-s)) P3 ⟨ω,ω,ω,⟨B,D,a6,ab⟩⟩;refine Zb ?_;by_cases hl1:O C=m+1;obtain⟨M,F⟩:∃x,C[m]?=ξ x:=⟨C[m]'Z,CW Z⟩;have W:=Z3.1.get F;have D:=fc (Z4:=wv (C.take m)) (x0:=M) (x1:=0) (s:=s) (uY Z3.1 Z) Z;rw[EJ,DV,Ep,Dl,<-YI hl1 F,<-hE]at D;refine Zk ?_;refine yE (f:=λd:Nat=>U .u64 (d:Int)) (j:=m) R7 a3 ⟨ω,Z⟩ F (λ_=>rfl) R4 λ_=>?_;refine zM ?_;refine ym (a:=64) (b:=s) R6 Z<|yn (a:=M) (s:=64-s) R6 Z<|oQ ?_;exact zA (M/2^(64-s)) P3 ⟨ω,ω,ω,⟨B,D,a6,ab⟩⟩;refine Zb ?_;refine zA 0 P3 ⟨ω,ω,ω,⟨B,⟨by rw[EJ];exact GA _,?_⟩,a6,ab⟩⟩;have g1:=wW Z3.1;have g2:18446744073709551616^O C<=18446744073709551616^m:=Dd zd Z;have g3:18446744073709551616^m*1<=18446744073709551616^m*2^(64-s):=Do _ (DQ zd);rw[hE,EJ];omega
 rintro r1 t _ _ _⟨rfl,rfl,rfl,hS⟩;have ao:=hS.r_le;refine zN ?_;refine xV R5 ?_;generalize hh:upd h1 (3*(n+1)+2) _=h2;have ag:Ko n h h2:=λb hb=>by rw[<-hh,zm Z,a4 b hb]
 have aa:∃e,h2 (3*n+2)=ξ (.row [U .u64 0,U .u64 0,U .u64 0,U .u64 0,CV χ] e):=(by have⟨e,J⟩:=J;exact⟨e,by rw[<-hh,zm Z];exact J⟩);have q2:∃e,h2 (3*(n+1)+2)=ξ (.row [U .u64 0,U .u64 0,U .u64 0,U .u64 0,CV χ] e):=⟨_,gP⟩;have⟨e2,q2⟩:=q2;refine kG ?_;refine yF (cs:=[U .u64 1]) R8 q2 zb gR ?_;generalize hh:upd h2 (3*(n+1)+2) _=h3;have ah:Ko n h h3:=λb hb=>by rw[<-hh,zm Z,ag b hb]
 have af:∃e,h3 (3*n+2)=ξ (.row [U .u64 0,U .u64 0,U .u64 0,U .u64 0,CV χ] e):=(by have⟨e,aa⟩:=aa;exact⟨e,by rw[<-hh,zm Z];exact aa⟩);have q3:∃e,h3 (3*(n+1)+2)=ξ (.row (LSt.row ⟨K,r1,0,1,0,0,0,1,χ⟩) e):=⟨e2,gP⟩;refine mM ?_;refine ye (α:=LSt) (λz=>[(4,ι (3*n+2)),(7,U .u64 (z.x:Int)),(8,U .u64 (z.y:Int)),(9,ι (3*(n+1)+2)),(10,U .u64 (z.u2:Int)),(11,U .u64 (z.v2:Int))])
  (λz R n' w=>n'=n+1+1/\w=[]/\Ko n h R/\(∃e,R (3*n+2)=ξ (.row [U .u64 0,U .u64 0,U .u64 0,U .u64 0,CV χ] e))/\(∃e,R (3*(n+1)+2)=ξ (.row z.row e))/\Leh (wv A) (wv C) K r1 z.x z.y z.u0 z.u1 z.u2 z.v0 z.v1 z.v2 z.odd/\z.bd) (λz=>z.y)
  ⟨K,r1,0,1,0,0,0,1,χ⟩ P6 ⟨ω,ω,ah,af,q3,Leh.init ao,an,(show(0:Nat)<=18446744073709551615 by decide),(show(1:Nat)<=18446744073709551615 by decide),(show(0:Nat)<=18446744073709551615 by decide),(show(0:Nat)<=18446744073709551615 by decide),(show(0:Nat)<=18446744073709551615 by decide),(show(1:Nat)<=18446744073709551615 by decide)⟩ (by show r1<LL;unfold LL;omega) ?_
 rintro⟨x,y,u0,p,H,Z0,g,u,o⟩ t h4 _ _ ⟨rfl,rfl,a5,⟨e1,J⟩,⟨e4,Z1⟩,S,au⟩;have⟨b1,b2,b3,b4,b5,b6,b7⟩:=au;simp only[LSt.row]at Z1 S b1 b2 b3 b4 b5 b6 b7;have al:=S.yx;have b8:=S.tot;have hl:=S.le;refine zN ?_;by_cases g1:u<=y;case neg=>
  exact BE
 have b0:g+u<=K:=(by have f1:u*1<=u*x:=Do _ Z;have f2:g*1<=g*y:=Do _ Z;omega);refine Zs ?_;refine Zo ?_;refine ym (a:=x) (b:=y) R6 Z<|zM ?_;refine zT R6 Z1 (v:=U .u64 (g:Int)) R2<|zM ?_;refine yT (a:=g) (b:=u) R6 Z ?_;by_cases g2:g+u<=x-y;case neg=>
  exact BE
 have⟨ac,aw,ax,aj,N⟩:=Leh.step hS S g1 g2;refine Zh ?_;obtain⟨q,hq⟩:∃q,q=x/y:=⟨_,ω⟩;obtain⟨r,hr⟩:∃r,r=x%y:=⟨_,ω⟩;rw[<-hq]at ac aw ax;rw[<-hr]at ac aj;refine mZ ?_;refine xN (a:=x) (b:=y) R6 ⟨Z,Z⟩ ?_;rw[<-hq];refine oQ ?_;rw[wb rfl];refine Zo ?_;refine vO (a:=x) (b:=y) R6 Z ?_;rw[<-hr];refine oQ ?_;refine zM ?_;refine zT R6 Z1 (v:=U .u64 (p:Int)) R2<|mZ ?_;refine zT R6 Z1 (v:=U .u64 (p:Int)) R2<|mZ ?_;refine xt (a:=q) (b:=H) R6 Z<|yT (a:=p) (b:=q*H) R6 Z<|zM ?_;refine yF (cs:=[U .u64 (p:Int)]) R8 Z1 zb gR ?_;refine zM ?_;refine yF (cs:=[U .u64 (H:Int)]) R8 (zg _ _ _) zb gR ?_;rw[uk];generalize hh:upd h4 (3*(n+1)+2) _=h5;have ai:Ko n h h5:=λb hb=>by rw[<-hh,zm Z,a5 b hb]
 have am:=(show h5 (3*n+2)=h4 (3*n+2)from by rw[<-hh,zm Z]).trans J;have q5:h5 (3*(n+1)+2)=ξ (.row [U .u64 (p:Int),U .u64 (H:Int),U .u64 (Z0:Int),U .u64 (g:Int),CV o] e4):=by rw[<-hh,zg];rfl
 refine oQ ?_;refine zM ?_;refine zT R6 q5 (v:=U .u64 (g:Int)) R2<|mZ ?_;refine zT R6 q5 (v:=U .u64 (g:Int)) R2<|mZ ?_;refine xt (a:=q) (b:=u) R6 Z<|yT (a:=g) (b:=q*u) R6 Z<|zM ?_;refine yF (cs:=[U .u64 (g:Int)]) R8 q5 zb gR ?_;refine zM ?_;refine yF (cs:=[U .u64 (u:Int)]) R8 (zg _ _ _) zb gR ?_;rw[uk];generalize hh:upd h5 (3*(n+1)+2) _=h6;have ar:Ko n h h6:=λb hb=>by rw[<-hh,zm Z,ai b hb]
 have ay:=(show h6 (3*n+2)=h5 (3*n+2)from by rw[<-hh,zm Z]).trans am;have q6:h6 (3*(n+1)+2)=ξ (.row [U .u64 (p:Int),U .u64 (H:Int),U .u64 (g:Int),U .u64 (u:Int),CV o] e4):=by rw[<-hh,zg];rfl
 refine oQ ?_;refine zM ?_;refine zT R6 q6 (v:=CV o) R2<|mZ ?_;refine yF (cs:=[CV (!o)]) R8 q6 zb gR ?_;refine zN ?_;exact goOn ⟨y,r,p,H,p+q*H,g,u,g+q*u,!o⟩ aj P6 ⟨ω,ω,λb hb=>(zm Z).trans (ar b hb),⟨e1,(zm Z).trans ay⟩,⟨e4,(zg _ _ _).trans ω⟩,ac,by show y<=_;omega,b3,b4,by show p+q*H<=_;omega,b6,b7,by show g+q*u<=_;omega⟩
section
variable {a cap l:Nat}{e:TypeId}
theorem kn{x w s:Nat}(f:V+c*P=Z4*w)(g:18446744073709551616*c'+s=x*w+c):V+P*s+c'*(P*18446744073709551616)=(Z4+P*x)*w:=by grind
theorem YK{s t:Nat}(h:d+s*P=a+t*P)(g:d<P)(f:a<P):d=a:=by grind [only,Gq,Di]
def Om{D p q j m i f g:Nat}(v:p+j*P=f)(w:q+m*P=g)(h3:D+p=q+i*P)(y:g=f+a)(o:D<P)(u:a<P):D=a:=by refine YK (s:=m) (t:=i+j) (P:=P) ?_ o u;rw[Dq];omega
def cE{D:List Nat}{x:Nat}(d:Nat)(hx:Z0[O D]?=ξ x):((D++Z0.drop (O D))++S).set (O D) d=((D++[d])++Z0.drop (O (D++[d])))++S:=by have:=kg (P:=[]) (S:=S) d hx;rw[DR,DR,FV,Dl]at this;exact this
def kI(hb:b<3*n)(g:h b=ξ (.row (u64s (Z0++S)) e))(hl:O Z0=l)(f:l<=cap):Sl h n 1 (Y (ξ ⟨b,0,θ⟩) l cap) (u64s Z0):=by subst hl;exact dP (P:=[]) hb g f
structure ASt where
 D:List Nat
 F:List Nat
 cP:Nat
 cQ:Nat
 cR:Nat
 cT:Nat
 b1:Nat
 b2:Nat
 p:Nat
 q:Nat
 r:Nat
 t:Nat
def ASt.ok(A B:List Nat)(u0 u1 v0 v1:Nat)(odd:Bool)(z:ASt):Prop:=
 (O z.D)<=O A/\O z.F=O z.D/\Kq z.D/\Kq z.F/\z.cP<18446744073709551616/\z.cQ<18446744073709551616/\z.cR<18446744073709551616/\z.cT<18446744073709551616/\z.b1<=1/\z.b2<=1/\
 z.p+z.cP*18446744073709551616^O z.D=wv (A.take (O z.D))*u0/\z.q+z.cQ*18446744073709551616^O z.D=wv (B.take (O z.D))*v0/\z.r+z.cR*18446744073709551616^O z.D=wv (B.take (O z.D))*v1/\z.t+z.cT*18446744073709551616^O z.D=wv (A.take (O z.D))*u1/\
 (odd=χ->wv z.D+z.p=z.q+z.b1*18446744073709551616^O z.D/\wv z.F+z.r=z.t+z.b2*18446744073709551616^O z.D)/\
 (odd=φ->wv z.D+z.q=z.p+z.b1*18446744073709551616^O z.D/\wv z.F+z.t=z.r+z.b2*18446744073709551616^O z.D)
def ASt.step{B:List Nat}{K x y:Nat}{z:ASt}(hz:z.ok A B u0 u1 K v1 odd)(hx:A[O z.D]?=ξ x)(hy:B[O z.D]?=ξ y){m o s u v w C f i j:Nat}
  (h1:18446744073709551616*v+m=x*u0+z.cP)(h2:18446744073709551616*w+o=y*K+z.cQ)(h3:18446744073709551616*cr+s=y*v1+z.cR)(h4:18446744073709551616*C+u=x*u1+z.cT)
  (hl:v<18446744073709551616/\w<18446744073709551616/\cr<18446744073709551616/\C<18446744073709551616/\d<18446744073709551616/\f<18446744073709551616/\i<=1/\j<=1)
  (W:odd=χ->d+m+z.b1=o+18446744073709551616*i/\f+s+z.b2=u+18446744073709551616*j)(Z3:odd=φ->d+o+z.b1=m+18446744073709551616*i/\f+u+z.b2=s+18446744073709551616*j):
  ASt.ok A B u0 u1 K v1 odd ⟨z.D++[d],z.F++[f],v,w,cr,C,i,j,z.p+18446744073709551616^O z.D*m,z.q+18446744073709551616^O z.D*o,z.r+18446744073709551616^O z.D*s,z.t+18446744073709551616^O z.D*u⟩:=by have⟨k1,k2,k3,k4,k5,k6,k7,k8,k9,a1,L,M,N,Z1,R,T⟩:=hz;have⟨l1,l2,l3,l4,l5,l6,l7,l8⟩:=hl;have a0:O z.D<O A:=(C4.1 hx).1;unfold ASt.ok;simp only[C1,Db];rw[zQ hx,zQ hy,yO,yO,k2,Dj];refine⟨Z,ω,Gt k3 l5,Gt k4 l6,l1,l2,l3,l4,l7,l8,kn L h1,kn M h2,kn N h3,kn Z1 h4,λg=>?_,λg=>?_⟩;have⟨G,H⟩:=R g;have⟨I,J⟩:=W g;exact⟨vK G I,vK H J⟩;have⟨G,H⟩:=T g;have⟨I,J⟩:=Z3 g;exact⟨vK G I,vK H J⟩
def ASt.fin{B:List Nat}{m:Nat}{z:ASt}(J:z.ok A B u0 u1 m v1 odd)(hl:O z.D=O A)(G:O B=O A)(C:a<18446744073709551616^O A)(hb:b<18446744073709551616^O A)(H:odd=χ->m*wv B=u0*wv A+a/\u1*wv A=v1*wv B+b)(I:odd=φ->u0*wv A=m*wv B+a/\v1*wv B=u1*wv A+b):
  wv z.D=a/\wv z.F=b:=by
 have⟨T,K,L,M,W,Z3,k7,k8,k9,R,f,g,i,j,p,q⟩:=J;have y:=wW L;have o:=wW M;rw[K]at o;rw[hl]at f g i j p q y o;have N:A.take (O A)=A:=Ds;have Z1:B.take (O A)=B:=by rw[<-G,Ds]
 rw[N]at f j;rw[Z1]at g i;cases odd with
 |false=>
  have⟨s,u⟩:=p rfl;have⟨v,w⟩:=H rfl;exact⟨Om f g s (by rw[C5 _ m,v,C5 u0]) y C,Om i j u (by rw[C5 _ u1,w,C5 v1]) o hb⟩
 |true=>
  have⟨s,u⟩:=q rfl;have⟨v,w⟩:=I rfl;exact⟨Om g f s (by rw[C5 _ u0,v,C5 m]) y C,Om j i u (by rw[C5 _ v1,w,C5 u1]) o hb⟩
def YL(k:Nat){g i C cB:Nat}{B TA TB:List Nat}{eA:TypeId}{m:Nat}(aa:g<3*n)(ab:i<3*n)(ai:g≠i)(aj:h g=ξ (.row (u64s (A++TA)) eA))(ak:h i=ξ (.row (u64s (B++TB)) eB))(b3:O A<=C)(b4:O B<=cB)(hB:O B=O A)(bq:1<=O A)(bp:O A<1000000000)(dA:Kq A)(dB:Kq B)
  (hu:u0<18446744073709551616/\u1<18446744073709551616/\m<18446744073709551616/\v1<18446744073709551616)(ha:a<18446744073709551616^O A)(hb:b<18446744073709551616^O A)(hE:odd=χ->m*wv B=u0*wv A+a/\u1*wv A=v1*wv B+b)(hO:odd=φ->u0*wv A=m*wv B+a/\v1*wv B=u1*wv A+b):
  CF (Kp (k+3)) 130 [.agg #[U .u64 (u0:Int),U .u64 (u1:Int),U .u64 (m:Int),U .u64 (v1:Int),CV odd],Y (ξ ⟨g,0,θ⟩) (O A) C,Y (ξ ⟨i,0,θ⟩) (O B) cB] h n λ_ o n' w=>∃A' B',(∀c∈w,c=g\/c=i)/\n<=n'/\(∀c,c<3*n->c≠g->c≠i->o c=h c)/\o g=ξ (.row (u64s (A'++TA)) eA)/\o i=ξ (.row (u64s (B'++TB)) eB)/\Kq A'/\Kq B'/\O A'=O A/\O B'=O A/\wv A'=a/\wv B'=b:=by
 refine rT (fn:=Tryz.f130) R4 ?_;have⟨al,am,an,ao⟩:=hu;refine zN ?_;refine Lu (cs:=[U .u64 (u0:Int),U .u64 (u1:Int),U .u64 (m:Int),U .u64 (v1:Int),CV odd]) R5 ?_;generalize hh:upd h (3*n+2) _=G;have M:∀c,c<3*n->G c=h c:=λc hc=>by rw[<-hh,zm Z]
 have q1:∃e,G (3*n+2)=ξ (.row [U .u64 (u0:Int),U .u64 (u1:Int),U .u64 (m:Int),U .u64 (v1:Int),CV odd] e):=⟨_,mp⟩;refine mM ?_;refine Zg ?_;refine ye (α:=ASt) (λz=>[(1,Y (ξ ⟨g,0,θ⟩) (O A) C),(2,Y (ξ ⟨i,0,θ⟩) (O B) cB),(3,ι (3*n+2)),(6,U .u64 (z.cP:Int)),(7,U .u64 (z.cQ:Int)),(8,U .u64 (z.cR:Int)),(9,U .u64 (z.cT:Int)),(10,U .u64 (z.b1:Int)),(11,U .u64 (z.b2:Int)),(19,Y (ξ ⟨g,0,θ⟩) (O A) C),(20,U .i64 (O A:Int)),(21,U .i64 (O z.D:Int))])
  (λz o n' w=>n'=n+1/\(∀c∈w,c=g\/c=i)/\(w=[]->O z.D=0)/\(∀c,c<3*n->c≠g->c≠i->o c=h c)/\(∃e,o (3*n+2)=ξ (.row [U .u64 (u0:Int),U .u64 (u1:Int),U .u64 (m:Int),U .u64 (v1:Int),CV odd] e))/\o g=ξ (.row (u64s ((z.D++A.drop (O z.D))++TA)) eA)/\o i=ξ (.row (u64s ((z.F++B.drop (O z.F))++TB)) eB)/\z.ok A B u0 u1 m v1 odd) (λz=>O A-O z.D)
  ⟨[],[],0,0,0,0,0,0,0,0,0,0⟩ US ⟨ω,λx R=>CO R C6,λ_=>rfl,λc hc _ _=>M c hc,q1,(M _ aa).trans aj,(M _ ab).trans ak,CT,ω,H7,H7,s9,s9,s9,s9,by show(0:Nat)<=_;decide,by show(0:Nat)<=_;decide,qe,qe,qe,qe,λ_=>by simp[wv,dv],λ_=>by simp[wv,dv]⟩ Ac ?_
 rintro⟨D,F,cP,cQ,cR,cT,b1,b2,p,q,r,t'⟩ t u _ w ⟨rfl,hw,ap,a6,⟨e2,H⟩,T,W,hz⟩;have ax:ASt.ok A B u0 u1 m v1 odd ⟨D,F,cP,cQ,cR,cT,b1,b2,p,q,r,t'⟩:=hz;have bm:=hz;have⟨k1,k2,k3,k4,k5,k6,k7,k8,k9,a7,_⟩:=bm;simp only at ap T W k1 k2 k3 k4 k5 k6 k7 k8 k9 a7;refine zN ?_;by_cases hDA:O D=O A;refine Zb ?_;have⟨f1,f2⟩:=ASt.fin ax hDA hB ha hb hE hO;rw[hDA,EI,DJ]at T;rw[k2,hDA,<-hB,EI,DJ]at W;refine⟨ω,[],ω,⟨D,F,hw,Du n,a6,T,W,k3,k4,hDA,Z,f1,f2⟩,λh0=>?_⟩;have:=ap h0;omega;obtain⟨x,R⟩:∃x,A[O D]?=ξ x:=⟨A[O D]'Z,CW Z⟩;obtain⟨y,hy⟩:∃y,B[O D]?=ξ y:=⟨B[O D]'Z,CW Z⟩;have N:=dA.get R;have Z1:=dB.get hy;have a8:Sl u (n+1) 1 (Y (ξ ⟨g,0,θ⟩) (O A) C) (u64s (D++A.drop (O D))):=kI Z T eP b3;have a9:Sl u (n+1) 1 (Y (ξ ⟨i,0,θ⟩) (O B) cB) (u64s (F++B.drop (O F))):=kI Z W eP b4;have aq:B[O F]?=ξ y:=by rw[k2];exact hy
 refine Zk ?_;refine yE (f:=λd:Nat=>U .u64 (d:Int)) (j:=O D) R7 a8 R2 (uy R) (λ_=>rfl) R4 λ_=>?_;refine Zc ?_;refine yE (f:=λd:Nat=>U .u64 (d:Int)) (j:=O F) R7 a9 ⟨ω,Z⟩ (uy aq) (λ_=>rfl) R4 λ_=>?_;refine oQ ?_;have bh:=qW N al;refine mZ ?_;refine zT R6 H (v:=U .u64 (u0:Int)) R2<|zM ?_;refine yi _ R5 (uN k u (n+1) N al k5) ?_;rintro _ rfl;obtain⟨Z3,J⟩:∃z,z=(x*u0+cP)%18446744073709551616:=⟨_,ω⟩;obtain⟨cp,a0⟩:∃z,z=(x*u0+cP)/18446744073709551616:=⟨_,ω⟩;rw[<-J,<-a0];have ae:Z3<18446744073709551616:=by rw[J];exact BQ
 have b6:cp<18446744073709551616:=Z;have ba:18446744073709551616*cp+Z3=x*u0+cP:=by rw[J,a0];exact CG
 refine oQ ?_;have bi:=qW Z1 an;refine mZ ?_;refine zT R6 H (v:=U .u64 (m:Int)) R2<|zM ?_;refine yi _ R5 (uN k u (n+1) Z1 an k6) ?_;rintro _ rfl;obtain⟨sq,K⟩:∃z,z=(y*m+cQ)%18446744073709551616:=⟨_,ω⟩;obtain⟨cq,a1⟩:∃z,z=(y*m+cQ)/18446744073709551616:=⟨_,ω⟩;rw[<-K,<-a1];have af:sq<18446744073709551616:=by rw[K];exact BQ
 have b7:cq<18446744073709551616:=Z;have bb:18446744073709551616*cq+sq=y*m+cQ:=by rw[K,a1];exact CG
 refine oQ ?_;have bj:=qW Z1 ao;refine mZ ?_;refine zT R6 H (v:=U .u64 (v1:Int)) R2<|zM ?_;refine yi _ R5 (uN k u (n+1) Z1 ao k7) ?_;rintro _ rfl;obtain⟨sr,L⟩:∃z,z=(y*v1+cR)%18446744073709551616:=⟨_,ω⟩;obtain⟨cr,a2⟩:∃z,z=(y*v1+cR)/18446744073709551616:=⟨_,ω⟩;rw[<-L,<-a2];have ag:sr<18446744073709551616:=by rw[L];exact BQ
 have b8:cr<18446744073709551616:=Z;have bc:18446744073709551616*cr+sr=y*v1+cR:=by rw[L,a2];exact CG
 refine oQ ?_;have bk:=qW N am;refine mZ ?_;refine zT R6 H (v:=U .u64 (u1:Int)) R2<|zM ?_;refine yi _ R5 (uN k u (n+1) N am k8) ?_;rintro _ rfl;obtain⟨st,s⟩:∃z,z=(x*u1+cT)%18446744073709551616:=⟨_,ω⟩;obtain⟨ct,a3⟩:∃z,z=(x*u1+cT)/18446744073709551616:=⟨_,ω⟩;rw[<-s,<-a3];have ah:st<18446744073709551616:=by rw[s];exact BQ
 have b9:ct<18446744073709551616:=Z;have bd:18446744073709551616*ct+st=x*u1+cT:=by rw[s,a3];exact CG
 refine oQ ?_;refine zM ?_;refine zT R6 H (v:=CV odd) R2 ?_;simp only[yu,xg,zK,yY];refine yj (α:=Nat×Nat×Nat×Nat) (λz=>[(1,Y (ξ ⟨g,0,θ⟩) (O A) C),(2,Y (ξ ⟨i,0,θ⟩) (O B) cB),(3,ι (3*n+2)),(6,U .u64 (cp:Int)),(7,U .u64 (cq:Int)),(8,U .u64 (cr:Int)),(9,U .u64 (ct:Int)),(10,U .u64 (b1:Int)),(11,U .u64 (b2:Int)),(12,U .u64 (z.1:Int)),(13,U .u64 (z.2.1:Int)),(14,U .u64 (z.2.2.1:Int)),(15,U .u64 (z.2.2.2:Int)),(16,U .i64 (O D:Int)),(19,Y (ξ ⟨g,0,θ⟩) (O A) C),(20,U .i64 (O A:Int)),(21,U .i64 (O D:Int))])
  (λz o n' w'=>u=o/\n+1=n'/\w=w'/\z.1<18446744073709551616/\z.2.1<18446744073709551616/\z.2.2.1<18446744073709551616/\z.2.2.2<18446744073709551616/\(odd=χ->z.1=Z3/\z.2.1=sq/\z.2.2.1=sr/\z.2.2.2=st)/\(odd=φ->z.1=sq/\z.2.1=Z3/\z.2.2.1=st/\z.2.2.2=sr)) ?_ ?_
 cases odd with
 |false=>
  refine Zw ?_;exact zA (Z3,sq,sr,st) Qf ⟨ω,ω,ω,ae,af,ag,ah,λ_=>R4,λh=>by cases h⟩
 |true=>
  rw[ze rfl];refine mM ?_;exact zA (sq,Z3,st,sr) Qf ⟨ω,ω,ω,af,ae,ah,ag,λh=>AI,λ_=>R4⟩
 rintro⟨z1,z2,z3,z4⟩ t3 _ _ _ ⟨rfl,rfl,rfl,ar,au,av,aw,gE,gO⟩;simp only at ar au av aw gE gO;refine zN ?_;have bf:(D++A.drop (O D)).length=O A:=by rw[C1,DN];omega
 have bg:(F++B.drop (O F)).length=O B:=by rw[C1,DN];omega
 repeat refine zR ?_
 refine rn (x:=z2) (y:=z1) (c:=b1) R5 k9 ?_;have a4:=ND au ar k9;obtain⟨d,hd⟩:∃d,d=(z2+18446744073709551616-z1-b1)%18446744073709551616:=⟨_,ω⟩;obtain⟨e1,ac⟩:∃e1,e1=(if z1+b1<=z2 then 0 else 1):=⟨_,ω⟩;rw[<-hd,<-ac]at a4⊢;have b5:d<18446744073709551616:=by rw[hd];exact BQ
 have ay:e1<=1:=by rw[ac];split<;>omega
 repeat refine zR ?_
 refine yG (j:=O D) (off:=0) (v:=U .u64 (d:Int)) R8 ω ⟨Z,by rw[zL,C1,bf];omega⟩ T aa (λ_=>rfl) R3 (λ_=>rfl) ω λ_=>?_;rw[Dl,yk,cE _ R];generalize hh:upd u g _=h3;have bn:h3 g=ξ (.row (u64s (((D++[d])++A.drop (O (D++[d])))++TA)) eA):=by rw[<-hh,zg]
 have bo:h3 i=ξ (.row (u64s ((F++B.drop (O F))++TB)) eB):=by rw[<-hh,zm (Ne.symm ai)];exact W
 have q3:=(show h3 (3*n+2)=u (3*n+2)from by rw[<-hh,zm Z]).trans H;have bl:∀c,c<3*n->c≠g->c≠i->h3 c=h c:=λc hc G I=>by rw[<-hh,zm G];exact a6 c hc G I
 refine Zc ?_;refine rn (x:=z4) (y:=z3) (c:=b2) R5 a7 ?_;have a5:=ND aw av a7;obtain⟨f,hf⟩:∃d,d=(z4+18446744073709551616-z3-b2)%18446744073709551616:=⟨_,ω⟩;obtain⟨b0,ad⟩:∃e1,e1=(if z3+b2<=z4 then 0 else 1):=⟨_,ω⟩;rw[<-hf,<-ad]at a5⊢;have be:f<18446744073709551616:=by rw[hf];exact BQ
 have az:b0<=1:=by rw[ad];split<;>omega
 repeat refine zR ?_
 refine yG (j:=O F) (off:=0) (v:=U .u64 (f:Int)) R8 Z ⟨Z,by rw[zL,C1,bg];omega⟩ bo ab (λ_=>rfl) R3 (λ_=>rfl) ω λ_=>?_;rw[Dl,yk,cE _ aq];refine Zg ?_;have s:=ASt.step ax R hy ba bb bc bd ⟨b6,b7,b8,b9,b5,be,ay,az⟩ (λh=>by
  have⟨i1,i2,i3,i4⟩:=gE h;rw[<-i1,<-i2,<-i3,<-i4];exact⟨a4,a5⟩) (λh=>by
  have⟨i1,i2,i3,i4⟩:=gO h;rw[<-i1,<-i2,<-i3,<-i4];exact⟨a4,a5⟩)
 refine goOn _ ?_ ⟨ω,ω,ω,ω,ω,ω,ω,ω,ω,ω,ω,?_,CR⟩ ⟨ω,?_,?_,?_,⟨e2,(zm Z).trans q3⟩,(zm ai).trans bn,zg _ _ _,s⟩;show (O A)-O (D++[d])<O A-O D;exact Bt;exact eC;intro c hc;obtain rfl|hc:=DA.1 hc;exact .inr rfl;obtain rfl|hc:=DA.1 hc;exact .inl rfl;exact hw c hc;intro h;cases h;intro c hc G I;exact(zm I).trans (bl c hc G I)
end
section
variable {a:Nat}
section
variable {sT e:TypeId}{x:ψ}
def YM{cap:Nat}{c:List ψ}(hu:E.und sT=ξ (.slice e))(hi:E.inf e=ξ (1,bytes,z))(u:O (zn z)=1)(p:1<=bytes)(hx:argS h 1 x 1 [v])(hb:(len+1)*bytes<=1099511627776)(hc:len+1<=cap)(s:h b=ξ (.row c e'))(hl:len<O c)(q:ones [v]=φ):
  yW E h n sT (Y (ξ ⟨b,0,θ⟩) len cap) x=ξ (.val (Y (ξ ⟨b,0,θ⟩) (len+1) cap) (upd h b (ξ (.row (c.set len v) e'))) n [b]):=by
 have⟨g,f⟩:=hx;have c1:DC ((len+1)*bytes) 1099511627776=φ:=C8 hb;have c2:D5 (O (zn z)) 1=φ:=by rw[u];exact B8
 have i:DC 1 1=φ:=rfl;have j:DC 1 bytes=φ:=C8 p;have l:DC (len+1) cap=φ:=C8 hc;have m:LY h ((⟨b,0,θ⟩:Addr).add (len*1)) [v]=ξ (upd h b (ξ (.row (c.set len v) e'))):=(by rw[wO,Dl,D1,uZ s (by rw[Db];omega) q,splice_one c len v hl]);simp only[yW,hu,hi,g,f,c1,c2,i,j,l,Eg,uB,m]
end
structure GRow (h:HF)(lo n b:Nat)(A T:List Nat):Prop where
 g:gro b=φ
 lo:3*lo<=b
 hi:b<3*n
 r:h b=ξ (.row (u64s (A++T)) 164)
def GRow.sl{h:HF}{n:Nat}(g:GRow h lo n b A T):Sl h n 1 (Y (ξ ⟨b,0,θ⟩) (O A) (O A+O T)) (u64s A):=kI g.hi g.r ω Z
def GRow.ext{h:HF}{n:Nat}(g:GRow h lo n b A T)(e:Ko n h h')(c:n<=n'):GRow h' lo n' b A T:=⟨g.g,g.lo,by have:=g.hi;omega,by rw[e b g.hi];exact g.r⟩
def GRow.cut{h:HF}{n:Nat}(g:GRow h lo n b A T):GRow h lo n b (yf A) (A.drop (O (yf A))++T):=⟨g.g,g.lo,g.hi,by
 rw[<-DH];have:yf A++A.drop (O (yf A))=A:=by
  conv=>lhs;rw[<-rV A]
  conv=>rhs;rw[<-Eb (O (yf A)) A]
  rw[rV]
 rw[this];exact g.r⟩
theorem GRow.cap:O (yf A)+(A.drop (O (yf A))++T).length=O A+O T:=by grind [xU]
section
variable {X:CtxF}{t:TF}{o:Oper}{d:Tmp}
def YN{sT:TypeId}{s x:Operand}{bytes:Nat}{z:ψ}{d0:Nat}(D:zh ops t o=φ)(hd:o.dst=ξ d)(hn:zv X.nt (ξ d)=φ)(q:o.op=.call {callee:=.builtin .append,args:=#[s,x],argTypes:=#[sT,xT]})(j:(match X.E.und xT with|some (.int _)=>χ|none=>χ|_=>φ)=φ)
  (hu:X.E.und sT=ξ (.slice 164))(hi:X.E.inf 164=ξ (1,bytes,z))(F:O (zn z)=1)(m:1<=bytes)(i:Kn t s=Y (ξ ⟨b,0,θ⟩) (O A) (O A+O T))(f:GRow h lo n b A T)(hx:argS h 1 (Kn t x) 1 (u64s [d0]))(hb:(O A+1)*bytes<=1099511627776)(I:X.n0<=lo/\lo<=n)
  (k:∀b' T' h' n',n<=n'->GRow h' lo n' b' (A++[d0]) T'->(∀c,c<3*n->c≠b->h' c=h c)->(b'=b\/3*n<=b')->EO X ops r ⟨upd t d (Y (ξ ⟨b',0,θ⟩) (O A+1) (O A+1+O T')),h',n',w⟩ Q):EO X ops (o::r) ⟨t,h,n,w⟩ Q:=by
 have H:=f.lo;cases T with
 |cons x T=>
  rw[DM]at i;refine yM (v:=Y (ξ ⟨b,0,θ⟩) (O A+1) (O A+(O T+1))) ⟨D,hd,hn,q,j⟩ (by rw[i];exact YM hu hi F m hx hb Z f.r (by rw[zL,C1,DM];omega) ω) ?_;rw[zV λy l=>by rw[Dc.1 l];omega];have:=k b T (upd h b (ξ (.row ((u64s (A++x::T)).set (O A) (U .u64 (d0:Int))) 164))) n CS ⟨f.g,f.lo,f.hi,by
   rw[zg,yk,Ej _ _ CS,Ec,List.set_cons_zero,DH];rfl⟩ (λc _ hc=>zm hc) (.inl ω)
  rw[show (O A)+(O T+1)=O A+1+O T from Z];exact this
 |nil=>
  rw[FV,DV]at i;have u:=f.r;rw[DJ]at u;refine yM (v:=Y (ξ ⟨3*n+1,0,θ⟩) (O A+1) (O A+1)) ⟨D,hd,hn,q,j⟩ (by rw[i];exact ue hu hi F CS m hx CS hb f.g u (by rw[zL,D1]) (yZ (xW A) ω) ω) ?_;rw[zV λy l=>by rw[Dc.1 l];omega];have G:=f.hi;exact k (3*n+1) [] _ (n+1) (Du n) ⟨uD n,Z,Z,by rw[zg,DJ,vg]⟩ (λc hc p=>by rw[zm Z,zm p]) (.inr Z)
end
def Sa{A f:Nat}(c:2*b<=A)(g:a<=B)(h:A*B<2^f)(j:0<A*B):∃f',f=f'+1/\a*b<2^f':=by
 cases f with
 |zero=>rw[EV]at h;omega
 |succ f=>
  refine⟨f,ω,?_⟩;have i:a*(2*b)<=B*A:=DG g c;rw[E2,C5 B A]at i;rw[Dj]at h;omega
structure GSt where
 A:List Nat
 TA:List Nat
 bA:Nat
 B:List Nat
 aB:Option Addr
 cB:Nat
 f:Nat
structure GOk (h:HF)(lo n g:Nat)(z:GSt):Prop where
 rA:GRow h lo n z.bA z.A z.TA
 sB:Sl h n 1 (Y z.aB (O z.B) z.cB) (u64s z.B)
 rB:1<=O z.B->∃bB TB,z.aB=ξ ⟨bB,0,θ⟩/\z.cB=O z.B+O TB/\GRow h lo n bB z.B TB/\z.bA≠bB
 nA:NW z.A
 nB:NW z.B
 le:wv z.B<=wv z.A
 pos:0<wv z.A
 lA:O z.A<1000000
 lB:O z.B<80
 gcd:Dh (wv z.A) (wv z.B)=g
 fuel:wv z.A*wv z.B<2^z.f
def Sb(h:NW A)(f:1<=O A):0<wv A:=by obtain c|c:=Fi (wv A);have:A=[]:=h.inj Kl AF;rw[this]at f;exact CO f zd;exact c
def uO{B:List Nat}(f:NW A)(g:NW B)(h:wv B<=wv A):O B<=O A:=by obtain c|c:=En (O A) (O B);have:=f.len_lt g c;omega;exact c
def YO(h:gro b=φ):b%3=1:=DU h
theorem eD(k:Nat){h:HF}(hG:GK.G h){n:Nat}(hn:20<=n)(hA:Sl h n 1 (Y a1 l1 c1) (u64s A))(hC:Sl h n 1 (Y a2 l2 c2) (u64s C))(u:NW A)(nC:NW C)(hb:O A<80/\O C<80):
  CF (Kp (k+7)) 99 [Y a1 l1 c1,Y a2 l2 c2] h n λv h' n' w=>∃L,ResW n h v h' n' w L/\wv L=Dh (wv A) (wv C)/\(xC n v\/v=Y a1 l1 c1\/v=Y a2 l2 c2):=by
 refine zw (fn:=Tryz.f99) R4 ?_;refine mM ?_;refine mZ ?_;refine yi _ R5 (uF (k+3) hA hC u nC Z) ?_;rintro _ rfl;refine lW R6 ?_;simp only[yu,xg,zK,yY];refine yj (α:=(Option Addr×Nat×Nat×List Nat)×(Option Addr×Nat×Nat×List Nat)) (λz=>[(0,Y z.1.1 z.1.2.1 z.1.2.2.1),(1,Y z.2.1 z.2.2.1 z.2.2.2.1)]) (λz h' n' w=>h=h'/\n=n'/\w=[]/\Sl h n 1 (Y z.1.1 z.1.2.1 z.1.2.2.1) (u64s z.1.2.2.2)/\Sl h n 1 (Y z.2.1 z.2.2.1 z.2.2.2.1) (u64s z.2.2.2.2)/\NW z.1.2.2.2/\NW z.2.2.2.2/\O z.1.2.2.2<80/\O z.2.2.2.2<80/\wv z.2.2.2.2<=wv z.1.2.2.2/\Dh (wv z.1.2.2.2) (wv z.2.2.2.2)=Dh (wv A) (wv C)/\(Y z.1.1 z.1.2.1 z.1.2.2.1=Y a1 l1 c1\/Y z.1.1 z.1.2.1 z.1.2.2.1=Y a2 l2 c2)) ?_ ?_
 .by_cases hlt:wv A<wv C
  .rw[ze (by show CV _=_;rw[sM hlt];rfl)];refine mM ?_;exact zA ((a2,l2,c2,C),(a1,l1,c1,A)) ⟨rfl,rfl,CR⟩ ⟨rfl,rfl,rfl,hC,hA,nC,u,hb.2,hb.1,EB hlt,E5 _ _,.inr rfl⟩
  rw[za (by
   show CV _=_;rcases En (wv C) (wv A)with h|h
   .rw[sO h];rfl
   .rw[show wv A=wv C from Z,jd];rfl)]
  refine zN ?_;exact zA ((a1,l1,c1,A),(a2,l2,c2,C)) ⟨rfl,rfl,CR⟩ ⟨rfl,rfl,rfl,hA,hC,u,nC,hb.1,hb.2,by show wv C<=wv A;omega,rfl,.inl rfl⟩
 rintro⟨⟨a,l,c,X⟩,⟨a',l',c',Z3⟩⟩ t _ _ _ ⟨rfl,rfl,rfl,hX,hY,nX,nY,bs,aw,a7,H,hv⟩;simp only at hX hY nX nY bs aw a7 H hv;generalize hgg:Dh (wv A) (wv C)=g at H⊢;clear hgg hb hA hC u nC;have eX:=hX.lenW;have eY:=hY.lenW;subst eX eY;refine zN ?_;by_cases hY0:Z3=[]
 .subst hY0;refine Zi ?_;exact retH _ ⟨rfl,(zi rfl),rfl⟩ ⟨X,⟨rfl,CS,FI _ _,hX,nX⟩,Bu,.inr hv⟩
 have bt:1<=O Z3:=by
  rcases Fi (O Z3) with h0|h0
  .exact CO (De.1 h0) hY0
  exact h0
 have ag:1<=O X:=Dy bt (uO nX nY a7);have br:X≠[]:=λe=>by rw[e]at ag;exact CO ag zd
 refine Zr ?_;refine zF _ R5 (ub (k+5) hX Z) ?_;rintro v5 h2 i _⟨rfl,ak,W,_,a8⟩;obtain⟨b5,rfl,bf,bg,bh,ap,_⟩:=(a8 br).inv2 Z;refine zM ?_;refine zF _ R5 (ub (k+5) (hY.ext W ak) Z) ?_;rintro v6 h3 n3 _⟨rfl,cu,D,_,az⟩;obtain⟨b6,rfl,bi,ck,bj,au,_⟩:=(az hY0).inv2 Z;have an:Ko n h h3:=W.trans D ak;have r5:GRow h3 n n3 b5 X []:=⟨bf,bg,Z,by rw[DJ,D _ bh];exact ap⟩;have r6:GRow h3 n n3 b6 Z3 []:=⟨bi,Z,bj,by rw[DJ];exact au⟩;refine oQ ?_;refine ye (α:=GSt) (λz=>[(5,Y (ξ ⟨z.bA,0,θ⟩) (O z.A) (O z.A+O z.TA)),(6,Y z.aB (O z.B) z.cB)]) (λz h' n' w=>n<=n'/\w=[]/\Ko n h h'/\GOk h' n n' g z) (λz=>z.f)
  ⟨X,[],b5,Z3,ξ ⟨b6,0,θ⟩,O Z3,64*(O X+O Z3)⟩ ⟨rfl,rfl,CR⟩ ⟨Z,rfl,an,r5,r6.sl,λ_=>⟨b6,[],rfl,rfl,r6,by show b5≠b6;omega⟩,nX,nY,a7,Sb nX ag,by show O X<_;omega,aw,H,?_⟩ (by show 64*(O X+O Z3)<LL;unfold LL;omega) ?_
 .show wv X*wv Z3<2^(64*(O X+O Z3));rw[HZ,show(2:Nat)^64=18446744073709551616 from rfl,Ef];exact Nat.mul_lt_mul'' (wW nX.1) (wW nY.1)
 clear a8 az r5 r6 an W D ap au H hv a7 nX nY hX hY;rintro⟨A,TA,F,B,aB,cB,f⟩ t h1 n1 _ ⟨aj,rfl,ac,c7⟩;obtain⟨rA,sB,rB,u,Z1,aa,R,lA,lB,H,hf⟩:=c7;simp only at rA sB rB u Z1 aa R lA lB H hf aj;refine zN ?_;by_cases hB2:2<=O B;case neg=>
  refine Zb ?_;cases B with
  |nil=>
   refine Zi ?_;exact retH _ ⟨rfl,(zi rfl),rfl⟩ ⟨A,⟨rfl,aj,ac,rA.sl,u⟩,Bu,.inl rA.lo⟩
  |cons y B=>
   have bo:B=[]:=by
    rw[DM]at hB2;exact De.1 Z
   subst bo;obtain⟨bB,TB,rfl,rfl,gB,b0⟩:=rB cA;have hy:y<18446744073709551616:=Z1.1 y cA;have cy:y≠0:=an3 (l:=[]) Z1;rw[pP]at H;have b2:=gB.r;have bp:GK.G h1:=rR hG ac hn;rw[show[y].length=1 from rfl];refine Zb ?_;refine zl [0,1,3,0,0,16,48,120,255,511,1023] rfl ?_;repeat refine zE ?_
   refine yd R6 (zX rfl b2 (v:=U .u64 (y:Int)) R2) R2 ?_;repeat refine zE ?_
   refine yd R6 (zX rfl b2 (v:=U .u64 (y:Int)) R2) R2 ?_;refine Mv _ R7 (RN (k+2) (l:=A) (d:=y) Z u.1 ⟨Z,hy⟩ rA.sl) ?_;rintro _ rfl;refine Mv _ R7 (Rn (k+4) bp n1 hy (H8 (DS _ Z) hy)) ?_;rintro _ rfl;refine wa _ R7 (sH (k+5) h1 n1 (Dw (HU _ Z) hy)) ?_;rintro v9 h9 n9 _⟨L9,⟨rfl,c6,ce,b3,bq⟩,cb,cn,c0⟩;obtain⟨a9,l9,c9,rfl,_⟩:=b3.len;refine⟨sj,c6,?_⟩;repeat refine zE ?_
   refine zN ?_;exact retH _ ⟨rfl,(zi rfl),rfl⟩ ⟨L9,⟨rfl,by show n<=n9;omega,ac.trans ce Z,b3,bq⟩,by rw[cb,RQ,H],.inl (c0.mono Z)⟩
 obtain⟨bB,TB,rfl,rfl,gB,b0⟩:=rB Z;clear rB sB;have K:=Sb Z1 (show 1<=O B by omega);have bn:=uO u Z1 aa;refine Zp ?_;refine zF _ R5 (fC (k+3) rA.sl gB.sl u Z1 Z aa Z K) ?_;rintro _ h2 i _⟨rfl,ak,W,x,y,u0,u1,u2,v0,v1,v2,r0,r1,a3,rfl,hL,d0,d1,d2,d3⟩;refine xV R5 ?_;refine yc [U .u64 (u0:Int),U .u64 (u1:Int),U .u64 (v0:Int),U .u64 (v1:Int),CV a3] R7 rfl (zg _ _ _) rfl (by show 3*n<=3*i+2;omega) ?_;rw[uk];generalize hh:upd h2 (3*i+2) _=h3;have q3:∃e,h3 (3*i+2)=ξ (.row [U .u64 (u0:Int),U .u64 (u1:Int),U .u64 (v0:Int),U .u64 (v1:Int),CV a3] e):=⟨_,mp⟩;obtain⟨e3,q3⟩:=q3;have a6:Ko n1 h1 h3:=λb hb=>by rw[<-hh,zm Z,W b hb]
 clear hh;have D:Ko n h h3:=ac.trans a6 aj;have ae:=rA.ext a6 (show n1<=i+1 by omega);have Z4:=gB.ext a6 (show n1<=i+1 by omega);refine Za ?_;refine zT R6 q3 (v:=U .u64 (v0:Int)) R2 ?_;by_cases hv0:v0=0
 .refine Zp ?_;refine zF _ R5 (ng k ae.sl Z4.sl u Z1 Z K) ?_;rintro _ h4 n4 _⟨vq,vr,Lq,J,rfl,rfl,ab,P,ca,cw,am,b1,hq,hr,_,_⟩;obtain⟨aq,lq,cq,rfl,_⟩:=ca.len;obtain⟨ar,lr,cr,rfl,_⟩:=am.len;have c3:=DS (wv A) K;have ct:O J<=O B:=uO Z1 b1 Z;have be:=am.lenW;subst be;refine Zv ?_;refine zF _ R5 (ub (k+5) am Z) ?_;rintro v5 h5 n5 _⟨rfl,cv,cd,al,a8⟩;obtain⟨a5,l5,c5,rfl,_⟩:=al.len;have bd:=al.lenW;subst bd;refine oQ ?_;have ao:Ko (i+1) h3 h5:=P.trans cd ab;obtain⟨f',rfl,ah⟩:=Sa (a:=wv B) (b:=wv A%wv B) (by
   have h1:=Em (wv A) (wv B);have h2:wv B*1<=wv B*(wv A/wv B):=Do _ ((Km K).2 aa);omega) CS hf (Fv R K)
  refine goOn ⟨B,TB,bB,J,a5,c5,f'⟩ (FD _) ⟨rfl,rfl,CR⟩ ⟨by show n<=n5;omega,rfl,D.trans ao (show n<=i+1 by omega),Z4.ext ao (show i+1<=n5 by omega),al,λhl=>?_,Z1,b1,by show wv J<=wv B;rw[hr];exact EB c3,K,by show O B<_;omega,by show O J<_;omega,?_,by show wv B*wv J<_;rw[hr];exact ah⟩
  .obtain⟨b7,e7,bk,cl,bl,bm,_⟩:=(a8 (λe=>by rw[show(GSt.mk B TB bB J a5 c5 f').B=J from rfl,e]at hl;exact CO hl (JR 0))).inv2 (show O J≠0 from λe=>by rw[show(GSt.mk B TB bB J a5 c5 f').B=J from rfl,e]at hl;exact CO hl (JR 0));injection e7 with e1 e2 e3
   subst e1 e3;have:=gB.hi;exact⟨b7,[],rfl,rfl,⟨bk,Z,bl,by rw[DJ];exact bm⟩,by show bB≠b7;omega⟩
  show Dh (wv B) (wv J)=g;rw[hr,<-H,E5,<-Ja,E5]
 obtain⟨a,b,hE,hO,ay,ai,ci,ax⟩:=hL.done hv0;refine lF ?_;simp only[yu,xg,zK,yY];refine yj (α:=Nat×List Nat×List Nat×Nat) (λz=>[(5,Y (ξ ⟨F,0,θ⟩) (O A) (O A+O TA)),(6,Y (ξ ⟨z.1,0,θ⟩) (O z.2.1) (O z.2.1+O z.2.2.1)),(7,ι (3*i+2))])
  (λz h' n' w=>n'=z.2.2.2/\i+1<=n'/\w=[]/\Ko n h h'/\GRow h' n n' F A TA/\GRow h' n n' z.1 z.2.1 z.2.2.1/\F≠z.1/\h' (3*i+2)=ξ (.row [U .u64 (u0:Int),U .u64 (u1:Int),U .u64 (v0:Int),U .u64 (v1:Int),CV a3] e3)/\O z.2.1=O A/\Kq z.2.1/\wv z.2.1=wv B) ?_ ?_
 .refine zN ?_;refine ye (α:=Nat×List Nat×List Nat) (λz=>[(5,Y (ξ ⟨F,0,θ⟩) (O A) (O A+O TA)),(6,Y (ξ ⟨z.1,0,θ⟩) (O z.2.1) (O z.2.1+O z.2.2)),(7,ι (3*i+2))])
   (λz h' n' w=>i+1<=n'/\w=[]/\Ko n h h'/\GRow h' n n' F A TA/\GRow h' n n' z.1 z.2.1 z.2.2/\F≠z.1/\h' (3*i+2)=ξ (.row [U .u64 (u0:Int),U .u64 (u1:Int),U .u64 (v0:Int),U .u64 (v1:Int),CV a3] e3)/\O z.2.1<=O A/\Kq z.2.1/\wv z.2.1=wv B) (λz=>O A-O z.2.1)
   (bB,B,TB) ⟨rfl,rfl,rfl,CR⟩ ⟨CS,rfl,D,ae,Z4,b0,q3,bn,Z1.1,rfl⟩ (by show O A-O B<LL;unfold LL;omega) ?_
  clear ae Z4 q3 D;rintro⟨bZ,Z0,T⟩ t h4 n4 _ ⟨ab,rfl,P,j,s,p,q4,V,dZ,N⟩;simp only at s p V dZ N;refine zN ?_;by_cases hZA:O Z0<O A
  .refine Zx ?_;refine pZ (cs:=u64s [0]) R5 ?_;generalize hh:upd h4 (3*n4+2) _=h5;have S:Ko n4 h4 h5:=by rw[<-hh];exact Hv Z
   have q5:∃e,h5 (3*n4+2)=ξ (.row (u64s [0]) e):=⟨_,mp⟩;obtain⟨e5,q5⟩:=q5;clear hh;refine YN (lo:=n) (d0:=0) rfl rfl rfl rfl rfl rfl rfl rfl zd rfl (s.ext S (Du n4)) (yp q5 R2) Z ⟨CS,Z⟩ ?_;intro b' T' h6 n6 c4 g6 a0 bw;refine oQ ?_;have cm:=YO s.g;have ba:=s.hi;have a4:=s.lo;have b9:=j.hi;refine goOn (b',Z0++[0],T') (by show O A-O (Z0++[0])<O A-O Z0;rw[C1,Db];omega) ⟨rfl,by show Y _ _ _=Y _ _ _;rw[C1];rfl,rfl,CR⟩ ⟨by show i+1<=n6;omega,rfl,λb hb=>?_,⟨j.g,j.lo,by show F<3*n6;omega,?_⟩,g6,by show F≠b';rcases bw with e|e<;>omega,?_,by show(Z0++[0]).length<=_;rw[C1,Db];omega,Gt dZ zd,by show wv (Z0++[0])=_;rw[yO,EJ,DV,N]⟩
   .exact(a0 b Z Z).trans ((S b Z).trans (P b hb))
   .exact(a0 F Z p).trans ((S F Z).trans j.r)
   exact(a0 (3*i+2) Z Z).trans ((S (3*i+2) Z).trans q4)
  refine Zb ?_;exact zA (bZ,Z0,T,n4) ⟨rfl,rfl,rfl,CR⟩ ⟨rfl,ab,rfl,P,j,s,p,q4,by show O Z0=_;omega,dZ,N⟩
 clear ae Z4 q3 D;rintro⟨bZ,Z0,T,n4⟩ t h4 _ _ ⟨rfl,ab,rfl,P,j,s,p,q4,V,dZ,N⟩;simp only at s p V dZ N;refine zN ?_;refine z7 (v:=.agg #[U .u64 (u0:Int),U .u64 (u1:Int),U .u64 (v0:Int),U .u64 (v1:Int),CV a3]) R5 (yw R2 q4 rfl zb rfl) ?_;refine mZ ?_;have cj:=wW u.1;refine zF _ R5 (YL (k+3) (a:=a) (b:=b) j.hi s.hi p j.r s.r Z Z V Z Z u.1 dZ ⟨Z,Z,Z,Z⟩ Z Z (by rw[N];exact hE) (by rw[N];exact hO)) ?_;rintro _ h6 n6 w6⟨q,I,cc,c4,a0,qA,qB,bb,bc,b4,cf,cg,ch⟩;have af:=j.lo;have a4:=s.lo;have b9:=j.hi;have ba:=s.hi;try simp only[tH]
 rw[zV (w:=[]) λy hy=>by
  show 3*n<=y;rcases cc y hy with rfl|rfl
  .exact af
  .exact a4]
 have b8:GRow h6 n n6 F q TA:=⟨j.g,af,Z,qA⟩;have av:GRow h6 n n6 bZ I T:=⟨s.g,a4,Z,qB⟩;refine oQ ?_;refine zM ?_;have tA:=xi (k+5) (l:=q) Z (λad e=>by injection e with e;rw[<-e]) b8.sl;rw[b4]at tA;refine zF _ R5 tA ?_;rintro _ h6 n6 _⟨rfl,rfl,rfl,rfl,cx⟩;refine zM ?_;have tB:=xi (k+5) (l:=I) Z (λad e=>by injection e with e;rw[<-e]) av.sl;rw[cf,<-V]at tB;refine zF _ R5 tB ?_;rintro _ h6 n6 _⟨rfl,rfl,rfl,rfl,c8⟩;refine oQ ?_;have m:=xD bb;have M:=xD bc;rw[cg]at m;rw[ch]at M;have bu:0<a:=by
  rcases Fi a with h0|h0
  .have bv:b=0:=Z;rw[h0,bv,G6]at ai;have:=Nat.gcd_pos_of_pos_left (wv B) R;omega
  exact h0
 obtain⟨f',rfl,ah⟩:=Sa (a:=a) (b:=b) Z ax hf (Fv R K);have bx:=GRow.cap (A:=q) (T:=TA);have bz:=GRow.cap (A:=I) (T:=T);have co:O (yf q)<=O B:=uO Z1 m.1 (by rw[m.2];exact ax);have cp:O (yf I)<=O (yf q):=uO m.1 M.1 (by rw[m.2,M.2];exact ay);exact goOn ⟨yf q,q.drop (O (yf q))++TA,F,yf I,ξ ⟨bZ,0,θ⟩,O Z0+O T,f'⟩ (FD _) ⟨by show Y _ _ _=Y _ _ _;rw[bx,b4],rfl,CR⟩ ⟨by show n<=n6;omega,rfl,λc hc=>(a0 c Z Z Z).trans (P c hc),b8.cut,c8,λ_=>⟨bZ,I.drop (O (yf I))++T,rfl,by show O Z0+O T=_;rw[bz];omega,av.cut,p⟩,m.1,M.1,by show wv (yf I)<=wv (yf q);rw[m.2,M.2];exact ay,by show 0<wv (yf q);rw[m.2];exact bu,by show(yf q).length<_;omega,by show(yf I).length<_;omega,by show Dh (wv (yf q)) (wv (yf I))=g;rw[m.2,M.2,ai,H],by show wv (yf q)*wv (yf I)<_;rw[m.2,M.2];exact ah⟩
end
def rx(k:Nat)(h:HF)(n:Nat)(neg:Bool)(a:Option Addr)(l c:Nat):CF (Kp (k+1)) 119 [CV neg,Y a l c] h n λv b d w=>v=.agg #[CV (neg&&decide (0<l)),Y a l c]/\d=n+1/\w=[]/\Ko n h b:=by
 refine zw (fn:=Tryz.f119) R4<|zN ?_;refine xV R5<|zN ?_;cases neg;repeat refine zR ?_
 refine yc [CV χ,Y a l c] R7 ω (zg _ _ _) ω dG ?_;refine zN ?_;exact uq R5 (zg _ _ _) ω ⟨ω,ω,ω,Bx⟩;by_cases hl:0<l;repeat refine zR ?_
 refine yc [CV φ,Y a l c] R7 ω (zg _ _ _) ω dG ?_;refine zN ?_;exact uq R5 (zg _ _ _) ω ⟨by rw[CN hl];rfl,ω,ω,Bx⟩;repeat refine zR ?_
 refine yc [CV χ,Y a l c] R7 ω (zg _ _ _) ω dG ?_;refine zN ?_;exact uq R5 (zg _ _ _) ω ⟨by rw[CM hl];rfl,ω,ω,Bx⟩
def NW.zero_iff{L:List Nat}(h:NW L):wv L=0↔L=[]:=⟨λe=>h.inj Kl AG,λe=>by rw[e];rfl⟩
section
variable {l:Nat}{e:TypeId}
def Gw(n:Nat)(h:HF)(P:ψ->HF->Nat->Prop):ψ->HF->Nat->List Nat->Prop:=λv h' n' w=>w=[]/\n<=n'/\Ko n h h'/\P v h' n'
def CX(C:CalF)(f:FuncId)(args:List ψ)(h:HF)(n:Nat)(P:ψ->HF->Nat->Prop):Prop:=CF C f args h n (Gw n h P)
def VF.cx{C:CalF}{h:HF}{n:Nat}{P:ψ->Prop}(c:VF C f args h n P):CX C f args h n λv _ _=>P v:=by refine wc c ?_;rintro v _ _ _⟨rfl,rfl,rfl,a⟩;exact⟨ω,CS,FI _ _,a⟩
def CX.mono{C:CalF}{h:HF}{n:Nat}{P a:ψ->HF->Nat->Prop}(c:CX C f args h n P)(j:∀v h' n',P v h' n'->a v h' n'):CX C f args h n a:=by refine wc c ?_;rintro v _ _ _⟨q,g,s,p⟩;exact⟨q,g,s,j _ _ _ p⟩
def Only(b:Nat)(h h':HF):Prop:=∀c,c≠b->h' c=h c
def Ko.st{n:Nat}{h a g:HF}(x:Ko n h a)(o:Only b a g)(hb:3*n<=b):Ko n h g:=λc j=>(o c Z).trans (x c j)
section
variable {X:CtxF}{t:TF}{o:Oper}{d:Tmp}
def tK(cs:List ψ)(a:qu X ops t o d (Ku o.op=2/\KD X.E o.op (Kn t)=ξ ⟨cs,e,χ,θ⟩))
  (k:∀h',h' (3*n+2)=ξ (.row cs e)->Ko n h h'->EO X ops r ⟨upd t d (ι (3*n+2)),h',n+1,w⟩ Q):EO X ops (o::r) ⟨t,h,n,w⟩ Q:=by have⟨a,j,q,g,p⟩:=a;exact Lu ⟨a,j,q,g,p⟩ (k _ (zg _ _ _) (Hv Z))
theorem wt(cs:List ψ)(a:qu X ops t o d (o.op=.alloc e/\X.E.inf e=ξ (sz,bt,z)/\zn z=cs))
  (k:∀h',h' (3*n+2)=ξ (.row cs e)->Ko n h h'->EO X ops r ⟨upd t d (ι (3*n+2)),h',n+1,w⟩ Q):EO X ops (o::r) ⟨t,h,n,w⟩ Q:=by
 obtain⟨a,g,p,q,j,s⟩:=a;subst s;exact xV ⟨a,g,p,q,j⟩ (k _ (zg _ _ _) (Hv Z))
def mq{a x:Operand}{c:List ψ}(c':List ψ)(j:zh ops t o=φ/\o.dst=θ/\o.op=.store ty a x/\X.E.inf ty=ξ (sz,bt,z)/\Kn t a=CZ (ξ ⟨b,off,θ⟩))(hb:h b=ξ (.row c e))(hx:zn (Kn t x)=cs/\O cs=sz/\ones cs=φ)(hl:off+sz<=O c)(hsp:zu c off cs=c')(g:3*X.n0<=b)
  (k:∀h',h' b=ξ (.row c' e)->Only b h h'->EO X ops r ⟨t,h',n,w⟩ Q):EO X ops (o::r) ⟨t,h,n,w⟩ Q:=by have⟨j,u,B,A,q⟩:=j;have⟨hx,C,p⟩:=hx;subst hsp;exact yF ⟨j,u,B,A,q,hx,C,p⟩ hb hl g (k _ (zg _ _ _) λc s=>zm s)
def gJ{P:ψ->HF->Nat->Prop}(g:qu X ops t o d (Ku o.op=3/\effF X.E o.op (Kn t) h n=ξ (.enter f args)))(a:CX X.C f args h n P)
  (k:∀v h' n',P v h' n'->n<=n'->Ko n h h'->EO X ops r ⟨upd t d v,h',n',w⟩ Q):EO X ops (o::r) ⟨t,h,n,w⟩ Q:=by have⟨g,u,B,s,A⟩:=g;refine zF _ ⟨g,u,B,s,A⟩ a ?_;rintro v h' n' _⟨rfl,j,p,q⟩;exact k v h' n' q j p
end
section
variable {X:CtxF}{t:TF}{o:Oper}{d:Tmp}
def YP(cs:List ψ)(p:zh ops t o=φ)(g:o.dst=ξ d)(j:zv X.nt (ξ d)=φ)(a:Ku o.op=2)(hm:KD X.E o.op (Kn t)=ξ ⟨cs,e,χ,θ⟩)
  (k:∀h',h' (3*n+2)=ξ (.row cs e)->Ko n h h'->ED X ops r ms (i+1) ⟨⟨upd t d (ι (3*n+2)),h',n+1,w⟩,(i,3*n+2)::al,ld,ef⟩ Q):ED X ops (o::r) (m::ms) i ⟨⟨t,h,n,w⟩,al,ld,ef⟩ Q:=
 W9 p g j a hm (k _ (zg _ _ _) (Hv Z))
def YQ{a x:Operand}{c:List ψ}(c':List ψ)(F:zh ops t o=φ)(B:o.dst=θ)(C:o.op=.store ty a x)(hi:X.E.inf ty=ξ (sz,bt,z))(u:Kn t a=CZ (ξ ⟨b,off,θ⟩))(hb:h b=ξ (.row c e))(hx:zn (Kn t x)=cs)(D:O cs=sz)(s:ones cs=φ)(hl:off+sz<=O c)(hsp:zu c off cs=c')(g:3*X.n0<=b)(j:xq m ef=φ)(p:xJ m al=φ)(q:ya m [b] ld=φ)
  (k:∀h',h' b=ξ (.row c' e)->Only b h h'->ED X ops r ms (i+1) ⟨⟨t,h',n,w⟩,al,ld,(i,h,[b])::ef⟩ Q):ED X ops (o::r) (m::ms) i ⟨⟨t,h,n,w⟩,al,ld,ef⟩ Q:=by subst hsp;exact uT ⟨F,B,C,hi,u,hx,D⟩ s hb hl g ⟨j,p,q⟩ (k _ (zg _ _ _) λc A=>zm A)
def YR{P:ψ->HF->Nat->Prop}(D:zh ops t o=φ)(u:o.dst=ξ d)(B:zv X.nt (ξ d)=φ)(s:Ku o.op=3)(A:effF X.E o.op (Kn t) h n=ξ (.enter f args))(g:CX X.C f args h n P)(j:xq m ef=φ)(a:xJ m al=φ)
  (k:∀v h' n',P v h' n'->n<=n'->Ko n h h'->ED X ops r ms (i+1) ⟨⟨upd t d v,h',n',w⟩,al,ld,(i,h,[])::ef⟩ Q):ED X ops (o::r) (m::ms) i ⟨⟨t,h,n,w⟩,al,ld,ef⟩ Q:=by refine wa _ ⟨D,u,B,s,A,j,a⟩ g ?_;rintro v h' n' _⟨rfl,a,p,q⟩;exact⟨sj,a,k v h' n' q a p⟩
end
def qP{s:SV}:resF Kw s []=ξ []:=rfl
def yX{s:SV}{a:Tmp}{r:List ResultVar}(h:s.t a=v)(g:resF Kw s r=ξ vs):resF Kw s (.tmp a::r)=ξ (v::vs):=by simp only[resF,g,h]
def we{s:SV}{a:Tmp}{g:Addr}{r:List ResultVar}(j:s.t a=CZ (ξ g))(hl:yB Kw ty s.h g=ξ v)(p:resF Kw s r=ξ vs):resF Kw s (.cell a ty::r)=ξ (v::vs):=by simp only[resF,j,hl,p]
def retX{P:ψ->HF->Nat->Prop}{e:Ex}{t:TF}{h:HF}{n:Nat}(vs:List ψ)(a:rI e=φ/\resF Kw ⟨t,h,n,[]⟩ fn.results.toList=ξ vs/\uQ vs=χ)(j:n0<=n)(hx:Ko n0 h0 h)(p:P (qm vs) h n):RetH fn (Gw n0 h0 P) e ⟨t,h,n,[]⟩:=by have⟨a,q,g⟩:=a;exact retH vs ⟨a,q,g⟩ ⟨ω,j,hx,p⟩
def nu:ψ->Bool
 | U .u64 _=>χ
 | U .u32 _=>χ
 |_=>φ
def Sl.onlyG{h:HF}{n:Nat}(s:Sl h n 1 v cl)(g:∀x∈cl,nu x=χ)(B:h b=ξ (.row cs e))(hu:cs.all nu=φ)(A:Only b h h'):Sl h' n 1 v cl:=by
 cases s with
 |nil ha=>exact .nil ha
 | @at_ b2 off len cap x cs2 c2 hb hx hc hcap hl he=>
  by_cases h0:len=0;subst h0;have:cl=[]:=by rw[<-he];simp
  subst this;exact .nil (.inr ⟨_,_,_,ω,hb⟩);have j:b2≠b:=by
   intro p;subst p;rw[B]at hx;cases hx;injection hc with hc;subst hc;have q:O cl=len:=by rw[<-he,DK,DN];omega
   obtain⟨d,a,rfl⟩:∃d a,cl=d::a:=by
    cases cl with
    |nil=>exact CO q.symm h0
    |cons d a=>exact⟨d,a,ω⟩
   have u:d∈cs:=by
    have:d∈(cs.drop off).take (len*1):=by rw[he];exact CD
    exact Cc
   have:=Fy.1 hu _ u;rw[g d EM]at this;cases this
  exact .at_ hb (by rw[A _ j];exact hx) hc hcap hl he
def Sl.only{h:HF}{n:Nat}(s:Sl h n 1 v (u64s L))(g:h b=ξ (.row cs e))(hu:cs.all nu=φ)(a:Only b h h'):Sl h' n 1 v (u64s L):=
 s.onlyG (λx j=>by obtain⟨d,_,rfl⟩:=D2.1 j;rfl) g hu a
def Sl.only32{h:HF}{n:Nat}(s:Sl h n 1 v (u32s L))(g:h b=ξ (.row cs e))(hu:cs.all nu=φ)(a:Only b h h'):Sl h' n 1 v (u32s L):=
 s.onlyG (λx j=>by obtain⟨d,_,rfl⟩:=D2.1 j;rfl) g hu a
def WW(h:HF)(n:Nat)(a:Option Addr)(l c m:Nat):Prop:=∃L,Sl h n 1 (Y a l c) (u64s L)/\NW L/\wv L=m
def WW.ext{h:HF}{n:Nat}{a:Option Addr}{m:Nat}(i:WW h n a l c m)(e:Ko n h h')(q:n<=n'):WW h' n' a l c m:=by have⟨L,g,j,p⟩:=i;exact⟨L,g.ext e q,j,p⟩
def WW.only{h:HF}{n g:Nat}{a:Option Addr}{m:Nat}(i:WW h n a l c m)(u:h g=ξ (.row cs e))(hu:cs.all nu=φ)(s:Only g h h'):WW h' n a l c m:=by have⟨L,j,p,q⟩:=i;exact⟨L,j.only u hu s,p,q⟩
def WW.zero{h:HF}{n:Nat}{a:Option Addr}{m:Nat}(i:WW h n a l c m):l=0↔m=0:=by have⟨L,g,j,p⟩:=i;have e:=g.lenW;rw[<-p,j.zero_iff,<-De,e]
def WW.as{h:HF}{n:Nat}{a:Option Addr}{m:Nat}(i:WW h n a l c m)(e:m=m'):WW h n a l c m':=e▸i
def WW.nil(h:HF)(n:Nat):WW h n θ 0 0 0:=⟨[],.nil (.inl ω),Kl,ω⟩
def IW(h:HF)(n:Nat)(b:Bool)(a:Option Addr)(l c:Nat)(x:Int):Prop:=b=decide (x<0)/\WW h n a l c x.natAbs
def IW.ext{h:HF}{n:Nat}{b:Bool}{a:Option Addr}{x:Int}(i:IW h n b a l c x)(e:Ko n h h')(g:n<=n'):IW h' n' b a l c x:=⟨i.1,i.2.ext e g⟩
def IW.only{h:HF}{n g:Nat}{b:Bool}{a:Option Addr}{x:Int}(i:IW h n b a l c x)(p:h g=ξ (.row cs e))(hu:cs.all nu=φ)(j:Only g h h'):IW h' n b a l c x:=⟨i.1,i.2.only p hu j⟩
def IW.as{h:HF}{n:Nat}{b:Bool}{a:Option Addr}{x y:Int}(i:IW h n b a l c x)(e:x=y):IW h n b a l c y:=e▸i
def IW.lt{h:HF}{n:Nat}{a:Option Addr}{x:Int}(i:IW h n φ a l c x):x<0:=of_decide_eq_true i.1.symm
def IW.ge{h:HF}{n:Nat}{a:Option Addr}{x:Int}(i:IW h n χ a l c x):0<=x:=Int.not_lt.1 (of_decide_eq_false i.1.symm)
def IV(x:Int)(v:ψ)(h:HF)(n:Nat):Prop:=∃b a l c,v=.agg #[CV b,Y a l c]/\IW h n b a l c x
def WV(m:Nat)(v:ψ)(h:HF)(n:Nat):Prop:=∃a l c,v=Y a l c/\WW h n a l c m
def BV(p:Prop)(v:ψ)(_:HF)(_:Nat):Prop:=∃b:Bool,v=CV b/\(b=φ↔p)
def NF(x:Int)(v:ψ)(_:HF)(_:Nat):Prop:=∃s:Int,v=U .i64 s/\(s= -1/\x<0\/s=0/\x=0\/s=1/\0<x)
def IW.zero(h:HF)(n:Nat):IW h n χ θ 0 0 0:=⟨ω,WW.nil h n⟩
def GG(h:HF)(n:Nat):Prop:=GK.G h/\20<=n
def GG.ext{h:HF}{n:Nat}(g:GG h n)(e:Ko n h h')(a:n<=n'):GG h' n':=⟨rR g.1 e g.2,Dy g.2 a⟩
def BW:Nat:=18446744073709551616^39
def yU{m e:Nat}(h:m<2^e)(j:e<=2496):m<BW:=by have a:e<=64*39:=j;generalize hk:39=k at a;have g:m<(2^64)^k:=(by rw[<-HZ];exact Dm h (Dd zd a));subst hk;exact g
def NW.len39(h:NW L)(hb:wv L<BW):O L<=39:=h.len_le hb
def Ll(b:Bool)(m:Nat):Int:=if b then -(m:Int)else m
def Sc(b:Bool)(m:Nat):(Ll b m).natAbs=m:=by unfold Ll;split<;>omega
theorem Sd(b:Bool)(m:Nat):decide (Ll b m<0)=(b&&decide (0<m)):=by grind [Ll]
def yJ(k:Nat){h:HF}{n:Nat}{a:Option Addr}{m:Nat}(i:WW h n a l c m)(neg:Bool):CX (Kp (k+1)) 119 [CV neg,Y a l c] h n (IV (Ll neg m)):=by refine wc (rx k h n neg a l c) ?_;rintro _ h' n' _⟨rfl,rfl,rfl,g⟩;refine⟨ω,Du _,g,_,_,_,_,ω,?_,?_⟩;rw[Sd];have:=i.zero;congr 1;by_cases h0:0<l;rw[CN h0,CN Z];rw[CM h0,CM Z];rw[Sc];exact i.ext g Zq
def ResW.ww{n:Nat}{h:HF}{w:List Nat}(r:ResW n h v h' n' w L){m:Nat}(e:wv L=m):w=[]/\n<=n'/\Ko n h h'/\WV m v h' n':=by have⟨j,p,q,g,s⟩:=r;obtain⟨a,l,c,rfl,_⟩:=g.len;exact⟨j,p,q,_,_,_,ω,L,g,s,e⟩
section
variable (k:Nat){h:HF}{n:Nat}{a1 a2:Option Addr}{l1 c1 l2 c2 x y:Nat}
def Se(i:WW h n a1 l1 c1 x)(j:WW h n a2 l2 c2 y)(hb:x<BW/\y<BW):CX (Kp (k+2)) 141 [Y a1 l1 c1,Y a2 l2 c2] h n (WV (x+y)):=by obtain⟨A,p,a,rfl⟩:=i;obtain⟨C,q,g,rfl⟩:=j;have:=a.len39 hb.1;have:=g.len39 hb.2;refine wc (dK k p q a g Z) ?_;exact BT
def Nd(i:WW h n a1 l1 c1 x)(j:WW h n a2 l2 c2 y)(hb:x<BW/\y<BW)(a:y<=x):CX (Kp (k+2)) 142 [Y a1 l1 c1,Y a2 l2 c2] h n (WV (x-y)):=by obtain⟨A,p,g,rfl⟩:=i;obtain⟨C,q,s,rfl⟩:=j;have:=g.len39 hb.1;refine wc (fe k p q g s Z a) ?_;exact BT
def NG(i:WW h n a1 l1 c1 x)(j:WW h n a2 l2 c2 y)(hb:x<BW/\y<BW):CX (Kp (k+3)) 120 [Y a1 l1 c1,Y a2 l2 c2] h n (WV (x*y)):=by obtain⟨A,p,a,rfl⟩:=i;obtain⟨C,q,g,rfl⟩:=j;have:=a.len39 hb.1;have:=g.len39 hb.2;refine wc (fV k p q a g Z Z) ?_;exact BT
def Sf(i:WW h n a1 l1 c1 x)(j:WW h n a2 l2 c2 y)(hb:x<BW/\y<BW)(h0:0<y):CX (Kp (k+6)) 129 [Y a1 l1 c1,Y a2 l2 c2] h n λv h' n'=>∃a l c g q p,v=.tuple #[Y a l c,Y g q p]/\WW h' n' a l c (x/y)/\WW h' n' g q p (x%y):=by obtain⟨A,P,B,rfl⟩:=i;obtain⟨C,R,D,rfl⟩:=j;have:=B.len39 hb.1;have:=D.len39 hb.2;refine wc (ng k P R B D Z h0) ?_;rintro v h' n' w⟨S,T,F,G,rfl,H,I,J,s,K,u,M,N,Z1,_⟩;obtain⟨a,l,c,rfl,_⟩:=s.len;obtain⟨g,q,p,rfl,_⟩:=u.len;exact⟨H,I,J,_,_,_,_,_,_,ω,⟨F,s,K,N⟩,⟨G,u,M,Z1⟩⟩
def Sg(g:GG h n)(i:WW h n a1 l1 c1 x)(j:WW h n a2 l2 c2 y)(hb:x<BW/\y<BW):CX (Kp (k+7)) 99 [Y a1 l1 c1,Y a2 l2 c2] h n (WV (Dh x y)):=by obtain⟨A,q,a,rfl⟩:=i;obtain⟨C,s,p,rfl⟩:=j;have:=a.len39 hb.1;have:=p.len39 hb.2;refine wc (eD k g.1 g.2 q s a p Z) ?_;exact BT
def Nf(i:WW h n a1 l1 c1 x)(j:WW h n a2 l2 c2 y)(hb:x<BW/\y<BW):CX (Kp (k+3)) 126 [Y a1 l1 c1,Y a2 l2 c2] h n (NF ((x:Int)-y)):=by obtain⟨A,g,a,rfl⟩:=i;obtain⟨C,p,q,rfl⟩:=j;have:=a.len39 hb.1;refine(uF k g p a q Z).cx.mono ?_;rintro _ _ _ rfl;refine⟨_,ω,?_⟩;obtain h|h|h:=GD (wv A) (wv C);exact .inl ⟨sM h,Z⟩;exact .inr (.inl ⟨by rw[h];exact jd _,Z⟩);exact .inr (.inr ⟨sO h,Z⟩)
def YT(h:HF)(n:Nat){w:Nat}(a:w<18446744073709551616):CX (Kp (k+1)) 104 [U .u64 (w:Int)] h n (WV w):=by refine wc (sH k h n a) ?_;exact BT
end
end
section
variable {u:Nat}{h0:HF}{x1 x2 x3:ψ}
theorem Ky{b:Bool}{p:Prop}(h:b=φ↔p):b=χ/\¬p\/b=φ/\p:=by grind
def Lc{p:Prop}(h:p:=by first|exact⟨hx,hy⟩|exact⟨hy,hx⟩):p:=h
def Lm{p:Prop}(h:¬p):∃b:Bool,CV χ=CV b/\(b=φ↔p):=⟨_,ω,λa=>ux,λa=>CO a h⟩
def LK{p:Prop}(h:p):∃b:Bool,CV φ=CV b/\(b=φ↔p):=⟨_,ω,λ_=>h,λ_=>rfl⟩
def KS(b:Nat)(h h':HF):Prop:=Only b h h'/\∃cs e,h b=ξ (.row cs e)/\cs.all nu=φ
def ExtB(n:Nat)(B:List Nat)(h h':HF):Prop:=∀b,b<3*n->b∉B->h' b=h b
def ExtB.refl(n:Nat)(B:List Nat)(h:HF):ExtB n B h h:=λ_ _ _=>rfl
def ExtB.ext{n:Nat}{B:List Nat}{a b c:HF}(x:ExtB n B a b)(y:Ko n' b c)(j:n<=n'):ExtB n B a c:=λk g e=>(y k Z).trans (x k g e)
def ExtB.st{n m:Nat}{B:List Nat}{a b c:HF}(x:ExtB n B a b)(o:Only m b c)(hm:3*n<=m\/m∈B):ExtB n B a c:=λk j g=>by
 refine(o k λe=>?_).trans (x k j g);subst e;obtain hm|hm:=hm
 .omega
 exact g hm
def ExtB.trans{n m:Nat}{B C:List Nat}{a b c:HF}(x:ExtB n B a b)(y:ExtB m C b c)(hm:n<=m)(g:∀k∈C,k∈B\/3*n<=k):ExtB n B a c:=λk l e=>(y k Z λj=>by obtain h|h:=g k j;exact e h;omega).trans (x k l e)
def ExtB.to{n m:Nat}{B:List Nat}{a b:HF}(x:ExtB n B a b)(hm:m<=n)(e:∀k∈B,3*m<=k):Ko m a b:=λk j=>x k Z λg=>by have:=e k g;omega
structure Exa (n:Nat)(h h':HF):Prop where
 e:Ko n h h'
def Exa.zz{n b:Nat}{h:HF}{y:Option BF}(x:Exa n h h')(hb:b<3*n)(e:h b=y):h' b=y:=(x.e b hb).trans e
def Ko.zz{n b:Nat}{h:HF}{y:Option BF}(x:Ko n h h')(hb:b<3*n)(e:h b=y):h' b=y:=(x b hb).trans e
def Only.zz{b:Nat}{h:HF}{y:Option BF}(x:Only b h h')(hb:c≠b)(e:h c=y):h' c=y:=(x c hb).trans e
def KS.zz{b:Nat}{h:HF}{y:Option BF}(x:KS b h h')(hb:c≠b)(e:h c=y):h' c=y:=(x.1 c hb).trans e
def ExtB.zz{n b:Nat}{B:List Nat}{h:HF}{y:Option BF}(x:ExtB n B h h')(hb:b<3*n)(a:b∉B)(e:h b=y):h' b=y:=(x b hb a).trans e
def On(o:Option BF):Prop:=∃x,o=ξ x/\((∃cs e,x=.row cs e/\cs.all nu=φ)\/x.cells=θ)
def On.row{e:TypeId}{o:Option BF}(h:o=ξ (.row cs e))(hu:cs.all nu=φ):On o:=⟨_,h,.inl ⟨_,_,ω,hu⟩⟩
def Mb(b:Nat)(h h':HF):Prop:=Only b h h'/\∃x,h b=ξ x/\x.cells=θ
def Mb.zz{b:Nat}{h:HF}{y:Option BF}(x:Mb b h h')(hb:c≠b)(e:h c=y):h' c=y:=(x.1 c hb).trans e
def Tr(n:Nat)(h:HF)(n':Nat)(h':HF):Prop:=n<=n'/\∀c,c<3*n->h' c=h c\/On (h c)
def Tx(n:Nat)(h:HF)(n':Nat)(h':HF):Prop:=n<=n'/\Ko n h h'
def Ty(n:Nat)(B:List Nat)(h:HF)(n':Nat)(h':HF):Prop:=n<=n'/\ExtB n B h h'
section
variable {B:List Nat}
def Tr.refl(n:Nat)(h:HF):Tr n h n h:=⟨CS,λ_ _=>.inl ω⟩
def Tr.e(x:Ko n1 h1 h2)(g:n1<=n2)(t:Tr n h n1 h1):Tr n h n2 h2:=⟨Dy t.1 g,λc a=>by rw[x c (by have:=t.1;omega)];exact t.2 c a⟩
def Tr.s(x:KS b h1 h2)(t:Tr n h n1 h1):Tr n h n1 h2:=by refine⟨t.1,λc g=>?_⟩;by_cases e:c=b;subst e;have⟨cs,e,j,l⟩:=x.2;obtain a|a:=t.2 c g;rw[a]at j;exact .inr (.row j l);exact .inr a;rw[x.1 c e];exact t.2 c g
def Tr.l(x:Mb b h1 h2)(t:Tr n h n1 h1):Tr n h n1 h2:=by refine⟨t.1,λc g=>?_⟩;by_cases e:c=b;subst e;have⟨y,j,p⟩:=x.2;obtain a|a:=t.2 c g;rw[a]at j;exact .inr ⟨y,j,.inr p⟩;exact .inr a;rw[x.1 c e];exact t.2 c g
def Tr.trans{n1 n2:Nat}{h1 h2:HF}(a:Tr n h n1 h1)(b:Tr n1 h1 n2 h2):Tr n h n2 h2:=by refine⟨Dy a.1 b.1,λc j=>?_⟩;rcases b.2 c (by have:=a.1;omega)with e|e;rw[e];exact a.2 c j;obtain g|g:=a.2 c j;rw[g]at e;exact .inr e;exact .inr g
def Tx.lp(x:Mb b h1 h2)(hb:3*n<=b)(t:Tx n h n1 h1):Tx n h n1 h2:=⟨t.1,t.2.st x.1 hb⟩
def Ty.lp(x:Mb b h1 h2)(hb:3*n<=b\/b∈B)(t:Ty n B h n1 h1):Ty n B h n1 h2:=⟨t.1,t.2.st x.1 hb⟩
def Tx.refl(n:Nat)(h:HF):Tx n h n h:=⟨CS,FI _ _⟩
def Tx.e(x:Ko n1 h1 h2)(a:n1<=n2)(t:Tx n h n1 h1):Tx n h n2 h2:=⟨Dy t.1 a,t.2.trans x t.1⟩
def Tx.a(x:Exa lo h1 h2)(hl:n<=lo)(g:n<=n2)(t:Tx n h n1 h1):Tx n h n2 h2:=⟨g,t.2.trans x.e hl⟩
def Tx.o(x:Only b h1 h2)(hb:3*n<=b)(t:Tx n h n1 h1):Tx n h n1 h2:=⟨t.1,t.2.st x hb⟩
def Tx.s(x:KS b h1 h2)(hb:3*n<=b)(t:Tx n h n1 h1):Tx n h n1 h2:=⟨t.1,t.2.st x.1 hb⟩
def Tx.l(x:ExtB n1 B h1 h2)(e:n1<=n2)(a:∀k∈B,3*n<=k)(t:Tx n h n1 h1):Tx n h n2 h2:=⟨Dy t.1 e,t.2.trans (x.to t.1 a) CS⟩
def Ty.refl(n:Nat)(B:List Nat)(h:HF):Ty n B h n h:=⟨CS,ExtB.refl _ _ _⟩
def Ty.e(x:Ko n1 h1 h2)(a:n1<=n2)(t:Ty n B h n1 h1):Ty n B h n2 h2:=⟨Dy t.1 a,t.2.ext x t.1⟩
def Ty.a(x:Exa lo h1 h2)(hl:n<=lo)(g:n<=n2)(t:Ty n B h n1 h1):Ty n B h n2 h2:=⟨g,t.2.ext x.e hl⟩
def Ty.o(x:Only b h1 h2)(hb:3*n<=b\/b∈B)(t:Ty n B h n1 h1):Ty n B h n1 h2:=⟨t.1,t.2.st x hb⟩
def Ty.s(x:KS b h1 h2)(hb:3*n<=b\/b∈B)(t:Ty n B h n1 h1):Ty n B h n1 h2:=⟨t.1,t.2.st x.1 hb⟩
def Ty.l(x:ExtB n1 C h1 h2)(e:n1<=n2)(a:∀k∈C,k∈B\/3*n<=k)(t:Ty n B h n1 h1):Ty n B h n2 h2:=⟨Dy t.1 e,t.2.trans x t.1 a⟩
end
def Sl.trG{h:HF}{n:Nat}(s:Sl h n 1 v cl)(l:∀x∈cl,nu x=χ)(t:Tr n h n' h'):Sl h' n' 1 v cl:=by
 cases s with
 |nil ha=>exact .nil (uw ha t.1)
 | @at_ b2 off len cap x cs2 c2 hb hx hc hcap hl he=>
  have g:b2<3*n':=by have:=t.1;omega
  obtain e|⟨y,j,⟨cs,e,rfl,D⟩|p⟩:=t.2 b2 hb;exact .at_ g (e.trans hx) hc hcap hl he;by_cases h0:len=0;subst h0;have:cl=[]:=by rw[<-he];simp
  subst this;exact .nil (.inr ⟨_,_,_,ω,g⟩);exfalso;rw[j]at hx;cases hx;injection hc with hc;subst hc;have q:O cl=len:=by rw[<-he,DK,DN];omega
  obtain⟨d,a,rfl⟩:∃d a,cl=d::a:=by
   cases cl with
   |nil=>exact CO q.symm h0
   |cons d a=>exact⟨d,a,ω⟩
  have A:d∈cs:=by
   have:d∈(cs.drop off).take (len*1):=by rw[he];exact CD
   exact Cc
  have:=Fy.1 D _ A;rw[l d EM]at this;cases this;rw[hx]at j;cases j;rw[hc]at p;cases p
def WW.t{h:HF}{n:Nat}{a:Option Addr}{l m:Nat}(i:WW h n a l c m)(t:Tr n h n' h'):WW h' n' a l c m:=by have⟨L,h1,h2,e⟩:=i;exact⟨L,h1.trG (λx g=>by obtain⟨d,_,rfl⟩:=D2.1 g;rfl) t,h2,e⟩
def IW.t{h:HF}{n:Nat}{b:Bool}{a:Option Addr}{l:Nat}{x:Int}(i:IW h n b a l c x)(t:Tr n h n' h'):IW h' n' b a l c x:=⟨i.1,i.2.t t⟩
def GG.t{h:HF}{n:Nat}(g:GG h n)(t:Tr n h n' h'):GG h' n':=by have⟨⟨A,D,F⟩,G⟩:=g;have f:∀c x,h c=ξ x->(∀cs e,x=.row cs e->cs.all nu=χ)->c<60->(∀y,x=y->y.cells≠θ)->h' c=ξ x:=(by intro c x l H L I;obtain s|⟨y,a,⟨J,K,rfl,p⟩|j⟩:=t.2 c Z;rw[s,l];rw[l]at a;injection a with a;rw[H _ _ a]at p;cases p;rw[l]at a;injection a with a;subst a;exact CO j (I _ ω));refine⟨⟨f _ _ A ?_ ?_ ?_,f _ _ D ?_ ?_ ?_,f _ _ F ?_ ?_ ?_⟩,Dy G t.1⟩<;>first|decide|(intro cs e q;cases q<;>rfl)|(intro y q;subst q;intro j;cases j)
def GG.x{h:HF}{n:Nat}(g:GG h n)(t:Tx n h n' h'):GG h' n':=g.ext t.2 t.1
def IW.x{h:HF}{n:Nat}{b:Bool}{a:Option Addr}{l:Nat}{x:Int}(i:IW h n b a l c x)(t:Tx n h n' h'):IW h' n' b a l c x:=i.ext t.2 t.1
def Sl.x{h:HF}{n:Nat}{c:List ψ}(s:Sl h n sz v c)(t:Tx n h n' h'):Sl h' n' sz v c:=s.ext t.2 t.1
def zt{n:Nat}{h:HF}(t:Tr n h n' h':=by(repeat (first|exact Tr.refl _ _|(apply Tr.e;assumption;(first|assumption|exact Nat.le_refl _|exact Nat.le_succ _|omega))|(apply Tr.s;assumption)|(apply Tr.l;assumption)))):Tr n h n' h':=t
def zx{n:Nat}{h:HF}(t:Tx n h n' h':=by(repeat (first|exact Tx.refl _ _|(apply Tx.e;assumption;(first|assumption|exact Nat.le_refl _|exact Nat.le_succ _|omega))|(apply Tx.a;assumption;omega;omega)|(apply Tx.s;assumption;omega)|(apply Tx.o;assumption;omega)|(apply Tx.lp;assumption;omega)|(apply Tx.l;assumption;(first|assumption|exact Nat.le_refl _|exact Nat.le_succ _|omega);(intro b g;simp only[List.mem_cons,List.not_mem_nil,or_false]at g<;>omega))))):Tx n h n' h':=t
def zy{n:Nat}{B:List Nat}{h:HF}(t:Ty n B h n' h':=by(repeat (first|exact Ty.refl _ _ _|(apply Ty.e;assumption;(first|assumption|exact Nat.le_refl _|exact Nat.le_succ _|omega))|(apply Ty.a;assumption;omega;omega)|(apply Ty.s;assumption;(first|(left;omega)|(right;simp)))|(apply Ty.o;assumption;(first|(left;omega)|(right;simp)))|(apply Ty.lp;assumption;(first|(left;omega)|(right;simp)))|(apply Ty.l;assumption;(first|assumption|exact Nat.le_refl _|exact Nat.le_succ _|omega);(intro b g;simp only[List.mem_cons,List.not_mem_nil,or_false]at g⊢ <;>omega))))):ExtB n B h h':=t.2
def zp{b:Nat}{h:HF}{x:Option BF}(t:h b=x:=by(repeat (first|assumption|(apply Ko.zz;assumption;omega)|(apply KS.zz;assumption;omega)|(apply Only.zz;assumption;omega)|(apply Mb.zz;assumption;omega)|(apply Exa.zz;assumption;omega)|(apply ExtB.zz;assumption;omega;(simp only[List.mem_cons,List.not_mem_nil,or_false,not_false_eq_true]<;>omega))))):h b=x:=t
def Mz{h:HF}{b:Nat}{c:List ψ}{e:TypeId}{r:List ψ}(L:List ψ)(g:GL.isAgg E ty=ξ φ)(hi:E.inf ty=ξ (sz,bt,z))(hb:h b=ξ (.row c e))(a:c.drop off=L++r)(hl:L.length=sz)(h1:0<L.length:=by exact Nat.succ_pos _):yB E ty h ⟨b,off,θ⟩=ξ (.agg L.toArray):=by have h2:=congrArg List.length a;rw[List.length_drop,List.length_append]at h2;refine yw (cs:=L) ⟨g,hi⟩ hb ω Z ?_;rw[a,<-hl,List.take_left]
def ld1{h:HF}{b:Nat}{c:List ψ}{e:TypeId}{r:List ψ}(a:GL.isAgg E ty=ξ φ)(hi:E.inf ty=ξ (1,bt,z))(hb:h b=ξ (.row c e))(g:c.drop off=x1::r):yB E ty h ⟨b,off,θ⟩=ξ (.agg #[x1]):=Mz [x1] a hi hb g rfl
def Oo{h:HF}{b:Nat}{c:List ψ}{e:TypeId}{r:List ψ}(a:GL.isAgg E ty=ξ φ)(hi:E.inf ty=ξ (2,bt,z))(hb:h b=ξ (.row c e))(g:c.drop off=x1::x2::r):yB E ty h ⟨b,off,θ⟩=ξ (.agg #[x1,x2]):=Mz [x1,x2] a hi hb g rfl
def Oq{h:HF}{b:Nat}{c:List ψ}{e:TypeId}{r:List ψ}(a:GL.isAgg E ty=ξ φ)(hi:E.inf ty=ξ (3,bt,z))(hb:h b=ξ (.row c e))(g:c.drop off=x1::x2::x3::r):yB E ty h ⟨b,off,θ⟩=ξ (.agg #[x1,x2,x3]):=Mz [x1,x2,x3] a hi hb g rfl
def Ot{h:HF}{b:Nat}{c:List ψ}{e:TypeId}{r:List ψ}(a:GL.isAgg E ty=ξ φ)(hi:E.inf ty=ξ (4,bt,z))(hb:h b=ξ (.row c e))(g:c.drop off=x1::x2::x3::x4::r):yB E ty h ⟨b,off,θ⟩=ξ (.agg #[x1,x2,x3,x4]):=Mz [x1,x2,x3,x4] a hi hb g rfl
def Ou{h:HF}{b:Nat}{c:List ψ}{e:TypeId}{r:List ψ}(a:GL.isAgg E ty=ξ φ)(hi:E.inf ty=ξ (5,bt,z))(hb:h b=ξ (.row c e))(g:c.drop off=x1::x2::x3::x4::x5::r):yB E ty h ⟨b,off,θ⟩=ξ (.agg #[x1,x2,x3,x4,x5]):=Mz [x1,x2,x3,x4,x5] a hi hb g rfl
def Ov{h:HF}{b:Nat}{c:List ψ}{e:TypeId}{r:List ψ}(a:GL.isAgg E ty=ξ φ)(hi:E.inf ty=ξ (6,bt,z))(hb:h b=ξ (.row c e))(g:c.drop off=x1::x2::x3::x4::x5::x6::r):yB E ty h ⟨b,off,θ⟩=ξ (.agg #[x1,x2,x3,x4,x5,x6]):=Mz [x1,x2,x3,x4,x5,x6] a hi hb g rfl
def ld10{h:HF}{b:Nat}{c:List ψ}{e:TypeId}{g j l a:ψ}{r:List ψ}(p:GL.isAgg E ty=ξ φ)(hi:E.inf ty=ξ (10,bt,z))(hb:h b=ξ (.row c e))(q:c.drop off=x1::x2::x3::x4::x5::x6::g::j::l::a::r):yB E ty h ⟨b,off,θ⟩=ξ (.agg #[x1,x2,x3,x4,x5,x6,g,j,l,a]):=Mz [x1,x2,x3,x4,x5,x6,g,j,l,a] p hi hb q rfl
def ld11{h:HF}{b:Nat}{c:List ψ}{e:TypeId}{j l p a g:ψ}{r:List ψ}(q:GL.isAgg E ty=ξ φ)(hi:E.inf ty=ξ (11,bt,z))(hb:h b=ξ (.row c e))(s:c.drop off=x1::x2::x3::x4::x5::x6::j::l::p::a::g::r):yB E ty h ⟨b,off,θ⟩=ξ (.agg #[x1,x2,x3,x4,x5,x6,j,l,p,a,g]):=Mz [x1,x2,x3,x4,x5,x6,j,l,p,a,g] q hi hb s rfl
structure Hd (q:Prop):Prop where
 go:q
def Sh:Op->Bool
 | .move _=>φ
 | .assign _=>φ
 | .pick _ _ _=>φ
 | .nilCheck _=>φ
 | .unOp _ _ _=>φ
 | .fieldAddr _ _ _=>φ
 | .extract _ _=>φ
 |_=>χ
def Si:Op->Bool
 | .binOp _ _ _ _ _=>φ
 |_=>χ
def litB:ψ->Bool
 | CV b=>b|| !b
 |_=>χ
def Sj:Op->Option Operand
 | .call c=>(match c.callee,c.args.toList with| .builtin .len,[x]=>ξ x|_,_=>θ)
 |_=>θ
section
variable {X:CtxF}{t:TF}{o:Oper}{d:Tmp}
def YU(_:Sh o.op=φ)(k:EO X ops (o::r) ⟨t,h,n,w⟩ Q):EO X ops (o::r) ⟨t,h,n,w⟩ Q:=k
def YV(_:Si o.op=φ)(k:EO X ops (o::r) ⟨t,h,n,w⟩ Q):EO X ops (o::r) ⟨t,h,n,w⟩ Q:=k
def YW{x:Operand}{b:Nat}{y:BF}(_:o.op=.load ty x)(_:Kn t x=CZ (ξ ⟨b,off,θ⟩))(hb:h b=ξ y)(k:h b=ξ y->EO X ops (o::r) ⟨t,h,n,w⟩ Q):EO X ops (o::r) ⟨t,h,n,w⟩ Q:=k hb
def YX{x:Operand}{q:BinOp}(_:o.op=.binOp q ty x y ty')(_:litB (Kn t x)=φ)(_:litB (Kn t y)=φ)(k:EO X ops (o::r) ⟨t,h,n,w⟩ Q):EO X ops (o::r) ⟨t,h,n,w⟩ Q:=k
def YY{x:Operand}{a:Option Addr}{l:Nat}(_:Sj o.op=ξ x)(_:Kn t x=Y a l c)(k:EO X ops (o::r) ⟨t,h,n,w⟩ Q):EO X ops (o::r) ⟨t,h,n,w⟩ Q:=k
end
section
variable {X:CtxF}{t:TF}{o:Oper}{d:Tmp}
def YZ(_:Sh o.op=φ)(k:ED X ops (o::r) (m::ms) i ⟨⟨t,h,n,w⟩,al,ld,ef⟩ Q):ED X ops (o::r) (m::ms) i ⟨⟨t,h,n,w⟩,al,ld,ef⟩ Q:=k
def Y0(_:Si o.op=φ)(k:ED X ops (o::r) (m::ms) i ⟨⟨t,h,n,w⟩,al,ld,ef⟩ Q):ED X ops (o::r) (m::ms) i ⟨⟨t,h,n,w⟩,al,ld,ef⟩ Q:=k
def Y2{x:Operand}{b:Nat}{y:BF}{g:HF}(_:o.op=.load ty x)(_:Kn t x=CZ (ξ ⟨b,off,θ⟩))(_:wn m ef i h=(u,g))(hb:g b=ξ y)(k:g b=ξ y->ED X ops (o::r) (m::ms) i ⟨⟨t,h,n,w⟩,al,ld,ef⟩ Q):ED X ops (o::r) (m::ms) i ⟨⟨t,h,n,w⟩,al,ld,ef⟩ Q:=k hb
def Y4{x:Operand}{q:BinOp}(_:o.op=.binOp q ty x y ty')(_:litB (Kn t x)=φ)(_:litB (Kn t y)=φ)(k:ED X ops (o::r) (m::ms) i ⟨⟨t,h,n,w⟩,al,ld,ef⟩ Q):ED X ops (o::r) (m::ms) i ⟨⟨t,h,n,w⟩,al,ld,ef⟩ Q:=k
def Y6{x:Operand}{a:Option Addr}{l:Nat}(_:Sj o.op=ξ x)(_:Kn t x=Y a l c)(k:ED X ops (o::r) (m::ms) i ⟨⟨t,h,n,w⟩,al,ld,ef⟩ Q):ED X ops (o::r) (m::ms) i ⟨⟨t,h,n,w⟩,al,ld,ef⟩ Q:=k
end
def zG{p q:Prop}(k:q)(e:Hd q->p:=by intro k;(repeat (first|refine Nw R3 ?_|(refine YU ω ?_;first|refine st_I R5 ?_|refine st_B R5 ?_|refine st_S R5 ?_|refine st_P R5 ?_|refine st_A R5 ?_|refine st_T R5 ?_|refine st_U R5 ?_|refine zS (v:=.pointer θ) R4 ω ?_)|(refine YW ω ω (by(repeat (first|assumption|(apply Ko.zz;assumption;omega)|(apply KS.zz;assumption;omega)|(apply Only.zz;assumption;omega)|(apply Mb.zz;assumption;omega)|(apply Exa.zz;assumption;omega)|(apply ExtB.zz;assumption;omega;(simp only[List.mem_cons,List.not_mem_nil,or_false,not_false_eq_true]<;>omega))))) (λa=>?_);first|refine z7 R5 (zX ω a R2) ?_|refine z7 R5 (ld1 ω ω a ω) ?_|refine z7 R5 (Oo ω ω a ω) ?_|refine z7 R5 (Oq ω ω a ω) ?_|refine z7 R5 (Ot ω ω a ω) ?_|refine z7 R5 (Ou ω ω a ω) ?_|refine z7 R5 (Ov ω ω a ω) ?_|refine z7 R5 (ld10 ω ω a ω) ?_|refine z7 R5 (ld11 ω ω a ω) ?_)|(refine YY ω ω ?_;refine st_I R5 ?_)|(refine YX ω ω ω ?_;refine st_B R5 ?_)|(refine YV ω ?_;first|refine jC R6 Z ?_|refine N9 R6 Z ?_|refine oa R6 Z ?_|refine mD R6 Z ?_|refine MI R6 Z ?_|refine M5 R6 Z ?_|refine jD R6 Z ?_|refine Nz R6 Z ?_|refine Oa R6 Z ?_|refine Ob R6 Z ?_|refine Oc R6 Z ?_|refine Od R6 Z ?_|refine uI R6 Z ?_|refine Ma R6 Z ?_)|simp only[NV,Nat.reduceEqDiff,reduceCtorEq]|refine(ze ω).mpr ?_|refine(za ω).mpr ?_));exact k.go):p:=e ⟨k⟩
def zH{p q:Prop}(k:q)(e:Hd q->p:=by intro k;(repeat (first|refine Pa ω ω ω ?_|(refine YZ ω ?_;first|refine dr_I R5 ?_|refine dr_B R5 ?_|refine dr_S R5 ?_|refine dr_P R5 ?_|refine dr_A R5 ?_|refine dr_T R5 ?_|refine dr_U R5 ?_)|(refine Y2 ω ω ω (by(repeat (first|assumption|(apply Ko.zz;assumption;omega)|(apply KS.zz;assumption;omega)|(apply Only.zz;assumption;omega)|(apply Mb.zz;assumption;omega)|(apply Exa.zz;assumption;omega)|(apply ExtB.zz;assumption;omega;(simp only[List.mem_cons,List.not_mem_nil,or_false,not_false_eq_true]<;>omega))))) (λa=>?_);first|refine yd R6 (zX ω a R2) R2 ?_|refine yd R6 (ld1 ω ω a ω) R2 ?_|refine yd R6 (Oo ω ω a ω) R2 ?_|refine yd R6 (Oq ω ω a ω) R2 ?_|refine yd R6 (Ot ω ω a ω) R2 ?_|refine yd R6 (Ou ω ω a ω) R2 ?_|refine yd R6 (Ov ω ω a ω) R2 ?_|refine yd R6 (ld10 ω ω a ω) R2 ?_|refine yd R6 (ld11 ω ω a ω) R2 ?_)|(refine Y6 ω ω ?_;refine dr_I R5 ?_)|(refine Y4 ω ω ω ?_;refine dr_B R5 ?_)|(refine Y0 ω ?_;first|refine QO R6 Z ?_|refine QP R6 Z ?_|refine QR R6 Z ?_|refine QT R6 Z ?_|refine QW R6 Z ?_|refine QX R6 Z ?_|refine QZ R6 Z ?_|refine Q0 R6 Z ?_|refine Q2 R6 Z ?_|refine Q3 R6 Z ?_|refine Q5 R6 Z ?_|refine Q6 R6 Z ?_|refine Pb R6 Z ?_|refine Pc R6 Z ?_)|simp only[NV,Nat.reduceEqDiff,reduceCtorEq]|refine(ze ω).mpr ?_|refine(za ω).mpr ?_));exact k.go):p:=e ⟨k⟩
def zJ{p q:Prop}(k:q)(e:Hd q->p:=by intro k;refine zH ?_;refine zG ?_;exact k.go):p:=e ⟨k⟩
section
variable {X:CtxF}{t:TF}{o:Oper}{d:Tmp}
def Mh{m b i:Nat}{r:List (Nat×Nat)}(h:c≠b)(k:ya m [b] r=φ):ya m [b] ((i,c)::r)=φ:=by
 have a:memN c [b]=χ:=by
  unfold memN;cases he:D5 c b with
  |false=>rfl
  |true=>exact CO (DU he) h
 unfold ya;rw[a,GX,Jx];exact k
def vc_A(h:v=.agg ⟨cs⟩):zn v=cs:=by subst h;rfl
def sA{e:TypeId}(k:∀h',h' (3*n+2)=ξ (.row cs e)->Ko n h h'->EO X ops r ⟨upd t d (.pointer (ξ ⟨3*n+2,0,θ⟩)),h',n+1,w⟩ Q)(a:zh ops t o=φ:=by rfl)(hd:o.dst=ξ d:=by rfl)(hn:zv X.nt (ξ d)=φ:=by rfl)(ho:o.op=.alloc e:=by rfl)(hi:X.E.inf e=ξ (sz,bt,z):=by rfl)(hz:zn z=cs:=by first|exact vc_A rfl|exact ω):EO X ops (o::r) ⟨t,h,n,w⟩ Q:=wt cs ⟨a,hd,hn,ho,hi,hz⟩ k
def sB{e:TypeId}(cs:List ψ)(k:∀h',h' (3*n+2)=ξ (.row cs e)->Ko n h h'->EO X ops r ⟨upd t d (.pointer (ξ ⟨3*n+2,0,θ⟩)),h',n+1,w⟩ Q)(a:zh ops t o=φ:=by rfl)(hd:o.dst=ξ d:=by rfl)(hn:zv X.nt (ξ d)=φ:=by rfl)(hc:Ku o.op=2:=by rfl)(hm:KD X.E o.op (Kn t)=ξ ⟨cs,e,χ,θ⟩:=by rfl):EO X ops (o::r) ⟨t,h,n,w⟩ Q:=tK cs ⟨a,hd,hn,hc,hm⟩ k
def sC{P:ψ->HF->Nat->Prop}(a:CX X.C f args h n P)(k:∀v h' n',P v h' n'->n<=n'->Ko n h h'->EO X ops r ⟨upd t d v,h',n',w⟩ Q)(e:zh ops t o=φ:=by rfl)(hd:o.dst=ξ d:=by rfl)(hn:zv X.nt (ξ d)=φ:=by rfl)(hc:Ku o.op=3:=by rfl)(he:effF X.E o.op (Kn t) h n=ξ (.enter f args):=by rfl):EO X ops (o::r) ⟨t,h,n,w⟩ Q:=gJ ⟨e,hd,hn,hc,he⟩ a k
def sT(cs:Array ψ)(k:EO X ops r ⟨upd t d (.agg cs),h,n,w⟩ Q)(a:zh ops t o=φ:=by rfl)(hd:o.dst=ξ d:=by rfl)(hn:zv X.nt (ξ d)=φ:=by rfl)(hc:Ku o.op=0:=by rfl)(hv:yy X.E o.op (Kn t)=ξ (.agg cs):=by rfl):EO X ops (o::r) ⟨t,h,n,w⟩ Q:=st_A ⟨a,hd,hn,hc,hv⟩ k
def sS{a x:Operand}{b:Nat}{c:List ψ}{e:TypeId}(c':List ψ)(k:∀h',h' b=ξ (.row c' e)->KS b h h'->EO (Lg kk n0 nt) ops r ⟨t,h',n,w⟩ Q)(g:zh ops t o=φ:=by rfl)(hd:o.dst=θ:=by rfl)(ho:o.op=.store ty a x:=by rfl)(hi:Kw.inf ty=ξ (sz,bt,z):=by rfl)(ha:Kn t a=.pointer (ξ ⟨b,off,θ⟩):=by rfl)(hb:h b=ξ (.row c e):=by exact zp)(hu:c.all nu=φ:=by rfl)(hx:zn (Kn t x)=cs:=by rfl)(hs:cs.length=sz:=by rfl)(h1:ones cs=φ:=by rfl)(hl:off+sz<=c.length:=by exact zb)(hsp:zu c off cs=c':=by rfl)(hnew:3*n0<=b:=by omega):EO (Lg kk n0 nt) ops (o::r) ⟨t,h,n,w⟩ Q:=mq c' ⟨g,hd,ho,hi,ha⟩ hb ⟨hx,hs,h1⟩ hl hsp hnew λh' p q=>k h' p ⟨q,_,_,hb,hu⟩
end
section
variable {X:CtxF}{t:TF}{o:Oper}{d:Tmp}
def dB{e:TypeId}(cs:List ψ)(k:∀h',h' (3*n+2)=ξ (.row cs e)->Ko n h h'->ED X ops r ms (i+1) ⟨⟨upd t d (.pointer (ξ ⟨3*n+2,0,θ⟩)),h',n+1,w⟩,(i,3*n+2)::al,ld,ef⟩ Q)(a:zh ops t o=φ:=by rfl)(hd:o.dst=ξ d:=by rfl)(hn:zv X.nt (ξ d)=φ:=by rfl)(hc:Ku o.op=2:=by rfl)(hm:KD X.E o.op (Kn t)=ξ ⟨cs,e,χ,θ⟩:=by rfl):ED X ops (o::r) (m::ms) i ⟨⟨t,h,n,w⟩,al,ld,ef⟩ Q:=YP cs a hd hn hc hm k
def dC{P:ψ->HF->Nat->Prop}(a:CX X.C f args h n P)(k:∀v h' n',P v h' n'->n<=n'->Ko n h h'->ED X ops r ms (i+1) ⟨⟨upd t d v,h',n',w⟩,al,ld,(i,h,[])::ef⟩ Q)(e:zh ops t o=φ:=by rfl)(hd:o.dst=ξ d:=by rfl)(hn:zv X.nt (ξ d)=φ:=by rfl)(hc:Ku o.op=3:=by rfl)(he:effF X.E o.op (Kn t) h n=ξ (.enter f args):=by rfl)(h1:xq m ef=φ:=by rfl)(h2:xJ m al=φ:=by rfl):ED X ops (o::r) (m::ms) i ⟨⟨t,h,n,w⟩,al,ld,ef⟩ Q:=YR e hd hn hc he a h1 h2 k
def dT(cs:Array ψ)(k:ED X ops r ms (i+1) ⟨⟨upd t d (.agg cs),h,n,w⟩,al,ld,ef⟩ Q)(a:zh ops t o=φ:=by rfl)(hd:o.dst=ξ d:=by rfl)(hn:zv X.nt (ξ d)=φ:=by rfl)(hc:(Ku o.op==0||Ku o.op==4)=φ:=by rfl)(hv:yy X.E o.op (Kn t)=ξ (.agg cs):=by rfl):ED X ops (o::r) (m::ms) i ⟨⟨t,h,n,w⟩,al,ld,ef⟩ Q:=dr_A ⟨a,hd,hn,hc,hv⟩ k
def dS{a x:Operand}{b:Nat}{c:List ψ}{e:TypeId}(c':List ψ)(k:∀h',h' b=ξ (.row c' e)->KS b h h'->ED (Lg kk n0 nt) ops r ms (i+1) ⟨⟨t,h',n,w⟩,al,ld,(i,h,[b])::ef⟩ Q)(g:zh ops t o=φ:=by rfl)(hd:o.dst=θ:=by rfl)(ho:o.op=.store ty a x:=by rfl)(hi:Kw.inf ty=ξ (sz,bt,z):=by rfl)(ha:Kn t a=.pointer (ξ ⟨b,off,θ⟩):=by rfl)(hb:h b=ξ (.row c e):=by exact zp)(hu:c.all nu=φ:=by rfl)(hx:zn (Kn t x)=cs:=by rfl)(hs:cs.length=sz:=by rfl)(h1:ones cs=φ:=by rfl)(hl:off+sz<=c.length:=by exact zb)(hsp:zu c off cs=c':=by rfl)(hnew:3*n0<=b:=by omega)(g1:xq m ef=φ:=by rfl)(g2:xJ m al=φ:=by rfl)(g3:ya m [b] ld=φ:=by first|exact rfl|(repeat (first|exact rfl|(apply Mh;omega)))):ED (Lg kk n0 nt) ops (o::r) (m::ms) i ⟨⟨t,h,n,w⟩,al,ld,ef⟩ Q:=YQ c' g hd ho hi ha hb hx hs h1 hl hsp hnew g1 g2 g3 λh' p q=>k h' p ⟨q,_,_,hb,hu⟩
end
def Sk{s:SV}{a:Tmp}{b:Nat}{y:BF}{r:List ResultVar}(_:s.t a=CZ (ξ ⟨b,off,θ⟩))(hb:s.h b=ξ y)(k:s.h b=ξ y->resF Kw s (.cell a ty::r)=ξ vs):resF Kw s (.cell a ty::r)=ξ vs:=k hb
def zq{p:Prop}{P:ψ->HF->Nat->Prop}{e:Ex}{t:TF}{h:HF}{n0 n:Nat}(a:P (qm vs) h n)(go:Hd (RetH fn (Gw n0 h0 P) e ⟨t,h,n,[]⟩)->p:=by intro k;refine zH ?_;refine zG ?_;exact k.go)(he:rI e=φ:=by rfl)(hr:resF Kw ⟨t,h,n,[]⟩ fn.results.toList=ξ vs:=by(repeat (first|exact qP|(apply yX (v:=.bool _);exact ω)|(apply yX (v:=.int _ _);exact ω)|(apply yX (v:=.slice _ _ _);exact ω)|(apply yX (v:=.agg #[_,_]);exact ω)|(apply yX (v:=.agg #[_,_,_,_]);exact ω)|(apply yX (v:=.string _);exact ω)|(apply yX;exact ω)|(apply Sk;exact rfl;(focus ((repeat (first|assumption|(apply Ko.zz;assumption;omega)|(apply KS.zz;assumption;omega)|(apply Only.zz;assumption;omega)|(apply Mb.zz;assumption;omega)|(apply Exa.zz;assumption;omega)|(apply ExtB.zz;assumption;omega;(simp only[List.mem_cons,List.not_mem_nil,or_false,not_false_eq_true]<;>omega))));done));intro hblk;first|(apply we;exact rfl;exact zX ω hblk R2)|(apply we;exact rfl;exact ld1 ω ω hblk ω)|(apply we;exact rfl;exact Oo ω ω hblk ω)|(apply we;exact rfl;exact Oq ω ω hblk ω)|(apply we;exact rfl;exact Ot ω ω hblk ω)|(apply we;exact rfl;exact Ou ω ω hblk ω)|(apply we;exact rfl;exact Ov ω ω hblk ω)|(apply we;exact rfl;exact ld10 ω ω hblk ω)|(apply we;exact rfl;exact ld11 ω ω hblk ω)))))(hf:uQ vs=χ:=by rfl)(hx:Tx n0 h0 n h:=by exact zx):p:=go ⟨retX vs ⟨he,hr,hf⟩ hx.1 hx.2 a⟩
def zf{p:Prop}{P:ψ->Prop}{e:Ex}{s:SV}(a:P (qm vs))(go:Hd (RetF fn P e s)->p:=by intro k;refine zH ?_;refine zG ?_;exact k.go)(he:rI e=φ:=by rfl)(hr:resF Kw s fn.results.toList=ξ vs:=by(repeat (first|exact qP|(apply yX (v:=.bool _);exact ω)|(apply yX (v:=.int _ _);exact ω)|(apply yX (v:=.slice _ _ _);exact ω)|(apply yX (v:=.agg #[_,_]);exact ω)|(apply yX (v:=.agg #[_,_,_,_]);exact ω)|(apply yX (v:=.string _);exact ω)|(apply yX;exact ω)|(apply Sk;exact rfl;(focus ((repeat (first|assumption|(apply Ko.zz;assumption;omega)|(apply KS.zz;assumption;omega)|(apply Only.zz;assumption;omega)|(apply Mb.zz;assumption;omega)|(apply Exa.zz;assumption;omega)|(apply ExtB.zz;assumption;omega;(simp only[List.mem_cons,List.not_mem_nil,or_false,not_false_eq_true]<;>omega))));done));intro hblk;first|(apply we;exact rfl;exact zX ω hblk R2)|(apply we;exact rfl;exact ld1 ω ω hblk ω)|(apply we;exact rfl;exact Oo ω ω hblk ω)|(apply we;exact rfl;exact Oq ω ω hblk ω)|(apply we;exact rfl;exact Ot ω ω hblk ω)|(apply we;exact rfl;exact Ou ω ω hblk ω)|(apply we;exact rfl;exact Ov ω ω hblk ω)|(apply we;exact rfl;exact ld10 ω ω hblk ω)|(apply we;exact rfl;exact ld11 ω ω hblk ω)))))(hf:uQ vs=φ:=by rfl)(hw:s.w=[]:=by rfl):p:=go ⟨retF vs he hr ⟨hf,hw⟩ a⟩
def sF{X:CtxF}{c:Code}{t:TF}{h:HF}{n:Nat}{w:List Nat}{Q:Ex->SV->Prop}(e:α->List (Nat×ψ))(I:α->HF->Nat->List Nat->Prop)(μ:α->Nat)(a:α)(j:I a h n w)(g:∀a t h n w,I a h n w->EC X c ⟨gk t (e a),h,n,w⟩ (qY e I μ a Q))(hl:tJ t (e a):=by repeat (first|exact trivial|refine⟨ω,?_⟩))(hm:μ a<X.L:=by show _<LL;unfold LL;(try dsimp only);omega):EC X (.loop c) ⟨t,h,n,w⟩ Q:=ye e I μ a hl j hm g
def sK{e:α->List (Nat×ψ)}{I:α->HF->Nat->List Nat->Prop}{μ:α->Nat}{a:α}{Q:Ex->SV->Prop}{t:TF}{h:HF}{n:Nat}{w:List Nat}(g:α)(h3:I g h n w)(h1:μ g<μ a:=by(try dsimp only);omega)(h2:tJ t (e g):=by repeat (first|exact trivial|refine⟨ω,?_⟩)):qY e I μ a Q .normal ⟨t,h,n,w⟩:=goOn g h1 h2 h3
def Zd{p q:Prop}(k:q)(e:ZH q->p:=by intro k;refine zG ?_;refine sA ?_;exact k.go):p:=e ⟨k⟩
end
section
variable {cx:Nat}
def bj(k:Nat){x:Int}(a:IW h n sx ax lx cx x):VF (Kp (k+1)) 67 [.agg #[CV sx,Y ax lx cx]] h n λv=>∃b:Bool,v=CV b/\(b=φ↔x=0):=by refine zO (fn:=Tryz.f67) R4<|zG ?_;refine sB [CV sx,Y ax lx cx] λc d e=>?_;refine zG ?_;by_cases q12:(lx:Int)=0;refine zf ?_;exact⟨_,ω,AR⟩;refine zf ?_;exact⟨_,ω,AR⟩
def yK(k:Nat){a:Bool}{x:Int}(b:IW h n a ax lx cx x):CX (Kp (k+1)) 67 [.agg #[CV a,Y ax lx cx]] h n (BV (x=0)):=(bj k b).cx
def Y8(k:Nat){x:Int}(a:IW h n sx ax lx cx x):VF (Kp (k+1)) 57 [.agg #[CV sx,Y ax lx cx]] h n λv=>∃s:Int,v=U .i64 s/\(s= -1/\x<0\/s=0/\x=0\/s=1/\0<x):=by refine zO (fn:=Tryz.f57) R4<|zG ?_;refine sB [CV sx,Y ax lx cx] λb c d=>?_;refine zG ?_;by_cases q12:(lx:Int)=0;refine zf ?_;exact⟨_,ω,by have:=a.2.zero;omega⟩;refine zG ?_;cases sx;refine zf ?_;exact⟨_,ω,by have:=a.ge;have:=a.2.zero;omega⟩;refine zf ?_;exact⟨_,ω,by have:=a.lt;have:=a.2.zero;omega⟩
def Ng(k:Nat){a:Bool}{x:Int}(b:IW h n a ax lx cx x):CX (Kp (k+1)) 57 [.agg #[CV a,Y ax lx cx]] h n (NF x):=(Y8 k b).cx
def tU(k:Nat){a:Bool}{x:Int}(f:IW h n a ax lx cx x):CX (Kp (k+1)) 48 [.agg #[CV a,Y ax lx cx]] h n (BV (x=1)):=by have⟨e,L,c,b,d⟩:=f;refine(RR k c b).cx.mono ?_;rintro _ _ _ rfl;refine⟨_,ω,?_⟩;rw[d,e,Bool.and_eq_true,Bool.not_eq_true',decide_eq_false_iff_not,decide_eq_true_iff];omega
def negX(k:Nat){x:Int}(a:IW h n sx ax lx cx x):CX (Kp (k+2)) 109 [.agg #[CV sx,Y ax lx cx]] h n (IV (-x)):=by refine zw (fn:=Tryz.f109) R4<|zG ?_;refine sB [CV sx,Y ax lx cx] λo C H=>?_;refine sA λp D I=>?_;refine zG ?_;cases sx;refine zG ?_;refine sC (yJ _ (a.t zt).2 φ) ?_;rintro _ q w⟨d,b,l,f,rfl,i⟩ L J;refine sS [CV d,Y b l f] λs F A=>?_;refine zq ?_;exact⟨_,_,_,_,ω,(i.t zt).as (by have:=a.ge;unfold Ll;(try simp only[Io,GX,if_true,if_false,ET]);omega)⟩;refine zG ?_;refine sC (yJ _ (a.t zt).2 χ) ?_;rintro _ u y⟨e,c,m,g,rfl,j⟩ M K;refine sS [CV e,Y c m g] λv G B=>?_;refine zq ?_;exact⟨_,_,_,_,ω,(j.t zt).as (by have:=a.lt;unfold Ll;(try simp only[Io,GX,if_true,if_false,ET]);omega)⟩
def addX(k:Nat){x:Int}{y:Int}(a:IW h n sx ax lx cx x)(b:IW h n sy ay ly cy y)(hx:x.natAbs<BW)(hy:y.natAbs<BW):CX (Kp (k+4)) 115 [.agg #[CV sx,Y ax lx cx],.agg #[CV sy,Y ay ly cy]] h n (IV (x+y)):=by refine zw (fn:=Tryz.f115) R4<|zG ?_;refine sB [CV sx,Y ax lx cx] λar cn d2=>?_;refine sB [CV sy,Y ay ly cy] λau co d3=>?_;refine sA λav cp d4=>?_;refine zG ?_;cases sx;refine zG ?_;cases sy;refine zG ?_;refine zl [0,1,0,4,0,16,60,127,255] rfl<|zH ?_;refine dC (Se _ (a.t zt).2 (b.t zt).2 Lc) ?_;rintro _ aw bw⟨ab,bo,aj,rfl,L⟩ dn d5;refine dC (yJ _ L χ) ?_;rintro _ az bx⟨p,e,a3,C,rfl,M⟩ dp d6;refine dS [CV p,Y e a3 C] λb0 cq cf=>?_;refine zq ?_;exact⟨_,_,_,_,ω,(M.t zt).as (by have:=a.ge;have:=b.ge;unfold Ll;(try simp only[if_true,if_false,ET]);omega)⟩;refine zG ?_;refine sC (Nf _ (a.t zt).2 (b.t zt).2 Lc) ?_;rintro _ b1 bz⟨d0,rfl,c⟩ dq d7;obtain⟨rfl,c⟩|⟨rfl,c⟩|⟨rfl,c⟩:=c;refine zG ?_;refine zl [0,1,0,4,0,16,60,127,255] rfl<|zH ?_;refine dC (Nd _ (b.t zt).2 (a.t zt).2 Lc Z) ?_;rintro _ b2 c0⟨ac,bp,ak,rfl,N⟩ dr d8;refine dC (yJ _ N φ) ?_;rintro _ b3 c1⟨q,f,a4,D,rfl,Z1⟩ ds d9;refine dS [CV q,Y f a4 D] λb4 cr cg=>?_;refine zq ?_;exact⟨_,_,_,_,ω,(Z1.t zt).as nN⟩;refine zG ?_;refine zl [0,1,0,4,0,16,60,127,255] rfl<|zH ?_;refine dC (Nd _ (a.t zt).2 (b.t zt).2 Lc Z) ?_;rintro _ b5 c2⟨ad,bq,al,rfl,P⟩ dt da;refine dC (yJ _ P χ) ?_;rintro _ b6 c3⟨s,g,a5,F,rfl,R⟩ du db;refine dS [CV s,Y g a5 F] λb7 cs ch=>?_;refine zq ?_;exact⟨_,_,_,_,ω,(R.t zt).as nN⟩;refine zG ?_;refine zl [0,1,0,4,0,16,60,127,255] rfl<|zH ?_;refine dC (Nd _ (a.t zt).2 (b.t zt).2 Lc Z) ?_;rintro _ b8 c4⟨ae,br,am,rfl,S⟩ dv dc;refine dC (yJ _ S χ) ?_;rintro _ b9 c5⟨u,i,a6,G,rfl,T⟩ dw dd;refine dS [CV u,Y i a6 G] λba ct ci=>?_;refine zq ?_;exact⟨_,_,_,_,ω,(T.t zt).as nN⟩;refine zG ?_;cases sy;refine zG ?_;refine sC (Nf _ (a.t zt).2 (b.t zt).2 Lc) ?_;rintro _ bb c6⟨d1,rfl,d⟩ dx de;obtain⟨rfl,d⟩|⟨rfl,d⟩|⟨rfl,d⟩:=d;refine zG ?_;refine zl [0,1,0,4,0,16,60,127,255] rfl<|zH ?_;refine dC (Nd _ (b.t zt).2 (a.t zt).2 Lc Z) ?_;rintro _ bc c7⟨af,bs,an,rfl,Z4⟩ dy df;refine dC (yJ _ Z4 χ) ?_;rintro _ bd c8⟨v,j,a7,H,rfl,V⟩ dz dg;refine dS [CV v,Y j a7 H] λbe cu cj=>?_;refine zq ?_;exact⟨_,_,_,_,ω,(V.t zt).as nP⟩;refine zG ?_;refine zl [0,1,0,4,0,16,60,127,255] rfl<|zH ?_;refine dC (Nd _ (a.t zt).2 (b.t zt).2 Lc Z) ?_;rintro _ bf c9⟨ag,bt,ao,rfl,W⟩ e0 dh;refine dC (yJ _ W φ) ?_;rintro _ bg ca⟨w,l,a8,I,rfl,Z3⟩ e1 di;refine dS [CV w,Y l a8 I] λbh cv ck=>?_;refine zq ?_;exact⟨_,_,_,_,ω,(Z3.t zt).as nP⟩;refine zG ?_;refine zl [0,1,0,4,0,16,60,127,255] rfl<|zH ?_;refine dC (Nd _ (a.t zt).2 (b.t zt).2 Lc Z) ?_;rintro _ bi cb⟨ah,bu,ap,rfl,Z0⟩ e2 dj;refine dC (yJ _ Z0 φ) ?_;rintro _ bj cc⟨A,m,a9,J,rfl,a0⟩ e3 dk;refine dS [CV A,Y m a9 J] λbk cw cl=>?_;refine zq ?_;exact⟨_,_,_,_,ω,(a0.t zt).as nP⟩;refine zG ?_;refine zl [0,1,0,4,0,16,60,127,255] rfl<|zH ?_;refine dC (Se _ (a.t zt).2 (b.t zt).2 Lc) ?_;rintro _ bl cd⟨ai,bv,aq,rfl,a1⟩ e4 dl;refine dC (yJ _ a1 φ) ?_;rintro _ bm ce⟨B,o,aa,K,rfl,a2⟩ e5 dm;refine dS [CV B,Y o aa K] λbn cz cm=>?_;refine zq ?_;exact⟨_,_,_,_,ω,(a2.t zt).as (by have:=a.lt;have:=b.lt;unfold Ll;(try simp only[if_true,if_false,ET]);omega)⟩
def ke{b:Bool}{x y:Int}(h:b=(decide (x<0) != decide (y<0))):Ll b (x.natAbs*y.natAbs)=x*y:=by subst h;by_cases hx:x<0<;>by_cases hy:y<0;rw[CN hx,CN hy];show((x.natAbs*y.natAbs:Nat):Int)=_;rw[EY,Gs Z,Gs Z,Int.neg_mul_neg];rw[CN hx,CM hy];show -((x.natAbs*y.natAbs:Nat):Int)=_;rw[EY,Gs Z,Hw Z,Int.neg_mul,Hu];rw[CM hx,CN hy];show -((x.natAbs*y.natAbs:Nat):Int)=_;rw[EY,Hw Z,Gs Z,Int.mul_neg,Hu];rw[CM hx,CM hy];show((x.natAbs*y.natAbs:Nat):Int)=_;rw[EY,Hw Z,Hw Z]
def kd{b:Bool}{x y:Int}(h:b=(decide (x<0) != decide (y<0))):Ll b (x.natAbs/y.natAbs)=x.tdiv y:=by subst h;by_cases hx:x<0<;>by_cases hy:y<0;obtain⟨a,rfl⟩:∃a:Nat,x= -(a:Int):=⟨x.natAbs,Z⟩;obtain⟨c,rfl⟩:∃c:Nat,y= -(c:Int):=⟨y.natAbs,Z⟩;rw[CN hx,CN hy,ab0,ab1,Hu,E7,E7];rfl;obtain⟨a,rfl⟩:∃a:Nat,x= -(a:Int):=⟨x.natAbs,Z⟩;obtain⟨c,rfl⟩:∃c:Nat,y=(c:Int):=⟨y.natAbs,Z⟩;rw[CN hx,CM hy,ab0,E7];rfl;obtain⟨a,rfl⟩:∃a:Nat,x=(a:Int):=⟨x.natAbs,Z⟩;obtain⟨c,rfl⟩:∃c:Nat,y= -(c:Int):=⟨y.natAbs,Z⟩;rw[CM hx,CN hy,ab1,E7];rfl;obtain⟨a,rfl⟩:∃a:Nat,x=(a:Int):=⟨x.natAbs,Z⟩;obtain⟨c,rfl⟩:∃c:Nat,y=(c:Int):=⟨y.natAbs,Z⟩;rw[CM hx,CM hy];rfl
def mulX(k:Nat){x:Int}{y:Int}(a:IW h n sx ax lx cx x)(b:IW h n sy ay ly cy y)(hx:x.natAbs<BW)(hy:y.natAbs<BW):CX (Kp (k+5)) 81 [.agg #[CV sx,Y ax lx cx],.agg #[CV sy,Y ay ly cy]] h n (IV (x*y)):=by refine zw (fn:=Tryz.f81) R4<|zG ?_;refine sB [CV sx,Y ax lx cx] λS ao az=>?_;refine sB [CV sy,Y ay ly cy] λT ap b0=>?_;refine sA λZ4 aq b1=>?_;refine zG ?_;refine zl [0,1,0,4,15,0,32,0,128,480,1023,2047] rfl<|zH ?_;cases sx;refine zH ?_;cases sy;refine zH ?_;refine dC (NG _ (a.t zt).2 (b.t zt).2 Lc) ?_;rintro _ V ac⟨J,a8,N,rfl,s⟩ ba b2;refine dC (yJ _ s χ) ?_;rintro _ W ad⟨g,c,F,m,rfl,u⟩ bb b3;refine dS [CV g,Y c F m] λZ3 ar ak=>?_;refine zq ?_;exact⟨_,_,_,_,ω,(u.t zt).as (by have:=a.ge;have:=b.ge;exact ke rq)⟩;refine zH ?_;refine dC (NG _ (a.t zt).2 (b.t zt).2 Lc) ?_;rintro _ Z0 ae⟨K,a9,Z1,rfl,v⟩ bc b4;refine dC (yJ _ v φ) ?_;rintro _ a0 af⟨i,d,G,o,rfl,w⟩ bd b5;refine dS [CV i,Y d G o] λa1 au al=>?_;refine zq ?_;exact⟨_,_,_,_,ω,(w.t zt).as (by have:=a.ge;have:=b.lt;exact ke rq)⟩;refine zH ?_;cases sy;refine zH ?_;refine dC (NG _ (a.t zt).2 (b.t zt).2 Lc) ?_;rintro _ a2 ag⟨L,aa,P,rfl,A⟩ be b6;refine dC (yJ _ A φ) ?_;rintro _ a3 ah⟨j,e,H,p,rfl,B⟩ bf b7;refine dS [CV j,Y e H p] λa4 av am=>?_;refine zq ?_;exact⟨_,_,_,_,ω,(B.t zt).as (by have:=a.lt;have:=b.ge;exact ke rq)⟩;refine zH ?_;refine dC (NG _ (a.t zt).2 (b.t zt).2 Lc) ?_;rintro _ a5 ai⟨M,ab,R,rfl,C⟩ bg b8;refine dC (yJ _ C χ) ?_;rintro _ a6 aj⟨l,f,I,q,rfl,D⟩ bh b9;refine dS [CV l,Y f I q] λa7 aw an=>?_;refine zq ?_;exact⟨_,_,_,_,ω,(D.t zt).as (by have:=a.lt;have:=b.lt;exact ke rq)⟩
def ZA(k:Nat){x:Int}{y:Int}(o:IW h n sx ax lx cx x)(m:IW h n sy ay ly cy y)(hx:x.natAbs<BW)(hy:y.natAbs<BW)(b9:y≠0):CX (Kp (k+7)) 114 [.agg #[CV sx,Y ax lx cx],.agg #[CV sy,Y ay ly cy]] h n λv V n'=>∃b a l c g d e f,v=.tuple #[.agg #[CV b,Y a l c],.agg #[CV g,Y d e f]]/\IW V n' b a l c (x.tdiv y)/\∃r,IW V n' g d e f r:=by refine zw (fn:=Tryz.f114) R4<|zG ?_;refine sB [CV sx,Y ax lx cx] λai bu c9=>?_;refine sB [CV sy,Y ay ly cy] λaj bv ca=>?_;refine sA λak bw cb=>?_;refine sA λal bx cc=>?_;refine zG ?_;by_cases q15:(ly:Int)=0;refine zG ?_;refine sT #[CV χ,η] ?_;refine sT #[CV χ,η] ?_;refine sS [CV χ,η] λam bz bk=>?_;refine sS [CV χ,η] λan c0 bl=>?_;refine zG ?_;exact CO (m.2.zero.1 Z) Z;refine zG ?_;refine sC (Sf _ (o.t zt).2 (m.t zt).2 Lc Z) ?_;rintro _ ao bb⟨ad,ba,ae,af,ag,ah,rfl,i,j⟩ cm cd;refine zG ?_;refine zl [0,1,0,4,15,0,63,0,128,0,1023,2047,4095] rfl<|zH ?_;cases sx;refine zH ?_;cases sy;refine zH ?_;refine dC (yJ _ i χ) ?_;rintro _ ap bc⟨D,p,a5,M,rfl,W⟩ cn ce;refine zH ?_;refine dC (yJ _ (j.t zt) χ) ?_;rintro _ aq bd⟨F,q,a6,N,rfl,Z3⟩ co cf;refine dS [CV D,Y p a5 M] λar c1 bm=>?_;refine dS [CV F,Y q a6 N] λau c2 bn=>?_;refine zq ?_;exact⟨_,_,_,_,_,_,_,_,ω,(W.t zt).as (by have:=o.ge;have:=m.ge;exact kd rq),_,(Z3.t zt)⟩;refine zH ?_;refine dC (yJ _ i φ) ?_;rintro _ av be⟨G,s,a7,Z1,rfl,Z0⟩ cp cg;refine zH ?_;refine dC (yJ _ (j.t zt) χ) ?_;rintro _ aw bf⟨H,u,a8,P,rfl,a0⟩ cq ch;refine dS [CV G,Y s a7 Z1] λaz c3 bo=>?_;refine dS [CV H,Y u a8 P] λb0 c4 bp=>?_;refine zq ?_;exact⟨_,_,_,_,_,_,_,_,ω,(Z0.t zt).as (by have:=o.ge;have:=m.lt;exact kd rq),_,(a0.t zt)⟩;refine zH ?_;cases sy;refine zH ?_;refine dC (yJ _ i φ) ?_;rintro _ b1 bg⟨I,w,a9,R,rfl,a1⟩ cr ci;refine zH ?_;refine dC (yJ _ (j.t zt) φ) ?_;rintro _ b2 bh⟨J,A,aa,S,rfl,a2⟩ cs cj;refine dS [CV I,Y w a9 R] λb3 c5 bq=>?_;refine dS [CV J,Y A aa S] λb4 c6 br=>?_;refine zq ?_;exact⟨_,_,_,_,_,_,_,_,ω,(a1.t zt).as (by have:=o.lt;have:=m.ge;exact kd rq),_,(a2.t zt)⟩;refine zH ?_;refine dC (yJ _ i χ) ?_;rintro _ b5 bi⟨K,B,ab,T,rfl,a3⟩ ct ck;refine zH ?_;refine dC (yJ _ (j.t zt) φ) ?_;rintro _ b6 bj⟨L,C,ac,Z4,rfl,a4⟩ cu cl;refine dS [CV K,Y B ab T] λb7 c7 bs=>?_;refine dS [CV L,Y C ac Z4] λb8 c8 bt=>?_;refine zq ?_;exact⟨_,_,_,_,_,_,_,_,ω,(a3.t zt).as (by have:=o.lt;have:=m.lt;exact kd rq),_,(a4.t zt)⟩
def quoX(k:Nat){x:Int}{y:Int}(p:IW h n sx ax lx cx x)(q:IW h n sy ay ly cy y)(hx:x.natAbs<BW)(s:y.natAbs<BW)(m:y≠0):CX (Kp (k+8)) 68 [.agg #[CV sx,Y ax lx cx],.agg #[CV sy,Y ay ly cy]] h n (IV (x.tdiv y)):=by refine zw (fn:=Tryz.f68) R4<|zG ?_;refine sB [CV sx,Y ax lx cx] λv S a3=>?_;refine sB [CV sy,Y ay ly cy] λw T a4=>?_;refine sA λA Z4 a5=>?_;refine zG ?_;refine sC (tU _ (q.t zt)) ?_;rintro _ B L⟨u,rfl,f⟩ aa a6;obtain⟨rfl,e⟩|⟨rfl,e⟩:=Ky f;refine zG ?_;refine sC (ZA _ (p.t zt) (q.t zt) hx s m) ?_;rintro _ C M⟨b,a,d,c,l,g,i,j,rfl,o,a2,K⟩ ab a7;refine Zd λD V a8=>?_;refine sA λF W a9=>?_;refine sS [CV b,Y a d c] λG Z3 N=>?_;refine sS [CV l,Y g i j] λH Z0 Z1=>?_;refine zG ?_;refine sS [CV b,Y a d c] λI a0 P=>?_;refine zq ?_;exact⟨_,_,_,_,ω,(o.t zt)⟩;refine zG ?_;refine sS [CV sx,Y ax lx cx] λJ a1 R=>?_;refine zq ?_;exact⟨_,_,_,_,ω,(p.t zt).as (by rw[e,Int.tdiv_one])⟩
def gcdX(k:Nat){x:Int}{y:Int}(g:GG h n)(e:IW h n sx ax lx cx x)(f:IW h n sy ay ly cy y)(hx:x.natAbs<BW)(hy:y.natAbs<BW):CX (Kp (k+8)) 47 [.agg #[CV sx,Y ax lx cx],.agg #[CV sy,Y ay ly cy]] h n (IV ((Dh x.natAbs y.natAbs:Nat):Int)):=by refine zw (fn:=Tryz.f47) R4<|zG ?_;refine sB [CV sx,Y ax lx cx] λi s A=>?_;refine sB [CV sy,Y ay ly cy] λj u B=>?_;refine sA λl v C=>?_;refine zG ?_;refine sC (Sg _ (g.t zt) (e.t zt).2 (f.t zt).2 Lc) ?_;rintro _ m p⟨a,c,b,rfl,d⟩ F D;refine sT #[CV χ,Y a c b] ?_;refine sS [CV χ,Y a c b] λo w q=>?_;refine zq ?_;exact⟨_,_,_,_,ω,AX,(d.t zt)⟩
def ZB(k:Nat){x:Int}{y:Int}(a:IW h n sx ax lx cx x)(b:IW h n sy ay ly cy y)(hx:x.natAbs<BW)(hy:y.natAbs<BW):VF (Kp (k+4)) 136 [.agg #[CV sx,Y ax lx cx],.agg #[CV sy,Y ay ly cy]] h n λv=>∃s:Int,v=U .i64 s/\(s= -1/\x<y\/s=0/\x=y\/s=1/\y<x):=by refine zO (fn:=Tryz.f136) R4<|zG ?_;refine sB [CV sx,Y ax lx cx] λe m u=>?_;refine sB [CV sy,Y ay ly cy] λf o w=>?_;refine zG ?_;cases sx;refine zG ?_;cases sy;refine zG ?_;refine sC (Nf _ (a.t zt).2 (b.t zt).2 Lc) ?_;rintro _ g j⟨p,rfl,c⟩ C A;obtain⟨rfl,c⟩|⟨rfl,c⟩|⟨rfl,c⟩:=c;refine zf ?_;exact⟨_,ω,Bd⟩;refine zf ?_;exact⟨_,ω,Bd⟩;refine zf ?_;exact⟨_,ω,Bd⟩;refine zf ?_;exact⟨_,ω,by have:=a.ge;have:=b.lt;omega⟩;refine zG ?_;cases sy;refine zf ?_;exact⟨_,ω,by have:=a.lt;have:=b.ge;omega⟩;refine zG ?_;refine sC (Nf _ (b.t zt).2 (a.t zt).2 Lc) ?_;rintro _ i l⟨q,rfl,d⟩ D B;obtain⟨rfl,d⟩|⟨rfl,d⟩|⟨rfl,d⟩:=d;refine zf ?_;exact⟨_,ω,Be⟩;refine zf ?_;exact⟨_,ω,Be⟩;refine zf ?_;exact⟨_,ω,Be⟩
def ZC(k:Nat){x:Int}{y:Int}(a:IW h n sx ax lx cx x)(c:IW h n sy ay ly cy y)(hx:x.natAbs<BW)(hy:y.natAbs<BW):VF (Kp (k+4)) 112 [.agg #[CV sx,Y ax lx cx],.agg #[CV sy,Y ay ly cy]] h n λv=>∃b:Bool,v=CV b/\(b=φ↔x=y):=by refine zO (fn:=Tryz.f112) R4<|zG ?_;refine sB [CV sx,Y ax lx cx] λf o u=>?_;refine sB [CV sy,Y ay ly cy] λg p w=>?_;refine zG ?_;cases sx;refine zG ?_;cases sy;refine zG ?_;refine sC (Nf _ (a.t zt).2 (c.t zt).2 Lc) ?_;rintro _ i l⟨q,rfl,d⟩ C A;obtain⟨rfl,d⟩|⟨rfl,d⟩|⟨rfl,d⟩:=d;refine zf ?_;exact⟨_,ω,sa⟩;refine zf ?_;exact⟨_,ω,sa⟩;refine zf ?_;exact⟨_,ω,sa⟩;refine zf ?_;exact⟨_,ω,by have:=a.ge;have:=c.lt;simp only[reduceCtorEq,true_iff,false_iff];omega⟩;refine zG ?_;cases sy;refine zf ?_;exact⟨_,ω,by have:=a.lt;have:=c.ge;simp only[reduceCtorEq,true_iff,false_iff];omega⟩;refine zG ?_;refine sC (Nf _ (a.t zt).2 (c.t zt).2 Lc) ?_;rintro _ j m⟨s,rfl,e⟩ D B;obtain⟨rfl,e⟩|⟨rfl,e⟩|⟨rfl,e⟩:=e;refine zf ?_;exact⟨_,ω,sb⟩;refine zf ?_;exact⟨_,ω,sb⟩;refine zf ?_;exact⟨_,ω,sb⟩
end
end Go.Proofs.YteoagenjaemllaaGreatDoor
