import Derived.KernelRfl
import Derived.Test.YtpcpimjejdegcaaGreatDoorSlvB
open Option renaming some→ξ,none→θ
open Bool renaming true→φ,false→χ
open Go renaming Value→ψ
set_option linter.defProp false
open Bool renaming and_self→DZ,eq_false_iff→HU,false_eq_true→ET,not_false→He,not_true→Ia,or_true→Jl
open Classical renaming byContradiction→C1
open Go.Proofs.YtpcpimjejdegcaaGreatDoor.J9 renaming refl→FH,upd→Fe
open Go.Proofs.YtpcpimjejdegcaaGreatDoor.Kb renaming nil→HT,snoc→Gl,zeros→ao3
open Go.Proofs.YtpcpimjejdegcaaGreatDoor.NW renaming last→ar9,nil→aa2
open Go.Proofs.YtpcpimjejdegcaaGreatDoor.Norm renaming nil→II
open Go.Value renaming bool→U,int→CJ,pointer→CM,slice→Y,string→CN
open Int renaming ediv_one→am3,eq_ofNat_of_zero_le→Jd,gcd→JQ,mul_ediv_cancel_left→GB,mul_one→ae8,natAbs_mul→Dz,natAbs_natCast→C4,natAbs_neg→Ff,natAbs_of_nonneg→Hl,natAbs_tdiv→G3,natCast_mul→EW,neg_neg→Hk,neg_tdiv→ab6,ofNat_dvd_left→FD,ofNat_natAbs_of_nonpos→Gk,sign_eq_one_of_pos→Ga,tdiv_eq_ediv_of_dvd→GO,tdiv_neg→ab7,toNat_natCast→En
open List renaming all_eq_true→Fu,append_assoc→Dp,append_nil→Do,drop_eq_nil_of_le→Fa,drop_left'→Jz,drop_length→EZ,drop_replicate→JU,drop_zero→DH,foldl→aq4,foldl_cons→Im,getElem?_append_left→D5,getElem?_append_right→Dq,getElem?_drop→D6,getElem?_eq_getElem→CK,getElem?_eq_some_iff→CQ,length→O,length_append→CP,length_cons→DN,length_drop→Es,length_eq_one_iff→Gb,length_eq_zero_iff→CY,length_nil→Gq,length_pos_iff→GF,length_replicate→Du,length_singleton→C8,length_take→DD,mem_append→DW,mem_cons→Dk,mem_cons_self→Eb,mem_map→DU,mem_of_getElem?→CL,mem_of_mem_take→Dx,mem_singleton→C0,nil_append→DP,not_mem_nil→CT,replicate→CO,replicate_append_replicate→H0,replicate_succ→GI,replicate_zero→Fj,set_append_right→D8,take_append_drop→D1,take_length→Da,take_of_length_le→CR,take_succ_eq_append_getElem→Fl
open Nat renaming Coprime→Gt,add_assoc→GA,add_comm→Ee,add_mul→Dv,add_mul_div_left→Hh,add_mul_div_right→G9,add_mul_mod_self_right→Gj,add_sub_cancel→FV,add_zero→DG,beq→DO,ble→Dj,ble_eq_true_of_le→CV,coprime_div_gcd_div_gcd→Iy,div_add_mod→DS,div_div_eq_div_mul→Fv,div_eq_of_lt→EY,div_le_self→Ef,div_lt_iff_lt_mul→Em,div_one→HK,eq_of_beq_eq_true→DE,eq_zero_or_pos→FE,gcd→C6,gcd_comm→Fw,gcd_dvd_left→Fh,gcd_dvd_right→Fx,gcd_mul_left→H6,gcd_pos_of_pos_left→F0,gcd_pos_of_pos_right→Er,gcd_rec→JH,le_div_iff_mul_le→FA,le_mul_of_pos_right→EK,le_of_ble_eq_true→De,le_of_lt→D9,le_sub_one_of_lt→JK,le_succ→Dc,le_trans→C5,lt_of_le_of_lt→Dh,lt_of_lt_of_le→CZ,lt_or_ge→EH,lt_succ_self→Fi,lt_trans→Jp,lt_trichotomy→Gs,min_eq_left→DX,mod_eq_of_lt→C7,mod_lt→DJ,mul_add→DY,mul_assoc→Dm,mul_comm→C3,mul_div_cancel'→F3,mul_div_cancel_left→Fp,mul_div_mul_right→H2,mul_le_mul→Df,mul_le_mul_left→C9,mul_le_mul_right→CS,mul_left_comm→Gu,mul_lt_mul_of_pos_right→Ez,mul_mod_mul_right→G8,mul_one→DL,mul_pos→EJ,mul_succ→Jq,mul_zero→Ey,not_succ_le_zero→JM,one_le_div_iff→aa3,one_mul→EV,or_comm→ae3,pow_add→D4,pow_le_pow_left→GH,pow_le_pow_right→CW,pow_mul→HJ,pow_pos→Dw,pow_succ→Db,pow_zero→EG,sub_self→D7,succ_mul→EM,zero_add→Dd,zero_le→Ig,zero_mod→ab5,zero_mul→D2
open Nat.Coprime renaming coprime_dvd_left→Ir,coprime_dvd_right→FY,gcd_mul_left_cancel_right→Hs,mul_left→Ii,mul_right→H3,symm→au6
open Rat renaming add_def→ae6,den_intCast→af8,divInt→DK,mul_def→ae7,normalize_eq→Ht,num_intCast→af7
open UInt8 renaming ofNat→Ek,toNat_inj→G4
set_option maxHeartbeats 8000000
set_option linter.unusedVariables false
set_option linter.unusedSimpArgs false
namespace Go.Proofs.YtpcpimjejdegcaaGreatDoor
section
open Go Go.GL
variable {ops:List Oper}{n bytes size m i cap len top sz n' bt lo Z4 c' c1 c2 cX l1 l2 n0 b j V a d r c L l P k N:Nat}{h h':HF}{t:TF}{w ms ln Z0 A C X:List Nat}{Q:SV->Prop}{o:Oper}{al:List (Nat×Nat)}{ef:List (Nat×HF×List Nat)}{z d1 d2 c0 n1 n2 v:ψ}{e ty xT e3:TypeId}{args new cs:List ψ}{body:Code}{ik' ik:IntKind}{ji:Int}{fn:Func}{a1 a2:Option Addr}{s:List UInt8}{x:Operand}{q:Rat}{f:FuncId}{E:Env}
variable {ld:List Nat}{sT:TypeId}
def LG(m x y:Nat):Prop:=if m%2=0 then y<2^(m/2)else x<2^(m/2+1)/\y<x
theorem LG.pos{x y:Nat}(h:LG m x y)(a:0<y):0<m:=by grind [LG]
def YK{x y:Nat}(a:0<y)(h:y<x):2*(x%y)<x:=by have d:=DJ x a;have e:=DS x y;have c:1<=x/y:=(FA a).2 Z;have f:y*1<=y*(x/y):=C9 y c;omega
theorem LG.next{x y:Nat}(h:LG (m+1) x y)(a:0<y):LG m y (x%y):=by unfold LG at h⊢;by_cases hm:(m+1)%2=0;rw[Cx hm]at h;rw[Cs Z];rw[show m/2+1=(m+1)/2 from Z];exact⟨h,DJ x a⟩;rw[Cs hm]at h;rw[Cx Z];have c:=YK a h.2;grind
def Kw(b:Nat):ψ->Prop
 | Y (ξ a) _ _=>a.block≠b
 |_=>True
def Sl.off{c:List ψ}{x:Option BF}(s:Sl h n sz v c)(d:Kw b v):Sl (upd h b x) n sz v c:=
 s.keep (λa l f e=>by subst e;exact zm d) CG
theorem Below.off(h:Below m v)(hb:3*m<=b):Kw b v:=by unfold Below at h;grind [Kw]
theorem xC.off(h:xC m v)(hb:b<3*m):Kw b v:=by unfold xC at h;grind [Kw]
def YL(k:Nat){c1 Z4:ψ}{x y:Int}(hx:IntR h n c1 Z4 x A)(hy:IntR h n d1 d2 y C)(hb:O A<1000000000/\O C<1000000000):
  CF (Ka (k+4)) 142 [.agg #[c1,Z4],.agg #[d1,d2]] h n λv o q w=>w=[]/\n<=q/\J9 n h o/\∃g1 g2 L,v=.agg #[g1,g2]/\IntR o q g1 g2 ((C6 x.natAbs y.natAbs:Nat):Int) L/\O L<1000000000/\∀b,b<3*n->Kw b Z4->Kw b d2->Kw b g2:=by
 refine zw R4 ?_;obtain⟨rfl,P,nA,vA⟩:=hx;obtain⟨rfl,R,nC,vC⟩:=hy;obtain⟨a,la,B,rfl,_⟩:=P.len;obtain⟨c,lc,F,rfl,_⟩:=R.len;have e1:=P.lenU;have e2:=R.lenU;subst e1 e2;refine zN ?_;refine Ll (cs:=[U (decide (x<0)),Y a (O A) B]) R5<|Ll (cs:=[U (decide (y<0)),Y c (O C) F]) R5<|xV R5<|zN ?_;generalize hh:upd (upd (upd h (3*n+2) _) (3*(n+1)+2) _) (3*(n+1+1)+2) _=i;have I:∃e,i (3*n+2)=ξ (.row [U (decide (x<0)),Y a (O A) B] e):=⟨_,Bu⟩;have J:∃e,i (3*(n+1)+2)=ξ (.row [U (decide (y<0)),Y c (O C) F] e):=⟨_,by rw[<-hh,zm Z,zg]⟩;have K:∃e,i (3*(n+1+1)+2)=ξ (.row [U χ,η] e):=⟨_,kF⟩;have M:J9 n h i:=by rw[<-hh];intro b hb;rw[zm Z,zm Z,zm Z]
 have⟨t1,I⟩:=I;have⟨t2,J⟩:=J;have⟨t3,K⟩:=K;rw[wb rfl];repeat refine zR ?_
 refine zT R6 I R2 ?_;repeat refine zR ?_
 refine zT R6 J R2<|my ?_;refine ye (α:=(Option Addr×Nat×List Nat)×(Option Addr×Nat×List Nat)×Nat) (λz=>[(4,ι (3*(n+1+1)+2)),(5,Y z.1.1 (O z.1.2.2) z.1.2.1),(6,Y z.2.1.1 (O z.2.1.2.2) z.2.1.2.1)])
  (λz o q w'=>n+1+1+1<=q/\w'=[]/\J9 (n+1+1+1) i o/\Sl o q 1 (Y z.1.1 (O z.1.2.2) z.1.2.1) (u32s z.1.2.2)/\Sl o q 1 (Y z.2.1.1 (O z.2.1.2.2) z.2.1.2.1) (u32s z.2.1.2.2)/\Norm z.1.2.2/\Norm z.2.1.2.2/\O z.1.2.2<1000000000/\O z.2.1.2.2<1000000000/\LG z.2.2 (val z.1.2.2) (val z.2.1.2.2)/\C6 (val z.1.2.2) (val z.2.1.2.2)=C6 x.natAbs y.natAbs/\(∀b,b<3*(n+1+1+1)->Kw b (Y a (O A) B)->Kw b (Y c (O C) F)->Kw b (Y z.1.1 (O z.1.2.2) z.1.2.1))/\(∀b,b<3*(n+1+1+1)->Kw b (Y a (O A) B)->Kw b (Y c (O C) F)->Kw b (Y z.2.1.1 (O z.2.1.2.2) z.2.1.2.1))) (λz=>z.2.2)
  ((a,B,A),(c,F,C),2*(32*O C)) P3 ⟨by show n+1+1+1<=n+1+1+1;omega,ω,FH _ _,P.ext M (show n<=n+1+1+1 from Z),R.ext M (show n<=n+1+1+1 from Z),nA,nC,hb.1,hb.2,?_,by rw[vA,vC],λ_ _ i _=>i,λ_ _ _ h2=>h2⟩ (by show 2*(32*O C)<LL;unfold LL;omega) ?_
 show LG (2*(32*O C)) (val A) (val C);unfold LG;rw[Cx Z,show 2*(32*O C)/2=32*O C from Z,HJ];exact Py nC.1;rintro⟨⟨T,D,l⟩,⟨c',a0,g⟩,m⟩ t h2 n2 _ ⟨a1,rfl,N,G,H,Z1,f,u,S,Z3,W,Z0,oC⟩;simp only at G H Z1 f u S Z3 W Z0 oC;refine zN ?_;by_cases hC0:g=[];subst hC0;refine Zo ?_;refine zF _ R5 (Mn (k+2) _ _ χ T (O l) D) ?_;rintro _ h3 n3 _⟨rfl,rfl,rfl,d⟩;refine yc [U (χ&&decide (0<O l)),Y T (O l) D] R7 ω (by rw[d _ Z,N _ Z];exact K) ω eN ?_;refine zN ?_;have V:J9 n h (upd h3 (3*(n+1+1)+2) (ξ (.row [U (χ&&decide (0<O l)),Y T (O l) D] t3))):=λb hb=>by rw[zm Z,d b Z,N b Z];exact M b hb
 refine uq R5 (zg _ _ _) ω ⟨ω,by show n<=n2+1;omega,V,_,_,l,ω,M8 ((G.ext d Zq).off (Z0 _ Z (P.below.off Z) (R.below.off Z))) Z1 ?_ (λh0=>?_),u,λb hb=>Z0 b Z⟩;rw[<-W];simp[val];rw[Ae Z];have a4:0<O g:=GF.2 hC0;have j:=f.pos hC0;refine Zh ?_;refine zF _ R5 (Sp k G H Z1 f hC0 u) ?_;rintro _ h3 n3 _⟨rfl,a2,d,aq,cq,Lq,ar,cr,s,rfl,a7,a3,nq,nr,vq,vr,fq,fr⟩;refine Zb ?_;have a6:=Z3.pos j;obtain⟨p,rfl⟩:∃p,m=p+1:=⟨m-1,Z⟩;have a5:O s<=O g:=f.len_le nr (by rw[vr];exact D9 (DJ _ j));refine goOn ((c',a0,g),(ar,cr,s),p) (by show p<p+1;omega) P3 ⟨by show n+1+1+1<=n3;omega,ω,N.trans d a1,H.ext d a2,a3,f,nr,S,by show O s<1000000000;omega,?_,?_,oC,λb hb _ _=>fr.off Z⟩;show LG p (val g) (val s);rw[vr];exact Z3.next j;show C6 (val g) (val s)=_;rw[vr,<-W,Fw (val g),<-JH,Fw]
def IntR.off{c a:ψ}{x:Int}{l:List Nat}{y:Option BF}(r:IntR h n c a x l)(d:Kw b a):IntR (upd h b y) n c a x l:=⟨r.neg,r.sl.off d,r.norm,r.val⟩
def IntR.len_le{e f:ψ}{x y:Int}{l c:List Nat}(r:IntR h n e f x l)(d:IntR h' n' d1 d2 y c)(a:y.natAbs<=x.natAbs):O c<=O l:=r.norm.len_le d.norm (by rw[r.val,d.val];exact a)
def IntR.ones{c a:ψ}{x:Int}{l:List Nat}(r:IntR h n c a x l):ones [c,a]=φ:=by rw[r.neg];show GL.ones (a::_)=φ;rw[r.sl.ones];rfl
def Away(n:Nat)(c0 v:ψ):Prop:=(v=c0/\Below n v)\/xC (n+1+1+1) v
def Away.off(h:Away n c0 v)(a:3*n<=b)(c:b<3*(n+1+1+1)):Kw b v:=by obtain h|h:=h;exact h.2.off a;exact h.off c
def Away.or(h:Away n c0 v):v=c0\/xC n v:=by obtain h|h:=h;exact .inl h.1;exact .inr (h.mono Z)
structure FrS (n:Nat)(c0 d0:ψ)(h h':HF)(n':Nat)(c1 c2 d1 d2:ψ)(x y:Int)(A C:List Nat):Prop where
 n3:n+1+1+1<=n'
 ext:J9 n h h'
 b2:∃e,h' (3*n+2)=ξ (.row [c1,c2] e)
 b3:∃e,h' (3*(n+1)+2)=ξ (.row [d1,d2] e)
 b4:∃e,h' (3*(n+1+1)+2)=ξ (.row [U χ,Y θ 0 0,U χ,Y θ 0 0] e)
 ix:IntR h' n' c1 c2 x A
 iy:IntR h' n' d1 d2 y C
 ox:Away n c0 c2
 oy:Away n d0 d2
def FrS.exts{d0:ψ}{a:HF}{c:Nat}{d e:ψ}{x y:Int}(s:FrS n c0 d0 h h' n' d e d1 d2 x y A C)(hx:J9 n' h' a)(f:n'<=c):FrS n c0 d0 h a c d e d1 d2 x y A C:=by have⟨B,ext,⟨l,g⟩,⟨m,i⟩,⟨o,j⟩,p,q,u,w⟩:=s;exact⟨Z,ext.trans hx Z,⟨l,by rw[hx _ Z];exact g⟩,⟨m,by rw[hx _ Z];exact i⟩,⟨o,by rw[hx _ Z];exact j⟩,p.ext hx f,q.ext hx f,u,w⟩
def FrS.putx{d0:ψ}{m p:ψ}{x y:Int}(s:FrS n c0 d0 h h' n' m p d1 d2 x y A C){c a:ψ}{g:Int}{d:List Nat}(i:IntR h' n' c a g d)(o:Away n c0 a)(e:TypeId):FrS n c0 d0 h (upd h' (3*n+2) (ξ (.row [c,a] e))) n' c a d1 d2 g y d C:=by have⟨H,ext,⟨F,D⟩,⟨q,j⟩,⟨u,l⟩,G,B,I,f⟩:=s;exact⟨Z,λb w=>by rw[zm Z];exact ext b w,⟨e,zg _ _ _⟩,⟨q,by rw[zm Z];exact j⟩,⟨u,by rw[zm Z];exact l⟩,i.off (o.off Z Z),B.off (f.off Z Z),o,f⟩
def FrS.puty{d0:ψ}{f g:ψ}{x y:Int}(s:FrS n c0 d0 h h' n' f g d1 d2 x y A C){c a:ψ}{l:Int}{d:List Nat}(i:IntR h' n' c a l d)(o:Away n d0 a)(e:TypeId):FrS n c0 d0 h (upd h' (3*(n+1)+2) (ξ (.row [c,a] e))) n' f g c a x l A d:=by have⟨H,ext,⟨q,m⟩,⟨F,D⟩,⟨u,p⟩,B,G,j,I⟩:=s;exact⟨Z,λb w=>by rw[zm Z];exact ext b w,⟨q,by rw[zm Z];exact m⟩,⟨e,zg _ _ _⟩,⟨u,by rw[zm Z];exact p⟩,B.off (j.off Z Z),i.off (o.off Z Z),j,o⟩
def YM{x y:Int}(a:0<y):(DK x y).num=x/((C6 x.natAbs y.natAbs:Nat):Int):=by rw[Rat.num_divInt,Ga a,Int.one_mul];unfold JQ;rw[Fw]
theorem YN{x y:Int}(a:0<y):(DK x y).den=y.natAbs/C6 x.natAbs y.natAbs:=by grind [Rat.den_divInt,JQ,Fw]
def Ss{x:Int}{g:Nat}(h:g∣x.natAbs):x.tdiv (g:Int)=x/(g:Int):=GO (FD.2 h)
theorem YO{y:Int}(h:0<y)(g:Nat):y/(g:Int)=((y.natAbs/g:Nat):Int):=by grind
structure DenR (h:HF)(n:Nat)(d1 d2:ψ)(q:Nat)(ld:List Nat):Prop where
 neg:d1=U χ
 sl:Sl h n 1 d2 (u32s ld)
 norm:Norm ld
 val:val ld=if q=1 then 0 else q
theorem Su(k:Nat){c1 d:ψ}{x y:Int}(hx:IntR h n c1 d x A)(hy:IntR h n d1 d2 y C)(al:y≠0)(hb:O A<1000000000/\O C<1000000000):
  CF (Ka (k+5)) 108 [.agg #[c1,d],.agg #[d1,d2]] h n λv h' n' w=>w=[]/\n<=n'/\J9 n h h'/\∃a m e1 s ln ld,v=.agg #[a,m,e1,s]/\RatR h' n' a m e1 s (DK x y) ln ld/\O ln<=O A/\O ld<=O C/\(m=d\/xC n m)/\(s=d2\/xC n s):=by
 refine zw R4 ?_;obtain⟨q,hq⟩:∃q,q=DK x y:=⟨_,ω⟩;rw[<-hq];refine zN ?_;refine Ll (cs:=[c1,d]) R5<|Ll (cs:=[d1,d2]) R5<|xV R5<|zN ?_;generalize hh:upd (upd (upd h (3*n+2) _) (3*(n+1)+2) _) (3*(n+1+1)+2) _=h1;have W:J9 n h h1:=by rw[<-hh];intro b hb;rw[zm Z,zm Z,zm Z]
 have R:FrS n d d2 h h1 (n+1+1+1) c1 d d1 d2 x y A C:=⟨CG,W,⟨_,Bu⟩,⟨_,by rw[<-hh,zm Z,zg]⟩,⟨_,kF⟩,hx.ext W Z,hy.ext W Z,.inl ⟨ω,hx.sl.below⟩,.inl ⟨ω,hy.sl.below⟩⟩;have⟨ak,J⟩:=R.b2;have⟨a8,c⟩:=R.b3;repeat refine zR ?_
 refine zT R6 c R2<|zN ?_;refine yj (α:=(ψ×ψ)×Int×Int) (λ_=>[(2,ι (3*n+2)),(3,ι (3*(n+1)+2)),(4,ι (3*(n+1+1)+2))]) (λz h' n' w=>w=[]/\FrS n d d2 h h' n' z.1.1 d z.1.2 d2 z.2.1 z.2.2 A C/\0<z.2.2/\DK z.2.1 z.2.2=q) ?_ ?_;by_cases hn:y<0;rw[ze (by show d1=_;rw[hy.neg,BJ hn])];refine zl ?_;refine yd R6 (yw R2 J ω zb ω) R2<|wa _ R7 (PM (k+2) R.ix) ?_;rintro _ h2 n2 _⟨rfl,B,M,a,rfl,i1⟩;refine⟨ω,B,?_⟩;refine yd R6 (yw R2 c ω zb ω) ⟨(RI eF),ω⟩ ?_;refine wa _ R7 (PM (k+2) (R.iy.ext M B)) ?_;rintro _ h3 n3 _⟨rfl,I,F,l,rfl,i2⟩;refine⟨ω,I,?_⟩;have o:=(R.exts M B).exts F I;have ai:=i1.ext F I;have⟨s,a0⟩:=o.b2;refine jX R7 i1.ones a0 zb eN R3 ?_;have T:=o.putx ai o.ox s;have⟨e3,ad⟩:=T.b3;refine jX R7 i2.ones ad zb eN R3 ?_;have S5:=T.puty (i2.off (T.oy.off Z Z)) T.oy e3;refine zN ?_;exact⟨((a,l),-x,-y),P3,ω,S5,by show 0< -y;omega,by show DK (-x) (-y)=q;rw[Rat.divInt_neg',Hk,hq]⟩;rw[za (by show d1=_;rw[hy.neg,Ae hn])];refine zN ?_;exact⟨((c1,d1),x,y),P3,ω,R,by show 0<y;omega,hq.symm⟩;rintro⟨⟨a,l⟩,x',y'⟩ t h1 n1 _ ⟨rfl,S,Z3,a7⟩;simp only at S Z3 a7;have L:=YM (x:=x') Z3;have K:=YN (x:=x') Z3;rw[a7]at L K;refine zN ?_;have⟨ak,J⟩:=S.b2;have⟨a8,c⟩:=S.b3;refine z7 (v:=.agg #[a,d]) R5 (yw R2 J ω zb ω)<|z7 (v:=.agg #[l,d2]) R5 (yw R2 c ω zb ω)<|zF _ R5 (YL k S.ix S.iy hb) ?_;rintro _ h2 n2 _⟨rfl,B,M,g1,g2,G,rfl,ig,bG,og⟩;generalize hg:C6 x'.natAbs y'.natAbs=g at*;refine xV R5<|yc [g1,g2] R7 ig.ones (zg _ _ _) ω (by show 3*n<=_;have:=S.n3;omega) ?_;rw[uk];have S2:=S.exts M B;generalize hh:upd h2 (3*n2+2) _=h3;have F:J9 n2 h2 h3:=by grind [Fe]
 have D:∃e,h3 (3*n2+2)=ξ (.row [g1,g2] e):=⟨_,oB⟩;have⟨tg,D⟩:=D;have o:=S2.exts F Zq;have Z0:=ig.ext F Zq;refine zN ?_;refine z7 (v:=.agg #[g1,g2]) R5 (yw R2 D ω zb ω)<|yi _ R5 (Sq (k+3) Z0 bG) ?_;rintro _⟨b,rfl,H,p⟩;rw[C4]at H p;have a2:0<g:=by grind
 have a3:g∣x'.natAbs:=by rw[<-hg];exact Fh _ _
 have a4:g∣y'.natAbs:=by rw[<-hg];exact Fx _ _
 refine MY R6<|zN ?_;have I:=o.n3;refine yj (α:=(ψ×ψ×ψ×ψ)×List Nat×List Nat) (λ_=>[(2,ι (3*n+2)),(3,ι (3*(n+1)+2)),(4,ι (3*(n+1+1)+2))]) (λz h' n' w=>w=[]/\FrS n d d2 h h' n' z.1.1 z.1.2.1 z.1.2.2.1 z.1.2.2.2 q.num (q.den:Int) z.2.1 z.2.2/\O z.2.1<=O A/\O z.2.2<=O C) ?_ ?_;by_cases hgt:(1:Int)<(b:Int);rw[ze (by show U (decide ((1:Int)<(b:Int)))=_;rw[BJ hgt])];refine zN ?_;have⟨s,a0⟩:=o.b2;refine z7 (v:=.agg #[a,d]) R5 (yw R2 a0 ω zb ω)<|z7 (v:=.agg #[g1,g2]) R5 (yw R2 D ω zb ω)<|zF _ R5 (Sr k o.ix Z0 Z hb.1) ?_;rintro _ h4 n4 _⟨rfl,a6,a1,q1,q2,r1,r2,Lq,Lr,rfl,iq,ir,fq,fr⟩;repeat refine zR ?_
 have T:=o.exts a1 a6;have⟨e4,ae⟩:=T.b2;refine yc [q1,q2] R7 iq.ones ae ω eN ?_;have S5:=T.putx iq (.inr (fq.mono Z)) e4;refine zN ?_;have⟨e5,af⟩:=S5.b3;have a9:=(zm (f:=h4) (i:=3*n+2) (v:=ξ (.row [q1,q2] e4)) (j:=3*n2+2) Z).trans ((a1 _ Z).trans D);refine z7 (v:=.agg #[l,d2]) R5 (yw R2 af ω zb ω)<|z7 (v:=.agg #[g1,g2]) R5 (yw R2 a9 ω zb ω) ?_;have aj:Kw (3*n+2) g2:=og _ (by have:=S.n3;omega) (S.ox.off Z Z) (S.oy.off Z Z);refine zF _ R5 (Sr k S5.iy ((Z0.ext a1 a6).off aj) Z hb.2) ?_;rintro _ h6 n6 _⟨rfl,ab,ah,p1,p2,s1,s2,Lp,Ls,rfl,ip,is,fp,fs⟩;repeat refine zR ?_
 have S6:=S5.exts ah ab;have⟨e6,ag⟩:=S6.b3;refine yc [p1,p2] R7 ip.ones ag ω eN ?_;have S7:=S6.puty ip (.inr (fp.mono Z)) e6;refine zN ?_;rw[Ss a3,<-L,Ss a4,show y'/(g:Int)=(q.den:Int)from by rw[K];exact YO Z3 g]at S7;refine zA ((q1,q2,p1,p2),Lq,Lp) P3 ⟨ω,S7,o.ix.len_le iq ?_,o.iy.len_le ip ?_⟩;rw[G3];exact Ef _ _;rw[G3];exact Ef _ _;rw[za (by show U (decide ((1:Int)<(b:Int)))=_;rw[Ae hgt])];refine zN ?_;have aa:g=1:=Z;subst aa;rw[show((1:Nat):Int)=1 from ω,am3]at L;rw[HK]at K;refine zA ((a,d,l,d2),A,C) P3 ⟨ω,?_,CG,CG⟩;show FrS n d d2 h h3 (n2+1) a d l d2 q.num (q.den:Int) A C;rw[L,K,show((y'.natAbs:Nat):Int)=y' from Z];exact o;rintro⟨⟨a,m,l,P⟩,L1,L2⟩ t h5 n5 _ ⟨rfl,S,a5,u⟩;simp only at S a5 u;refine zN ?_;have⟨a8,c⟩:=S.b3;refine z7 (v:=.agg #[l,P]) R5 (yw R2 c ω zb ω)<|yi _ R5 (Sq (k+3) S.iy Z) ?_;rintro _⟨b,rfl,H,p⟩;rw[C4]at H p;refine Mm R6<|zN ?_;refine yj (α:=(ψ×ψ)×List Nat) (λ_=>[(2,ι (3*n+2)),(3,ι (3*(n+1)+2)),(4,ι (3*(n+1+1)+2))]) (λz h' n' w=>w=[]/\n+1+1+1<=n'/\J9 n h h'/\(∃e,h' (3*n+2)=ξ (.row [a,m] e))/\(∃e,h' (3*(n+1)+2)=ξ (.row [z.1.1,z.1.2] e))/\(∃e,h' (3*(n+1+1)+2)=ξ (.row [U χ,η,U χ,η] e))/\IntR h' n' a m q.num L1/\DenR h' n' z.1.1 z.1.2 q.den z.2/\Away n d m/\Away n d2 z.1.2/\O z.2<=O C) ?_ ?_;by_cases hd:(b:Int)=1;rw[ze (by show U (decide ((b:Int)=1))=_;rw[BJ hd])];refine zN ?_;refine zZ (v:=.agg #[U χ,η]) R4 rfl<|yc [U χ,η] R7 ω c ω eN ?_;refine zN ?_;have Z4:q.den=1:=p.1 Z;have⟨n3,ext,⟨s,b2⟩,_,⟨e4,b4⟩,N,iy,Z1,oy⟩:=S;exact zA ((U χ,η),[]) P3 ⟨ω,n3,λb hb=>(zm Z).trans (ext b hb),⟨s,(zm Z).trans b2⟩,⟨_,zg _ _ _⟩,⟨e4,(zm Z).trans b4⟩,N.off (Z1.off Z Z),⟨ω,.nil (.inl ω),II,by rw[Cx Z4];rfl⟩,Z1,.inr trivial,CH⟩;rw[za (by show U (decide ((b:Int)=1))=_;rw[Ae hd])];refine zN ?_;have Z4:q.den≠1:=λe=>hd (by have:=p.2 e;omega);have⟨n3,ext,b2,b3,b4,N,iy,Z1,oy⟩:=S;exact zA ((l,P),L2) P3 ⟨ω,n3,ext,b2,b3,b4,N,⟨by rw[iy.neg];simp,iy.sl,iy.norm,by rw[Cs Z4,iy.val,C4]⟩,Z1,oy,u⟩;rintro⟨⟨l,P⟩,L2⟩ t h6 n6 _ ⟨rfl,n3,ext,⟨s,b2⟩,⟨e3,b3⟩,⟨e4,b4⟩,N,V,Z1,oy,u⟩;simp only at b2 b3 b4 N V Z1 oy u;refine zN ?_;refine z7 (v:=.agg #[a,m]) R5 (yw R2 b2 ω zb ω)<|z7 (v:=.agg #[l,P]) R5 (yw R2 b3 ω zb ω)<|zZ (v:=.agg #[a,m,l,P]) R4 ω ?_;have ac:ones [a,m,l,P]=φ:=(by rw[N.neg];show GL.ones (m::_)=φ;rw[N.sl.ones,V.neg];show GL.ones (P::_)=φ;rw[V.sl.ones];rfl);refine yc [a,m,l,P] R7 ac b4 ω eN ?_;refine zN ?_;refine uq R5 (zg _ _ _) ω ⟨ω,by show n<=n6;omega,λb hb=>(zm Z).trans (ext b hb),_,_,_,_,L1,L2,ω,⟨N.off (Z1.off Z Z),V.neg,V.sl.off (oy.off Z Z),V.norm,V.val⟩,a5,u,Z1.or,oy.or⟩
def AllD(s:List UInt8):Prop:=∀b∈s,48<=b.toNat/\b.toNat<=57
def dval:List UInt8->Nat:=aq4 (λv b=>10*v+(b.toNat-48)) 0
def YP(s:List UInt8):∀v,aq4 (λv b=>10*v+(b.toNat-48)) v s=v*10^O s+dval s:=by
 induction s with
 |nil=>intro v;simp[dval]
 |cons b s ih=>
  intro v;unfold dval;rw[Im,Im,ih,ih (10*0+_),DN,Db,Dv,Dv];rw[show 10*v*10^O s=v*(10^O s*10)from by rw[C3 10 v,Dm,C3 10]];omega
def sJ(a b:List UInt8):dval (a++b)=dval a*10^O b+dval b:=by
 conv=>lhs;unfold dval
 rw[List.foldl_append];exact YP b (dval a)
def rK(a:List UInt8)(b:UInt8):dval (a++[b])=10*dval a+(b.toNat-48):=by rw[sJ];simp[dval];omega
theorem qy(h:AllD s):dval s<10^O s:=by
 induction s with
 |nil=>simp[dval]
 |cons b s ih=>
  have e:=h b eF;have f:=ih λx c=>h x (by simp[c]);rw[show b::s=[b]++s from ω,sJ];simp only[CP,C8];rw[Ee 1,Db];have a:dval [b]<=9:=by simp[dval];omega
  have g:dval [b]*10^O s<=9*10^O s:=CS _ a;omega
def Norm.len_pow{L:List Nat}(h:Norm L)(hv:val L<10^i):O L<=i:=by apply C1;intro a;obtain⟨j,d,rfl⟩:=snoc (l:=L) aD;have g:=h.last;rw[Oi]at hv;have c:4294967296^O j*1<=4294967296^O j*YtpcpimjejdegcaaGreatDoor.val [d]:=C9 _ (by simp[YtpcpimjejdegcaaGreatDoor.val];omega);have e:4294967296^i<=4294967296^O j:=CW Z (by simp at a;omega);have f:10^i<=4294967296^i:=GH Z _;omega
def AllD.take_succ{b:UInt8}(h:AllD (s.take i))(hb:s[i]?=ξ b)(e:48<=b.toNat/\b.toNat<=57):AllD (s.take (i+1)):=by obtain⟨c,rfl⟩:=CQ.1 hb;rw[Fl c];intro x a;obtain a|a:=DW.1 a;exact h x a;rw[C0.1 a];exact e
def mA{b:UInt8}(hb:s[i]?=ξ b):s.take (i+1)=s.take i++[b]:=by obtain⟨a,rfl⟩:=CQ.1 hb;rw[Fl a]
section
variable {X:CtxF}{r:List Oper}{d:Tmp}
theorem yH{i:Operand}{b:UInt8}(a:nJ X ops t o d (o.op=.index ty x i/\X.E.und ty=ξ .string/\J8 t x=CN ⟨⟨s⟩⟩/\J8 t i=CJ ik ji/\ji=(j:Int)))(hb:s[j]?=ξ b)
  (k:EO X ops r ⟨upd t d (CJ .u8 (b.toNat:Int)),h,n,w⟩ Q):EO X ops (o::r) ⟨t,h,n,w⟩ Q:=by
 obtain⟨a,f,l,e,m,p,g,c⟩:=a;subst c;refine zZ ⟨a,f,l,AL⟩ ?_ k;rw[e];show iK X.E ty (J8 t x) (J8 t i)=_;rw[p,g];simp only[iK,m,En,hb,Cx (Int.natCast_nonneg j)]
end
def YQ(n:Nat)(h:HF)(s:List UInt8)(v:ψ)(h':HF)(n':Nat)(w:List Nat):Prop:=w=[]/\n<=n'/\J9 n h h'/\∃c1 c2 L ok,∃x:Nat,v=.tuple #[.agg #[c1,c2],U ok]/\IntR h' n' c1 c2 (x:Int) L/\O L<=O s/\xC n c2/\(AllD s/\s≠[]->ok=φ/\x=dval s)/\(ok=φ->AllD s/\s≠[])
def M9{P:ψ->HF->Nat->List Nat->Prop}{e:Ex}{t:TF}{h:HF}{n:Nat}{w:List Nat}{a f:Tmp}{m:TypeId}{u:ψ}(c:rI e=φ/\fn.results.toList=[.cell a ty,.tmp f]/\t a=ι b/\t f=u/\GL.isAgg Kj ty=ξ φ/\Kj.inf ty=ξ (sz,bt,z))(hb:h b=ξ (.row cs m))(l:O cs=sz/\uQ [.agg cs.toArray,u]=χ)(A:P (.tuple #[.agg cs.toArray,u]) h n w):RetH fn P e ⟨t,h,n,w⟩:=by have⟨c,B,p,g,v,y⟩:=c;have⟨l,q⟩:=l;refine retH [.agg cs.toArray,u] ⟨c,?_,q⟩ A;rw[B];have C:=yw ⟨v,y⟩ hb ω (show 0+sz<=O cs from Z) (show(cs.drop 0).take sz=cs by rw[DH,CR Z]);simp only[resF,p,g,C]
theorem Sv(k:Nat)(h:HF)(n:Nat)(s:List UInt8)(hs:O s<1000000):CF (Ka (k+3)) 106 [CN ⟨⟨s⟩⟩] h n (YQ n h s):=by
 refine zw R4<|zN ?_;refine xV R5<|Zb ?_;refine my ?_;generalize hh:upd h (3*n+2) _=N;have ae:∃e,N (3*n+2)=ξ (.row [U χ,η] e):=⟨_,kF⟩;have am:J9 n h N:=by grind [Fe]
 refine ye (α:=Nat×Option Addr×Nat×List Nat) (λz=>[(0,CN ⟨⟨s⟩⟩),(2,ι (3*n+2)),(4,Y z.2.1 (O z.2.2.2) z.2.2.1),(5,CJ .i64 (z.1:Int))])
  (λz D K w'=>w'=[]/\n+1<=K/\J9 n h D/\(∃e,D (3*n+2)=ξ (.row [U χ,η] e))/\z.1<=O s/\AllD (s.take z.1)/\Sl D K 1 (Y z.2.1 (O z.2.2.2) z.2.2.1) (u32s z.2.2.2)/\Norm z.2.2.2/\val z.2.2.2=dval (s.take z.1)/\xC (n+1) (Y z.2.1 (O z.2.2.2) z.2.2.1)) (λz=>O s-z.1)
  (0,θ,0,[]) P4 ⟨ω,CG,am,ae,CH,λb g=>BO g eF,.nil (.inl ω),II,ω,CE⟩ (by show O s-0<LL;unfold LL;omega) ?_
 rintro⟨i,a,c,L⟩ t h2 M _ ⟨rfl,ar,J,⟨e2,I⟩,hi,p,T,m,u,P⟩;simp only at hi p T m u P;have ap:O L<=i:=m.len_pow (by grind [qy,DD,DX]);refine zN ?_;by_cases hie:i=O s;have aj:s.take i=s:=by rw[hie,Da]
 rw[aj]at p u;refine mM ?_;refine st_I (ik:=.i64) (a:=(O s:Int)) R5<|Zo ?_;refine zF _ R5 (Mn (k+1) _ _ χ a (O L) c) ?_;rintro _ h3 n3 _⟨rfl,rfl,rfl,Z3⟩;refine zM ?_;refine st_B R5<|yc [U (χ&&decide (0<O L)),Y a (O L) c] R7 ω (by rw[Z3 _ Z];exact I) ω eN ?_;refine my ?_;refine M9 R6 (zg _ _ _) R2 ⟨ω,by show n<=M+1;omega,λb g=>(zm Z).trans ((Z3 b Z).trans (J b g)),_,_,L,_,dval s,ω,M8 ((T.ext Z3 Zq).off (P.off Z)) m (by rw[u];simp) (λ_=>by rw[Ae Z]),Z,P.mono Z,λq=>⟨by simpa using q.2,ω⟩,λq=>⟨p,by simpa using q⟩⟩;have ao:i<O s:=Z;refine mM ?_;refine st_I (ik:=.i64) (a:=(O s:Int)) R5<|Zg ?_;repeat refine zR ?_
 simp only[yu,xg,zK,yY];refine yj (α:=Nat) (λz=>[(0,CN ⟨⟨s⟩⟩),(2,ι (3*n+2)),(4,Y a (O L) c),(5,CJ .i64 ((i+z:Nat):Int)),(6,CJ .u32 ((dval ((s.drop i).take z):Nat):Int)),(7,CJ .u32 ((10^z:Nat):Int))])
  (λz D K w'=>h2=D/\K=M/\w'=[]/\1<=z/\z<=9/\i+z<=O s/\AllD (s.take (i+z))) ?_ ?_
 refine zN ?_;refine ye (α:=Nat) (λz=>[(0,CN ⟨⟨s⟩⟩),(2,ι (3*n+2)),(4,Y a (O L) c),(5,CJ .i64 ((i+z:Nat):Int)),(6,CJ .u32 ((dval ((s.drop i).take z):Nat):Int)),(7,CJ .u32 ((10^z:Nat):Int)),(8,CJ .i64 (z:Int))])
   (λz D K w'=>h2=D/\K=M/\w'=[]/\z<=9/\i+z<=O s/\AllD (s.take (i+z))) (λz=>9-z) 0 P7 ⟨ω,ω,ω,CH,by show i+0<=O s;omega,p⟩ (by show 9-0<LL;decide) ?_
 rintro z t h3 n3 _⟨rfl,rfl,rfl,Z0,H,f⟩;refine zN ?_;by_cases hz:z=9;subst hz;refine iU ?_;exact zA 9 P6 ⟨ω,ω,ω,by decide,by decide,H,f⟩;have an:z<=8:=Z;by_cases hie2:i+z=O s;refine zM ?_;refine jC R6 Z<|Zs ?_;refine st_I (ik:=.i64) (a:=(O s:Int)) R5<|iU ?_;exact zA z P6 ⟨ω,ω,ω,Z,Z0,H,f⟩;have a0:i+z<O s:=Z;obtain⟨b,g⟩:∃b,s[i+z]?=ξ b:=⟨s[i+z],CK a0⟩;refine zM ?_;refine jC R6 Z<|Zs ?_;refine st_I (ik:=.i64) (a:=(O s:Int)) R5<|Zm ?_;refine yH R8 g ?_;have R:b∈s:=CL g;by_cases hb1:b.toNat<48;refine Zd ?_;refine zZ R4 rfl<|yc [U χ,η] R7 ω I ω eN ?_;refine my ?_;refine M9 R6 (zg _ _ _) R2 ⟨ω,by show n<=n3;omega,λb g=>(zm Z).trans (J b g),_,_,[],χ,0,ω,⟨ω,.nil (.inl ω),II,ω⟩,CH,trivial,λq=>by have:=q.1 b R;omega,λq=>by cases q⟩;repeat refine zR ?_
 refine yH R8 g ?_;by_cases hb2:57<b.toNat;refine Zd ?_;refine zZ R4 rfl<|yc [U χ,η] R7 ω I ω eN ?_;refine my ?_;refine M9 R6 (zg _ _ _) R2 ⟨ω,by show n<=n3;omega,λb g=>(zm Z).trans (J b g),_,_,[],χ,0,ω,⟨ω,.nil (.inl ω),II,ω⟩,CH,trivial,λq=>by have:=q.1 b R;omega,λq=>by cases q⟩;refine iU ?_;have G:AllD ((s.drop i).take z):=λx W=>f x aD;have l:=qy G;have y:O ((s.drop i).take z)=z:=by grind
 rw[y]at l;have a3:10^z<=10^8:=CW Z an;have a1:(s.drop i).take (z+1)=(s.drop i).take z++[b]:=mA aD;have a2:dval ((s.drop i).take (z+1))=dval ((s.drop i).take z)*10+(b.toNat-48):=by rw[a1,rK];omega
 have a7:10^(z+1)=10^z*10:=Db _ _;generalize hV:dval ((s.drop i).take z)=V at l a2;generalize hF:10^z=F at l a3 a7;rw[show(10:Nat)^8=100000000 from rfl]at a3;refine zM ?_;refine xM (b:=10) R6 Z<|mM ?_;refine yH R8 g<|jA (b:=48) R6 Z<|M4 R7 Z<|xu R6 Z<|zM ?_;refine xM (b:=10) R6 Z<|Zb ?_;refine my ?_;refine goOn (z+1) Z ⟨ω,ω,ω,gP,by show CJ .u32 _=CJ .u32 _;rw[a2],by show CJ .u32 _=CJ .u32 _;rw[a7],gP,CE⟩ ⟨ω,ω,ω,by show z+1<=9;omega,by show i+(z+1)<=O s;omega,AllD.take_succ f g Z⟩;rintro z t _ M _⟨rfl,rfl,rfl,aw,Z0,H,f⟩;have G:AllD ((s.drop i).take z):=λx W=>f x aD;have l:=qy G;have y:O ((s.drop i).take z)=z:=by grind
 have v:dval (s.take (i+z))=dval (s.take i)*10^z+dval ((s.drop i).take z):=by rw[List.take_add,sJ,y]
 rw[y]at l;have a5:10^z<=10^9:=CW Z Z0;generalize hV:dval ((s.drop i).take z)=V at l v;generalize hF:10^z=F at l a5 v;rw[show(10:Nat)^9=1000000000 from rfl]at a5;refine Zi ?_;refine pZ R5 ?_;have ab:=Sa k (h:=upd h2 (3*M+2) (ξ (.row [CJ .u32 (F:Int)] 160))) (A:=L) (C:=[F]) (T.ext (Fe Z) (Dc M)) (Sl.own (Z1:=[F]) (len:=1) (cap:=1) (zg _ _ _) Z ω CG) m.1 (λx W=>by simp at W;omega) eU;refine zF _ R5 ab ?_;rintro v4 h4 n4 w4⟨L4,⟨rfl,au,a8,a4,c4,rfl,af,B,aq⟩,Z4⟩;refine zM ?_;refine pZ R5 ?_;have ai:=LD (k+1) (h:=upd h4 (3*n4+2) (ξ (.row [CJ .u32 (V:Int)] 160))) (n:=n4+1) eF (Sl.own (Z1:=[V]) (len:=1) (cap:=1) (zg _ _ _) Z ω CG);refine zF _ R5 ai ?_;rintro _ _ _ _⟨e5,e6,rfl,rfl,ag⟩;subst e5 e6;have al:val [F]=F:=by simp[val]
 rw[al]at Z4;have ac:O L4<1000000000:=(by have N:=qy p;rw[DD,DX hi]at N;have h2:=B.len_pow (i:=i+z) (by rw[Z4,u,D4,hF];exact Ez N (by rw[<-hF];exact Dw Z));omega);have aa:=R0 k (h:=upd h4 (3*n4+2) (ξ (.row [CJ .u32 (V:Int)] 160))) (af.ext (Fe Z) (Dc n4)) ag B.1 (Pz _ (λx W=>by simp at W;omega)) ⟨ac,by have:=xU [V];simp at this;omega⟩;refine zF _ R5 aa ?_;rintro v6 h6 n6 w6⟨L6,⟨rfl,av,a9,a6,c6,rfl,ah,S,ad⟩,ak⟩;refine my ?_;refine goOn (i+z,a6,c6,L6) Z P4 ⟨ω,by show n+1<=n6;omega,λb g=>?_,⟨e2,?_⟩,H,f,ah,S,?_,ad.mono Z⟩;exact(a9 b Z).trans ((zm Z).trans ((a8 b Z).trans ((zm Z).trans (J b g))));exact(a9 _ Z).trans ((zm Z).trans ((a8 _ Z).trans ((zm Z).trans I)));show val L6=dval (s.take (i+z));rw[ak,Z4,u,v,LV];simp[val]
def len8:List UInt8:=[0,1,2,2,3,3,3,3,4,4,4,4,4,4,4,4,5,5,5,5,5,5,5,5,5,5,5,5,5,5,5,5,6,6,6,6,6,6,6,6,6,6,6,6,6,6,6,6,6,6,6,6,6,6,6,6,6,6,6,6,6,6,6,6,7,7,7,7,7,7,7,7,7,7,7,7,7,7,7,7,7,7,7,7,7,7,7,7,7,7,7,7,7,7,7,7,7,7,7,7,7,7,7,7,7,7,7,7,7,7,7,7,7,7,7,7,7,7,7,7,7,7,7,7,7,7,7,7,8,8,8,8,8,8,8,8,8,8,8,8,8,8,8,8,8,8,8,8,8,8,8,8,8,8,8,8,8,8,8,8,8,8,8,8,8,8,8,8,8,8,8,8,8,8,8,8,8,8,8,8,8,8,8,8,8,8,8,8,8,8,8,8,8,8,8,8,8,8,8,8,8,8,8,8,8,8,8,8,8,8,8,8,8,8,8,8,8,8,8,8,8,8,8,8,8,8,8,8,8,8,8,8,8,8,8,8,8,8,8,8,8,8,8,8,8,8,8,8,8,8,8,8,8,8,8,8]
theorem YR:∀i,i<256->∃b,len8[i]?=ξ b/\b.toNat<=8/\i<2^b.toNat/\(i≠0->2^b.toNat<=2*i):=by
 intro i a;have h:∀i:Fin 256,(len8[i.val]?).any (λb=>decide (b.toNat<=8/\i.val<2^b.toNat/\(i.val≠0->2^b.toNat<=2*i.val)))=φ:=by decide+kernel
 have:=h ⟨i,a⟩;grind
theorem YS{x m i L:Nat}(hi:x/2^m=i)(b:i<2^L)(c:i≠0->2^L<=2*i)(h3:m=0\/i≠0):x<2^(m+L)/\(x≠0->2^(m+L)<=2*x):=by
 have e:0<2^m:=Dw zd;have d:=DS x (2^m);have f:=DJ x e;rw[hi]at d;rw[D4];constructor;have:2^m*(i+1)<=2^m*2^L:=C9 _ b;grind;intro g;have a:i≠0:=by grind
 have:=C9 (2^m) (c a);grind
def bi(k:Nat)(h:HF)(n:Nat){x:Nat}(hx:x<18446744073709551616):VF (Ka (k+1)) 187 [CJ .u64 (x:Int)] h n λv=>∃m:Nat,v=CJ .i64 (m:Int)/\m<=64/\x<2^m/\(x≠0->2^m<=2*x):=by
 refine zO R4 ?_;have j:∀m s,x/2^m/2^s=x/2^(m+s):=λm s=>by rw[Fv,<-D4]
 refine Zp ?_;refine yj (α:=Nat×Nat) (λz=>[(0,CJ .u64 (z.2:Int)),(2,CJ .i64 (z.1:Int))]) (λz f g w=>h=f/\n=g/\w=[]/\x/2^z.1=z.2/\z.2<4294967296/\z.1<=32/\(z.1=0\/z.2≠0)) ?_ ?_;by_cases hge:4294967296<=x;rw[ze Al];refine jQ ?_;refine yn R6 zd<|Zb ?_;exact zA (32,x/2^32) P2 ⟨ω,ω,ω,ω,by show x/2^32<_;omega,Nat.le_refl 32,.inr (by show x/2^32≠0;omega)⟩;rw[za Ak];refine zN ?_;exact zA (0,x) P2 ⟨ω,ω,ω,by show x/2^0=x;rw[EG,HK],by show x<_;omega,Ig 32,.inl ω⟩;rintro⟨m,i⟩ t _ _ _ ⟨rfl,rfl,rfl,a,d,e,c⟩;simp only at a d e c;refine mL ?_;refine yj (α:=Nat×Nat) (λz=>[(0,CJ .u64 (z.2:Int)),(2,CJ .i64 (z.1:Int))]) (λz f g w=>h=f/\n=g/\w=[]/\x/2^z.1=z.2/\z.2<65536/\z.1<=48/\(z.1=0\/z.2≠0)) ?_ ?_;by_cases hge:65536<=i;rw[ze Al];refine jQ ?_;refine yn R6 zd<|Zb ?_;exact zA (m+16,i/2^16) P2 ⟨ω,ω,ω,by show x/2^(m+16)=i/2^16;rw[<-a,j],by show i/2^16<_;omega,by show m+16<=48;omega,.inr (by show i/2^16≠0;omega)⟩;rw[za Ak];refine zN ?_;exact zA (m,i) P2 ⟨ω,ω,ω,a,by show i<_;omega,by show m<=48;omega,c⟩;rintro⟨m,i⟩ t _ _ _ ⟨rfl,rfl,rfl,a,d,e,c⟩;simp only at a d e c;refine mL ?_;refine yj (α:=Nat×Nat) (λz=>[(0,CJ .u64 (z.2:Int)),(2,CJ .i64 (z.1:Int))]) (λz f g w=>h=f/\n=g/\w=[]/\x/2^z.1=z.2/\z.2<256/\z.1<=56/\(z.1=0\/z.2≠0)) ?_ ?_;by_cases hge:256<=i;rw[ze Al];refine jQ ?_;refine yn R6 zd<|Zb ?_;exact zA (m+8,i/2^8) P2 ⟨ω,ω,ω,by show x/2^(m+8)=i/2^8;rw[<-a,j],by show i/2^8<_;omega,by show m+8<=56;omega,.inr (by show i/2^8≠0;omega)⟩;rw[za Ak];refine zN ?_;exact zA (m,i) P2 ⟨ω,ω,ω,a,by show i<_;omega,by show m<=56;omega,c⟩;rintro⟨m,i⟩ t _ _ _ ⟨rfl,rfl,rfl,a,d,e,c⟩;simp only at a d e c;have⟨b,u,y,l,o⟩:=YR i d;refine Zi ?_;refine mE R7 ?_;rw[C7 d];refine yH R8 u<|vj R7 Z<|my ?_;have⟨p,q⟩:=YS a l o c;exact retF _ ω (zi ω) R2 ⟨m+b.toNat,ω,Z,p,q⟩
def fX(k:Nat)(h:HF)(n:Nat){x:Nat}(hx:x<18446744073709551616)(c:x≠0):VF (Ka (k+2)) 161 [CJ .u64 (x:Int)] h n λv=>∃s:Nat,v=CJ .i64 (s:Int)/\s<64/\9223372036854775808<=x*2^s/\x*2^s<18446744073709551616:=by
 refine zO R4<|Zj ?_;refine yi _ R5 (bi k h n hx) ?_;rintro _⟨m,rfl,g,b,d⟩;refine my ?_;have f:m≠0:=λe=>by subst e;simp at b;omega
 refine retF _ ω (zi ω) R2 ⟨64-m,cA,Z,?_,?_⟩;have a:=CS (2^(64-m)) (d c);rw[<-D4,show m+(64-m)=64 from Z,Dm]at a;omega;have a:=Ez b (Dw (n:=64-m) (show 0<2 by decide));rw[<-D4,show m+(64-m)=64 from Z]at a;exact a
section
theorem iZ{Z4 y s Q r:Nat}(h:Z4*2^s=Q*(y*2^s)+r)(d:r<y*2^s):Z4/y=Q/\Z4%y=r/2^s:=by
 have c:0<2^s:=Dw zd;have f:0<y:=Nat.pos_of_ne_zero λe=>by rw[e,D2]at d;omega
 have a:Z4*2^s/(y*2^s)=Q:=by simp_all [Ee,G9,EY,Dd]
 have b:Z4*2^s%(y*2^s)=r:=(by rw[h,Ee,Gj,C7 d]);rw[H2 _ _ c]at a;rw[G8]at b;exact⟨a,by rw[<-b,Nat.mul_div_cancel _ c]⟩
def jG{lo s:Nat}(a:s<=64):lo*2^s=lo/2^(64-s)*18446744073709551616+lo*2^s%18446744073709551616:=by have e:lo*2^s/18446744073709551616=lo/2^(64-s):=(by rw[show(18446744073709551616:Nat)=2^(64-s)*2^s from by rw[<-D4,show 64-s+s=64 from Z],H2 _ _ (Dw zd)]);have:=DS (lo*2^s) 18446744073709551616;rw[e,C3]at this;exact this.symm
def jZ{a b s:Nat}(hb:b<2^s):a*2^s|||b=a*2^s+b:=by have:=Nat.shiftLeft_add_eq_or_of_lt hb a;rw[Nat.shiftLeft_eq]at this;exact this.symm
theorem YT{top N b a d c Z3 Z0:Nat}(e:b*Z3+d=top*4294967296+N/4294967296)(f:a*Z3+c=d*4294967296+N%4294967296)(g:Z0=Z3):top*18446744073709551616+N=(b*4294967296+a)*Z0+c:=by grind
set_option maxRecDepth 100000
theorem pH(k:Nat)(h:HF)(n:Nat){hi lo y:Nat}(K:hi<y)(M:lo<18446744073709551616)(T:y<18446744073709551616):VF (Ka (k+3)) 165 [CJ .u64 (hi:Int),CJ .u64 (lo:Int),CJ .u64 (y:Int)] h n λv=>v=.tuple #[CJ .u64 (((hi*18446744073709551616+lo)/y:Nat):Int),CJ .u64 (((hi*18446744073709551616+lo)%y:Nat):Int)]:=by
 refine zO R4<|mL ?_;refine Ze ?_;rw[za rfl];refine zN ?_;by_cases h0:hi=0;subst h0;refine Zd ?_;rw[Oa rfl];refine mM ?_;refine xN R6 Z<|mM ?_;refine vO R6 Z<|my ?_;exact retF [CJ .u64 _,CJ .u64 _] ω ω R2 (by rw[D2,Dd];rfl);refine Zr ?_;refine yi _ R5 (fX k h n T Z) ?_;rintro _⟨s,rfl,hs,I,q⟩;refine se R7 Z<|Zk ?_;refine xK R6 Z ?_;rw[C7 q];have hp:0<2^s:=Dw zd;have L:hi*2^s+2^s<=y*2^s:=(by have:=CS (2^s) (show hi+1<=y from K);rw[Dv,EV]at this;exact this);have C:lo/2^(64-s)<2^s:=(by rw[Em (Dw zd),<-D4,show s+(64-s)=64 from Z];exact M);have P:=jG (lo:=lo) (s:=s) Z;have D:lo*2^s%18446744073709551616<18446744073709551616:=DJ _ zd;have B:(hi*18446744073709551616+lo)*2^s=(hi*2^s+lo/2^(64-s))*18446744073709551616+lo*2^s%18446744073709551616:=by grind
 refine my ?_;generalize hYe:y*2^s=Z3 at I q L⊢;repeat refine zW ?_
 refine zN ?_;repeat refine zW ?_
 refine Zi ?_;refine xK R6 Z ?_;rw[C7 (show hi*2^s<18446744073709551616 from Z)];refine mM ?_;refine ym (a:=64) R6 Z<|yn R6 Z<|wG R6 Z ?_;rw[jZ C];have p:hi*2^s+lo/2^(64-s)<Z3:=Z;generalize hi*2^s+lo/2^(64-s)=top at B p⊢;refine Zk ?_;refine xK R6 Z ?_;generalize lo*2^s%18446744073709551616=N at B D⊢;refine my ?_;repeat refine zW ?_
 refine zN ?_;repeat refine zW ?_
 refine zN ?_;obtain⟨d,R⟩:∃d,d=Z3/4294967296:=⟨_,ω⟩;obtain⟨H,S⟩:∃H,H=Z3%4294967296:=⟨_,ω⟩;have u:d*4294967296+H=Z3:=Z;rw[<-R,<-S];refine mM ?_;refine xN R6 Z<|my ?_;have J:top/d*d+top%d=top:=by rw[C3];exact DS _ _
 refine Zs ?_;refine xt R6 Z<|ym R6 Z ?_;rw[show top-top/d*d=top%d from Z];repeat refine zR ?_
 simp only[yY,ug,yu,xg,zK];refine Yp Z Z Z Z ω P9 λt2 F f j=>?_;rw[<-wU j];rw[u]at f;obtain⟨c,i⟩:∃c,c=(top*4294967296+N/4294967296)%Z3:=⟨_,ω⟩;have l:=DS (top*4294967296+N/4294967296) Z3;have w:=DJ (top*4294967296+N/4294967296) (show 0<Z3 from Z);rw[<-i]at w;rw[<-f,<-i]at l;rw[C3]at l;simp only[yY,ug,yu,xg,zK];refine zM ?_;refine wk R6<|zM ?_;refine uo R6<|mM ?_;refine wk R6<|sd R6 Z ?_;rw[show((top*4294967296%18446744073709551616+N/4294967296)%18446744073709551616+18446744073709551616-F*Z3%18446744073709551616)%18446744073709551616=c from Z];repeat refine zR ?_
 simp only[yY,ug,yu,xg,zK];refine mM ?_;refine xN R6 Z ?_;repeat refine zR ?_
 simp only[yY,ug,yu,xg,zK];have J:c/d*d+c%d=c:=by rw[C3];exact DS _ _
 refine Zs ?_;refine xt R6 Z<|ym R6 Z ?_;rw[show c-c/d*d=c%d from Z];repeat refine zR ?_
 simp only[yY,ug,yu,xg,zK];refine Yq Z Z Z Z ω P9 λt3 Z4 e j=>?_;rw[<-wU j];rw[u]at e;obtain⟨G,g⟩:∃G,G=(c*4294967296+N%4294967296)%Z3:=⟨_,ω⟩;have m:=DS (c*4294967296+N%4294967296) Z3;have A:=DJ (c*4294967296+N%4294967296) (show 0<Z3 from Z);have Z1:(c*4294967296+N%4294967296)/Z3<4294967296:=(by rw[Em Z];have:(c+1)*4294967296<=Z3*4294967296:=CS _ w;rw[C3 4294967296];omega);rw[<-e]at Z1;rw[<-g]at A;rw[<-e,<-g]at m;have V:F<4294967296:=(by apply C1;intro hn;have W:4294967296*Z3<=F*Z3:=CS _ Z;have Z0:(top+1)*4294967296<=Z3*4294967296:=CS _ p;omega);rw[C3]at m;refine jQ ?_;refine xt (b:=4294967296) R6 Z<|zM ?_;refine yT R6 Z<|zM ?_;refine wk R6<|zM ?_;refine uo R6<|mM ?_;refine wk R6<|sd R6 Z ?_;rw[show((c*4294967296%18446744073709551616+N%4294967296)%18446744073709551616+18446744073709551616-Z4*Z3%18446744073709551616)%18446744073709551616=G from Z];refine zM ?_;refine yn R6 Z<|my ?_;have o:=iZ (B.trans (YT l m hYe)) (by rw[hYe];exact A);refine retF [CJ .u64 _,CJ .u64 _] ω ω R2 ?_;rw[o.1,o.2];rfl
end
def cH(j:Nat)(q:List Nat)(d:Nat):(CO (j+1) 0++q).set j d=CO j 0++d::q:=by rw[List.replicate_succ',Dp,D8 _ _ eF,Du,D7];rfl
theorem pQ{Vq:Nat}(b:0<d)(c:V=d*Vq+r):(a+18446744073709551616*V)/d=(r*18446744073709551616+a)/d+18446744073709551616*Vq/\(a+18446744073709551616*V)%d=(r*18446744073709551616+a)%d:=by
 have e:a+18446744073709551616*V=(r*18446744073709551616+a)+d*(18446744073709551616*Vq):=by grind
 rw[e];exact⟨Hh _ _ b,Nat.add_mul_mod_self_left _ _ _⟩
def Sw(b:r<d)(c:a<18446744073709551616):(r*18446744073709551616+a)/d<18446744073709551616:=by rw[Em Z];have:(r+1)*18446744073709551616<=d*18446744073709551616:=CS _ b;rw[C3 18446744073709551616];omega
def gI{l:List Nat}(h:l[j]?=ξ a):wv (l.drop j)=a+18446744073709551616*wv (l.drop (j+1)):=by rw[uR h];rfl
theorem YU(k:Nat){a:Option Addr}{l:List Nat}(hb:O l<1099511627)(p:Kb l)(c:0<d/\d<18446744073709551616)(hv:Sl h n 1 (Y a len cap) (u64s l)):
  VF (Ka (k+4)) 132 [Y a len cap,CJ .u64 (d:Int)] h n λv=>v=CJ .u64 ((wv l%d:Nat):Int):=by
 refine zO R4 ?_;have b:=hv.lenW;subst b;refine mL ?_;refine Zb ?_;refine ye (α:=Nat×Nat) (λx=>[(0,Y a (O l) cap),(1,CJ .u64 (d:Int)),(5,CJ .u64 (x.2:Int)),(6,CJ .i64 ((x.1:Int)-1))])
  (λx m q w=>h=m/\n=q/\w=[]/\x.1<=O l/\x.2=wv (l.drop x.1)%d) (λx=>x.1)
  (O l,0) P4 ⟨ω,ω,ω,CG,by rw[EZ];exact(ab5 _).symm⟩ Aa ?_
 rintro⟨j,r⟩ t _ _ _ ⟨rfl,rfl,rfl,o,e⟩;simp only at o e;have g:r<d:=by rw[e];exact DJ _ c.1
 refine zN ?_;cases j with
 |zero=>
  refine Ze ?_;exact retF _ ω (zi ω) R2 (by rw[e,DH];rfl)
 |succ j=>
  obtain⟨x,f⟩:∃x,l[j]?=ξ x:=⟨l[j]'Z,CK Z⟩;have i:=p.get f;refine Zh ?_;refine yE R7 hv ⟨ω,Z⟩ f (λ_=>rfl) R4 λ_=>?_;repeat refine zR ?_
  refine yi _ R5 (pH k h n g i c.2) ?_;rintro _ rfl;refine Zb ?_;refine goOn (j,(r*18446744073709551616+x)%d) AJ ⟨ω,ω,ω,cA,CE⟩ ⟨ω,ω,ω,Bm,?_⟩;show _%d=wv (l.drop j)%d;rw[gI f,(pQ (V:=wv (l.drop (j+1))) (Vq:=wv (l.drop (j+1))/d) (r:=r) (a:=x) c.1 (by grind [DS])).2]
theorem YV(k:Nat){a:Option Addr}{l:List Nat}(hb:O l<1099511627)(Z1:Kb l)(i:0<d/\d<18446744073709551616)(hv:Sl h n 1 (Y a len cap) (u64s l)):
  CF (Ka (k+4)) 184 [Y a len cap,CJ .u64 (d:Int)] h n λv o C w=>∃v1 L,v=.tuple #[v1,CJ .u64 ((wv l%d:Nat):Int)]/\ResW n h v1 o C w L/\wv L=wv l/d/\O L<=O l/\xC n v1:=by
 refine zw R4 ?_;have p:=hv.lenW;subst p;refine Zj ?_;refine vB R9 Z ?_;rw[show zn (CJ .u64 0)=[CJ .u64 0]from rfl,xO];refine Zb ?_;refine my ?_;refine ye (α:=Nat×List Nat×Nat) (λx=>[(0,Y a (O l) cap),(1,CJ .u64 (d:Int)),(6,Y (ξ ⟨3*n+2,0,θ⟩) (O l) (O l)),(7,CJ .u64 (x.2.2:Int)),(8,CJ .i64 ((x.1:Int)-1))])
  (λx o C w=>C=n+1/\w=[]/\J9 n h o/\x.1<=O l/\(∃e,o (3*n+2)=ξ (.row (u64s (CO x.1 0++x.2.1)) e))/\x.1+O x.2.1=O l/\Kb x.2.1/\x.2.2<d/\wv (l.drop x.1)=d*wv x.2.1+x.2.2) (λx=>x.1)
  (O l,[],0) ⟨rfl,rfl,rfl,rfl,rfl,CE⟩ ⟨rfl,rfl,Fe Z,CG,⟨_,by rw[zg,Do]⟩,eF,HT,i.1,by rw[EZ];rfl⟩ Aa ?_
 rintro⟨j,q,r⟩ t M _ _ ⟨rfl,rfl,f,N,⟨e,c⟩,G,u,m,g⟩;simp only at N c G u m g;refine zN ?_;cases j with
 |zero=>
  rw[Fj,DP]at c;have R:O q=O l:=Z;refine Zo ?_;have H:=xi (k+2) (n:=n+1) (a:=ξ ⟨3*n+2,0,θ⟩) (len:=O l) (cap:=O l) (l:=q) Z (λ_ e=>by injection e with e;rw[<-e]) (.at_ Z c rfl CG (by rw[zL];omega) A1);refine zF _ R5 H ?_;rintro S _ _ _⟨rfl,rfl,rfl,rfl,P⟩;refine my ?_;rw[DH]at g;have D:wv l/d=wv q:=by rw[g,Nat.mul_add_div i.1,EY m,DG]
  have F:wv l%d=r:=by rw[g,Nat.mul_add_mod,C7 m]
  refine retH [Y _ _ _,CJ .u64 _] R3 ⟨_,yf q,by rw[F];rfl,⟨rfl,Ao,f,P,NW.trim u⟩,?_,?_,eC⟩
  .rw[D];exact Oj _ _
  have:=xU q;omega
 |succ j=>
  obtain⟨x,A⟩:∃x,l[j]?=ξ x:=⟨l[j]'Z,CK Z⟩;have s:=Z1.get A;have I:=hv.ext f (Dc n);refine Zh ?_;refine yE R7 I ⟨rfl,Z⟩ A (λ_=>rfl) R4 λ_=>?_;repeat refine zR ?_
  refine yi _ R5 (pH k M (n+1) m s i.2) ?_;rintro _ rfl;repeat refine zR ?_
  refine uH (j:=j) R8 Z AD c eC (λ_=>rfl) R3 (λ_=>rfl) rfl λ_=>?_;rw[yk,cH];refine Zb ?_;obtain⟨J,K⟩:=pQ i.1 g;refine goOn (j,(r*18446744073709551616+x)/d::q,(r*18446744073709551616+x)%d) AJ ⟨rfl,rfl,rfl,rfl,cA,CE⟩ ⟨rfl,rfl,λb hb=>(zm Z).trans (f b hb),Bm,⟨e,zg _ _ _⟩,by show j+O (_::q)=_;simp;omega,?_,DJ _ i.1,?_⟩
  .intro y B;rcases Dk.1 B with rfl|B
   .exact Sw m s
   exact u y B
  show wv (l.drop j)=d*wv (_::q)+_;rw[gI A,<-K];have:=DS (x+18446744073709551616*wv (l.drop (j+1))) d;rw[J]at this;exact this.symm
def Ol(h:c<10):(Ek (48+c)).toNat=48+c:=by rw[UInt8.toNat_ofNat',C7 Z]
def pI:∀V,AllD ((decB V).map Ek)/\dval ((decB V).map Ek)=V:=by
 intro V;induction V using Nat.strongRecOn with
 |ind V ih=>
  by_cases h0:V=0;subst h0;unfold decB;rw[xo];exact⟨λb a=>BO a eF,ω⟩;have e:decB V=decB (V/10)++[48+V%10]:=(by unfold decB;rw[wy h0];simp);have⟨f,g⟩:=ih (V/10) Z;have d:=Ol (c:=V%10) Z;rw[e,List.map_append,List.map_cons,List.map_nil];refine⟨λb a=>?_,?_⟩;obtain a|a:=DW.1 a;exact f b a;rw[C0.1 a,d];omega;rw[rK,g,d];omega
theorem wx(V:Nat):AllD (decT V)/\dval (decT V)=V/\decT V≠[]:=by unfold decT;by_cases h0:V=0;rw[Cx h0,h0];exact⟨λb a=>by rw[C0.1 a];decide,ω,eF⟩;rw[Cs h0];refine⟨(pI V).1,(pI V).2,λe=>?_⟩;have:=(pI V).2;rw[e]at this;exact h0 this.symm
def Om(t:List UInt8)(j:Nat):Prop:=j<=O t/\(∀i,i<j->t[i]?≠ξ 47)/\(j=O t\/t[j]?=ξ 47)
def AllD.slash{a:List UInt8}(h:AllD a):a[i]?≠ξ 47:=λe=>by
 have:=h 47 (CL e);have b:(47:UInt8).toNat=47:=rfl;omega
theorem Om.uniq{a r:List UInt8}(m:AllD a)(o:r=[]\/∃f,r=47::f)(h:Om (a++r) j):j=O a:=by have⟨g,l,b⟩:=h;obtain e|rfl|d:=Gs j (O a);exfalso;obtain b|b:=b;grind;rw[D5 e]at b;exact m.slash b;rfl;exfalso;obtain rfl|⟨f,rfl⟩:=o;simp at g;omega;refine l (O a) d ?_;rw[Dq CG,D7];rfl
def vF(s:List UInt8):Prop:=∃q:Rat,ratT q=s
def z6(s:List UInt8):Bool:=s[0]?==ξ 45
def xB(s:List UInt8):List UInt8:=if z6 s then s.drop 1 else s
theorem qj(q:Rat):z6 (ratT q)=decide (q.num<0)/\xB (ratT q)=decT q.num.natAbs++(if q.den=1 then[]else 47::decT q.den):=by
 have l:z6 (ratT q)=decide (q.num<0):=by
  unfold z6 ratT;by_cases hn:q.num<0;grind;rw[Cs hn,Ae hn,DP];have⟨d,_,f⟩:=wx q.num.natAbs;rw[D5 (GF.2 f)];cases hd:(decT q.num.natAbs)[0]? with
  |none=>rfl
  |some b=>
   have:=d b (CL hd);show(ξ b==ξ 45)=χ;have a:b≠45:=λe=>by subst e;have g:(45:UInt8).toNat=45:=rfl;omega
   simpa using a
 grind [xB,ratT]
theorem YW(b:ratT q=s)(hj:Om (xB s) j):z6 s=decide (q.num<0)/\(xB s).take j=decT q.num.natAbs/\(q.den=1->j=O (xB s))/\(q.den≠1->j<O (xB s)/\(xB s).drop (j+1)=decT q.den):=by subst b;have⟨d,a⟩:=qj q;rw[a]at hj⊢;have e:=hj.uniq (wx _).1 aD;simp_all
theorem Sx(s:List UInt8):O (xB s)<=O s:=by grind [xB]
section
variable {X:CtxF}{r:List Oper}{d:Tmp}
theorem u4{i:Operand}(a:nJ X ops t o d (o.op=.slice ty x (ξ i) θ θ/\X.E.und ty=ξ .string/\J8 t x=CN ⟨⟨s⟩⟩/\J8 t i=CJ ik ji/\ji=(j:Int)))(v:j<=O s)
  (k:EO X ops r ⟨upd t d (CN ⟨⟨s.drop j⟩⟩),h,n,w⟩ Q):EO X ops (o::r) ⟨t,h,n,w⟩ Q:=by
 obtain⟨a,g,m,e,p,u,l,c⟩:=a;subst c;refine zZ ⟨a,g,m,AL⟩ ?_ k;rw[e];show xc X.E ty (J8 t x) (ξ (J8 t i)) θ=_;rw[u,l];have f:(0:Int)<=(j:Int)/\(j:Int)<=(O s:Int):=Z;simp only[xc,p,bnd,Cx f,En];rw[CR aD]
theorem NH{i:Operand}(a:nJ X ops t o d (o.op=.slice ty x θ (ξ i) θ/\X.E.und ty=ξ .string/\J8 t x=CN ⟨⟨s⟩⟩/\J8 t i=CJ ik ji/\ji=(j:Int)))(v:j<=O s)
  (k:EO X ops r ⟨upd t d (CN ⟨⟨s.take j⟩⟩),h,n,w⟩ Q):EO X ops (o::r) ⟨t,h,n,w⟩ Q:=by
 obtain⟨a,g,m,e,p,u,l,c⟩:=a;subst c;refine zZ ⟨a,g,m,AL⟩ ?_ k;rw[e];show xc X.E ty (J8 t x) θ (ξ (J8 t i))=_;rw[u,l];have f:(0:Int)<=(j:Int)/\(j:Int)<=(O s:Int):=Z;simp only[xc,p,bnd,Cx f,En,DH,Nat.sub_zero]
end
def RatR.off{h:HF}{n:Nat}{y:Option BF}(r:RatR h n n1 n2 d1 d2 q ln ld)(a:Kw b n2)(c:Kw b d2):RatR (upd h b y) n n1 n2 d1 d2 q ln ld:=⟨r.num.off a,r.neg,r.sl.off c,r.norm,r.val⟩
def RatR.ones{h:HF}{n:Nat}(r:RatR h n n1 n2 d1 d2 q ln ld):ones [n1,n2,d1,d2]=φ:=by rw[r.num.neg];show GL.ones (n2::_)=φ;rw[r.num.sl.ones,r.neg];show GL.ones (d2::_)=φ;rw[r.sl.ones];rfl
def RatR.zero(h:HF)(n:Nat):RatR h n (U χ) (η) (U χ) (η) 0 [] []:=⟨⟨ω,.nil (.inl ω),II,ω⟩,ω,.nil (.inl ω),II,ω⟩
def YX(h:q.den=1):q=((q.num:Int):Rat):=by apply Rat.ext;rw[af7];rw[af8,h]
def RatR.whole{h:HF}{n:Nat}{a c:ψ}{x:Int}{l:List Nat}(r:IntR h n a c x l):RatR h n a c (U χ) (η) (x:Rat) l []:=⟨by rw[af7];exact r,ω,.nil (.inl ω),II,by rw[af8];rfl⟩
def YY(n:Nat)(h:HF)(s:List UInt8)(v:ψ)(h':HF)(n':Nat)(w:List Nat):Prop:=w=[]/\n<=n'/\J9 n h h'/\∃n1 n2 d1 d2 q ln ld ok,v=.tuple #[.agg #[n1,n2,d1,d2],U ok]/\RatR h' n' n1 n2 d1 d2 q ln ld/\O ln<=O s/\O ld<=O s/\xC n n2/\xC n d2/\(ok=φ->ratT q=s)/\(vF s->ok=φ)
def YZ(k:Nat)(h:HF)(n:Nat)(s:List UInt8)(hs:O s<1000000):CF (Ka (k+6)) 67 [CN ⟨⟨s⟩⟩] h n (YY n h s):=by
 refine zw R4<|zN ?_;refine xV R5<|hH ?_;simp only[yu,xg,zK,yY];generalize hh:upd h (3*n+2) _=h1;have a8:∃e,h1 (3*n+2)=ξ (.row [U χ,η,U χ,η] e):=⟨_,kF⟩;have av:J9 n h h1:=by rw[<-hh];exact Fe Z
 have⟨e1,a8⟩:=a8;have ao:=Sx s;refine MC [(0,CN ⟨⟨s⟩⟩),(2,ι (3*n+2)),(4,CN ⟨⟨s⟩⟩),(5,U (z6 s))] (λu F w=>h1=u/\F=n+1/\w=[]) ?_ ?_;refine jQ ?_;refine st_I (ik:=.i64) (a:=(O s:Int)) R5 ?_;by_cases hs0:O s=0;refine my ?_;exact Lo ⟨ω,ω,ω,by rw[CY.1 hs0];rfl,CE⟩ R3;obtain⟨b,g⟩:∃b,s[0]?=ξ b:=⟨s[0]'Z,CK Z⟩;refine ME R6 Z ?_;repeat refine zR ?_
 refine yH (j:=0) R8 g ?_;have l:z6 s=decide (b.toNat=45):=(by unfold z6;rw[g];by_cases h45:b=45;subst h45;rfl;rw[show decide (b.toNat=45)=χ from Ae (λe=>h45 (G4.1 e))];simpa using h45);by_cases h45:b.toNat=45;refine my ?_;exact Lo ⟨ω,ω,ω,by rw[l,BJ h45];rfl,CE⟩ R3;refine my ?_;exact Lo ⟨ω,ω,ω,by rw[l,Ae h45];rfl,CE⟩ R3;rintro t _ _ _⟨rfl,rfl,rfl⟩;refine mL ?_;refine MC [(0,CN ⟨⟨s⟩⟩),(2,ι (3*n+2)),(4,CN ⟨⟨xB s⟩⟩),(5,U (z6 s))] (λu F w=>h1=u/\F=n+1/\w=[]) ?_ ?_;by_cases l:z6 s=φ;rw[ze (by show U (z6 s)=_;rw[l])];refine jQ ?_;have au:1<=O s:=by
  unfold z6 at l;cases s with
  |nil=>simp at l
  |cons=>simp
 refine u4 (j:=1) R8 au<|my ?_;exact Lo ⟨ω,ω,by unfold xB;rw[Cx l];rfl,ω,CE⟩ R3;rw[za (by show U (z6 s)=_;rw[HU.2 l])];refine zN ?_;exact Lo ⟨ω,ω,by unfold xB;rw[Cs l];rfl,ω,CE⟩ R3;rintro t _ _ _⟨rfl,rfl,rfl⟩;generalize hT:xB s=T at ao;refine jQ ?_;refine st_I (ik:=.i64) (a:=(O T:Int)) R5<|hH ?_;simp only[yu,xg,zK,yY];refine yj (α:=Nat) (λz=>[(0,CN ⟨⟨s⟩⟩),(2,ι (3*n+2)),(4,CN ⟨⟨T⟩⟩),(5,U (z6 s)),(6,CJ .i64 (z:Int))]) (λz u F w=>h1=u/\F=n+1/\w=[]/\Om T z) ?_ ?_;refine zN ?_;refine ye (α:=Nat) (λz=>[(0,CN ⟨⟨s⟩⟩),(2,ι (3*n+2)),(4,CN ⟨⟨T⟩⟩),(5,U (z6 s)),(6,CJ .i64 (O T:Int)),(7,CJ .i64 (z:Int))]) (λz u F w=>h1=u/\F=n+1/\w=[]/\z<=O T/\∀i,i<z->T[i]?≠ξ 47) (λz=>O T-z) 0 P6 ⟨ω,ω,ω,CH,λi hi=>BO hi (Nat.not_lt_zero i)⟩ (by show O T-0<LL;unfold LL;omega) ?_;rintro z t _ _ _⟨rfl,rfl,rfl,hz,a3⟩;refine Zi ?_;refine st_I (ik:=.i64) (a:=(O T:Int)) R5 ?_;by_cases hze:z=O T;refine iU ?_;exact zA (O T) P5 ⟨ω,ω,ω,CG,by rw[<-hze];exact a3,.inl ω⟩;obtain⟨b,g⟩:∃b,T[z]?=ξ b:=⟨T[z]'Z,CK Z⟩;refine Zm ?_;refine yH (j:=z) R8 g ?_;by_cases h47:b.toNat=47;have al:b=47:=G4.1 h47;subst al;refine Zg ?_;exact zA z P5 ⟨ω,ω,ω,hz,a3,.inr g⟩;refine Ze ?_;refine goOn (z+1) (by show O T-(z+1)<O T-z;omega) ⟨ω,ω,ω,ω,ω,gP,CE⟩ ⟨ω,ω,ω,by show z+1<=O T;omega,λi hi=>?_⟩;by_cases hiz:i<z;exact a3 i hiz;have:i=z:=Z;subst this;rw[g];intro e;injection e with e;subst e;exact h47 rfl;rintro z t _ _ _⟨rfl,rfl,rfl,ah⟩;refine zN ?_;have ay:z<=O T:=ah.1;have m:∀c,ratT c=s->z6 s=decide (c.num<0)/\T.take z=decT c.num.natAbs/\(c.den=1->z=O T)/\(c.den≠1->z<O T/\T.drop (z+1)=decT c.den):=(by intro c f;have:=YW f (j:=z) (by rw[hT];exact ah);rw[hT]at this;exact this);refine mM ?_;refine NH (j:=z) R8 ay ?_;have b8:O (T.take z)<=O s:=by rw[DD];omega
 refine zF _ R5 (Sv (k+2) _ _ (T.take z) Z) ?_;rintro _ h2 n2 _⟨rfl,b5,ai,c1,c2,L,ok,x,rfl,ix,b3,fx,a5,am⟩;repeat refine zR ?_
 refine xV R5<|yc [c1,c2] R7 ix.ones (zg _ _ _) ω eN ?_;rw[uk];generalize hh:upd h2 (3*n2+2) _=h3;have ac:J9 n2 h2 h3:=by rw[<-hh];exact Fe Z
 have Z4:∃e,h3 (3*n2+2)=ξ (.row [c1,c2] e):=⟨_,oB⟩;have⟨e8,Z4⟩:=Z4;have H:=ix.ext ac Zq;have a9:h3 (3*n+2)=_:=(ac _ Z).trans ((ai _ Z).trans a8);have N:J9 n h h3:=λb g=>(ac b Z).trans ((ai b Z).trans (av b g));refine my ?_;cases ok with
 |false=>
  refine Zd ?_;refine zZ (v:=.agg #[U χ,η,U χ,η]) R4 rfl<|yc [U χ,η,U χ,η] R7 ω a9 ω eN ?_;refine my ?_;refine M9 R6 (zg _ _ _) R2 ⟨ω,by show n<=n2+1;omega,λb g=>(zm Z).trans (N b g),_,_,_,_,0,[],[],χ,ω,RatR.zero _ _,CH,CH,trivial,trivial,λh=>BO h eF,?_⟩;rintro⟨c,f⟩;have⟨_,p2,_,_⟩:=m c f;have C:=wx c.num.natAbs;rw[<-p2]at C;exact BO (a5 ⟨C.1,C.2.2⟩).1 eF
 |true=>
 refine iU ?_;have ak:=am rfl;have ax:=(a5 ak).2;obtain⟨a,b9,p,rfl,_⟩:=H.sl.len;have e1:=H.sl.lenU;subst e1;repeat refine zR ?_
 refine zT R6 Z4 (v:=Y a (O L) p) R2<|zF _ R5 (Mn (k+4) _ _ (z6 s) a (O L) p) ?_;rintro _ h4 n4 _⟨rfl,rfl,rfl,W⟩;refine zZ (v:=.agg #[U (z6 s&&decide (0<O L)),Y a (O L) p,U χ,η]) R4 rfl<|xV R5<|yc [U (z6 s&&decide (0<O L)),Y a (O L) p,U χ,η] R7 ω (zg _ _ _) ω eN ?_;rw[uk];generalize hh:upd h4 (3*(n2+1+1)+2) _=h5;have Z3:J9 (n2+1+1) h4 h5:=by rw[<-hh];exact Fe Z
 have A:∃e,h5 (3*(n2+1+1)+2)=ξ (.row [U (z6 s&&decide (0<O L)),Y a (O L) p,U χ,η] e):=⟨_,oB⟩;have aa:h5 (3*n+2)=_:=(Z3 _ Z).trans ((W _ Z).trans a9);have Z1:J9 n h h5:=λb g=>(Z3 b Z).trans ((W b Z).trans (N b g));obtain⟨K,V⟩:∃K:Int,K=if z6 s then -(x:Int)else x:=⟨_,ω⟩;have iN:IntR h5 (n2+1+1+1) (U (z6 s&&decide (0<O L))) (Y a (O L) p) K L:=(by refine M8 ((H.sl.ext W Zq).ext Z3 Zq) H.norm ?_ λh0=>?_;rw[H.val,V];split<;>omega;rw[V]at h0⊢;by_cases l:z6 s=φ;rw[Cx l]at h0⊢;rw[l,BJ Z];rw[Cs l,HU.2 l,Ae Z]);have a4:∀c,ratT c=s->K=c.num:=(by intro c f;have⟨p1,p2,_,_⟩:=m c f;rw[V,ax,p2,(wx _).2.1,p1];by_cases hn:c.num<0;rw[Cx (BJ hn)];omega;rw[Cs (by simpa using hn)];omega);refine Zi ?_;refine st_I (ik:=.i64) (a:=(O T:Int)) R5<|lW R6<|zN ?_;refine yj (α:=(ψ×ψ×ψ×ψ)×Rat×List Nat×List Nat) (λ_=>[(0,CN ⟨⟨s⟩⟩),(2,ι (3*n+2)),(10,ι (3*(n2+1+1)+2))])
  (λz u F w=>w=[]/\n2+1+1+1<=F/\J9 n h u/\u (3*n+2)=ξ (.row [U χ,η,U χ,η] e1)/\(∃e,u (3*(n2+1+1)+2)=ξ (.row [z.1.1,z.1.2.1,z.1.2.2.1,z.1.2.2.2] e))/\RatR u F z.1.1 z.1.2.1 z.1.2.2.1 z.1.2.2.2 z.2.1 z.2.2.1 z.2.2.2/\O z.2.2.1<=O s/\O z.2.2.2<=O s/\xC (n+1) z.1.2.1/\xC (n+1) z.1.2.2.2/\∀c,ratT c=s->z.2.1=c) ?_ ?_
 by_cases hzT:(z:Int)<(O T:Int);rw[ze (by show U (decide ((z:Int)<(O T:Int)))=_;rw[BJ hzT])];refine kj ?_;refine u4 (j:=z+1) R8 Z ?_;have b4:O (T.drop (z+1))<=O s:=by rw[Es];omega
 refine zF _ R5 (Sv (k+2) _ _ (T.drop (z+1)) Z) ?_;rintro _ h6 n6 _⟨rfl,aq,Z0,d1,d2,D,af,y,rfl,iy,b2,fy,ag,b0⟩;repeat refine zR ?_
 refine xV R5<|yc [d1,d2] R7 iy.ones (zg _ _ _) ω eN ?_;rw[uk];generalize hh:upd h6 (3*n6+2) _=h7;have G:J9 n6 h6 h7:=by rw[<-hh];exact Fe Z
 have B:∃e,h7 (3*n6+2)=ξ (.row [d1,d2] e):=⟨_,oB⟩;have⟨b1,B⟩:=B;have ab:h7 (3*n+2)=_:=(G _ Z).trans ((Z0 _ Z).trans aa);have P:J9 n h h7:=λb g=>(G b Z).trans ((Z0 b Z).trans (Z1 b g));have ae:=iy.ext G Zq;have M:∀c,ratT c=s->af=φ/\y=c.den:=by
  intro c f;have⟨p1,p2,p3,p4⟩:=m c f;have ap:c.den≠1:=λe=>by have:=p3 e;omega
  have C:=wx c.den;rw[<-(p4 ap).2]at C;have:=ag ⟨C.1,C.2.2⟩;rw[C.2.1]at this;exact this
 refine my ?_;by_cases hfine:af=φ/\y≠0;obtain⟨rfl,aj⟩:=hfine;repeat refine zR ?_
 refine z7 (v:=.agg #[d1,d2]) R5 (yw R2 B ω zb ω)<|yi _ R5 (PA (k+4) ae) ?_;rintro _ rfl;rw[Ga Z];refine iU ?_;have⟨an,A⟩:=A;have S:h7 (3*(n2+1+1)+2)=_:=(G _ Z).trans ((Z0 _ Z).trans A);repeat refine zR ?_
 refine z7 (v:=.agg #[U (z6 s&&decide (0<O L)),Y a (O L) p]) R5 (yw R2 S ω zb ω)<|z7 (v:=.agg #[d1,d2]) R5 (yw R2 B ω zb ω) ?_;have az:=(iN.ext Z0 aq).ext G Zq;refine zF _ R5 (Su k az ae Z Z) ?_;rintro _ h8 n8 _⟨rfl,b6,ad,u1,I,v1,J,ln,ld,rfl,R,a1,a2,o1,o2⟩;have a6:h8 (3*(n2+1+1)+2)=_:=(ad _ Z).trans S;refine yc [u1,I,v1,J] R7 R.ones a6 ω eN ?_;refine zN ?_;have f1:xC (n+1) I:=(by obtain rfl|o1:=o1;exact fx;exact o1.mono Z);have f2:xC (n+1) J:=(by obtain rfl|o2:=o2;exact fy.mono Z;exact o2.mono Z);have g1:Kw (3*(n2+1+1)+2) I:=(by obtain rfl|o1:=o1;exact ix.sl.below.off Z;exact o1.off Z);have g2:Kw (3*(n2+1+1)+2) J:=(by obtain rfl|o2:=o2;exact fy.off Z;exact o2.off Z);refine zA ((u1,I,v1,J),DK K (y:Int),ln,ld) P3 ⟨ω,by show n2+1+1+1<=n8;omega,λb g=>(zm Z).trans ((ad b Z).trans (P b g)),(zm Z).trans ((ad _ Z).trans ab),⟨_,zg _ _ _⟩,R.off g1 g2,by show O ln<=O s;omega,by show O ld<=O s;omega,f1,f2,λc f=>?_⟩;show DK K (y:Int)=c;rw[a4 c f,(M c f).2];exact Rat.num_divInt_den c;have a0:¬vF s:=λ⟨c,f⟩=>hfine ⟨(M c f).1,by rw[(M c f).2];exact c.den_nz⟩;cases af with
 |false=>
  exact Bz
 |true=>
  have aj:y=0:=C1 λe=>hfine ⟨ω,e⟩;subst aj;repeat refine zR ?_
  refine z7 (v:=.agg #[d1,d2]) R5 (yw R2 B ω zb ω)<|yi _ R5 (PA (k+4) ae) ?_;rintro _ rfl;exact Bz
 rw[za (by show U (decide ((z:Int)<(O T:Int)))=_;rw[Ae hzT])];refine zN ?_;refine zA ((U (z6 s&&decide (0<O L)),Y a (O L) p,U χ,η),(K:Rat),L,[]) P3 ⟨ω,CG,Z1,aa,A,RatR.whole iN,by show O L<=O s;omega,CH,fx,trivial,λc f=>?_⟩;have⟨p1,p2,p3,p4⟩:=m c f;have C:c.den=1:=C1 λe=>by have:=(p4 e).1;omega
 show(K:Rat)=c;rw[a4 c f];exact(YX C).symm;rintro⟨⟨u1,I,v1,J⟩,q,ln,ld⟩ t h9 n9 _ ⟨rfl,b7,aw,ar,⟨an,a7⟩,R,a1,a2,f1,f2,f⟩;simp only at a7 R a1 a2 f1 f2 f;refine zN ?_;refine zl ?_;refine yd (v:=.agg #[u1,I,v1,J]) R6 (yw R2 a7 ω zb ω) R2<|yd (v:=.agg #[u1,I,v1,J]) R6 (yw R2 a7 ω zb ω) R2<|ND _ R7 (RV (k+1) R Z) ?_;rintro _ rfl;refine zE ?_;refine dr_B (a:=ratT q==s) R5<|jX (cs:=[u1,I,v1,J]) R7 R.ones ar zb eN R3 ?_;repeat refine zE ?_
 refine zN ?_;exact M9 R6 (zg _ _ _) R2 ⟨ω,by show n<=n9;omega,λb g=>(zm Z).trans (aw b g),_,_,_,_,q,ln,ld,_,ω,R.off (f1.off Z) (f2.off Z),a1,a2,f1.mono Z,f2.mono Z,λhe=>eq_of_beq he,λ⟨c,hq⟩=>by rw[f c hq,hq];exact beq_self_eq_true s⟩
section
variable {X:CtxF}{r:List Oper}{d:Tmp}
def Y0{a:TypeId}(u:zh ops t o=φ)(p:o.dst=ξ d)(q:zv X.nt (ξ d)=φ)(f:o.op=.convert ty e x)(hx:J8 t x=CN ⟨⟨s⟩⟩)(hm:vI X.E ty e (CN ⟨⟨s⟩⟩)=ξ ⟨s.map λb=>CJ .u8 b.toNat,a,φ,ξ (O s,O s)⟩)
  (k:EO X ops r ⟨upd t d (Y (ξ ⟨3*n+1,0,θ⟩) (O s) (O s)),upd h (3*n+1) (ξ (.row (s.map λb=>CJ .u8 b.toNat) a)),n+1,w⟩ Q):EO X ops (o::r) ⟨t,h,n,w⟩ Q:=by
 have⟨y,g,j⟩:=k;refine⟨y,?_,j⟩;rw[seqF,u];have m:Kh o.op=4:=by rw[f];rfl
 have l:Kr X.E o.op (J8 t)=ξ ⟨s.map λb=>CJ .u8 b.toNat,a,φ,ξ (O s,O s)⟩:=by rw[f];show vI X.E ty e (J8 t x)=_;rw[hx];exact hm
 simp only[La,m,l,Mj,xH,p,q,addW];exact g
end
def Gro.inv2{h:HF}{n:Nat}{c:List ψ}(g:Gro h lo n e sz v len c)(a:len≠0):∃b,v=Y (ξ ⟨b,0,θ⟩) len len/\gro b=φ/\3*lo<=b/\b<3*n/\h b=ξ (.row c e)/\O c=len*sz:=by
 cases g with
 |nil=>exact BO ω a
 |at_ hg hlo hb hr hl ho=>exact⟨_,ω,hg,hlo,hb,hr,hl⟩
def Na{E D:List Nat}{x:Nat}(d:Nat)(h:D[O E]?=ξ x):(E++D.drop (O E)).set (O E) d=(E++[d])++D.drop (O (E++[d])):=by rw[uR h,D8 _ _ CG,D7];simp
def cL(h:i<=19):10^i<=10000000000000000000:=CW zd h
def NW.len_pow{L:List Nat}(h:NW L)(hv:wv L<10^i):O L<=i:=
 h.len_le (CZ hv (GH zd i))
def NW.of_low{L:List Nat}(h:Kb L)(a:O L=i+1)(hv:18446744073709551616^i<=wv L):NW L:=by obtain⟨l,d,rfl⟩:=Go.Proofs.YtpcpimjejdegcaaGreatDoor.snoc (l:=L) aD;refine⟨h,xy l λe=>?_⟩;subst e;rw[wv,qz,Ey,DG]at hv;have f:=Mc (l:=l) λx g=>h x (by simp[g]);simp at a;rw[a]at f;omega
def Y2{w:Nat}(f:w<18446744073709551616)(hb:b<18446744073709551616)(a:c<18446744073709551616):(w*b+c)/18446744073709551616<18446744073709551616:=by rw[Em zd];have:w*b<=18446744073709551615*18446744073709551615:=Df Z Z;omega
theorem mc(k:Nat)(h:HF)(n:Nat)(hs:AllD s)(hl:O s<1000000):CF (Ka (k+3)) 194 [CN ⟨⟨s⟩⟩] h n λv H M w=>∃L,ResW n h v H M w L/\wv L=dval s/\xC n v:=by
 refine zw R4<|Zp ?_;refine ye (α:=List UInt8×List UInt8×ψ×List Nat) (λz=>[(0,CN ⟨⟨z.2.1⟩⟩),(3,z.2.2.1)])
  (λz H M w=>w=[]/\n<=M/\J9 n h H/\s=z.1++z.2.1/\Gro H n M 141 1 z.2.2.1 (O z.2.2.2) (u64s z.2.2.2)/\NW z.2.2.2/\wv z.2.2.2=dval z.1) (λz=>O z.2.1)
  ([],s,η,[]) P2 ⟨ω,CG,FH _ _,ω,.nil,aa2,ω⟩ (by show O s<LL;unfold LL;omega) ?_
 rintro⟨q,g,v3,D⟩ t h1 A _ ⟨rfl,a6,a7,G,K,J,R⟩;simp only at G K J R;have b0:O q+O g<1000000:=by grind
 have am:AllD q:=λb u=>hs b (by rw[G];simp[u]);have ao:AllD g:=λb u=>hs b (by rw[G];simp[u]);have aw:O D<=O q:=J.len_pow (by rw[R];exact qy am);obtain⟨Z3,rfl,_⟩:=K.shape;refine zN ?_;by_cases hr0:g=[];.subst hr0;refine Ze ?_;rw[Do]at G;exact retH _ ⟨ω,(zi ω),ω⟩ ⟨D,⟨ω,a6,a7,K.sl,J⟩,by rw[R,G],K.fresh⟩
 have az:0<O g:=GF.2 hr0;obtain⟨sz,b1⟩:∃sz,sz=(O g-1)%19+1:=⟨_,ω⟩;have au:1<=sz/\sz<=19/\sz<=O g:=Z;have af:O (g.take sz)=sz:=by rw[DD];omega
 have Z1:AllD (g.take sz):=λb u=>ao b (Dx u);refine zM ?_;refine st_I (ik:=.i64) (a:=(O g:Int)) R5<|lI ?_;refine jQ ?_;refine st_I (ik:=.i64) (a:=(O g:Int)) R5<|qO (a:=(O g:Int)) (b:=1) R6 Z<|XI (a:=(O g:Int)-1) (b:=19) ω ω ω ω ω ω zd ?_;rw[show((O g:Int)-1).tmod 19=(((O g-1)%19:Nat):Int)from by rw[show(O g:Int)-1=((O g-1:Nat):Int)from Z];rfl];refine uI (a:=(((O g-1)%19:Nat):Int)) (b:=1) R6 Z ?_;rw[show(((O g-1)%19:Nat):Int)+1=(sz:Int)from Z];refine Zb ?_;refine mM ?_;refine NH (s:=g) (j:=sz) R8 Z<|Y0 (s:=g.take sz) ω ω ω ω ω ω ?_;generalize hC:g.take sz=C at af Z1⊢;generalize hh2:upd h1 (3*A+1) _=h2;have I:∃el,h2 (3*A+1)=ξ (.row (C.map λb=>CJ .u8 b.toNat) el):=⟨_,by rw[<-hh2,zg]⟩;have⟨el,I⟩:=I;have a8:J9 A h1 h2:=by rw[<-hh2];exact Fe Z
 have aa:=K.ext a8 (Dc A);have ai:Sl h2 (A+1) 1 (Y (ξ ⟨3*A+1,0,θ⟩) (O C) (O C)) (C.map λb=>CJ .u8 (b.toNat:Int)):=.at_ Z I ω CG eF (by rw[DH,CR eF]);refine st_I (ik:=.i64) (a:=(O C:Int)) R5<|my ?_;refine ye (α:=Nat) (λi=>[(0,CN ⟨⟨g⟩⟩),(3,Y Z3 (O D) (O D)),(4,CJ .i64 (sz:Int)),(5,CJ .u64 ((dval (C.take i):Nat):Int)),(6,CJ .u64 ((10^i:Nat):Int)),(23,Y (ξ ⟨3*A+1,0,θ⟩) (O C) (O C)),(24,CJ .i64 (O C:Int)),(25,CJ .i64 (i:Int))]) (λi H M w=>h2=H/\M=A+1/\w=[]/\i<=O C) (λi=>O C-i) 0 P8 ⟨ω,ω,ω,CH⟩ AM ?_;rintro i t _ _ _⟨rfl,rfl,rfl,hi⟩;refine zN ?_;by_cases hiC:i=O C;case neg=>
  obtain⟨b,u⟩:∃b,C[i]?=ξ b:=⟨C[i]'Z,CK Z⟩;have ax:=Z1 b (CL u);have ay:dval (C.take i)<10^i:=(by have:=qy (s:=C.take i) λb u=>Z1 b (Dx u);exact BM);have hp:=cL (i:=i+1) Z;rw[Db]at hp;refine Zd ?_;refine yE (f:=λb:UInt8=>CJ .u8 (b.toNat:Int)) (j:=i) R7 ai R2 u (λ_=>rfl) R4 λ_=>?_;refine my ?_;refine zM ?_;refine xt (a:=10) (b:=dval (C.take i)) R6 Z<|zM ?_;refine jA (a:=b.toNat) (b:=48) R6 Z<|se (c:=b.toNat-48) R7 Z<|yT (a:=10*dval (C.take i)) (b:=b.toNat-48) R6 Z<|my ?_;refine zM ?_;refine xt (a:=10^i) (b:=10) R6 Z<|Zb ?_;refine goOn (i+1) (by show O C-(i+1)<O C-i;omega) ⟨ω,ω,ω,?_,?_,ω,ω,ω,CE⟩ ⟨ω,ω,ω,Aq⟩;show CJ .u64 _=CJ .u64 _;rw[mA u,rK];show CJ .u64 _=CJ .u64 _;rw[Db]
 subst hiC;refine iU ?_;rw[Da];refine mM ?_;refine u4 (s:=g) (j:=sz) R8 Z<|Zb ?_;refine my ?_;have av:dval C<10^O C:=qy Z1;have hp:=cL (i:=O C) Z;refine ye (α:=List Nat×Nat) (λz=>[(0,CN ⟨⟨g.drop sz⟩⟩),(3,Y Z3 (O D) (O D)),(6,CJ .u64 ((10^O C:Nat):Int)),(9,CJ .u64 (z.2:Int)),(42,Y Z3 (O D) (O D)),(43,CJ .i64 (O D:Int)),(44,CJ .i64 (O z.1:Int))])
  (λz H M w=>M=A+1/\w=[]/\J9 n h H/\Gro H n (A+1) 141 1 (Y Z3 (O D) (O D)) (O D) (u64s (z.1++D.drop (O z.1)))/\O z.1<=O D/\Kb z.1/\z.2<18446744073709551616/\wv z.1+z.2*18446744073709551616^O z.1=wv (D.take (O z.1))*10^O C+dval C) (λz=>O D-O z.1)
  ([],dval C) P7 ⟨ω,ω,a7.trans a8 a6,aa,CH,HT,by show dval C<_;omega,pq⟩ (by show O D-0<LL;unfold LL;omega) ?_
 rintro⟨E,c⟩ t h3 _ _ ⟨rfl,rfl,a2,F,ah,S,hc,N⟩;simp only at F ah S hc N;refine zN ?_;by_cases hED:O E=O D;case neg=>
  obtain⟨x,hx⟩:∃x,D[O E]?=ξ x:=⟨D[O E]'Z,CK Z⟩;have a9:=J.1.get hx;have⟨b,Z0,an,ak,al,ae,ab⟩:=F.inv2 Z;injection Z0 with Z0 _ _;subst Z0;have ag:Sl h3 (A+1) 1 (Y (ξ ⟨b,0,θ⟩) (O D) (O D)) (u64s (E++D.drop (O E))):=F.sl;have ar:(E++D.drop (O E))[O E]?=ξ x:=by rw[Dq CG,D7,D6,DG,hx]
  refine Zh ?_;refine yE (f:=λd:Nat=>CJ .u64 (d:Int)) (j:=O E) R7 ag R2 ar (λ_=>rfl) R4 λ_=>?_;refine hH ?_;refine yi _ R5 (uN k h3 (A+1) a9 (show 10^O C<18446744073709551616 from Z) hc) ?_;rintro _ rfl;repeat refine zR ?_
  refine uH (j:=O E) (v:=CJ .u64 (((x*10^O C+c)%18446744073709551616:Nat):Int)) R8 ω (by rw[ab];omega) ae (by show 3*n<=b;omega) (λ_=>rfl) R3 (λ_=>rfl) ω λ_=>?_;rw[yk,Na _ hx];refine Zb ?_;have ad:(x*10^O C+c)%18446744073709551616<18446744073709551616:=DJ _ zd;refine goOn (E++[(x*10^O C+c)%18446744073709551616],(x*10^O C+c)/18446744073709551616) (by show O D-O (E++[_])<O D-O E;simp;omega) ⟨ω,ω,ω,ω,ω,ω,o0,CE⟩ ⟨ω,ω,λb' aj=>(zm Z).trans (a2 b' aj),.at_ an ak al (zg _ _ _) ?_ (xW _),by show(E++[_]).length<=_;simp;omega,Gl S ad,Y2 a9 Z hc,?_⟩;rw[zL,CP,Es];simp;omega;show wv (E++[_])+_*18446744073709551616^O (E++[_])=wv (D.take (O (E++[_])))*_+_;simp only[CP,C8];have ap:wv (D.take (O E+1))=wv (D.take (O E))+18446744073709551616^O E*x:=wJ hx;rw[ap,Db];have:=PG (B:=18446744073709551616) (P:=18446744073709551616^O E) (V:=wv E) (V':=wv (E++[(x*10^O C+c)%18446744073709551616])) (c:=c) (p:=x*10^O C) (d:=(x*10^O C+c)%18446744073709551616) (c':=(x*10^O C+c)/18446744073709551616) (by rw[wv,qz,C3];rfl) (by rw[Ee c];exact DS _ _);rw[this,N];generalize 18446744073709551616^O E=P;generalize 10^O C=T;generalize wv (D.take (O E))=W;rw[Dv,C3 P x,Nat.mul_right_comm];omega
 rw[hED,EZ,Do]at F;rw[hED,Da]at N;refine iU ?_;have a1:s=(q++C)++g.drop sz:=by rw[G,<-hC,Dp,D1]
 have a4:dval (q++C)=wv D*10^O C+dval C:=by rw[sJ,R]
 have Z4:O (g.drop sz)<O g:=by rw[Es];omega
 by_cases hc0:c=0;.subst hc0;refine iU ?_;rw[D2,DG]at N;refine goOn (q++C,g.drop sz,Y Z3 (O D) (O D),E) Z4 P2 ⟨ω,by show n<=A+1;omega,a2,a1,by show Gro _ _ _ _ _ _ (O E) _;rw[hED];exact F,?_,by show wv E=dval (q++C);rw[N,a4]⟩;show NW E;cases hDn:D with
  |nil=>
   rw[hDn]at hED;rw[CY.1 hED];exact aa2
  |cons y D'=>
   have⟨l,d,a0⟩:=Go.Proofs.YtpcpimjejdegcaaGreatDoor.snoc (l:=D) (by rw[hDn];simp);have ac:=(show NW (l++[d])by rw[<-a0];exact J).low;rw[<-a0]at ac;refine NW.of_low (i:=O l) S (by rw[hED,a0];simp) ?_;rw[N];have:wv D*1<=wv D*10^O C:=C9 _ (Dw zd);omega
 refine Zh ?_;refine pZ (cs:=[CJ .u64 (c:Int)]) R5<|M3 (m:=1) R8 zd (F.ext (Fe Z) Zq) (yp (zg _ _ _) R2) CG Z ω ω (by show n<=n/\_;omega) ?_;intro v' h5 a5 aq _;obtain⟨a',rfl,_⟩:=a5.shape;refine my ?_;refine goOn (q++C,g.drop sz,Y a' (O D+1) (O D+1),E++[c]) Z4 P2 ⟨ω,by show n<=A+1+1+1;omega,λb u=>(aq b u).trans ((zm Z).trans (a2 b u)),a1,?_,⟨Gl S hc,xy E hc0⟩,?_⟩;.show Gro _ _ _ _ _ _ (O (E++[c])) (u64s (E++[c]));rw[vg,CP,hED];exact a5
 show wv (E++[c])=dval (q++C);rw[wv,qz,a4,<-N,hED,C3];rfl
def zB(n:Nat):gro (3*n+2)=χ:=by exact Ch
section
variable {sT:TypeId}{x:ψ}
theorem nG{m:Nat}(u:E.und sT=ξ (.slice e))(hi:E.inf e=ξ (size,bytes,z))(y:O (zn z)=size)(a:1<=size/\1<=bytes)(hx:argS h size x m new)(hb:m*bytes<=1099511627776)(s:gro b=χ)(hm:m≠0):
  yW E h n sT (Y (ξ ⟨b,0,θ⟩) 0 0) x=ξ (.val (Y (ξ ⟨3*n+1,0,θ⟩) m m) (upd h (3*n+1) (ξ (.row new e))) (n+1) []):=by
 have⟨c,hc⟩:=hx;have f:Dj (m*bytes) 1099511627776=φ:=CV hb;have g:DO (O (zn z)) size=φ:=by simp_all
 have j:Dj 1 size=φ:=CV a.1;have l:Dj 1 bytes=φ:=CV a.2;have p:Dj m 0=χ:=by
  cases hb:Dj m 0 with
  |false=>rfl
  |true=>have:=De hb;omega
 have q:yD h size 0 (Y (ξ ⟨b,0,θ⟩) 0 0)=ξ []:=by simp[yD]
 simp only[yW,u,hi,c,hc,Dd,f,g,j,l,p,q,DZ,MB,s,DP]
theorem nE{a:Option Addr}(s:E.und sT=ξ (.slice e))(hi:E.inf e=ξ (size,bytes,z))(u:O (zn z)=size)(c:1<=size/\1<=bytes)(hx:argS h size x 0 [])(hb:L*bytes<=1099511627776):
  yW E h n sT (Y a L L) x=ξ (.val (Y a L L) h n []):=by
 have⟨f,hc⟩:=hx;have g:Dj (L*bytes) 1099511627776=φ:=CV hb;have j:DO (O (zn z)) size=φ:=by simp_all
 have l:Dj 1 size=φ:=CV c.1;have p:Dj 1 bytes=φ:=CV c.2;have q:Dj L L=φ:=CV CG;simp only[yW,s,hi,f,hc,DG,g,j,l,p,q,DZ,uB]
inductive Gr0 (h:HF) (lo n:Nat) (e:TypeId) (sz:Nat):ψ->Nat->List ψ->Prop
 |gro {v:ψ} {len:Nat} {c:List ψ} (g:Gro h lo n e sz v len c):Gr0 h lo n e sz v len c
 |emp {m:Nat} (hlo:lo<=m) (hm:m<n):Gr0 h lo n e sz (Y (ξ ⟨3*m+2,0,θ⟩) 0 0) 0 []
def Gr0.ext{h:HF}{n:Nat}{e:TypeId}{c:List ψ}(g:Gr0 h lo n e sz v len c)(a:J9 n h h')(f:n<=n'):Gr0 h' lo n' e sz v len c:=by
 cases g with
 |gro g=>exact .gro (g.ext a f)
 |emp hlo hm=>exact .emp hlo Z
def Gr0.shape{h:HF}{n:Nat}{e:TypeId}{c:List ψ}(g:Gr0 h lo n e sz v len c):∃a,v=Y a len len/\O c=len*sz:=by
 cases g with
 |gro g=>exact g.shape
 |emp hlo hm=>exact⟨_,ω,eF⟩
def Y4{m:Nat}{c:List ψ}(p:E.und sT=ξ (.slice e))(hi:E.inf e=ξ (size,bytes,z))(q:O (zn z)=size)(g:1<=size/\1<=bytes)(f:Gr0 h lo n e size v len c)(hx:argS h size x m new)(hb:(len+m)*bytes<=1099511627776)(j:O new=m*size)(l:ones new=φ)(y:lo<=n):
  ∃v' h' n' W,yW E h n sT v x=ξ (.val v' h' n' W)/\n<=n'/\Gr0 h' lo n' e size v' (len+m) (c++new)/\J9 lo h h'/\Keep v n h h'/\(∀b∈W,3*lo<=b/\gro b=φ)/\(v'=v\/xC n v'):=by
 by_cases hm:m=0;subst hm;have s:new=[]:=CY.1 (by rw[j];simp);subst s;obtain⟨a,rfl,_⟩:=f.shape;exact⟨_,_,_,_,nE p hi q g hx hb,CG,by rw[Do];exact f,FH _ _,λ_ _ _=>rfl,λb hb=>BO hb CT,.inl ω⟩;cases f with
 |emp hlo2 hm2=>
  rw[Dd]at hb⊢;refine⟨_,_,_,_,nG p hi q g hx hb (zB _) hm,Dc n,.gro (.at_ (uD n) Z Z (zg _ _ _) j l),Fe Z,λb hb _=>zm Z,λb hb=>BO hb CT,.inr sN⟩
 |gro f=>
  cases f with
  |nil=>
   refine⟨_,_,_,_,append_nil p hi q g.1 g.2 hx Z aD,Dc n,?_,Fe Z,λb hb _=>zm Z,λb hb=>BO hb CT,.inr sN⟩;rw[Dd];exact .gro (.at_ (uD n) Z Z (zg _ _ _) j l)
  |at_ f hlo2 hb2 hr hl2 ho2=>
   refine⟨_,_,_,_,ue p hi q g.1 g.2 hx Z hb f hr hl2 (yZ ho2 l) j,Dc n,.gro (.at_ (uD n) Z Z (zg _ _ _) aD (yZ ho2 l)),λb hb=>?_,λb hb u=>?_,λb hb=>?_,.inr sN⟩;rw[zm Z,zm Z];rw[zm Z,zm (λe=>u 0 len len (by rw[e]))];have hb:=C0.1 hb;rw[hb];exact⟨hlo2,f⟩
end
def fR{m:Nat}:∀{l:List (Nat×Nat)},(∀x∈l,x.2≠b)->ya m [b] l=φ:=by
 intro l;induction l with
 |nil=>intro _;rfl
 |cons x l ih=>
  intro h;have⟨i,c⟩:=x;have a:memN c [b]=χ:=by
   unfold memN;cases he:DO c b with
   |false=>rfl
   |true=>exact BO (DE he) (h (i,c) eF)
  unfold ya;rw[a,He,Jl];exact ih λy f=>h y (by simp[f])
section
variable {X:CtxF}{r:List Oper}{d:Tmp}
def Sy{sT e:TypeId}{s x:Operand}{size bytes m:Nat}{z:ψ}{c:List ψ}(f:nJ X ops t o d (o.op=.call {callee:=.builtin .append,args:=#[s,x],argTypes:=#[sT,xT]}/\(match X.E.und xT with|some (.int _)=>χ|none=>χ|_=>φ)=φ/\X.E.und sT=ξ (.slice e)/\X.E.inf e=ξ (size,bytes,z)/\O (zn z)=size))(p:1<=size/\1<=bytes)(F:Gr0 h lo n e size (J8 t s) len c)(hx:argS h size (J8 t x) m new)(hb:(len+m)*bytes<=1099511627776)(H:O new=m*size)(j:ones new=φ)(g:X.n0<=lo/\lo<=n)
  (k:∀a h' n',n<=n'->Gr0 h' lo n' e size a (len+m) (c++new)->J9 lo h h'->Keep (J8 t s) n h h'->(a=J8 t s\/xC n a)->EO X ops r ⟨upd t d a,h',n',w⟩ Q):EO X ops (o::r) ⟨t,h,n,w⟩ Q:=by have⟨f,hd,hn,I,l,J,G,K⟩:=f;have⟨a,h',n',W,q,u,y,A,B,C,D⟩:=Y4 J G K p F hx hb H j g.2;refine yM ⟨f,hd,hn,I,l⟩ q ?_;rw[zV λb hb=>by have:=(C b hb).1;omega];exact k a h' n' u y A B D
end
section
variable {X:CtxF}{r:List Oper}{ld:List (Nat×Nat)}{d:Tmp}
end
def Sl.zero{a:Option Addr}(s:Sl h n 1 (Y a l c) (u64s A))(d:a=θ):A=[]:=by have i:=s.lenW;by_cases h0:l=0;exact CY.1 Z;have⟨b,f,x,g,e,_⟩:=s.inv h0;rw[d]at e;cases e
def ub(k:Nat){a:Option Addr}{L:List Nat}(i:Sl h n 1 (Y a len cap) (u64s L))(p:O L<1000000000):CF (Ka (k+1)) 128 [Y a len cap] h n λv f j w=>w=[]/\n<=j/\J9 n h f/\Sl f j 1 v (u64s L)/\(L≠[]->Gro f n j 141 1 v (O L) (u64s L)):=by
 refine zw R4 ?_;have g:=i.lenW;subst g;refine Zj ?_;cases a with
 |none=>
  have b:=i.zero rfl;subst b;refine zN ?_;rw[ze rfl];refine mL ?_;exact retH _ ⟨ω,(zi ω),ω⟩ ⟨ω,CG,FH _ _,.nil (.inl ω),λh=>BO ω h⟩
 |some ad=>
  refine zN ?_;rw[za rfl];refine zN ?_;refine pZ R5 ?_;repeat refine zR ?_
  have d:=i.ext (Fe (x:=ξ (.row [] 141)) (show 3*n<=3*n+2 from Z)) (Dc n);by_cases b:L=[];subst b;refine yM R5 (nE ω ω ω zd (uX d) zd)<|my ?_;exact retH _ ⟨ω,(zi ω),ω⟩ ⟨ω,Dc n,Fe Z,.nil (.inr ⟨_,_,_,ω,by show 3*n+2<3*(n+1);omega⟩),λh=>BO ω h⟩;have m:O L≠0:=λe=>b (CY.1 e);refine yM R5 (nG ω ω ω zd (uX d) Z (zB n) m)<|my ?_;have o:Gro (upd (upd h (3*n+2) (ξ (.row [] 141))) (3*(n+1)+1) (ξ (.row (u64s L) 141))) n (n+1+1) 141 1 (Y (ξ ⟨3*(n+1)+1,0,θ⟩) (O L) (O L)) (O L) (u64s L):=.at_ (uD (n+1)) Z Z (zg _ _ _) (by rw[zL,DL]) (xW L);exact retH _ ⟨ω,(zi ω),ω⟩ ⟨ω,by show n<=n+1+1;omega,(Fe Z).trans (Fe Z) (Dc n),o.sl,λ_=>o⟩
theorem ma(k:Nat)(h:HF)(n:Nat)(m:AllD s)(q:O s<=570):CF (Ka (k+4)) 174 [CN ⟨⟨s⟩⟩,η] h n λv d e w=>∃L,ResW n h v d e w L/\wv L=dval s/\xC n v:=by
 refine zw R4 ?_;refine Zp ?_;refine ye (λ_=>[(0,CN ⟨⟨s⟩⟩),(5,CJ .i64 (-1))]) (λ_ d e w=>h=d/\n=e/\w=[]) (λ_=>0) () ⟨rfl,rfl,CE⟩ ⟨rfl,rfl,rfl⟩ (by show 0<LL;decide) ?_;rintro _ t _ _ _⟨rfl,rfl,rfl⟩;refine mL ?_;rw[za rfl];refine mL ?_;rw[ze rfl];refine jQ ?_;refine zF _ R5 (mc k h n m Z) ?_;rintro v p u _⟨L,⟨rfl,f,g,b,i⟩,o,j⟩;obtain⟨a,l,c,rfl,_⟩:=b.len;refine my ?_;exact retH _ ⟨rfl,(zi rfl),rfl⟩ ⟨L,⟨rfl,f,g,b,i⟩,o,j⟩
def nZ(k:Nat)(h:HF)(n:Nat)(m:AllD s)(j:O s<=570):CF (Ka (k+5)) 151 [CN ⟨⟨s⟩⟩] h n λv f p w=>∃L,ResW n h v f p w L/\wv L=dval s/\xC n v:=by refine zw R4<|Zp ?_;refine zM ?_;refine st_I (ik:=.i64) (a:=(O s:Int)) R5<|Zt ?_;refine zF _ R5 (ma k h n m j) ?_;rintro v q u _⟨L,⟨rfl,d,e,b,g⟩,o,i⟩;obtain⟨a,l,c,rfl,_⟩:=b.len;refine my ?_;exact retH _ ⟨ω,(zi ω),ω⟩ ⟨L,⟨ω,d,e,b,g⟩,o,i⟩
def NatR(n:Nat)(h:HF)(v:ψ)(h':HF)(n':Nat)(w:List Nat)(x:Nat):Prop:=∃a l c L,v=.agg #[U χ,Y a l c]/\ResW n h (Y a l c) h' n' w L/\wv L=x
def Y6(k:Nat)(h:HF)(n:Nat)(o:AllD s)(m:O s<=570):CF (Ka (k+6)) 117 [CN ⟨⟨s⟩⟩] h n λv g q w=>NatR n h v g q w (dval s):=by refine zw R4<|zN ?_;refine xV R5<|jQ ?_;refine zF _ R5 (nZ k _ _ o m) ?_;rintro v B u _⟨L,⟨rfl,y,e,d,i⟩,p,j⟩;obtain⟨a,l,c,rfl,_⟩:=d.len;have f:=(e (3*n+2) Z).trans (zg _ _ _);refine zZ R4 rfl<|yc [U χ,Y a l c] R7 ω f ω eC ?_;refine zN ?_;exact uq R5 (zg _ _ _) ω ⟨_,_,_,L,ω,⟨ω,by show n<=u;omega,λb f=>(zm Z).trans ((e b Z).trans (zm Z)),d.off (j.off Z),i⟩,p⟩
def pP(c:Nat):wv [c]=c:=by simp[wv,dv]
def Y8{x:Nat}:C6 c (x%c)=C6 x c:=by rw[Fw,<-JH,Fw]
theorem Zv(k:Nat){b:Bool}{a:Option Addr}{L:List Nat}(m:Sl h n 1 (Y a l c) (u64s L))(p:NW L):VF (Ka (k+1)) 101 [.agg #[U b,Y a l c]] h n λv=>v=U (!b&&decide (wv L=1)):=by
 refine zO R4 ?_;have i:=m.lenW;subst i;refine zN ?_;refine Ll (cs:=[U b,Y a (O L) c]) R5 ?_;generalize hh:upd h (3*n+2) _=h1;have o:J9 n h h1:=by grind [Fe]
 have f:∃e,h1 (3*n+2)=ξ (.row [U b,Y a (O L) c] e):=⟨_,oB⟩;have⟨u,f⟩:=f;have g:=m.ext o (Dc n);refine hH ?_;refine zT R6 f R2 ?_;cases b with
 |true=>
  refine my ?_;exact BC
 |false=>
 repeat refine zR ?_
 refine zT R6 f R2 ?_;by_cases h1:O L=1;obtain⟨d,rfl⟩:=Gb.1 h1;rw[show[d].length=1 from rfl]at f g⊢;repeat refine zR ?_
 refine zT R6 f R2 ?_;refine yE (j:=0) R7 g ⟨ω,eF⟩ ω (λ_=>rfl) R4 λ_=>?_;rw[pP];by_cases hd:d=1;refine my ?_;exact retF _ ω (zi ω) R2 (by rw[BJ hd];rfl);refine my ?_;exact retF _ ω (zi ω) R2 (by rw[Ae hd];rfl);have q:wv L≠1:=λe=>h1 (by rw[p.inj (NW.one (d:=1) zd zd) (by rw[e,pP])];rfl);refine my ?_;exact retF _ ω (zi ω) R2 (by rw[Ae q];rfl)
def ExtT(n bt:Nat)(h h':HF):Prop:=∀b,b<3*n->b≠bt->h' b=h b
def ExtT.refl(n a:Nat)(h:HF):ExtT n a h h:=λ_ _ _=>rfl
def strs(l:List (List UInt8)):List ψ:=l.map λs=>CN ⟨⟨s⟩⟩
def fg(a b:List (List UInt8)):strs (a++b)=strs a++strs b:=by simp[strs]
theorem Zw(a:List (List UInt8)):O (strs a)=O a:=by simp[strs]
def qR{m:Nat}{W:List Nat}:∀{l:List (Nat×Nat)},xJ m l=φ->ya m W l=φ:=by
 intro l;induction l with
 |nil=>intro _;rfl
 |cons x l ih=>
  intro h;have⟨i,b⟩:=x;unfold xJ at h;split at h;rename_i hb;unfold ya;rw[hb,Bool.true_or];exact ih h;cases h
section
variable {X:CtxF}{r:List Oper}{ld:List (Nat×Nat)}{d:Tmp}
def Zx{xT sT e:TypeId}{s x:Operand}{lo len a f mm:Nat}{z:ψ}{c new:List ψ}(M:zh ops t o=φ)(hd:o.dst=ξ d)(hn:zv X.nt (ξ d)=φ)(K:o.op=.call {callee:=.builtin .append,args:=#[s,x],argTypes:=#[sT,xT]})(q:(match X.E.und xT with|some (.int _)=>χ|none=>χ|_=>φ)=φ)
  (L:X.E.und sT=ξ (.slice e))(hi:X.E.inf e=ξ (a,f,z))(N:O (zn z)=a)(A:1<=a/\1<=f)(u:xq m ef=φ)(v:xJ m al=φ)(y:xJ m ld=φ)(I:Gro h lo n e a (J8 t s) len c)(hx:argS h a (J8 t x) mm new)(hm:1<=mm)(hb:(len+mm)*f<=1099511627776)(J:O new=mm*a)(p:ones new=φ)(l:X.n0<=lo/\lo<=n)
  (k:∀j g W,Gro g lo (n+1) e a j (len+mm) (c++new)->J9 lo h g->Keep (J8 t s) n h g->xC n j->ED X ops r ms (i+1) ⟨⟨upd t d j,g,n+1,w⟩,al,ld,(i,h,W)::ef⟩ Q):ED X ops (o::r) (m::ms) i ⟨⟨t,h,n,w⟩,al,ld,ef⟩ Q:=by have⟨j,g,W,B,C,D,G,F,H⟩:=uf L hi N A I hx hm hb J p l.2;refine iV M hd hn K q B u v (qR y) Zq ?_;rw[zV λb hb=>by have:=F b hb;omega];exact k j g W C D G H
end
def Lu{h:HF}{n:Nat}{P:ψ->HF->Nat->List Nat->Prop}(g:GK.orc f args=θ/\Kj.fn f=ξ fn/\fn.body=ξ body/\Dj (O args) fn.ntmps=φ)
  (hx:EC (KI k n fn.ntmps) body ⟨mj args,h,n,[]⟩ λe s=>rI e=φ/\∃a,resF Kj s fn.results.toList=ξ a/\P (qm a) s.h s.n s.w/\(s.w=[]->P (qm a) h n [])):CF (Ka (k+1)) f args h n P:=by have⟨g,i,D,p⟩:=g;refine jn g i D p (sW hx λe s⟨q,a,u,y,B⟩=>⟨q,a,u,?_⟩);unfold endF;split;rename_i hw;exact B hw;exact y
section
variable {X:CtxF}{r:List Oper}{d:Tmp}
theorem upd_self{x:Option BF}(hb:h b=x):upd h b x=h:=by grind [zg,zm]
def tH{w:List Nat}:addW n0 [] w=w:=rfl
def lZ{s:Operand}{a:Nat}{c:List ψ}(q:nJ X ops t o d (o.op=.call {callee:=.builtin .copy,args:=#[s,x],argTypes:=#[sT,xT]}/\X.E.und sT=ξ (.slice e)/\X.E.inf e=ξ (size,bytes,z)/\J8 t s=Y (ξ ⟨b,0,θ⟩) a cap))(hx:argS h size (J8 t x) m cs)(hm:m<=a)(hb:h b=ξ (.row c e3))(M:O cs<=O c)(J:ones cs=φ)(p:3*X.n0<=b)
  (k:EO X ops r ⟨upd t d (CJ .i64 (m:Int)),upd h b (ξ (.row (cs++c.drop (O cs)) e3)),n,w⟩ Q):EO X ops (o::r) ⟨t,h,n,w⟩ Q:=by
 have⟨q,hd,hn,F,I,D,G⟩:=q;have g:Nat.min m a=m:=DX hm;have hc:∃W,MX X.E h n sT (J8 t s) (J8 t x)=ξ (.val (CJ .i64 (m:Int)) (upd h b (ξ (.row (cs++c.drop (O cs)) e3))) n W)/\∀y∈W,y=b:=by
  have⟨u,B⟩:=hx;cases cs with
  |nil=>
   refine⟨[],?_,λy i=>by cases i⟩;rw[DP,Gq,DH,upd_self hb];simp only[MX,I,D,G,u,g,B];rfl
  |cons v cs=>
   refine⟨[b],?_,λy i=>C0.1 i⟩;have H:LS h ⟨b,0,θ⟩ (v::cs)=ξ (upd h b (ξ (.row ((v::cs)++c.drop (O (v::cs))) e3))):=(by rw[uZ hb Z J];unfold zu;rw[List.take_zero,DP,Dd]);simp only[MX,I,D,G,u,g,B,H];rfl
 have⟨W,hc,K⟩:=hc;have L:effF X.E o.op (J8 t) h n=ξ (.val (CJ .i64 (m:Int)) (upd h b (ξ (.row (cs++c.drop (O cs)) e3))) n W):=(by rw[F];exact hc);rw[rS q (by rw[hd];exact hn) (by rw[F];rfl) L,hd,zV λy i=>by rw[K y i];exact p];exact k
end
def Sl.extW{h:HF}{n:Nat}{c:List ψ}(s:Sl h n sz v c)(e:ExtT n b h h')(p:Kw b v):Sl h' n sz v c:=
 s.keep (λa l cap g=>by
  have i:=s.below;subst g;exact e _ i p) CG
def jK{h:HF}{n:Nat}{X:List Nat}(hb:b<3*n)(g:h b=ξ (.row (u64s X) e))(a:O X<=cap):Sl h n 1 (Y (ξ ⟨b,0,θ⟩) (O X) cap) (u64s X):=.at_ hb g ω a (by rw[zL];omega) A1
theorem uy{D X:List Nat}{x:Nat}(hx:X[O D]?=ξ x):(D++X.drop (O D))[O D]?=ξ x:=by grind
def zQ{X:List Nat}{x:Nat}(hx:X[j]?=ξ x):wv (X.take (j+1))=wv (X.take j)+18446744073709551616^j*x:=wJ hx
theorem yO(D:List Nat)(d:Nat):wv (D++[d])=wv D+18446744073709551616^O D*d:=qz _ _ _
theorem wZ(D E:List Nat):wv (D++E)=wv D+18446744073709551616^O D*wv E:=vm _ _ _
def pu(X:List Nat)(j:Nat)(hj:j<=O X):wv X=wv (X.take j)+18446744073709551616^j*wv (X.drop j):=by
 conv=>lhs;rw[<-D1 j X]
 rw[wZ,DD,DX hj]
theorem nK{x y s:Nat}(a:V+c*P=Z4)(g:18446744073709551616*c'+s=x+y+c):V+P*s+c'*(P*18446744073709551616)=Z4+P*x+P*y:=by grind
theorem vK{W x y s:Nat}(a:V+W=Z4+c*P)(g:s+y+c=x+18446744073709551616*c'):V+P*s+(W+P*y)=Z4+P*x+c'*(P*18446744073709551616):=by grind
theorem PN{x y:Nat}(hx:x<18446744073709551616)(g:y<18446744073709551616)(a:c<=1):(x+18446744073709551616-y-c)%18446744073709551616+y+c=x+18446744073709551616*(if y+c<=x then 0 else 1):=by grind
def RowW(n:Nat)(h:HF)(b:Nat)(e:TypeId)(h':HF)(n':Nat)(w:List Nat)(L:List Nat):Prop:=(∀c∈w,c=b)/\n'=n/\ExtT n b h h'/\h' b=ξ (.row (u64s L) e)
def Zy(k:Nat){h:HF}{n M:Nat}{K:Option Addr}{X Z3:List Nat}(hb:b<3*n)(a4:h b=ξ (.row (u64s X) e))(a9:O X<=cX)(hX:Kb X)(a0:Sl h n 1 (Y K l M) (u64s Z3))(hY:Kb Z3)(ho:Kw b (Y K l M))(hl:O Z3<=O X)(a8:O X<1000000000)(hv:wv X+wv Z3<18446744073709551616^O X):
  CF (Ka (k+1)) 154 [Y (ξ ⟨b,0,θ⟩) (O X) cX,Y K l M] h n λ_ h' W w=>∃L,RowW n h b e h' W w L/\Kb L/\O L=O X/\wv L=wv X+wv Z3:=by
 refine Lu R4 ?_;have a6:=a0.lenW;subst a6;have Z0:∀(t:TF) (h':HF) (w:List Nat) (D:List Nat) (c:Nat),(∀x∈w,x=b)->ExtT n b h h'->(w=[]->h'=h)->h' b=ξ (.row (u64s (D++X.drop (O D))) e)->O D<=O X->Kb D->wv D+c*18446744073709551616^O D=wv (X.take (O D))+wv Z3->c=0->(rI .normal=φ/\∃vs,resF Kj ⟨t,h',n,w⟩ (Tryz.f154).results.toList=ξ vs/\(∃L,RowW n h b e h' n w L/\Kb L/\O L=O X/\wv L=wv X+wv Z3)/\(w=[]->∃L,RowW n h b e h n [] L/\Kb L/\O L=O X/\wv L=wv X+wv Z3)):=by
  intro t h' w D c g1 g2 g3 g4 g5 g6 g7 g8;have hL:∃L,RowW n h b e h' n w L/\Kb L/\O L=O X/\wv L=wv X+wv Z3:=⟨_,⟨g1,ω,g2,g4⟩,g6.append (hX.drop _),Ar,by
   subst g8;rw[wZ];have h1:=pu X (O D) g5;omega⟩
  refine⟨ω,[],ω,hL,λF=>?_⟩;subst F;rw[g3 rfl]at hL;exact hL
 refine Zp ?_;refine ye (α:=List Nat×Nat) (λz=>[(0,Y (ξ ⟨b,0,θ⟩) (O X) cX),(1,Y K (O Z3) M),(4,CJ .u64 (z.2:Int)),(8,Y K (O Z3) M),(9,CJ .i64 (O Z3:Int)),(10,CJ .i64 (O z.1:Int))])
  (λz h' W w=>n=W/\(∀x∈w,x=b)/\ExtT n b h h'/\(w=[]->h'=h)/\h' b=ξ (.row (u64s (z.1++X.drop (O z.1))) e)/\O z.1<=O Z3/\Kb z.1/\z.2<=1/\wv z.1+z.2*18446744073709551616^O z.1=wv (X.take (O z.1))+wv (Z3.take (O z.1))) (λz=>O Z3-O z.1)
  ([],0) P6 ⟨ω,λx u=>BO u CT,ExtT.refl _ _ _,λ_=>rfl,a4,CH,HT,Bv,pq⟩ AH ?_
 rintro⟨D,c⟩ t h1 _ w ⟨rfl,F,i,G,a,J,g,I,p⟩;simp only at a J g I p;refine zN ?_;by_cases hDY:O D=O Z3;case neg=>
  obtain⟨y,hy⟩:∃y,Z3[O D]?=ξ y:=⟨Z3[O D]'Z,CK Z⟩;obtain⟨x,u⟩:∃x,X[O D]?=ξ x:=⟨X[O D]'Z,CK Z⟩;have aa:=hY.get hy;have a7:=hX.get u;have N:=jK (cap:=cX) hb a aD;rw[show(D++X.drop (O D)).length=O X from by rw[CP,Es];omega]at N;refine Zh ?_;refine yE (f:=λd:Nat=>CJ .u64 (d:Int)) (j:=O D) R7 (a0.extW i ho) R2 hy (λ_=>rfl) R4 λ_=>?_;refine hH ?_;refine yE (f:=λd:Nat=>CJ .u64 (d:Int)) (j:=O D) R7 N R2 (uy u) (λ_=>rfl) R4 λ_=>?_;repeat refine zR ?_
  refine vt (x:=x) (y:=y) (c:=c) R5 I ?_;obtain⟨s,R⟩:∃s,s=(x+y+c)%18446744073709551616:=⟨_,ω⟩;obtain⟨c',q⟩:∃c',c'=(x+y+c)/18446744073709551616:=⟨_,ω⟩;rw[<-R,<-q];repeat refine zR ?_
  refine yG (j:=O D) (off:=0) (v:=CJ .u64 (s:Int)) R8 ω ⟨Z,rq⟩ a hb (λ_=>rfl) R3 (λ_=>rfl) ω λ_=>?_;rw[Dd,yk,Na _ u];refine Zb ?_;have T:s<18446744073709551616:=Z;have Z1:c'<=1:=by rw[q];omega
  have S:18446744073709551616*c'+s=x+y+c:=by rw[R,q];omega
  refine goOn (D++[s],c') aD ⟨ω,ω,ω,ω,ω,eS,CE⟩ ⟨ω,λz B=>by
   obtain rfl|B:=Dk.1 B;rfl;exact F z B,λz B H=>(zm H).trans (i z B H),λh=>Ag,zg _ _ _,gZ,Gl g T,Z1,?_⟩
  simp only;rw[CP,C8,yO,zQ u,zQ hy,Db];have:=nK p S;omega
 have a3:Z3.take (O D)=Z3:=by rw[hDY,Da]
 rw[a3]at p;refine Ze ?_;refine ye (α:=List Nat×Nat) (λz=>[(0,Y (ξ ⟨b,0,θ⟩) (O X) cX),(4,CJ .u64 (z.2:Int)),(7,CJ .i64 (O z.1:Int))])
  (λz h' W w=>n=W/\(∀x∈w,x=b)/\ExtT n b h h'/\(w=[]->h'=h)/\h' b=ξ (.row (u64s (z.1++X.drop (O z.1))) e)/\O z.1<=O X/\Kb z.1/\z.2<=1/\wv z.1+z.2*18446744073709551616^O z.1=wv (X.take (O z.1))+wv Z3) (λz=>O X-O z.1)
  (D,c) ⟨ω,ω,Bx,CE⟩ ⟨ω,F,i,G,a,by show O D<=_;omega,g,I,p⟩ (by show O X-O D<LL;unfold LL;omega) ?_
 rintro⟨D,c⟩ t h1 _ w ⟨rfl,F,i,G,a,J,g,I,p⟩;simp only at a J g I p;refine zN ?_;by_cases hc0:c=0;.refine iU ?_;exact Z0 _ _ _ D c F i G a J g p hc0
 by_cases hDX:O D=O X;.refine iU ?_;refine Z0 _ _ _ D c F i G a J g p ?_;have a5:=wW g;rw[hDX,Da]at p;rw[hDX]at a5;obtain h|h:=FE c;exact h;have:=CS (18446744073709551616^O X) h;omega
 obtain⟨x,u⟩:∃x,X[O D]?=ξ x:=⟨X[O D]'Z,CK Z⟩;have a7:=hX.get u;have N:=jK (cap:=cX) hb a aD;rw[show(D++X.drop (O D)).length=O X from by rw[CP,Es];omega]at N;refine Zh ?_;refine yE (f:=λd:Nat=>CJ .u64 (d:Int)) (j:=O D) R7 N R2 (uy u) (λ_=>rfl) R4 λ_=>?_;repeat refine zR ?_
 refine vt (x:=x) (y:=0) (c:=c) R5 I ?_;obtain⟨s,R⟩:∃s,s=(x+0+c)%18446744073709551616:=⟨_,ω⟩;obtain⟨c',q⟩:∃c',c'=(x+0+c)/18446744073709551616:=⟨_,ω⟩;rw[<-R,<-q];repeat refine zR ?_
 refine yG (j:=O D) (off:=0) (v:=CJ .u64 (s:Int)) R8 ω ⟨Z,rq⟩ a hb (λ_=>rfl) R3 (λ_=>rfl) ω λ_=>?_;rw[Dd,yk,Na _ u];refine Zb ?_;have T:s<18446744073709551616:=Z;have Z1:c'<=1:=by rw[q];omega
 have S:18446744073709551616*c'+s=x+0+c:=by rw[R,q];omega
 refine goOn (D++[s],c') aD ⟨ω,ω,eS,CE⟩ ⟨ω,λz B=>by
  obtain rfl|B:=Dk.1 B;rfl;exact F z B,λz B H=>(zm H).trans (i z B H),λh=>Ag,zg _ _ _,gZ,Gl g T,Z1,?_⟩
 simp only;rw[CP,C8,yO,zQ u,Db];have:=nK p S;omega
theorem mB(k:Nat){h:HF}{n M:Nat}{K:Option Addr}{X Z3:List Nat}(hb:b<3*n)(a3:h b=ξ (.row (u64s X) e))(a8:O X<=cX)(hX:Kb X)(Z0:Sl h n 1 (Y K l M) (u64s Z3))(hY:Kb Z3)(ho:Kw b (Y K l M))(hl:O Z3<=O X)(a7:O X<1000000000)(hv:wv Z3<=wv X):
  CF (Ka (k+1)) 158 [Y (ξ ⟨b,0,θ⟩) (O X) cX,Y K l M] h n λ_ h' T w=>∃L,RowW n h b e h' T w L/\Kb L/\O L=O X/\wv L+wv Z3=wv X:=by
 refine Lu R4 ?_;have a5:=Z0.lenW;subst a5;have W:∀(t:TF) (h':HF) (w:List Nat) (D:List Nat) (c:Nat),(∀x∈w,x=b)->ExtT n b h h'->(w=[]->h'=h)->h' b=ξ (.row (u64s (D++X.drop (O D))) e)->O D<=O X->Kb D->wv D+wv Z3=wv (X.take (O D))+c*18446744073709551616^O D->c=0->(rI .normal=φ/\∃vs,resF Kj ⟨t,h',n,w⟩ (Tryz.f158).results.toList=ξ vs/\(∃L,RowW n h b e h' n w L/\Kb L/\O L=O X/\wv L+wv Z3=wv X)/\(w=[]->∃L,RowW n h b e h n [] L/\Kb L/\O L=O X/\wv L+wv Z3=wv X)):=by
  intro t h' w D c g1 g2 g3 g4 g5 g6 g7 g8;have hL:∃L,RowW n h b e h' n w L/\Kb L/\O L=O X/\wv L+wv Z3=wv X:=⟨_,⟨g1,ω,g2,g4⟩,g6.append (hX.drop _),Ar,by
   subst g8;rw[wZ];have h1:=pu X (O D) g5;omega⟩
  refine⟨ω,[],ω,hL,λB=>?_⟩;subst B;rw[g3 rfl]at hL;exact hL
 refine Zp ?_;refine ye (α:=List Nat×Nat) (λz=>[(0,Y (ξ ⟨b,0,θ⟩) (O X) cX),(1,Y K (O Z3) M),(4,CJ .u64 (z.2:Int)),(8,Y K (O Z3) M),(9,CJ .i64 (O Z3:Int)),(10,CJ .i64 (O z.1:Int))])
  (λz h' T w=>n=T/\(∀x∈w,x=b)/\ExtT n b h h'/\(w=[]->h'=h)/\h' b=ξ (.row (u64s (z.1++X.drop (O z.1))) e)/\O z.1<=O Z3/\Kb z.1/\z.2<=1/\wv z.1+wv (Z3.take (O z.1))=wv (X.take (O z.1))+z.2*18446744073709551616^O z.1) (λz=>O Z3-O z.1)
  ([],0) P6 ⟨ω,λx q=>BO q CT,ExtT.refl _ _ _,λ_=>rfl,a3,CH,HT,Bv,pq⟩ AH ?_
 rintro⟨D,c⟩ t h1 _ w ⟨rfl,B,i,G,a,J,g,I,p⟩;simp only at a J g I p;refine zN ?_;by_cases hDY:O D=O Z3;case neg=>
  obtain⟨y,hy⟩:∃y,Z3[O D]?=ξ y:=⟨Z3[O D]'Z,CK Z⟩;obtain⟨x,q⟩:∃x,X[O D]?=ξ x:=⟨X[O D]'Z,CK Z⟩;have a9:=hY.get hy;have a6:=hX.get q;have N:=jK (cap:=cX) hb a aD;rw[show(D++X.drop (O D)).length=O X from by rw[CP,Es];omega]at N;refine Zh ?_;refine yE (f:=λd:Nat=>CJ .u64 (d:Int)) (j:=O D) R7 (Z0.extW i ho) R2 hy (λ_=>rfl) R4 λ_=>?_;refine hH ?_;refine yE (f:=λd:Nat=>CJ .u64 (d:Int)) (j:=O D) R7 N R2 (uy q) (λ_=>rfl) R4 λ_=>?_;repeat refine zR ?_
  refine rn (x:=x) (y:=y) (c:=c) R5 I ?_;obtain⟨s,hs⟩:∃s,s=(x+18446744073709551616-y-c)%18446744073709551616:=⟨_,ω⟩;obtain⟨c',F⟩:∃c',c'=(if y+c<=x then 0 else 1):=⟨_,ω⟩;rw[<-hs,<-F];repeat refine zR ?_
  refine yG (j:=O D) (off:=0) (v:=CJ .u64 (s:Int)) R8 ω ⟨Z,rq⟩ a hb (λ_=>rfl) R3 (λ_=>rfl) ω λ_=>?_;rw[Dd,yk,Na _ q];refine Zb ?_;have S:s<18446744073709551616:=Z;have Z1:c'<=1:=by rw[F];split<;>decide
  have R:s+y+c=x+18446744073709551616*c':=by grind
  refine goOn (D++[s],c') aD ⟨ω,ω,ω,ω,ω,eS,CE⟩ ⟨ω,λz u=>by
   obtain rfl|u:=Dk.1 u;rfl;exact B z u,λz u H=>(zm H).trans (i z u H),λh=>Ag,zg _ _ _,gZ,Gl g S,Z1,?_⟩
  simp only;rw[CP,C8,yO,zQ q,zQ hy,Db];have:=vK p R;omega
 have a0:Z3.take (O D)=Z3:=by rw[hDY,Da]
 rw[a0]at p;refine Ze ?_;refine ye (α:=List Nat×Nat) (λz=>[(0,Y (ξ ⟨b,0,θ⟩) (O X) cX),(4,CJ .u64 (z.2:Int)),(7,CJ .i64 (O z.1:Int))])
  (λz h' T w=>n=T/\(∀x∈w,x=b)/\ExtT n b h h'/\(w=[]->h'=h)/\h' b=ξ (.row (u64s (z.1++X.drop (O z.1))) e)/\O z.1<=O X/\Kb z.1/\z.2<=1/\wv z.1+wv Z3=wv (X.take (O z.1))+z.2*18446744073709551616^O z.1) (λz=>O X-O z.1)
  (D,c) ⟨ω,ω,Bx,CE⟩ ⟨ω,B,i,G,a,by show O D<=_;omega,g,I,p⟩ (by show O X-O D<LL;unfold LL;omega) ?_
 rintro⟨D,c⟩ t h1 _ w ⟨rfl,B,i,G,a,J,g,I,p⟩;simp only at a J g I p;refine zN ?_;by_cases hc0:c=0;.refine iU ?_;exact W _ _ _ D c B i G a J g p hc0
 by_cases hDX:O D=O X;.refine iU ?_;refine W _ _ _ D c B i G a J g p ?_;have a4:=wW g;rw[hDX,Da]at p;rw[hDX]at a4;obtain h|h:=FE c;exact h;have:=CS (18446744073709551616^O X) h;omega
 obtain⟨x,q⟩:∃x,X[O D]?=ξ x:=⟨X[O D]'Z,CK Z⟩;have a6:=hX.get q;have N:=jK (cap:=cX) hb a aD;rw[show(D++X.drop (O D)).length=O X from by rw[CP,Es];omega]at N;refine Zh ?_;refine yE (f:=λd:Nat=>CJ .u64 (d:Int)) (j:=O D) R7 N R2 (uy q) (λ_=>rfl) R4 λ_=>?_;repeat refine zR ?_
 refine rn (x:=x) (y:=0) (c:=c) R5 I ?_;obtain⟨s,hs⟩:∃s,s=(x+18446744073709551616-0-c)%18446744073709551616:=⟨_,ω⟩;obtain⟨c',F⟩:∃c',c'=(if 0+c<=x then 0 else 1):=⟨_,ω⟩;rw[<-hs,<-F];repeat refine zR ?_
 refine yG (j:=O D) (off:=0) (v:=CJ .u64 (s:Int)) R8 ω ⟨Z,rq⟩ a hb (λ_=>rfl) R3 (λ_=>rfl) ω λ_=>?_;rw[Dd,yk,Na _ q];refine Zb ?_;have S:s<18446744073709551616:=Z;have Z1:c'<=1:=by rw[F];split<;>decide
 have R:s+0+c=x+18446744073709551616*c':=by grind
 refine goOn (D++[s],c') aD ⟨ω,ω,eS,CE⟩ ⟨ω,λz u=>by
  obtain rfl|u:=Dk.1 u;rfl;exact B z u,λz u H=>(zm H).trans (i z u H),λh=>Ag,zg _ _ _,gZ,Gl g S,Z1,?_⟩
 simp only;rw[CP,C8,yO,zQ q,Db];have:=vK p R;omega
def xr{n:Nat}{h:HF}{L:List Nat}(hb:b<3*n)(g:h b=ξ (.row (u64s L) e))(a:O L=l):Sl h n 1 (Y (ξ ⟨b,0,θ⟩) l l) (u64s L):=by subst a;exact jK hb g CG
def xD{L:List Nat}(h:Kb L):NW (yf L)/\wv (yf L)=wv L:=⟨NW.trim h,Oj _ _⟩
def PO(n:Nat)(v u1 u2:ψ):Prop:=xC n v\/v=u1\/v=u2
theorem dK(k:Nat){h:HF}{n:Nat}(H:Sl h n 1 (Y a1 l1 c1) (u64s A))(I:Sl h n 1 (Y a2 l2 c2) (u64s C))(nA:NW A)(nC:NW C)(hb:O A<100000000/\O C<100000000):
  CF (Ka (k+2)) 133 [Y a1 l1 c1,Y a2 l2 c2] h n λv h' N w=>∃L,ResW n h v h' N w L/\wv L=wv A+wv C/\PO n v (Y a1 l1 c1) (Y a2 l2 c2):=by
 refine zw R4 ?_;have e1:=H.lenW;have e2:=I.lenW;subst e1 e2;refine mL ?_;refine zM ?_;refine st_I (ik:=.i64) (a:=(O A:Int)) R5<|zM ?_;refine st_I (ik:=.i64) (a:=(O C:Int)) R5<|lW R6 ?_;simp only[yu,xg,zK,yY];refine yj (α:=(Option Addr×Nat×List Nat)×(Option Addr×Nat×List Nat)) (λz=>[(0,Y z.1.1 (O z.1.2.2) z.1.2.1),(1,Y z.2.1 (O z.2.2.2) z.2.2.1)]) (λz h' N w=>h=h'/\n=N/\w=[]/\Sl h n 1 (Y z.1.1 (O z.1.2.2) z.1.2.1) (u64s z.1.2.2)/\Sl h n 1 (Y z.2.1 (O z.2.2.2) z.2.2.1) (u64s z.2.2.2)/\NW z.1.2.2/\NW z.2.2.2/\O z.2.2.2<=O z.1.2.2/\O z.1.2.2<100000000/\wv z.1.2.2+wv z.2.2.2=wv A+wv C/\(Y z.1.1 (O z.1.2.2) z.1.2.1=Y a1 (O A) c1\/Y z.1.1 (O z.1.2.2) z.1.2.1=Y a2 (O C) c2)) ?_ ?_;by_cases hlt:O A<O C;rw[ze gN];refine mL ?_;exact zA ((a2,c2,C),(a1,c1,A)) P2 ⟨ω,ω,ω,I,H,nC,nA,AX,hb.2,Ee _ _,.inr ω⟩;rw[za gH];refine zN ?_;exact zA ((a1,c1,A),(a2,c2,C)) P2 ⟨ω,ω,ω,H,I,nA,nC,AY,hb.1,ω,.inl ω⟩;rintro⟨⟨a,c,X⟩,⟨a',c',Z3⟩⟩ t _ _ _ ⟨rfl,rfl,rfl,J,K,u,Z1,D,W,q,hv⟩;simp only at J K u Z1 D W q hv;rw[<-q];refine zN ?_;by_cases hY0:O Z3=0;refine Zg ?_;rw[CY.1 hY0];exact retH _ ⟨ω,(zi ω),ω⟩ ⟨X,⟨ω,CG,FH _ _,J,u⟩,ω,.inr hv⟩;refine Zo ?_;refine vB (len:=O X+1) (cap:=O X+1) R9 Z ?_;rw[show zn (CJ .u64 0)=[CJ .u64 0]from ω,xO];refine hH ?_;have B:=J.ext (Fe (h:=h) (b:=3*n+2) (x:=ξ (.row (u64s (CO (O X+1) 0)) 141)) (show 3*n<=3*n+2 from Z)) (Dc n);refine lZ (m:=O X) R7 (uX B) Zq (zg _ _ _) (by rw[zL,zL];simp) (xW X) eC ?_;rw[uk,zL,rf,<-vg,JU,show (O X)+1-O X=1 from Z];generalize hh:upd h (3*n+2) _=s;have p:∃e,s (3*n+2)=ξ (.row (u64s (X++[0])) e):=⟨_,kF⟩;have⟨e,p⟩:=p;have G:J9 n h s:=by grind [Fe]
 have g:O (X++[0])=O X+1:=by simp
 have F:wv (X++[0])=wv X:=by rw[yO,Ey,DG]
 have M:wv (X++[0])+wv Z3<18446744073709551616^O (X++[0]):=(by have s:=wW u.1;have R:=wW Z1.1;have h3:18446744073709551616^O Z3<=18446744073709551616^O X:=CW zd D;rw[F,g,Db];omega);refine kj ?_;have i:=Zy k (h:=s) (n:=n+1) (b:=3*n+2) (X:=X++[0]) (cX:=O X+1) Z p Z (Gl u.1 zd) (K.ext G (Dc n)) Z1.1 (K.below.off Z) Z Z M;rw[g]at i;refine zF _ R5 i ?_;rintro _ R _ w2⟨L,⟨a3,rfl,a4,Z0⟩,S,a5,T⟩;try simp only[tH]
 rw[zV (w:=[]) λy hy=>by rw[a3 y hy];show 3*n<=3*n+2;omega];refine hH ?_;have a0:=xi k (h:=R) (n:=n+1) (a:=ξ ⟨3*n+2,0,θ⟩) (len:=O X+1) (cap:=O X+1) (l:=L) Z (λ_ e=>by injection e with e;rw[<-e]) (xr Z Z0 Z);refine zF _ R5 a0 ?_;rintro _ _ _ _⟨rfl,rfl,rfl,rfl,hs⟩;refine my ?_;have⟨t1,t2⟩:=xD S;exact retH _ ⟨ω,(zi ω),ω⟩ ⟨_,⟨ω,Dc n,λb hb=>(a4 b Z Z).trans (G b hb),hs,t1⟩,by rw[t2,T,F],.inl eC⟩
def fe(k:Nat){h:HF}{n:Nat}(u:Sl h n 1 (Y a1 l1 c1) (u64s A))(B:Sl h n 1 (Y a2 l2 c2) (u64s C))(F:NW A)(S:NW C)(hb:O A<100000000)(J:wv C<=wv A):
  CF (Ka (k+2)) 134 [Y a1 l1 c1,Y a2 l2 c2] h n λv h' n' w=>∃L,ResW n h v h' n' w L/\wv L=wv A-wv C/\PO n v (Y a1 l1 c1) (Y a2 l2 c2):=by
 refine zw R4 ?_;have T:=u.lenW;have W:=B.lenW;subst T W;have g:O C<=O A:=(by obtain D|D:=EH (O A) (O C);have:=F.len_lt S D;omega;exact D);refine mL ?_;by_cases hC0:O C=0;refine Zg ?_;rw[CY.1 hC0];exact retH _ ⟨ω,(zi ω),ω⟩ ⟨A,⟨ω,CG,FH _ _,u,F⟩,ω,.inr (.inl ω)⟩;refine Zr ?_;refine zF _ R5 (ub k u Z) ?_;rintro v1 h1 n1 _⟨rfl,q,s,a3,I⟩;obtain⟨b,rfl,_,i,p,K,_⟩:=(I (λe=>by rw[e]at g;simp at g;exact hC0 gS)).inv2 Z;refine hH ?_;refine zF _ R5 (mB k (cX:=O A) p K CG F.1 (B.ext s q) S.1 (B.below.off Z) g Z J) ?_;rintro _ Z3 n2 w2⟨L,⟨Z1,rfl,R,M⟩,G,H,a0⟩;try simp only[tH]
 rw[zV (w:=[]) λy hy=>by rw[Z1 y hy];exact i];refine hH ?_;have N:=xi k (h:=Z3) (n:=n2) (a:=ξ ⟨b,0,θ⟩) (len:=O A) (cap:=O A) (l:=L) Z (λ_ e=>by injection e with e;rw[<-e]) (xr p M H);refine zF _ R5 N ?_;rintro _ _ _ _⟨rfl,rfl,rfl,rfl,hs⟩;refine my ?_;have⟨t1,t2⟩:=xD G;exact retH _ ⟨ω,(zi ω),ω⟩ ⟨_,⟨ω,q,λc Z0=>(R c Z Z).trans (s c Z0),hs,t1⟩,by rw[t2];omega,.inl i⟩
section
variable {off:Nat}
section
variable {X:CtxF}{r:List Oper}{d:Tmp}
theorem rt{lo hi:Operand}{j u:Int}(m a:Nat)(g:nJ X ops t o d (o.op=.slice ty x (ξ lo) (ξ hi) θ/\X.E.und ty=ξ (.slice e)/\X.E.inf e=ξ (sz,bt,z)/\J8 t x=Y (ξ ⟨b,off,θ⟩) len cap/\J8 t lo=CJ ik j/\J8 t hi=CJ ik' u))(hm:j=(m:Int))(q:u=(a:Int))(K:m<=a/\a<=cap/\m<cap)
  (k:EO X ops r ⟨upd t d (Y (ξ ⟨b,off+m*sz,θ⟩) (a-m) (cap-m)),h,n,w⟩ Q):EO X ops (o::r) ⟨t,h,n,w⟩ Q:=by
 have⟨g,F,H,s,I,i,J,G,p⟩:=g;refine zZ ⟨g,F,H,(by rw[s];rfl)⟩ ?_ k;rw[s];subst hm q;show xc X.E ty (J8 t x) (ξ (J8 t lo)) (ξ (J8 t hi))=_;rw[J,G,p];have y:(0:Int)<=(a:Int)/\(a:Int)<=cap:=Z;have v:(0:Int)<=(m:Int)/\(m:Int)<=a:=Z;have f:Dj cap m=χ:=by
  cases f:Dj cap m with
  |false=>rfl
  |true=>have:=De f;omega
 have B:(gro b&&(Dj 1 m&&Dj cap m))=χ:=by rw[f];simp
 have D:offA cap m sz ⟨b,off,θ⟩=⟨b,off+m*sz,θ⟩:=by grind [offA,wO,DO,DE]
 simp only[xc,I,i,bnd,Cx y,Cx v,En,B,D]
end
def dP{h:HF}{n:Nat}{P S:List Nat}(hb:b<3*n)(f:h b=ξ (.row (u64s (P++(Z0++S))) e))(a:O Z0<=cap):Sl h n 1 (Y (ξ ⟨b,O P,θ⟩) (O Z0) cap) (u64s Z0):=by refine .at_ hb f ω a (by rw[zL];simp only[CP];omega) ?_;rw[rf,re,Jz ω,DL,List.take_left' rfl]
def kg{P S D:List Nat}{x:Nat}(d:Nat)(hx:Z0[O D]?=ξ x):(P++((D++Z0.drop (O D))++S)).set (O P+O D) d=P++(((D++[d])++Z0.drop (O (D++[d])))++S):=by have a:O D<O Z0:=(CQ.1 hx).1;rw[D8 _ _ Z,show (O P)+O D-O P=O D from Z,List.set_append_left _ _ aD,Na d hx]
def qW{v w:Nat}(hv:v<18446744073709551616)(a:w<18446744073709551616):v*w<=340282366920938463426481119284349108225:=C5 (Df (JK hv) (JK a)) zd
theorem be{W z v w s:Nat}(a:V+c*P=Z4+W*w)(f:18446744073709551616*c'+s=z+v*w+c):V+P*s+c'*(P*18446744073709551616)=Z4+P*z+(W+P*v)*w:=by grind
theorem li(k:Nat){h:HF}{n cZ:Nat}{F:Option Addr}{P S X:List Nat}{w:Nat}(hb:b<3*n)(R:h b=ξ (.row (u64s (P++(Z0++S))) e))(ad:O Z0<=cZ)(hZ:Kb Z0)(J:Sl h n 1 (Y F l cX) (u64s X))(hX:Kb X)(ho:Kw b (Y F l cX))(hl:O Z0=O X)(ac:O X<1000000000)(i:w<18446744073709551616):
  CF (Ka (k+2)) 152 [Y (ξ ⟨b,O P,θ⟩) (O Z0) cZ,Y F l cX,CJ .u64 (w:Int)] h n λv m n' W=>∃(L:List Nat) (c:Nat),v=CJ .u64 (c:Int)/\c<18446744073709551616/\RowW n h b e m n' W (P++(L++S))/\Kb L/\O L=O Z0/\wv L+c*18446744073709551616^O Z0=wv Z0+wv X*w:=by
 refine Lu R4 ?_;have a6:=J.lenW;subst a6;refine mL ?_;refine Zb ?_;refine ye (α:=List Nat×Nat) (λz=>[(0,Y (ξ ⟨b,O P,θ⟩) (O Z0) cZ),(2,CJ .u64 (w:Int)),(7,CJ .u64 (z.2:Int)),(14,Y F (O X) cX),(15,CJ .i64 (O X:Int)),(16,CJ .i64 (O z.1:Int))])
  (λz m n' W=>n=n'/\(∀x∈W,x=b)/\ExtT n b h m/\(W=[]->m=h)/\m b=ξ (.row (u64s (P++((z.1++Z0.drop (O z.1))++S))) e)/\O z.1<=O X/\Kb z.1/\z.2<18446744073709551616/\wv z.1+z.2*18446744073709551616^O z.1=wv (Z0.take (O z.1))+wv (X.take (O z.1))*w) (λz=>O X-O z.1)
  ([],0) P6 ⟨ω,λx u=>BO u CT,ExtT.refl _ _ _,λ_=>rfl,R,CH,HT,tu,pq⟩ AN ?_
 rintro⟨D,c⟩ t h1 _ W ⟨rfl,hW,B,ab,g,hD,q,hc,G⟩;simp only at g hD q hc G;refine zN ?_;by_cases hDX:O D=O X;refine Ze ?_;have a0:Z0.drop (O D)=[]:=by grind
 rw[a0,Do]at g;rw[hDX,Da,<-hl,Da]at G;have Z1:∃(L:List Nat) (c':Nat),CJ .u64 (c:Int)=CJ .u64 (c':Int)/\c'<18446744073709551616/\RowW n h b e h1 n W (P++(L++S))/\Kb L/\O L=O Z0/\wv L+c'*18446744073709551616^O Z0=wv Z0+wv X*w:=⟨D,c,ω,hc,⟨hW,ω,B,g⟩,q,Z,G⟩;refine⟨ω,[CJ .u64 (c:Int)],ω,Z1,λi=>?_⟩;have i:W=[]:=i;subst i;rw[ab rfl]at Z1;exact Z1;obtain⟨v,T⟩:∃x,X[O D]?=ξ x:=⟨X[O D]'Z,CK Z⟩;obtain⟨z,I⟩:∃x,Z0[O D]?=ξ x:=⟨Z0[O D]'Z,CK Z⟩;have M:=hX.get T;have ae:=hZ.get I;have s:(D++Z0.drop (O D)).length=O Z0:=by grind
 have K:=dP (cap:=cZ) hb g Z;rw[s]at K;have aa:=qW M i;refine Zh ?_;refine yE (f:=λd:Nat=>CJ .u64 (d:Int)) (j:=O D) R7 (J.extW B ho) R2 T (λ_=>rfl) R4 λ_=>?_;refine hH ?_;refine yi _ R5 (pC k h1 n M i) ?_;rintro _ rfl;obtain⟨p,hp⟩:∃p,p=v*w:=⟨_,ω⟩;rw[<-hp]at aa⊢;obtain⟨H,a5⟩:∃x,x=p/18446744073709551616:=⟨_,ω⟩;obtain⟨Z3,a7⟩:∃x,x=p%18446744073709551616:=⟨_,ω⟩;rw[<-a5,<-a7];refine hH ?_;refine vt (x:=Z3) (y:=c) (c:=0) R5 zd ?_;obtain⟨s1,a8⟩:∃x,x=(Z3+c+0)%18446744073709551616:=⟨_,ω⟩;obtain⟨c1,a3⟩:∃x,x=(Z3+c+0)/18446744073709551616:=⟨_,ω⟩;rw[<-a8,<-a3];refine Zk ?_;refine yT (a:=H) (b:=c1) R6 Z<|hH ?_;refine yE (f:=λd:Nat=>CJ .u64 (d:Int)) (j:=O D) R7 K R2 (uy I) (λ_=>rfl) R4 λ_=>?_;repeat refine zR ?_
 refine vt (x:=z) (y:=s1) (c:=0) R5 zd ?_;obtain⟨s2,a9⟩:∃x,x=(z+s1+0)%18446744073709551616:=⟨_,ω⟩;obtain⟨c2,a4⟩:∃x,x=(z+s1+0)/18446744073709551616:=⟨_,ω⟩;rw[<-a9,<-a4];repeat refine zR ?_
 refine yG (j:=O D) (off:=O P) (v:=CJ .u64 (s2:Int)) R8 ω ⟨Z,Bi⟩ g hb (λ_=>rfl) R3 (λ_=>rfl) ω λ_=>?_;rw[yk,kg _ I];refine Zk ?_;refine yT (a:=H+c1) (b:=c2) R6 Z<|Zb ?_;refine goOn (D++[s2],H+c1+c2) aD ⟨ω,ω,ω,ω,ω,eS,CE⟩ ⟨ω,λx u=>by
  obtain rfl|u:=Dk.1 u;rfl;exact hW x u,λy hy N=>(zm N).trans (B y hy N),λh=>Ag,zg _ _ _,by show(D++[s2]).length<=_;rw[CP,C8];omega,Gl q Z,by show H+c1+c2<_;omega,?_⟩
 simp only;rw[CP,C8,yO,zQ T,zQ I,Db];exact be G (by rw[<-hp];omega)
theorem Zz{P X L:List Nat}{w:Nat}(a:O L=O Z0)(f:wv L+c*18446744073709551616^O Z0=wv Z0+wv X*w):wv (P++(L++[c]))=wv (P++Z0)+wv X*(18446744073709551616^O P*w):=by grind [wZ,yO]
theorem fV(k:Nat){h:HF}{n:Nat}(G:Sl h n 1 (Y a1 l1 c1) (u64s A))(H:Sl h n 1 (Y a2 l2 c2) (u64s C))(nA:NW A)(nC:NW C)(hb:O A<100000000/\O C<100000000)(a0:O A<40\/O C<40):
  CF (Ka (k+3)) 120 [Y a1 l1 c1,Y a2 l2 c2] h n λv s u w=>∃L,ResW n h v s u w L/\wv L=wv A*wv C/\PO n v (Y a1 l1 c1) (Y a2 l2 c2):=by
 refine zw R4 ?_;have e1:=G.lenW;have e2:=H.lenW;subst e1 e2;refine mL ?_;refine zM ?_;refine st_I (ik:=.i64) (a:=(O A:Int)) R5<|zM ?_;refine st_I (ik:=.i64) (a:=(O C:Int)) R5<|lW R6 ?_;simp only[yu,xg,zK,yY];refine yj (α:=(Option Addr×Nat×List Nat)×(Option Addr×Nat×List Nat)) (λz=>[(0,Y z.1.1 (O z.1.2.2) z.1.2.1),(1,Y z.2.1 (O z.2.2.2) z.2.2.1)]) (λz s u w=>h=s/\n=u/\w=[]/\Sl h n 1 (Y z.1.1 (O z.1.2.2) z.1.2.1) (u64s z.1.2.2)/\Sl h n 1 (Y z.2.1 (O z.2.2.2) z.2.2.1) (u64s z.2.2.2)/\NW z.1.2.2/\NW z.2.2.2/\O z.2.2.2<=O z.1.2.2/\O z.2.2.2<40/\O z.1.2.2<100000000/\wv z.1.2.2*wv z.2.2.2=wv A*wv C/\(Y z.1.1 (O z.1.2.2) z.1.2.1=Y a1 (O A) c1\/Y z.1.1 (O z.1.2.2) z.1.2.1=Y a2 (O C) c2)) ?_ ?_;by_cases hlt:O A<O C;rw[ze gN];refine mL ?_;exact zA ((a2,c2,C),(a1,c1,A)) P2 ⟨ω,ω,ω,H,G,nC,nA,AX,by show O A<40;omega,hb.2,C3 _ _,.inr ω⟩;rw[za gH];refine zN ?_;exact zA ((a1,c1,A),(a2,c2,C)) P2 ⟨ω,ω,ω,G,H,nA,nC,AY,by show O C<40;omega,hb.1,ω,.inl ω⟩;rintro⟨⟨a,c,X⟩,⟨a',c',Z3⟩⟩ t _ _ _ ⟨rfl,rfl,rfl,J,K,nX,nY,a8,S,a7,q,hv⟩;simp only at J K nX nY a8 S a7 q hv;rw[<-q];refine jQ ?_;refine st_I (ik:=.i64) (a:=(O X:Int)) R5<|uI (a:=(O X:Int)) (b:=1) R6 Z<|st_I (ik:=.i64) (a:=((O X:Int)+1).tdiv 2) ⟨ω,ω,ω,ω,(by show ξ (CJ .i64 (IntKind.wrap .i64 _))=_;rw[Ma (by have:=Int.tdiv_nonneg (a:=(O X:Int)+1) (b:=2) Z Z;have:=Int.tdiv_le_self (a:=(O X:Int)+1) (b:=2) Z;omega)])⟩ ?_;refine my ?_;by_cases hY0:O Z3=0;refine Zg ?_;exact retH _ ⟨ω,(zi ω),ω⟩ ⟨[],⟨ω,CG,FH _ _,.nil (.inl ω),aa2⟩,by rw[CY.1 hY0];rfl,.inl trivial⟩;refine mS ?_;simp only[yu,xg,zK,yY];refine yj (α:=Bool) (λz=>[(0,Y a (O X) c),(1,Y a' (O Z3) c'),(32,U z)]) (λz s u w=>h=s/\n=u/\w=[]/\(z=φ->wv Z3=1)) ?_ ?_;by_cases hY1:O Z3=1;obtain⟨y,rfl⟩:=Gb.1 hY1;rw[show[y].length=1 from rfl]at K⊢;refine kj ?_;refine yE (f:=λd:Nat=>CJ .u64 (d:Int)) (l:=[y]) (j:=0) R7 K ⟨ω,eF⟩ ω (λ_=>rfl) R4 λ_=>?_;by_cases hy:y=1;refine my ?_;exact zA φ P3 ⟨ω,ω,ω,λ_=>by rw[pP,hy]⟩;refine my ?_;exact zA χ P3 ⟨ω,ω,ω,λh=>by cases h⟩;refine mL ?_;exact zA χ P3 ⟨ω,ω,ω,λh=>by cases h⟩;rintro z t _ _ _⟨rfl,rfl,rfl,hz⟩;cases z with
 |true=>
  rw[ze rfl];refine mL ?_;exact retH _ ⟨ω,(zi ω),ω⟩ ⟨X,⟨ω,CG,FH _ _,J,nX⟩,by rw[hz ω,DL],.inr hv⟩
 |false=>
 rw[za rfl];refine mL ?_;rw[ze rfl];refine kj ?_;refine vB (len:=O X+O Z3) (cap:=O X+O Z3) R9 Z ?_;rw[show zn (CJ .u64 0)=[CJ .u64 0]from ω,xO];generalize hh:upd h (3*n+2) _=F;have g:∃e,F (3*n+2)=ξ (.row (u64s (CO (O X) 0++CO (O Z3) 0)) e):=⟨_,by rw[<-hh,zg,H0]⟩;have⟨e,g⟩:=g;have p:J9 n h F:=by grind [Fe]
 refine Zb ?_;refine ye (α:=Nat×List Nat) (λz=>[(0,Y a (O X) c),(6,Y (ξ ⟨3*n+2,0,θ⟩) (O X+O Z3) (O X+O Z3)),(53,Y a' (O Z3) c'),(54,CJ .i64 (O Z3:Int)),(55,CJ .i64 (z.1:Int))])
  (λz s u w=>u=n+1/\w=[]/\J9 n h s/\s (3*n+2)=ξ (.row (u64s (z.2++CO (O Z3-z.1) 0)) e)/\O z.2=O X+z.1/\Kb z.2/\z.1<=O Z3/\wv z.2=wv X*wv (Z3.take z.1)) (λz=>O Z3-z.1)
  (0,CO (O X) 0) P5 ⟨ω,ω,p,g,eF,ao3 _,CH,by simp[wv,dv,pc]⟩ AH ?_
 rintro⟨i,D⟩ t F _ _ ⟨rfl,rfl,p,g,M,B,hi,I⟩;simp only at g M B hi I;refine zN ?_;by_cases hiY:i=O Z3;subst hiY;rw[D7,Fj,Do]at g;rw[Da]at I;refine Zo ?_;have aa:=xi (k+1) (h:=F) (n:=n+1) (a:=ξ ⟨3*n+2,0,θ⟩) (len:=O X+O Z3) (cap:=O X+O Z3) (l:=D) Z (λ_ e=>by injection e with e;rw[<-e]) (xr Z g M);refine zF _ R5 aa ?_;rintro _ _ _ _⟨rfl,rfl,rfl,rfl,hs⟩;refine my ?_;have⟨t1,t2⟩:=xD B;exact retH _ ⟨ω,(zi ω),ω⟩ ⟨_,⟨ω,Dc n,p,hs,t1⟩,by rw[t2,I],.inl eC⟩;obtain⟨w,W⟩:∃x,Z3[i]?=ξ x:=⟨Z3[i]'Z,CK Z⟩;have ac:=nY.1.get W;obtain⟨P,Z0,a5,hP,hZ⟩:∃P Z0,D=P++Z0/\O P=i/\O Z0=O X:=⟨D.take i,D.drop i,(D1 i D).symm,Ah,by rw[Es];omega⟩;subst a5 hP;rw[Dp]at g;have a6:=J.ext p (Dc n);refine Zh ?_;refine yE (f:=λd:Nat=>CJ .u64 (d:Int)) (j:=O P) R7 (K.ext p (Dc n)) R2 W (λ_=>rfl) R4 λ_=>?_;refine hH ?_;refine rt (O P) (O P+O X) R9 ω ω Z ?_;rw[show 0+O P*1=O P from Z,show (O P)+O X-O P=O Z0 from Z];repeat refine zR ?_
 refine zF _ R5 (li k (n:=n+1) (b:=3*n+2) Z g Z (λd T=>B d (by simp[T])) a6 nX.1 (J.below.off Z) hZ Z ac) ?_;rintro _ h2 _ w2⟨L,cc,rfl,a9,⟨ab,rfl,ad,R⟩,a3,N,a4⟩;try simp only[tH]
 rw[zV (w:=[]) λy hy=>by rw[ab y hy];show 3*n<=3*n+2;omega];obtain⟨m,hm⟩:∃m,O Z3-O P=m+1:=⟨O Z3-O P-1,Z⟩;rw[hm,<-Dp]at R;have Z1:O (P++L)=O P+O X:=by grind
 refine uH (j:=O P+O X) (v:=CJ .u64 (cc:Int)) R8 ω ⟨Z,by rw[zL,CP,Z1,Du];omega⟩ R eC (λ_=>rfl) R3 (λ_=>rfl) ω λ_=>?_;rw[yk,<-Z1,cI];refine Zb ?_;refine goOn (O P+1,P++(L++[cc])) Z P5 ⟨ω,ω,λb hb=>(zm Z).trans ((ad b Z Z).trans (p b hb)),?_,?_,?_,by show O P+1<=_;omega,?_⟩;refine(zg _ _ _).trans ?_;simp only;rw[show (O Z3)-(O P+1)=m from Z,Dp P L];simp only;rw[CP,CP,N,hZ,C8];omega;exact Kb.append (λd T=>B d (by simp[T])) (Gl a3 a9);simp only;rw[Zz N a4,I,zQ W,DY]
end
theorem ZA{P V Z4 W z v w c s c':Nat}(a:V+W*w=Z4+c*P)(b:s+v*w+c=z+18446744073709551616*c'):V+P*s+(W+P*v)*w=Z4+P*z+c'*(P*18446744073709551616):=by grind
theorem ZB(k:Nat){h:HF}{n b cZ cX l:Nat}{C:Option Addr}{P Z0 S X:List Nat}{e:TypeId}{w:Nat}(hb:b<3*n)(V:h b=ξ (.row (u64s (P++(Z0++S))) e))(ad:O Z0<=cZ)(hZ:Kb Z0)(N:Sl h n 1 (Y C l cX) (u64s X))(hX:Kb X)(ho:Kw b (Y C l cX))(hl:O Z0=O X)(aa:O X<1000000000)(m:w<18446744073709551616):
  CF (Ka (k+2)) 186 [Y (ξ ⟨b,O P,θ⟩) (O Z0) cZ,Y C l cX,CJ .u64 (w:Int)] h n λv o n' W=>∃(L:List Nat) (c:Nat),v=CJ .u64 (c:Int)/\c<18446744073709551616/\RowW n h b e o n' W (P++(L++S))/\Kb L/\O L=O Z0/\wv L+wv X*w=wv Z0+c*18446744073709551616^O Z0:=by
 refine Lu R4 ?_;have a3:=N.lenW;subst a3;refine mL ?_;refine Zb ?_;refine ye (α:=List Nat×Nat) (λz=>[(0,Y (ξ ⟨b,O P,θ⟩) (O Z0) cZ),(2,CJ .u64 (w:Int)),(7,CJ .u64 (z.2:Int)),(14,Y C (O X) cX),(15,CJ .i64 (O X:Int)),(16,CJ .i64 (O z.1:Int))])
  (λz o n' W=>n=n'/\(∀x∈W,x=b)/\ExtT n b h o/\(W=[]->o=h)/\o b=ξ (.row (u64s (P++((z.1++Z0.drop (O z.1))++S))) e)/\O z.1<=O X/\Kb z.1/\z.2<18446744073709551616/\wv z.1+wv (X.take (O z.1))*w=wv (Z0.take (O z.1))+z.2*18446744073709551616^O z.1) (λz=>O X-O z.1)
  ([],0) P6 ⟨ω,λx A=>BO A CT,ExtT.refl _ _ _,λ_=>rfl,V,CH,HT,tu,pq⟩ AN ?_
 rintro⟨D,c⟩ t h1 _ W ⟨rfl,hW,B,a8,g,hD,q,hc,H⟩;simp only at g hD q hc H;refine zN ?_;by_cases hDX:O D=O X;refine Ze ?_;have a0:Z0.drop (O D)=[]:=by grind
 rw[a0,Do]at g;rw[hDX,Da,<-hl,Da]at H;have Z4:∃(L:List Nat) (c':Nat),CJ .u64 (c:Int)=CJ .u64 (c':Int)/\c'<18446744073709551616/\RowW n h b e h1 n W (P++(L++S))/\Kb L/\O L=O Z0/\wv L+wv X*w=wv Z0+c'*18446744073709551616^O Z0:=⟨D,c,ω,hc,⟨hW,ω,B,g⟩,q,Z,H⟩;refine⟨ω,[CJ .u64 (c:Int)],ω,Z4,λm=>?_⟩;have m:W=[]:=m;subst m;rw[a8 rfl]at Z4;exact Z4;obtain⟨v,hv⟩:∃x,X[O D]?=ξ x:=⟨X[O D]'Z,CK Z⟩;obtain⟨z,J⟩:∃x,Z0[O D]?=ξ x:=⟨Z0[O D]'Z,CK Z⟩;have R:=hX.get hv;have a9:=hZ.get J;have s:(D++Z0.drop (O D)).length=O Z0:=by grind
 have Z1:=dP (cap:=cZ) hb g Z;rw[s]at Z1;have a7:=qW R m;refine Zh ?_;refine yE (f:=λd:Nat=>CJ .u64 (d:Int)) (j:=O D) R7 (N.extW B ho) R2 hv (λ_=>rfl) R4 λ_=>?_;refine hH ?_;refine yi _ R5 (pC k h1 n R m) ?_;rintro _ rfl;obtain⟨p,hp⟩:∃p,p=v*w:=⟨_,ω⟩;rw[<-hp]at a7⊢;obtain⟨I,a2⟩:∃x,x=p/18446744073709551616:=⟨_,ω⟩;obtain⟨lo,a4⟩:∃x,x=p%18446744073709551616:=⟨_,ω⟩;rw[<-a2,<-a4];refine hH ?_;refine vt (x:=lo) (y:=c) (c:=0) R5 zd ?_;obtain⟨K,a5⟩:∃x,x=(lo+c+0)%18446744073709551616:=⟨_,ω⟩;obtain⟨F,a1⟩:∃x,x=(lo+c+0)/18446744073709551616:=⟨_,ω⟩;rw[<-a5,<-a1];refine Zk ?_;refine yT (a:=I) (b:=F) R6 Z<|hH ?_;refine yE (f:=λd:Nat=>CJ .u64 (d:Int)) (j:=O D) R7 Z1 R2 (uy J) (λ_=>rfl) R4 λ_=>?_;repeat refine zR ?_
 refine rn (x:=z) (y:=K) (c:=0) R5 zd ?_;obtain⟨M,u⟩:∃x,x=(z+18446744073709551616-K-0)%18446744073709551616:=⟨_,ω⟩;obtain⟨G,i⟩:∃x,x=(if K+0<=z then 0 else 1):=⟨_,ω⟩;rw[<-u,<-i];have Z3:K<18446744073709551616:=Z;have a6:=PN (c:=0) a9 Z3 zd;rw[<-u,<-i]at a6;have ab:G<=1:=by rw[i];split<;>decide
 have ac:M<18446744073709551616:=Z;repeat refine zR ?_
 refine yG (j:=O D) (off:=O P) (v:=CJ .u64 (M:Int)) R8 ω ⟨Z,Bi⟩ g hb (λ_=>rfl) R3 (λ_=>rfl) ω λ_=>?_;rw[yk,kg _ J];refine Zk ?_;refine yT (a:=I+F) (b:=G) R6 Z<|Zb ?_;refine goOn (D++[M],I+F+G) aD ⟨ω,ω,ω,ω,ω,eS,CE⟩ ⟨ω,λx A=>by
  obtain rfl|A:=Dk.1 A;rfl;exact hW x A,λy hy T=>(zm T).trans (B y hy T),λh=>Ag,zg _ _ _,by show(D++[M]).length<=_;rw[CP,C8];omega,Gl q Z,by show I+F+G<_;omega,?_⟩
 simp only;rw[CP,C8,yO,zQ hv,zQ J,Db];exact ZA H (by rw[<-hp];omega)
def ZC{B v1 v2 vr a w2 wr P:Nat}(y:2<=B)(j:B<=2*v1)(b:v2<B)(l:vr<P)(m:w2<B):B-1<=(((v1*B+a)*B+w2)*P+wr)/((v1*B+v2)*P+vr)+1:=by
 have g:0<P:=Z;have i:0<(v1*B+v2)*P+vr:=(by have:1*1<=v1*B:=Df Z Z;have:1*1<=(v1*B+v2)*P:=Df Z g;omega);obtain⟨D,rfl⟩:∃D,B=D+2:=⟨B-2,Z⟩;have o:D<=(((v1*(D+2)+a)*(D+2)+w2)*P+wr)/((v1*(D+2)+v2)*P+vr):=by
  rw[FA i];have e:(v1*(D+2)+v2)*P+vr<=(v1*(D+2)+v2+1)*P:=by rw[Dv _ 1];omega
  refine C5 (C9 D e) ?_;rw[<-Dm];have f:D*(v1*(D+2)+v2+1)<=v1*(D+2)*(D+2):=by
   have c:D*(v1*(D+2)+v2+1)=D*(v1*(D+2))+D*(v2+1):=by rw[GA,DY]
   have d:v1*(D+2)*(D+2)=v1*(D+2)*D+v1*(D+2)*2:=DY _ _ _;have p:D*(v2+1)<=D*(D+2):=C9 _ b;have q:(D+2)*(D+2)<=2*v1*(D+2):=CS _ j;have s:D*(D+2)<=(D+2)*(D+2):=CS _ Z;have u:2*v1*(D+2)=v1*(D+2)*2:=by rw[Dm,C3 2]
   rw[c,d,C3 D (v1*(D+2))];omega
  have v:=CS P f;have w:v1*(D+2)*(D+2)*P<=((v1*(D+2)+a)*(D+2)+w2)*P:=CS P (by rw[Dv];omega);omega
 omega
structure WinD (W V:List Nat)(m:Nat):Prop where
 wl:O W=m+3
 vl:O V=m+2
 wd:Kb W
 vd:Kb V
 top:∀x,V[m+1]?=ξ x->9223372036854775808<=x
 lt:wv W<18446744073709551616*wv V
def eO(k:Nat){h:HF}{n:Nat}{a1 a2:Option Addr}{l1 Z4 l2 c2 m:Nat}{W V:List Nat}(Z0:Sl h n 1 (Y a1 l1 Z4) (u64s W))(Z3:Sl h n 1 (Y a2 l2 c2) (u64s V))(hD:WinD W V m)(hb:m<1000000000):
  VF (Ka (k+4)) 185 [Y a1 l1 Z4,Y a2 l2 c2] h n λv=>∃q:Nat,v=CJ .u64 (q:Int)/\q<18446744073709551616/\wv W/wv V<=q/\q<=wv W/wv V+1:=by
 refine zO R4 ?_;have e1:=Z0.lenW;have e2:=Z3.lenW;subst e1 e2;have⟨wl,vl,wd,vd,a8,C⟩:=hD;rw[wl]at Z0⊢;rw[vl]at Z3⊢;obtain⟨c,F⟩:∃x,V[m+1]?=ξ x:=⟨V[m+1]'Z,CK Z⟩;obtain⟨g,R⟩:∃x,V[m]?=ξ x:=⟨V[m]'Z,CK Z⟩;obtain⟨A,H⟩:∃x,W[m+2]?=ξ x:=⟨W[m+2]'Z,CK Z⟩;obtain⟨w1,S⟩:∃x,W[m+1]?=ξ x:=⟨W[m+1]'Z,CK Z⟩;obtain⟨i,I⟩:∃x,W[m]?=ξ x:=⟨W[m]'Z,CK Z⟩;have hn:=a8 c F;have a7:=vd.get F;have u:=vd.get R;have ao:=wd.get H;have ai:=wd.get S;have T:=wd.get I;have eW:wv W=((A*18446744073709551616+w1)*18446744073709551616+i)*18446744073709551616^m+wv (W.take m):=Sf wl H S I;have eV:wv V=(c*18446744073709551616+g)*18446744073709551616^m+wv (V.take m):=PJ vl F R;have a6:wv (W.take m)<18446744073709551616^m:=(by have:=wW (wd.take m);exact BM);have G:wv (V.take m)<18446744073709551616^m:=(by have:=wW (vd.take m);exact BM);rw[eW,eV]at C⊢;generalize 18446744073709551616^m=P at*;generalize wv (W.take m)=wr at*;generalize wv (V.take m)=vr at*;have ah:=Se G u C;obtain⟨e,ht⟩:∃t,t=A*18446744073709551616+w1:=⟨_,ω⟩;rw[<-ht]at C ah⊢;have al:((e*18446744073709551616+i)*P+wr)/((c*18446744073709551616+g)*P+vr)<18446744073709551616:=(by rw[Em Z];exact C);refine Zp ?_;rw[wb rfl];repeat refine zR ?_
 refine yE (f:=λd:Nat=>CJ .u64 (d:Int)) (j:=m+1) R7 Z3 ⟨ω,Z⟩ F (λ_=>rfl) R4 λ_=>?_;repeat refine zR ?_
 refine yE (f:=λd:Nat=>CJ .u64 (d:Int)) (j:=m) R7 Z3 ⟨ω,Z⟩ R (λ_=>rfl) R4 λ_=>?_;refine hH ?_;refine yE (f:=λd:Nat=>CJ .u64 (d:Int)) (j:=m+2) R7 Z0 ⟨ω,Z⟩ H (λ_=>rfl) R4 λ_=>?_;by_cases hfull:c<=A;refine Zg ?_;have h0:A=c:=Z;subst h0;refine retF _ ω (zi ω) R2 ⟨18446744073709551615,ω,by decide,Z,?_⟩;rw[ht];exact ZC (B:=18446744073709551616) zd Z u G T;refine iU ?_;refine zl ?_;obtain⟨b1,o1,x1,a9,rfl,am,J,o,aj,ak,L⟩:=Z0.inv Z;have l:∀{j x:Nat},W[j]?=ξ x->a9[o1+j]?=ξ (CJ .u64 (x:Int)):=λhj=>qG L (by rw[u64s,List.getElem?_map,hj];rfl);repeat refine zE ?_
 refine bO R8 Z<|yd R6 (wf ω J (v:=CJ .u64 (A:Int)) ⟨o,(by rw[<-l H];congr 1;omega)⟩) R2 ?_;repeat refine zE ?_
 refine bO R8 Z<|yd R6 (wf ω J (v:=CJ .u64 (w1:Int)) ⟨o,(by rw[<-l S];congr 1;omega)⟩) R2 ?_;repeat refine zE ?_
 refine ND _ R7 (pH k h n (show A<c from Z) ai a7) ?_;rintro _ rfl;rw[<-ht];repeat refine zE ?_
 refine zN ?_;have Z1:=kB (B:=18446744073709551616) (v1:=c) (v2:=g) (vr:=vr) (top:=e) (w2:=i) (wr:=wr) (P:=P) Z T a6;have ab:e/c*c+e%c=e:=by rw[C3];exact DS _ _
 have aa:e/c<18446744073709551616:=(by rw[Em Z,ht];have:(A+1)*18446744073709551616<=c*18446744073709551616:=CS _ Z;rw[C3 18446744073709551616];omega);refine ye (α:=Nat×Nat) (λz=>[(0,Y (ξ ⟨b1,o1,θ⟩) (m+3) Z4),(5,CJ .i64 ((m+2:Nat):Int)),(6,CJ .u64 (c:Int)),(7,CJ .u64 (g:Int)),(8,CJ .u64 (z.1:Int)),(9,CJ .u64 (z.2:Int))])
  (λz K n' w=>h=K/\n=n'/\w=[]/\z.1<18446744073709551616/\z.2<18446744073709551616/\z.1*c+z.2=e/\((e*18446744073709551616+i)*P+wr)/((c*18446744073709551616+g)*P+vr)<=z.1) (λz=>2-z.2/9223372036854775808)
  (e/c,e%c) P6 ⟨ω,ω,ω,aa,Jp (DJ _ Z) a7,ab,Z1⟩ (by show 2-e%c/9223372036854775808<LL;unfold LL;omega) ?_
 rintro⟨q,r⟩ t _ _ _ ⟨rfl,rfl,rfl,M,hr,D,a5⟩;simp only at M hr D a5;refine Zi ?_;refine yi _ R5 (pC (k+2) h n M u) ?_;rintro _ rfl;obtain⟨p,hp⟩:∃p,p=q*g:=⟨_,ω⟩;have ag:=qW M u;rw[<-hp]at ag⊢;have a3:∀t':TF,t' 4=CJ .u64 (q:Int)->p<=r*18446744073709551616+i->∃y:Nat,CJ .u64 (q:Int)=CJ .u64 (y:Int)/\y<18446744073709551616/\((e*18446744073709551616+i)*P+wr)/((c*18446744073709551616+g)*P+vr)<=y/\y<=((e*18446744073709551616+i)*P+wr)/((c*18446744073709551616+g)*P+vr)+1:=λ_ _ hc=>
  ⟨q,ω,M,a5,PI Z zd G D (by rw[<-hp];exact hc) M⟩
 obtain⟨s,ad⟩:∃x,x=p/18446744073709551616:=⟨_,ω⟩;obtain⟨lo,ae⟩:∃x,x=p%18446744073709551616:=⟨_,ω⟩;rw[<-ad,<-ae];have af:p=s*18446744073709551616+lo:=Z;repeat refine zR ?_
 simp only[yu,xg,zK,yY];by_cases L:s<r;refine mL ?_;rw[ze rfl];refine mL ?_;exact retF _ ω (zi ω) R2 (a3 (λ_=>CJ .u64 (q:Int)) ω (by
  have:(s+1)*18446744073709551616<=r*18446744073709551616:=CS _ L;omega))
 by_cases a4:s=r/\lo<=i;obtain⟨rfl,a4⟩:=a4;refine kj ?_;refine LC R8 Z<|zT R6 J (v:=CJ .u64 (i:Int)) ⟨o,(by rw[<-l I];congr 1;omega)⟩ ?_;refine Zg ?_;exact retF _ ω (zi ω) R2 (a3 (λ_=>CJ .u64 (q:Int)) ω Z);have ac:r*18446744073709551616+i<q*g:=(by rw[<-hp,af];obtain K|K:=EH r s;have:(r+1)*18446744073709551616<=s*18446744073709551616:=CS _ K;omega;have:s=r:=Z;subst this;omega);have a0:=ek (vr:=vr) T a6 D ac;have an:1<=q:=Dh CH a0;refine yj (α:=Unit) (λ_=>[(0,Y (ξ ⟨b1,o1,θ⟩) (m+3) Z4),(5,CJ .i64 ((m+2:Nat):Int)),(6,CJ .u64 (c:Int)),(7,CJ .u64 (g:Int)),(8,CJ .u64 (q:Int)),(9,CJ .u64 (r:Int)),(66,U χ)]) (λ_ K n' w=>h=K/\n=n'/\w=[]) ?_ ?_;by_cases hc3:s=r;subst hc3;refine kj ?_;refine LC R8 Z<|zT R6 J (v:=CJ .u64 (i:Int)) ⟨o,(by rw[<-l I];congr 1;omega)⟩ ?_;refine my ?_;exact zA () P7 R3;refine mL ?_;exact zA () P7 R3;rintro _ t _ _ _⟨rfl,rfl,rfl⟩;rw[za rfl];refine jQ ?_;refine ym (a:=q) (b:=1) R6 Z<|Zk ?_;refine uo (a:=r) (b:=c) R6<|my ?_;have N:(q-1)*c+(r+c)=e:=(by obtain⟨y,rfl⟩:∃y,q=y+1:=⟨q-1,Z⟩;rw[Dv]at D;rw[FV];omega);by_cases hov:r+c<18446744073709551616;rw[C7 hov];refine iU ?_;exact goOn (q-1,r+c) (by show 2-(r+c)/9223372036854775808<2-r/9223372036854775808;omega) P6 ⟨ω,ω,ω,by show q-1<_;omega,hov,N,by show _<=q-1;omega⟩;rw[show(r+c)%18446744073709551616=r+c-18446744073709551616 from Z];refine Zg ?_;refine retF _ ω (zi ω) R2 ⟨q-1,ω,Z,Z,PI Z zd G N ?_ Z⟩;have h1:=qW (v:=q-1) (w:=g) Z u;have h2:18446744073709551616*18446744073709551616<=(r+c)*18446744073709551616:=CS _ Z;omega
def fa{s:Nat}(a:s<=64):(18446744073709551616:Nat)=2^(64-s)*2^s:=by rw[<-D4,show 64-s+s=64 from Z]
def fE{w s:Nat}(a:s<=64):w*2^s%18446744073709551616=w%2^(64-s)*2^s:=by rw[fa a,G8]
def ZD{w s:Nat}(b:s<=64)(a:c<2^s):c|||w*2^s%18446744073709551616=c+w*2^s%18446744073709551616:=by rw[fE b,ae3,jZ a,Ee]
def SA{w s:Nat}(a:s<=64)(e:c<2^s):c+w*2^s%18446744073709551616<18446744073709551616:=by have b:w%2^(64-s)+1<=2^(64-s):=DJ _ (Dw zd);have d:=CS (2^s) b;rw[Dv,EV,<-fa a]at d;rw[fE a];omega
def SB{w s:Nat}(a:s<=64)(b:w<18446744073709551616):w/2^(64-s)<2^s:=by rw[Em (Dw zd),C3,<-fa a];exact b
theorem jV(n:Nat):2^n=18446744073709551616^(n/64)*2^(n%64):=by grind [HJ,D4,DS]
theorem ZE{w s S:Nat}(a:V+c*P=Z4*S)(d:w*S=c'*18446744073709551616+lo)(b:s=c+lo):V+P*s+c'*(P*18446744073709551616)=(Z4+P*w)*S:=by grind
def SC(m:Nat):wv (CO m 0)=0:=pc _ _
theorem tL(k:Nat){a:Option Addr}(I:Sl h n 1 (Y a l c) (u64s X))(Z3:NW X)(hb:O X<100000000/\m<6400000000):
  CF (Ka (k+2)) 178 [Y a l c,CJ .u64 (m:Int)] h n λv G W w=>∃L,ResW n h v G W w L/\wv L=wv X*2^m/\(xC n v\/v=Y a l c):=by
 refine zw R4 ?_;have e1:=I.lenW;subst e1;refine mL ?_;by_cases hX0:O X=0;have S:=CY.1 hX0;refine Zg ?_;exact retH _ ⟨ω,(zi ω),ω⟩ ⟨X,⟨ω,CG,FH _ _,I,Z3⟩,by rw[S,show wv []=0 from ω,D2],.inr ω⟩;by_cases hm0:m=0;refine Zg ?_;exact retH _ ⟨ω,(zi ω),ω⟩ ⟨X,⟨ω,CG,FH _ _,I,Z3⟩,by rw[hm0,EG,DL],.inr ω⟩;refine iU ?_;rw[jV m];obtain⟨g,Z1⟩:∃x,x=m/64:=⟨_,ω⟩;obtain⟨s,hs⟩:∃x,x=m%64:=⟨_,ω⟩;rw[<-Z1,<-hs];have o:s<=64:=Z;refine zM ?_;refine xN (a:=m) (b:=64) R6 Z ?_;rw[<-Z1];refine wm (ik:=.i64) (a:=(g:Int)) R6 A2 ?_;refine zM ?_;refine vO (a:=m) (b:=64) R6 Z ?_;rw[<-hs];refine hH ?_;refine vB (len:=O X+g+1) (cap:=O X+g+1) R9 Z ?_;rw[show zn (CJ .u64 0)=[CJ .u64 0]from ω,xO];generalize hh:upd h (3*n+2) _=A;have i:∃e,A (3*n+2)=ξ (.row (u64s (CO g 0++([]++0::CO (O X) 0))) e):=⟨_,by rw[<-hh,zg,DP,<-GI,H0,show g+(O X+1)=O X+g+1 from Z]⟩;have⟨e,i⟩:=i;have q:J9 n h A:=by grind [Fe]
 refine Zb ?_;refine ye (α:=List Nat×Nat) (λz=>[(5,CJ .i64 (g:Int)),(6,CJ .u64 (s:Int)),(7,Y (ξ ⟨3*n+2,0,θ⟩) (O X+g+1) (O X+g+1)),(29,Y a (O X) c),(30,CJ .i64 (O X:Int)),(31,CJ .i64 (O z.1:Int))])
  (λz G W w=>W=n+1/\w=[]/\J9 n h G/\G (3*n+2)=ξ (.row (u64s (CO g 0++(z.1++z.2::CO (O X-O z.1) 0))) e)/\O z.1<=O X/\Kb z.1/\z.2<2^s/\wv z.1+z.2*18446744073709551616^O z.1=wv (X.take (O z.1))*2^s) (λz=>O X-O z.1)
  ([],0) P6 ⟨ω,ω,q,i,CH,HT,Dw zd,pq⟩ AN ?_
 rintro⟨D,p⟩ t A _ _ ⟨rfl,rfl,q,i,hD,B,y,H⟩;simp only at i hD B y H;have C:p<18446744073709551616:=CZ y (C5 (CW zd o) zd);refine zN ?_;by_cases hDX:O D=O X;rw[hDX,D7,Fj]at i;rw[hDX,Da]at H;refine Zo ?_;have a3:=xi k (h:=A) (n:=n+1) (a:=ξ ⟨3*n+2,0,θ⟩) (len:=O X+g+1) (cap:=O X+g+1) (l:=CO g 0++(D++[p])) eU (λ_ e=>by injection e with e;rw[<-e]) (xr Z i eU);refine zF _ R5 a3 ?_;rintro _ _ _ _⟨rfl,rfl,rfl,rfl,a2⟩;refine my ?_;have⟨t1,t2⟩:=xD (L:=CO g 0++(D++[p])) ((ao3 g).append (Gl B C));refine retH _ ⟨ω,(zi ω),ω⟩ ⟨_,⟨ω,Dc n,q,a2,t1⟩,?_,.inl eC⟩;rw[t2,wZ,SC,Du,Dd,yO,hDX,C3 (18446744073709551616^O X) p,H,Gu];obtain⟨w,T⟩:∃x,X[O D]?=ξ x:=⟨X[O D]'Z,CK Z⟩;have a4:=Z3.1.get T;obtain⟨u,a0⟩:∃m,O X-O D=m+1:=⟨O X-O D-1,Z⟩;rw[a0]at i;have F:O (CO g 0++(D++p::CO (u+1) 0))=O X+g+1:=by simp;omega
 have hZ:=xr (n:=n+1) Z i F;have J:(CO g 0++(D++p::CO (u+1) 0))[O D+g]?=ξ p:=by grind
 have K:∀d,(CO g 0++(D++p::CO (u+1) 0)).set (O D+g) d=CO g 0++(D++d::CO (u+1) 0):=λd=>(by rw[D8 _ _ eF,Du,FV,D8 _ _ CG,D7];rfl);have M:∀d R,(CO g 0++(D++d::CO (u+1) 0)).set (O D+g+1) R=CO g 0++((D++[d])++R::CO u 0):=λd R=>(by rw[D8 _ _ eU,Du,show (O D)+g+1-g=O D+1 from Z,D8 _ _ Z,show (O D)+1-O D=1 from Z,GI];simp);refine Zh ?_;refine yE (f:=λd:Nat=>CJ .u64 (d:Int)) (j:=O D) R7 (I.ext q (Dc n)) R2 T (λ_=>rfl) R4 λ_=>?_;refine hH ?_;refine yE (f:=λd:Nat=>CJ .u64 (d:Int)) (j:=O D+g) R7 hZ ⟨ω,Z⟩ J (λ_=>rfl) R4 λ_=>?_;refine mM ?_;refine xK (a:=w) (s:=s) R6 o<|wG (a:=p) (b:=w*2^s%18446744073709551616) R6 ⟨C,DJ _ zd⟩ ?_;rw[ZD o y];have N:=SA (w:=w) o y;obtain⟨d,Z0⟩:∃d,d=p+w*2^s%18446744073709551616:=⟨_,ω⟩;rw[<-Z0]at N⊢;refine uH (j:=O D+g) (v:=CJ .u64 (d:Int)) R8 Z ⟨Z,by rw[zL,F];omega⟩ i eC (λ_=>rfl) R3 (λ_=>rfl) ω λ_=>?_;rw[yk,K];generalize hh:upd A (3*n+2) _=h2;have a1:h2 (3*n+2)=ξ (.row (u64s (CO g 0++(D++d::CO (u+1) 0))) e):=by rw[<-hh,zg]
 have a5:J9 n h h2:=λb hb=>by rw[<-hh,zm Z,q b hb]
 refine Zi ?_;refine zM ?_;refine zR ?_;refine zR ?_;refine mM ?_;refine ym (a:=64) (b:=s) R6 Z<|yn (a:=w) (s:=64-s) R6 Z ?_;refine uH (j:=O D+g+1) (v:=CJ .u64 ((w/2^(64-s):Nat):Int)) R8 Z ⟨Z,AD⟩ a1 eC (λ_=>rfl) R3 (λ_=>rfl) ω λ_=>?_;rw[yk,M];refine Zb ?_;refine goOn (D++[d],w/2^(64-s)) aD ⟨ω,ω,ω,ω,ω,eS,CE⟩ ⟨ω,ω,λb hb=>(zm Z).trans (a5 b hb),?_,by show(D++[d]).length<=_;rw[CP,C8];omega,Gl B N,SB o a4,?_⟩;refine(zg _ _ _).trans ?_;simp only;rw[show (O X)-O (D++[d])=u from by rw[CP,C8];omega];simp only;rw[CP,C8,yO,zQ T,Db];exact ZE H (jG o) Z0
def Mq(X:List Nat)(j s:Nat):Nat:=((X[j]?).getD 0)%2^s
theorem ZF{x S z a:Nat}(g:V*S+r=Z4+x%S*P)(f:z*S=x-x%S+a*18446744073709551616)(hx:x%S<=x):(V+P*z)*S+r=Z4+P*x+a*(P*18446744073709551616):=by
 have e:(V+P*z)*S=V*S+P*(z*S):=by grind
 obtain⟨y,i⟩:∃y,x=y+x%S:=⟨x-x%S,Z⟩;have b:x-x%S=y:=Z;rw[e,f,b,DY];have d:P*x=P*y+P*(x%S):=by grind
 rw[d,Gu a P,C3 P (x%S)];omega
def ZG{x y s:Nat}(d:s<=64):(x/2^s|||y*2^(64-s)%18446744073709551616)*2^s=x-x%2^s+y%2^s*18446744073709551616\/18446744073709551616<=x:=by
 by_cases hx:x<18446744073709551616;left;have e:x/2^s<2^(64-s):=(by rw[Em (Dw zd),<-fa d];exact hx);have b:64-(64-s)=s:=Z;have a:=fE (w:=y) (s:=64-s) Z;rw[b]at a;rw[a,ae3,jZ e,Dv,Dm,<-fa d,Ee];have:=DS x (2^s);have f:x/2^s*2^s=x-x%2^s:=by rw[C3];omega
 rw[f];right;omega
def ZI(X:List Nat)(j s:Nat):Mq X j s<2^s:=DJ _ (Dw zd)
def SD{s x:Nat}(h:X[j]?=ξ x):Mq X j s=x%2^s:=by unfold Mq;rw[h];rfl
def SE{s:Nat}(h:O X<=j):Mq X j s=0:=by unfold Mq;rw[List.getElem?_eq_none h];exact ab5 _
def ZJ(a:Kb X):wv X/2^m=wv (X.drop (m/64))/2^(m%64):=by rw[jV m,<-Fv];congr 1;obtain h|h:=EH (O X) (m/64);rw[Fa Z,show wv []=0 from ω,EY];exact CZ (wW a) (CW zd Z);have b:wv (X.take (m/64))<18446744073709551616^(m/64):=(by have:=wW (a.take (m/64));rw[DD,DX h]at this;exact this);rw[pu X (m/64) h,Hh _ _ (Dw zd),EY b,Dd]
theorem om(k:Nat){a:Option Addr}(S:Sl h n 1 (Y a l c) (u64s X))(nX:NW X)(hb:O X<100000000/\m<18446744073709551616):
  CF (Ka (k+2)) 183 [Y a l c,CJ .u64 (m:Int)] h n λv p I w=>∃L,ResW n h v p I w L/\wv L=wv X/2^m/\xC n v:=by
 refine zw R4 ?_;have e1:=S.lenW;subst e1;rw[ZJ nX.1];obtain⟨g,C⟩:∃x,x=m/64:=⟨_,ω⟩;obtain⟨s,hs⟩:∃x,x=m%64:=⟨_,ω⟩;have B:s<=64:=Z;rw[<-C,<-hs];refine mL ?_;refine zM ?_;refine xN (a:=m) (b:=64) R6 Z ?_;rw[<-C];refine zM ?_;refine st_I (ik:=.i64) (a:=(O X:Int)) R5<|se (c:=O X) R7 Z ?_;by_cases hbig:O X<=g;refine Zg ?_;exact retH _ ⟨ω,(zi ω),ω⟩ ⟨[],⟨ω,CG,FH _ _,.nil (.inl ω),aa2⟩,by rw[Fa hbig,show wv []=0 from ω,Nat.zero_div],CE⟩;refine Zr ?_;refine xN (a:=m) (b:=64) R6 Z ?_;rw[<-C];refine wm (ik:=.i64) (a:=(g:Int)) R6 A2 ?_;refine zM ?_;refine vO (a:=m) (b:=64) R6 Z ?_;rw[<-hs];refine my ?_;obtain⟨N,hN⟩:∃N,N=O X-g:=⟨_,ω⟩;refine zM ?_;refine st_I (ik:=.i64) (a:=(O X:Int)) R5<|zM ?_;refine qO (a:=(O X:Int)) (b:=(g:Int)) R6 Z ?_;rw[show(O X:Int)-(g:Int)=(N:Int)from Z];refine vB (len:=N) (cap:=N) R9 Z ?_;rw[show zn (CJ .u64 0)=[CJ .u64 0]from ω,xO];generalize hh:upd h (3*n+2) _=q;have i:∃e,q (3*n+2)=ξ (.row (u64s ([]++CO N 0)) e):=⟨_,kF⟩;have⟨e,i⟩:=i;have o:J9 n h q:=by grind [Fe]
 have Z1:O (X.drop g)=N:=by grind
 obtain⟨Z3,T⟩:∃Z3,Z3=X.drop g:=⟨_,ω⟩;rw[<-T]at Z1⊢;have a1:∀j,Z3[j]?=X[j+g]?:=λj=>by rw[T,D6,Ee]
 have aa:Kb Z3:=by rw[T];exact nX.1.drop g
 refine Zb ?_;refine ye (α:=List Nat) (λD=>[(0,Y a (O X) c),(5,CJ .i64 (g:Int)),(6,CJ .u64 (s:Int)),(7,Y (ξ ⟨3*n+2,0,θ⟩) N N),(26,CJ .i64 (N:Int)),(27,CJ .i64 (O D:Int))])
  (λD p I w=>I=n+1/\w=[]/\J9 n h p/\p (3*n+2)=ξ (.row (u64s (D++CO (N-O D) 0)) e)/\O D<=N/\Kb D/\wv D*2^s+Mq Z3 0 s=wv (Z3.take (O D))+Mq Z3 (O D) s*18446744073709551616^O D) (λD=>N-O D)
  [] P6 ⟨ω,ω,o,i,CH,HT,pq⟩ (by show N-0<LL;unfold LL;omega) ?_
 rintro D t q _ _⟨rfl,rfl,o,i,hD,K,J⟩;refine zN ?_;by_cases hDN:O D=N;rw[hDN,D7,Fj,Do]at i;rw[hDN,SE (X:=Z3) (j:=N) Z,D2,DG,<-Z1,Da]at J;refine Zo ?_;have a5:=xi k (h:=q) (n:=n+1) (a:=ξ ⟨3*n+2,0,θ⟩) (len:=N) (cap:=N) (l:=D) Z (λ_ e=>by injection e with e;rw[<-e]) (xr Z i hDN);refine zF _ R5 a5 ?_;rintro _ _ _ _⟨rfl,rfl,rfl,rfl,a4⟩;refine my ?_;have⟨t1,t2⟩:=xD K;refine retH _ ⟨ω,(zi ω),ω⟩ ⟨_,⟨ω,Dc n,o,a4,t1⟩,?_,eC⟩;rw[t2,<-J,Ee,G9 _ _ (Dw zd),EY (ZI _ _ _),Dd];obtain⟨x,Z0⟩:∃x,X[O D+g]?=ξ x:=⟨X[O D+g]'Z,CK Z⟩;have a7:=nX.1.get Z0;have R:Z3[O D]?=ξ x:=by rw[a1];exact Z0
 obtain⟨H,a2⟩:∃m,N-O D=m+1:=⟨N-O D-1,Z⟩;rw[a2]at i;have M:=S.ext o (Dc n);have G:x/2^s<18446744073709551616:=Dh (Ef _ _) a7;refine Zg ?_;repeat refine zR ?_
 refine yE (f:=λd:Nat=>CJ .u64 (d:Int)) (j:=O D+g) R7 M ⟨ω,Z⟩ Z0 (λ_=>rfl) R4 λ_=>?_;refine zM ?_;refine yn (a:=x) (s:=s) R6 B ?_;refine uH (j:=O D) (v:=CJ .u64 ((x/2^s:Nat):Int)) R8 ω ⟨Z,by rw[zL];simp⟩ i eC (λ_=>rfl) R3 (λ_=>rfl) ω λ_=>?_;rw[yk,cI];generalize hh:upd q (3*n+2) _=h2;have A:h2 (3*n+2)=ξ (.row (u64s ((D++[x/2^s])++CO H 0)) e):=by rw[<-hh,zg]
 have F:J9 n h h2:=λb hb=>by rw[<-hh,zm Z,o b hb]
 have a0:=S.ext F (Dc n);have u:O ((D++[x/2^s])++CO H 0)=N:=by simp;omega
 have W:((D++[x/2^s])++CO H 0)[O D]?=ξ (x/2^s):=by grind
 refine kj ?_;simp only[yu,xg,zK,yY];refine Sn (α:=Nat) (λ_=>[(0,Y a (O X) c),(5,CJ .i64 (g:Int)),(6,CJ .u64 (s:Int)),(7,Y (ξ ⟨3*n+2,0,θ⟩) N N),(26,CJ .i64 (N:Int)),(27,CJ .i64 (O D:Int))])
  (λz p I w=>I=n+1/\w=[]/\J9 n h p/\p (3*n+2)=ξ (.row (u64s ((D++[z])++CO H 0)) e)/\z<18446744073709551616/\z*2^s=x-x%2^s+Mq Z3 (O D+1) s*18446744073709551616) ?_ ?_
 by_cases hlast:O D+g+1<O X;obtain⟨y,hy⟩:∃x,X[O D+g+1]?=ξ x:=⟨X[O D+g+1]'Z,CK Z⟩;have a8:Z3[O D+1]?=ξ y:=by grind
 rw[ze gN];rw[Sj rfl];repeat refine zR ?_
 refine yE (f:=λd:Nat=>CJ .u64 (d:Int)) (j:=O D) R7 (xr (n:=n+1) Z A u) R2 W (λ_=>rfl) R4 λ_=>?_;repeat refine zR ?_
 refine yE (f:=λd:Nat=>CJ .u64 (d:Int)) (j:=O D+g+1) R7 a0 ⟨ω,Z⟩ hy (λ_=>rfl) R4 λ_=>?_;refine zM ?_;refine ym (a:=64) (b:=s) R6 Z<|xK (a:=y) (s:=64-s) R6 Z<|wG (a:=x/2^s) (b:=y*2^(64-s)%18446744073709551616) R6 ⟨G,DJ _ zd⟩ ?_;refine uH (j:=O D) (v:=CJ .u64 ((x/2^s|||y*2^(64-s)%18446744073709551616:Nat):Int)) R8 ω ⟨Z,by rw[zL,u];omega⟩ A eC (λ_=>rfl) R3 (λ_=>rfl) ω λ_=>?_;rw[yk,Dp,D8 _ _ CG,D7];refine zN ?_;refine zA (x/2^s|||y*2^(64-s)%18446744073709551616) P6 ⟨ω,ω,λb hb=>(zm Z).trans (F b hb),(zg _ _ _).trans (by rw[Dp];rfl),Nat.or_lt_two_pow (n:=64) G (DJ _ zd),?_⟩;rw[SD a8];exact(ZG B).resolve_right Z;rw[za gH];refine zN ?_;refine zA (x/2^s) P6 ⟨ω,ω,F,A,G,?_⟩;rw[SE Z,D2,DG];have:=DS x (2^s);rw[C3]at this;omega;rintro z t h3 _ _⟨rfl,rfl,a6,a3,a9,hz⟩;refine mL ?_;refine goOn (D++[z]) aD ⟨ω,ω,ω,ω,ω,eS,CE⟩ ⟨ω,ω,a6,?_,Bp,Gl K a9,?_⟩;refine a3.trans ?_;rw[show N-O (D++[z])=H from by rw[CP,C8];omega];rw[CP,C8,yO,zQ R,Db];rw[SD R]at J;exact ZF J hz (Nat.mod_le _ _)
def ZK{Z3 V:List Nat}{a s:Nat}(F:O Z3=m+2)(B:NW Z3)(y:Z3[m+1]?=ξ a)(q:9223372036854775808<=a*2^s)(i:a*2^s<18446744073709551616)(Z1:s<64)(e:NW V)(j:wv V=wv Z3*2^s):
  (O V)=m+2/\(∀x,V[m+1]?=ξ x->9223372036854775808<=x)/\wv V<18446744073709551616^(m+2)/\18446744073709551616^(m+1)*9223372036854775808<=wv V:=by
 have g:wv Z3=wv (Z3.take (m+1))+18446744073709551616^(m+1)*a:=(by rw[<-zQ y,show m+1+1=O Z3 from Z,Da]);have I:wv (Z3.take (m+1))<18446744073709551616^(m+1):=(by have:=wW (B.1.take (m+1));exact BM);have o:(a+1)*2^s<=18446744073709551616:=(by rw[fa (s:=s) Z]at i⊢;exact CS _ (Nat.lt_of_mul_lt_mul_right i));rw[Db _ (m+1)];generalize hP:18446744073709551616^(m+1)=P at*;have D:0<P:=Z;have f:wv V<P*18446744073709551616:=by
  rw[j,g];have J:(wv (Z3.take (m+1))+P*a)*2^s<(P*(a+1))*2^s:=(by refine Ez ?_ (Dw zd);rw[DY,DL];omega);have K:P*(a+1)*2^s<=P*18446744073709551616:=by rw[Dm];exact C9 _ o
  omega
 have p:P*9223372036854775808<=wv V:=(by rw[j,g,Dv,Dm];have:=C9 P q;omega);have H:O V<=m+2:=e.len_le (by rw[Db _ (m+1),hP];exact f);have G:m+2<=O V:=(by obtain l|l:=EH (O V) (m+2);have M:=wW e.1;have u:18446744073709551616^O V<=18446744073709551616^(m+1):=CW zd Z;rw[hP]at u;omega;exact l);refine⟨Z,λx w=>?_,f,p⟩;have L:wv V=wv (V.take (m+1))+P*x:=(by rw[<-hP,<-zQ w,show m+1+1=O V from Z,Da]);have v:wv (V.take (m+1))<P:=(by have:=wW (e.1.take (m+1));rw[DD,DX Z,hP]at this;exact this);obtain b|b:=EH x 9223372036854775808;have:=C9 P b;rw[Jq]at this;omega;exact b
theorem ZL{P S V:List Nat}(f:O Z0=N)(j:Kb Z0)(p:wv V<18446744073709551616^N)(h:wv ((P++(Z0++top::S)).drop (O P+1))<wv V)(o:1<=N):
  wv S=0/\wv (Z0++[top])<18446744073709551616*wv V:=by
 have e:(P++(Z0++top::S)).drop (O P+1)=(Z0++top::S).drop 1:=by simp_all
 rw[e]at h;cases Z0 with
 |nil=>simp at f;omega
 |cons z Z0=>
  rw[List.cons_append,List.drop_succ_cons,DH]at h;rw[wZ,show wv (top::S)=top+18446744073709551616*wv S from rfl]at h;have g:O Z0+1=N:=by simpa using f
  have b:wv S=0:=(by obtain a|a:=FE (wv S);exact a;have i:18446744073709551616^O Z0*(18446744073709551616*1)<=18446744073709551616^O Z0*(18446744073709551616*wv S):=C9 _ (C9 _ a);rw[DL,<-Db,show Z0.length.succ=N from g]at i;rw[DY]at h;omega);refine⟨b,?_⟩;have l:wv (Z0++[top])<wv V:=(by rw[yO];rw[b,Ey,DG]at h;exact h);have q:=j z eF;show z+18446744073709551616*wv (Z0++[top])<_;omega
def ZM(P Z0 S:List Nat)(top:Nat):wv (P++(Z0++top::S))=wv P+18446744073709551616^O P*(wv (Z0++[top])+18446744073709551616^(O Z0+1)*wv S):=by rw[show Z0++top::S=(Z0++[top])++S from by simp,wZ,wZ,CP,C8]
theorem ZN{P S a V Q:List Nat}{b q e:Nat}(i:O a=O Z0)(g:wv (a++[b])+wv V*q=wv (Z0++[top]))(f:e=wv (P++(Z0++top::S))+wv V*wv Q*18446744073709551616^(O P+1)):
  e=wv (P++(a++b::S))+wv V*wv (q::Q)*18446744073709551616^O P:=by
 rw[ZM]at f⊢;rw[f,i,<-g,Db _ (O P),show wv (q::Q)=q+18446744073709551616*wv Q from rfl];generalize 18446744073709551616^O P=A;generalize 18446744073709551616^(O Z0+1)*wv S=T;generalize wv (a++[b])=Z4;generalize wv V=v;generalize wv Q=w;rw[DY v,Dv,DY A,DY A,DY A];have j:v*(18446744073709551616*w)*A=v*w*(A*18446744073709551616):=by grind
 have l:A*(v*q)=v*q*A:=C3 _ _;omega
theorem ZO{a V:List Nat}(b:O a=N)(F:O Z0=N)(g:Kb a)(j:0<wv V)(B:wv a+wv V*d=wv Z0+c*18446744073709551616^N)(s:wv (Z0++[top])/wv V<=d)(p:d<=wv (Z0++[top])/wv V+1):
  (c<=top->d=wv (Z0++[top])/wv V/\wv (a++[top-c])=wv (Z0++[top])%wv V)/\(top<c->d=wv (Z0++[top])/wv V+1/\wv (Z0++[top])%wv V+(c-top)*18446744073709551616^N=wv a+wv V):=by
 have u:=wW g;rw[b]at u;have K:wv (Z0++[top])=wv Z0+18446744073709551616^N*top:=by rw[yO,F]
 have i:∀t,wv (a++[t])=wv a+18446744073709551616^N*t:=λt=>by rw[yO,b]
 have e:=DS (wv (Z0++[top])) (wv V);have w:=DJ (wv (Z0++[top])) j;obtain⟨q,G⟩:∃q,q=wv (Z0++[top])/wv V:=⟨_,ω⟩;obtain⟨r,H⟩:∃r,r=wv (Z0++[top])%wv V:=⟨_,ω⟩;rw[<-G]at e s p⊢;rw[<-H]at e w⊢;generalize 18446744073709551616^N=P at*;generalize wv V=v at*;generalize wv Z0=z at*;have o:d=q\/d=q+1:=Z;constructor;intro l;obtain⟨y,I⟩:∃y,top=c+y:=⟨top-c,Z⟩;rw[i];have f:top-c=y:=Z;have D:P*top=c*P+P*y:=by grind
 rw[f];obtain rfl|rfl:=o;exact⟨ω,Z⟩;rw[DY,DL]at B;omega;intro l;obtain⟨y,I⟩:∃y,c=top+(y+1):=⟨c-top-1,Z⟩;have f:c-top=y+1:=Z;have D:c*P=P*top+(y+1)*P:=by grind
 have J:(y+1)*P=y*P+P:=by grind
 rw[f];obtain rfl|rfl:=o;omega;rw[DY,DL]at B;exact⟨ω,Z⟩
theorem ZP(k:Nat)(hA:Sl h n 1 (Y a1 l1 c1) (u64s A))(hC:Sl h n 1 (Y a2 l2 c2) (u64s C))(nA:NW A)(nC:NW C)(hb:O A<10000000/\O C<10000000)(a5:0<wv C):
  CF (Ka (k+5)) 160 [Y a1 l1 c1,Y a2 l2 c2] h n λv p n' w=>∃vq vr Lq Lr,v=.tuple #[vq,vr]/\w=[]/\n<=n'/\J9 n h p/\Sl p n' 1 vq (u64s Lq)/\NW Lq/\Sl p n' 1 vr (u64s Lr)/\NW Lr/\wv Lq=wv A/wv C/\wv Lr=wv A%wv C/\xC n vq/\(xC n vr\/vr=Y a1 l1 c1):=by
 refine zw R4 ?_;have e1:=hA.lenW;have e2:=hC.lenW;subst e1 e2;refine mL ?_;refine mM ?_;refine yi _ R5 (uF (k+1) hA hC nA nC Z) ?_;rintro _ rfl;by_cases hlt:wv A<wv C
 .rw[LF hlt];refine Zg ?_;exact retH [η,Y a1 (O A) c1] R3 ⟨_,_,[],A,rfl,rfl,CG,FH _ _,.nil (.inl rfl),aa2,hA,nA,by rw[EY hlt];rfl,by rw[C7 hlt],trivial,.inr rfl⟩
 have du:¬cmpZ (wv A) (wv C)<0:=by grind [wv,sO,jd,EH]
 refine iU ?_;by_cases hC1:O C=1
 .obtain⟨y,rfl⟩:=Gb.1 hC1;have L:=nC.1 y eF;rw[pP]at a5⊢;rw[show[y].length=1 from rfl]at hC⊢;refine Zh ?_;refine yE (f:=λd:Nat=>CJ .u64 (d:Int)) (l:=[y]) (j:=0) R7 hC R2 rfl (λ_=>rfl) R4 λ_=>?_;refine zF _ R5 (YV k Z nA.1 ⟨a5,L⟩ hA) ?_;rintro _ G g _⟨v1,L1,rfl,⟨rfl,ap,ax,J,cu⟩,dj,_,d6⟩;obtain⟨a3,l3,c3,rfl,_⟩:=J.len;refine hH ?_;refine zF _ R5 (sH (k+3) G g (w:=wv A%y) (Jp (DJ _ a5) L)) ?_;rintro v2 h2 n2 _⟨L2,⟨rfl,da,Z3,av,cv⟩,dk,_,d7⟩;obtain⟨a4,l4,c4,rfl,_⟩:=av.len;refine my ?_;exact retH [Y a3 l3 c3,Y a4 l4 c4] R3 ⟨_,_,L1,L2,rfl,rfl,by show n<=n2;omega,ax.trans Z3 ap,J.ext Z3 da,cu,av,cv,dj,dk,d6,.inl (d7.mono ap)⟩
 have e0:2<=O C:=by
  rcases EH (O C) 2 with h|h
  .have:O C=0:=Z;rw[CY.1 this]at a5;exact BO a5 zd
  exact h
 obtain⟨m,hm⟩:∃m,O C=m+2:=⟨O C-2,Z⟩;have dz:m+2<=O A:=by
  rcases EH (O A) (O C) with hl|hl
  .have:=nA.len_lt nC hl;omega
  omega
 rw[hm]at hC⊢;refine Ze ?_;obtain⟨y1,ad⟩:∃x,C[m+1]?=ξ x:=⟨C[m+1]'Z,CK Z⟩;have cr:=nC.1.get ad;have cq:y1≠0:=by
  obtain⟨i,d,b9⟩:=Go.Proofs.YtpcpimjejdegcaaGreatDoor.snoc (l:=C) (by intro e;rw[e]at hm;simp at hm);have d9:O i=m+1:=by rw[b9]at hm;simp at hm;omega
  rw[b9,<-d9,Dq CG,D7]at ad;have:d=y1:=by simpa using ad
  rw[<-this];exact ar9 (by rw[<-b9];exact nC)
 repeat refine zR ?_
 refine yE (f:=λd:Nat=>CJ .u64 (d:Int)) (j:=m+1) R7 hC ⟨rfl,Z⟩ ad (λ_=>rfl) R4 λ_=>?_;refine yi _ R5 (fX (k+2) h n cr cq) ?_;rintro _⟨s,rfl,cm,J,av⟩;refine se (c:=s) R7 Z ?_;refine Zk ?_;refine zF _ R5 (tL (k+2) (m:=s) hC nC Z) ?_;rintro vV G g _⟨V,⟨rfl,ap,ax,W,nV⟩,bh,e4⟩;obtain⟨al,bp,ch,cg⟩:=ZK hm nC ad J av cm nV bh;obtain⟨aV,lV,cV,rfl,_⟩:=W.len;have am:=W.lenW;rw[al]at am;subst am;refine hH ?_;refine vB (len:=O A+1) (cap:=O A+1) R9 Z ?_;rw[show zn (CJ .u64 0)=[CJ .u64 0]from rfl,xO];generalize hh:upd G (3*g+2) _=h2;have au:∃e,h2 (3*g+2)=ξ (.row (u64s (CO (O A+1) 0)) e):=⟨_,oB⟩;obtain⟨eR,au⟩:=au;have Z3:J9 g G h2:=by grind [Fe]
 clear hh;refine Zk ?_;refine zM ?_;refine zF _ R5 (tL (k+2) (m:=s) (hA.ext (ax.trans Z3 ap) (show n<=g+1 by omega)) nA Z) ?_;rintro vS h3 o _⟨S0,⟨rfl,e5,bi,aw,nS⟩,ca,_⟩;obtain⟨aS,lS,cS,rfl,_⟩:=aw.len;have bn:=aw.lenW;subst bn;have bz:h3 (3*g+2)=_:=(bi _ Z).trans au;have az:=wW nA.1;have cf:wv S0<18446744073709551616^(O A+1):=by
  rw[ca,Db];have G:(2:Nat)^s<18446744073709551616:=Nat.pow_lt_pow_right zd (show s<64 by omega);have h2:wv A*2^s<=wv A*18446744073709551616:=C9 _ Z;have h3:wv A*18446744073709551616<18446744073709551616^O A*18446744073709551616:=Ez az zd;omega
 have b3:O S0<=O A+1:=nS.len_le cf;refine lZ (m:=O S0) R7 (uX aw) b3 bz (by rw[zL,zL,Du];exact b3) (xW S0) AO ?_;rw[zL,rf,<-vg,JU];obtain⟨K,ak⟩:∃R,R=S0++CO (O A+1-O S0) 0:=⟨_,rfl⟩;rw[<-ak];have b2:O K=O A+1:=by grind
 have b1:Kb K:=by rw[ak];exact nS.1.append (ao3 _)
 have ae:wv K=wv A*2^s:=by rw[ak,wZ,SC,Ey,DG,ca]
 generalize hh:upd h3 (3*g+2) _=h4;have c0:h4 (3*g+2)=ξ (.row (u64s K) eR):=by rw[<-hh,zg]
 have cb:J9 g G h4:=λb hb=>by rw[<-hh,zm Z,bi b Z,Z3 b hb]
 clear hh bz au Z3 bi aw;refine zN ?_;obtain⟨M,hM⟩:∃M,M=O A-(m+2):=⟨_,rfl⟩;repeat refine zR ?_
 rw[show(O A:Int)-((m+2:Nat):Int)+1=((M+1:Nat):Int)from Z];refine vB (len:=M+1) (cap:=M+1) R9 Z ?_;rw[show zn (CJ .u64 0)=[CJ .u64 0]from rfl,xO];generalize hh:upd h4 (3*o+2) _=h5;have aq:∃e,h5 (3*o+2)=ξ (.row (u64s (CO (M+1) 0++[])) e):=⟨_,by rw[<-hh,zg,Do]⟩;obtain⟨eQ,aq⟩:=aq;have c5:h5 (3*g+2)=ξ (.row (u64s K) eR):=by rw[<-hh,zm Z];exact c0
 have cd:J9 g G h5:=λb hb=>by rw[<-hh,zm Z,cb b hb]
 clear hh c0 cb;refine Zb ?_;have ab:wv (K.drop (M+1))<wv V:=by
  have G:=pu K (M+1) Z;have h2:18446744073709551616^(M+1)*wv (K.drop (M+1))<18446744073709551616^(M+1)*wv V:=by
   refine Dh (show _<=wv K by omega) ?_;rw[ae];have h3:(2:Nat)^s<=9223372036854775808:=CW zd (show s<=63 by omega);have h4:wv A*2^s<=wv A*9223372036854775808:=C9 _ h3;have h5:wv A*9223372036854775808<18446744073709551616^O A*9223372036854775808:=Ez az zd;have h6:18446744073709551616^O A*9223372036854775808=18446744073709551616^(M+1)*(18446744073709551616^(m+1)*9223372036854775808):=by
    rw[<-Dm,<-D4,show M+1+(m+1)=O A from Z]
   have h7:=C9 (18446744073709551616^(M+1)) cg;omega
  exact Nat.lt_of_mul_lt_mul_left h2
 have b4:0<wv V:=Z;refine ye (α:=Nat×List Nat×List Nat) (λz=>[(8,CJ .i64 ((m+2:Nat):Int)),(9,CJ .u64 (s:Int)),(10,Y aV (m+2) cV),(11,Y (ξ ⟨3*g+2,0,θ⟩) (O A+1) (O A+1)),(12,Y (ξ ⟨3*o+2,0,θ⟩) (M+1) (M+1)),(13,CJ .i64 ((z.1:Int)-1))])
  (λz p n' w=>n'=o+1/\w=[]/\J9 g G p/\p (3*g+2)=ξ (.row (u64s z.2.1) eR)/\p (3*o+2)=ξ (.row (u64s (CO z.1 0++z.2.2)) eQ)/\O z.2.1=O A+1/\Kb z.2.1/\z.1<=M+1/\O z.2.2=M+1-z.1/\Kb z.2.2/\wv A*2^s=wv z.2.1+wv V*wv z.2.2*18446744073709551616^z.1/\wv (z.2.1.drop z.1)<wv V) (λz=>z.1)
  (M+1,K,[]) ⟨rfl,rfl,rfl,rfl,rfl,cA,CE⟩ ⟨rfl,rfl,cd,c5,aq,b2,b1,CG,eF,HT,by rw[ae,show wv []=0 from rfl,Ey,D2,DG],ab⟩ (by show M+1<LL;unfold LL;omega) ?_
 clear c5 aq cd ab ae b1 b2 ak;rintro⟨j,R,Q⟩ t h6 _ _ ⟨rfl,rfl,bj,aa,a9,br,T,hj,cz,b0,hE,I⟩;simp only at aa a9 br T hj cz b0 hE I;refine zN ?_;cases j with
 |zero=>
  rw[DH]at I;rw[Fj,DP]at a9;rw[EG,DL,bh]at hE;rw[bh]at I;obtain⟨r1,r2⟩:=iZ (Z4:=wv A) (y:=wv C) (s:=s) (Q:=wv Q) (r:=wv R) (by rw[hE,Ee,C3 (wv Q)]) I;refine Zo ?_;have di:=xi (k+3) (h:=h6) (n:=o+1) (a:=ξ ⟨3*o+2,0,θ⟩) (len:=M+1) (cap:=M+1) (l:=Q) Z (λ_ e=>by injection e with e;rw[<-e]) (xr Z a9 Z);refine zF _ R5 di ?_;rintro _ h6 _ _⟨rfl,rfl,rfl,rfl,df⟩;repeat refine zR ?_
  have cp:=xi (k+3) (h:=h6) (n:=o+1) (a:=ξ ⟨3*g+2,0,θ⟩) (len:=O A+1) (cap:=O A+1) (l:=R) Z (λ_ e=>by injection e with e;rw[<-e]) (xr Z aa br);refine zF _ R5 cp ?_;rintro _ h6 _ _⟨rfl,rfl,rfl,rfl,dg⟩;obtain⟨dp,dq⟩:=xD b0;obtain⟨dr,ds⟩:=xD T;repeat refine zR ?_
  refine zF _ R5 (om (k+2) (m:=s) dg dr (by have:=xU R;omega)) ?_;rintro vr h7 n7 _⟨L7,⟨rfl,db,a0,c6,cw⟩,dl,d8⟩;obtain⟨a7,l7,c7,rfl,_⟩:=c6.len;refine my ?_;exact retH [Y (ξ ⟨3*o+2,0,θ⟩) (O (yf Q)) (M+1),Y a7 l7 c7] R3 ⟨_,_,_,L7,rfl,rfl,by show n<=n7;omega,λb hb=>(a0 b Z).trans ((bj b Z).trans (ax b hb)),df.ext a0 db,dp,c6,cw,by rw[dq,r1],by rw[dl,ds,r2],by show 3*n<=3*o+2;omega,.inl (d8.mono Z)⟩
 |succ i=>
 obtain⟨P,Z0,top,S,cx,hP,hZ⟩:∃P Z0 top S,R=P++(Z0++top::S)/\O P=i/\O Z0=m+2:=by
  have hd:(R.drop i).drop (m+2)≠[]:=by grind [O,Es,Gq]
  obtain⟨top,S,hS⟩:=List.exists_cons_of_ne_nil hd;exact⟨R.take i,(R.drop i).take (m+2),top,S,by rw[<-hS,D1,D1],Ah,tp⟩
 subst cx hP;have b3:O S+(O P+m+3)=O A+1:=by grind
 have cy:Kb P:=λd hd=>T d (by simp[hd]);have b5:Kb Z0:=λd hd=>T d (by simp[hd]);have c9:top<18446744073709551616:=T top eF;have d1:Kb S:=λd hd=>T d (by simp[hd]);obtain⟨d0,ci⟩:=ZL hZ b5 ch I Z;have be:=(W.ext bj (show g<=o+1 by omega));have bo:Kw (3*g+2) (Y aV (m+2) cV):=W.below.off Z;refine Zh ?_;refine rt (O P) (O P+m+3) R9 Z Z Z ?_;rw[show 0+O P*1=O P from Z,show (O P)+m+3-O P=m+3 from Z];repeat refine zR ?_
 have bs:Sl h6 (o+1) 1 (Y (ξ ⟨3*g+2,O P,θ⟩) (m+3) (O A+1-O P)) (u64s (Z0++[top])):=by
  have:=dP (h:=h6) (n:=o+1) (b:=3*g+2) (cap:=O A+1-O P) (P:=P) (Z0:=Z0++[top]) (S:=S) (e:=eR) Z (by rw[aa];simp) Bp;rw[CP,C8,hZ]at this;exact this
 refine yi _ R5 (eO k bs be (m:=m) ⟨by rw[CP,C8,hZ],al,Gl b5 c9,nV.1,bp,ci⟩ Z) ?_;rintro _⟨d,rfl,bv,d4,d5⟩;refine hH ?_;refine rt (O P) (O P+(m+2)) R9 Z Z Z ?_;rw[show 0+O P*1=O P from Z,show (O P)+(m+2)-O P=O Z0 from Z];repeat refine zR ?_
 refine zF _ R5 (ZB (k+2) (n:=o+1) (b:=3*g+2) Z aa Z b5 be nV.1 bo Z Z bv) ?_;rintro _ h7 _ w7⟨u,c,rfl,d3,⟨dm,rfl,a0,bc⟩,af,dt,bg⟩;try simp only[tH]
 rw[zV (w:=[]) λy L=>by rw[dm y L];show 3*n<=3*g+2;omega];have a8:O u=m+2:=Z;rw[hZ]at bg;obtain⟨g1,g2⟩:=ZO a8 hZ af b4 bg d4 d5;have bw:h7 (3*o+2)=_:=(a0 _ Z Z).trans a9;have ah:J9 g G h7:=λb hb=>by rw[a0 b Z Z,bj b hb]
 clear a0 aa a9 bs;have cn:=(W.ext ah (show g<=o+1 by omega));have an:∀F,O (P++(u++F::S))=O A+1:=λF=>by simp only[CP,DN];omega
 have cl:∀F,(P++(u++F::S))[O P+(m+2)]?=ξ F:=λF=>by
  rw[Dq Z,show (O P)+(m+2)-O P=O u from Z,Dq CG,D7];rfl
 have bf:∀(Z2:List Nat) F bm,O Z2=m+2->(P++(Z2++F::S)).set (O P+(m+2)) bm=P++(Z2++bm::S):=λZ2 F bm h2=>by
  rw[D8 _ _ Z,show (O P)+(m+2)-O P=O Z2 from Z,D8 _ _ CG,D7];rfl
 refine hH ?_;refine yE (f:=λd:Nat=>CJ .u64 (d:Int)) (j:=O P+(m+2)) R7 (xr (n:=o+1) Z bc (an top)) ⟨rfl,Z⟩ (cl top) (λ_=>rfl) R4 λ_=>?_;refine Zk ?_;refine zM ?_;refine zR ?_;refine mM ?_;refine sd (a:=top) (b:=c) R6 ⟨c9,d3⟩ ?_;obtain⟨Z1,dh⟩:∃x,x=(top+18446744073709551616-c)%18446744073709551616:=⟨_,rfl⟩;rw[<-dh];have co:Z1<18446744073709551616:=Z;refine uH (j:=O P+(m+2)) (v:=CJ .u64 (Z1:Int)) R8 Z ⟨Z,by rw[zL,an];omega⟩ bc AO (λ_=>rfl) R3 (λ_=>rfl) rfl λ_=>?_;rw[yk,bf u top Z1 a8];generalize hh:upd h7 (3*g+2) _=h8;have bd:h8 (3*g+2)=ξ (.row (u64s (P++(u++Z1::S))) eR):=by rw[<-hh,zg]
 have bb:h8 (3*o+2)=ξ (.row (u64s (CO (O P+1) 0++Q)) eQ):=by rw[<-hh,zm Z];exact bw
 have bk:J9 g G h8:=λb hb=>by rw[<-hh,zm Z,ah b hb]
 clear hh bc bw ah cn;refine Zi ?_;refine lW R6 ?_;simp only[yu,xg,zK,yY];refine yj (α:=List Nat×Nat×Nat) (λz=>[(8,CJ .i64 ((m+2:Nat):Int)),(9,CJ .u64 (s:Int)),(10,Y aV (m+2) cV),(11,Y (ξ ⟨3*g+2,0,θ⟩) (O A+1) (O A+1)),(12,Y (ξ ⟨3*o+2,0,θ⟩) (M+1) (M+1)),(13,CJ .i64 (O P:Int)),(14,CJ .u64 (z.2.2:Int))])
  (λz p n' w=>n'=o+1/\w=[]/\J9 g G p/\p (3*g+2)=ξ (.row (u64s (P++(z.1++z.2.1::S))) eR)/\p (3*o+2)=ξ (.row (u64s (CO (O P+1) 0++Q)) eQ)/\O z.1=m+2/\Kb z.1/\z.2.1<18446744073709551616/\z.2.2=wv (Z0++[top])/wv V/\z.2.2<18446744073709551616/\wv (z.1++[z.2.1])=wv (Z0++[top])%wv V) ?_ ?_
 .by_cases hlt2:top<c;case neg=>
   obtain⟨ay,ai⟩:=g1 Z;rw[za gH];refine zN ?_;have ag:Z1=top-c:=Z;exact zA (u,Z1,d) ⟨rfl,rfl,rfl,rfl,rfl,cA,rfl,CE⟩ ⟨rfl,rfl,bk,bd,bb,a8,af,co,ay,bv,by simp only;rw[ag];exact ai⟩
  obtain⟨ay,ai⟩:=g2 hlt2;have dw:1<=d:=by grind
  rw[ze gN];refine jQ ?_;refine ym (a:=d) (b:=1) R6 Z ?_;refine Zb ?_;refine my ?_;refine ye (α:=List Nat×Nat) (λz=>[(8,CJ .i64 ((m+2:Nat):Int)),(9,CJ .u64 (s:Int)),(10,Y aV (m+2) cV),(11,Y (ξ ⟨3*g+2,0,θ⟩) (O A+1) (O A+1)),(12,Y (ξ ⟨3*o+2,0,θ⟩) (M+1) (M+1)),(13,CJ .i64 (O P:Int)),(14,CJ .u64 ((d-1:Nat):Int)),(17,CJ .u64 (z.2:Int)),(113,Y aV (m+2) cV),(114,CJ .i64 ((m+2:Nat):Int)),(115,CJ .i64 (O z.1:Int))])
   (λz p n' w=>n'=o+1/\w=[]/\J9 g G p/\p (3*g+2)=ξ (.row (u64s (P++((z.1++u.drop (O z.1))++Z1::S))) eR)/\p (3*o+2)=ξ (.row (u64s (CO (O P+1) 0++Q)) eQ)/\O z.1<=m+2/\Kb z.1/\z.2<=1/\wv z.1+z.2*18446744073709551616^O z.1=wv (u.take (O z.1))+wv (V.take (O z.1))) (λz=>m+2-O z.1)
   ([],0) ⟨rfl,rfl,rfl,rfl,rfl,cA,rfl,rfl,rfl,rfl,rfl,CE⟩ ⟨rfl,rfl,bk,bd,bb,CH,HT,Bv,pq⟩ (by show m+2-0<LL;unfold LL;omega) ?_
  clear bd bb bk;rintro⟨D,cc⟩ t h9 _ _ ⟨rfl,rfl,ac,B,ar,cs,aj,b8,a6⟩;simp only at B cs aj b8 a6;refine zN ?_;by_cases hDm:O D=m+2
  .have cj:u.drop (O D)=[]:=by grind
   rw[cj,Do]at B;rw[hDm,<-a8,Da,a8,<-al,Da,al]at a6;refine iU ?_;have ce:=wW aj;rw[hDm]at ce;have dx:=DJ (wv (Z0++[top])) b4;have dn:c-top=1/\cc=1:=by
    obtain⟨y,L⟩:∃y,c-top=y+1:=⟨c-top-1,Z⟩;rw[L]at ai⊢;rw[<-ai]at a6;generalize 18446744073709551616^(m+2)=PP at*
    have e1:(y+1)*PP=y*PP+PP:=by rw[Dv,EV]
    rcases FE y with bl|bl
    .subst bl;rcases FE cc with bu|bu
     .subst bu;rw[D2]at a6;omega
     exact⟨rfl,Z⟩
    have e2:1*PP<=y*PP:=CS _ bl;have e3:cc*PP<=1*PP:=CS _ b8;omega
   obtain⟨dy,rfl⟩:=dn;have ct:wv D=wv (Z0++[top])%wv V:=by grind
   have ag:Z1=18446744073709551615:=Z;subst ag;repeat refine zR ?_
   refine yE (f:=λd:Nat=>CJ .u64 (d:Int)) (j:=O P+(m+2)) R7 (xr (n:=o+1) (l:=O A+1) Z B Bj) ⟨rfl,Z⟩ (show(P++(D++18446744073709551615::S))[O P+(m+2)]?=ξ 18446744073709551615 from by rw[Dq Z,show (O P)+(m+2)-O P=O D from Z,Dq CG,D7];rfl) (λ_=>rfl) R4 λ_=>?_;refine zM ?_;refine uo (a:=18446744073709551615) (b:=1) R6 ?_;rw[show(18446744073709551615+1)%18446744073709551616=0 from rfl];refine uH (j:=O P+(m+2)) (v:=CJ .u64 ((0:Nat):Int)) R8 Z ⟨Z,by rw[zL];simp only[CP,DN];omega⟩ B AO (λ_=>rfl) R3 (λ_=>rfl) rfl λ_=>?_;rw[yk,bf D _ 0 hDm];refine my ?_;exact zA (D,0,d-1) ⟨rfl,rfl,rfl,rfl,rfl,rfl,rfl,CE⟩ ⟨rfl,rfl,λb hb=>(zm Z).trans (ac b hb),zg _ _ _,(zm Z).trans ar,hDm,aj,tu,by show d-1=_;rw[ay];exact FV _ _,by show d-1<_;omega,by show wv (D++[0])=_;rw[yO,Ey,DG,ct]⟩
  obtain⟨y,L⟩:∃x,V[O D]?=ξ x:=⟨V[O D]'Z,CK Z⟩;obtain⟨x,H⟩:∃x,u[O D]?=ξ x:=⟨u[O D]'Z,CK Z⟩;have e7:=nV.1.get L;have e6:=af.get H;have ao:(P++((D++u.drop (O D))++Z1::S)).length=O A+1:=by grind
  refine Zh ?_;refine yE (f:=λd:Nat=>CJ .u64 (d:Int)) (j:=O D) R7 (W.ext ac (show g<=o+1 by omega)) R2 L (λ_=>rfl) R4 λ_=>?_;refine hH ?_;refine yE (f:=λd:Nat=>CJ .u64 (d:Int)) (j:=O P+O D) R7 (xr (n:=o+1) Z B ao) ⟨rfl,Z⟩ (show(P++((D++u.drop (O D))++Z1::S))[O P+O D]?=ξ x from by rw[Dq Z,show (O P)+O D-O P=O D from Z,D5 Ar];exact uy H) (λ_=>rfl) R4 λ_=>?_;repeat refine zR ?_
  refine vt (x:=x) (y:=y) (c:=cc) R5 b8 ?_;obtain⟨s1,J⟩:∃z,z=(x+y+cc)%18446744073709551616:=⟨_,rfl⟩;obtain⟨c1,b7⟩:∃z,z=(x+y+cc)/18446744073709551616:=⟨_,rfl⟩;rw[<-J,<-b7];repeat refine zR ?_
  refine uH (j:=O P+O D) (v:=CJ .u64 (s1:Int)) R8 Z ⟨Z,by rw[zL,ao];omega⟩ B AO (λ_=>rfl) R3 (λ_=>rfl) rfl λ_=>?_;rw[yk,kg _ H];refine Zb ?_;have de:s1<18446744073709551616:=Z;have ck:c1<=1:=by rw[b7];omega
  have dd:18446744073709551616*c1+s1=x+y+cc:=by rw[J,b7];omega
  refine goOn (D++[s1],c1) (by show m+2-O (D++[s1])<m+2-O D;rw[CP,C8];omega) ⟨rfl,rfl,rfl,rfl,rfl,rfl,rfl,rfl,rfl,rfl,eS,CE⟩ ⟨rfl,rfl,λb hb=>(zm Z).trans (ac b hb),zg _ _ _,(zm Z).trans ar,by show(D++[s1]).length<=_;rw[CP,C8];omega,Gl aj de,ck,?_⟩;simp only;rw[CP,C8,yO,zQ H,zQ L,Db];have:=nK a6 dd;omega
 rintro⟨Zf,F,q⟩ t h9 _ _ ⟨rfl,rfl,ac,B,ar,bt,b6,c8,dc,bx,ba⟩;simp only at B bt b6 c8 dc bx ba;refine kj ?_;refine uH (j:=O P) (v:=CJ .u64 (q:Int)) R8 rfl ⟨Z,by rw[zL,CP,Du];omega⟩ ar (by show 3*n<=3*o+2;omega) (λ_=>rfl) R3 (λ_=>rfl) rfl λ_=>?_;rw[yk,cH];refine Zb ?_;have d2:wv (Zf++[F])+wv V*q=wv (Z0++[top]):=by grind [Ee,DS]
 have bq:=ZN (P:=P) (S:=S) (V:=V) (Q:=Q) (bt.trans hZ.symm) d2 hE;refine goOn (O P,P++(Zf++F::S),q::Q) (by show O P<O P+1;omega) ⟨rfl,rfl,rfl,rfl,rfl,rfl,CE⟩ ⟨rfl,rfl,λb hb=>(zm Z).trans (ac b hb),(zm Z).trans B,zg _ _ _,Bj,cy.append (b6.append (λx H=>by
  rcases Dk.1 H with rfl|H
  .exact c8
  .exact d1 x H)),by show O P<=_;omega,by show(q::Q).length=_;rw[DN];omega,λx H=>by
  rcases Dk.1 H with rfl|H
  .exact bx
  .exact b0 x H,bq,?_⟩
 simp only;rw[Jz rfl,show Zf++F::S=(Zf++[F])++S from by simp,wZ,d0,Ey,DG,ba];exact DJ _ b4
end
section
variable {B m r0 r1 u u0 u1 u2 v1 v2:Nat}{odd:Bool}
def sg(odd:Bool):Int:=if odd then -1 else 1
def mJ(o:Bool):sg (!o)= - sg o:=by cases o<;>rfl
theorem SF(o:Bool):sg o*sg o=1:=by cases o<;>rfl
def lp(A B:Nat)(s:Int)(u v:Nat):Int:=s*((u:Int)*A-(v:Int)*B)
structure LehS (A B r0 r1 E:Nat):Prop where
 a:E*r0<=A/\A<E*r0+E
 b:E*r1<=B/\B<E*r1+E
 le:B<=A
 pos:1<=B
structure Leh (A B r0 r1:Nat)(x y u0 u1 u2 v0 v1 v2:Nat)(odd:Bool):Prop where
 hx:(x:Int)=lp r0 r1 (sg odd) u1 v1
 hy:(y:Int)=lp r0 r1 (- sg odd) u2 v2
 Kl:(u1:Int)*v2-u2*v1=sg odd
 le:u2<=v2/\u1+u2<=v1+v2/\1<=v2
 yx:y<=x
 gcd:JQ (lp A B (sg odd) u1 v1) (lp A B (- sg odd) u2 v2)=C6 A B
 sum:(v1=0/\u1=1/\u2=0/\v2=1/\odd=χ)\/(1<=v1/\lp A B (sg odd) u1 v1+lp A B (- sg odd) u2 v2<=A/\lp A B (sg odd) u1 v1<=B)
 out:v0=0\/(0<=lp A B (sg odd) u1 v1/\lp A B (sg odd) u1 v1<=lp A B (- sg odd) u0 v0/\JQ (lp A B (- sg odd) u0 v0) (lp A B (sg odd) u1 v1)=C6 A B/\lp A B (- sg odd) u0 v0+lp A B (sg odd) u1 v1<=A/\lp A B (- sg odd) u0 v0<=B)
def Leh.init{A:Nat}(h:r1<=r0):Leh A B r0 r1 r0 r1 0 1 0 0 0 1 χ:=by refine⟨by simp[lp,sg],by simp[lp,sg],by simp[sg],Z,h,by simp[lp,sg],.inl R5,.inl ω⟩
theorem SG{A E:Nat}(c:LehS A B r0 r1 E){s:Int}(d:s=1\/s= -1){v z:Nat}(i:(z:Int)=lp r0 r1 s u v)(D:u<=m)(hv:v<=m)(hm:m<=z):0<=lp A B s u v:=by
 obtain⟨α,j⟩:∃α,A=E*r0+α:=⟨A-E*r0,by have:=c.a;omega⟩;obtain⟨β,l⟩:∃β,B=E*r1+β:=⟨B-E*r1,by have:=c.b;omega⟩;have y:α<E:=by have:=c.a;omega
 have C:β<E:=by have:=c.b;omega
 have f:u*α<=z*E:=Df Z Z;have g:v*β<=z*E:=Df Z Z;have o:(u:Int)*α<=z*E:=by exact_mod_cast f
 have p:(v:Int)*β<=z*E:=by exact_mod_cast g
 have q:(0:Int)<=(u:Int)*α:=Z;have w:(0:Int)<=(v:Int)*β:=Z;have e:lp A B s u v=z*E+s*(u*α - v*β):=(by rw[i];unfold lp;rw[j,l];push_cast;grind);rw[e];obtain rfl|rfl:=d<;>omega
def ZQ(o:Bool):sg o=1\/sg o= -1:=by cases o<;>simp[sg]
def ZR(o:Bool): - sg o=1\/ - sg o= -1:=by cases o<;>simp[sg]
theorem SH(A B:Nat)(s:Int)(u v a v':Nat):lp A B s u v+lp A B s a v'=lp A B s (u+a) (v+v'):=by unfold lp;push_cast;grind
theorem iE(A B:Nat)(s:Int)(u v:Nat):lp A B (- s) u v= - lp A B s u v:=by unfold lp;grind
theorem Leh.step{A E x y V:Nat}(D:LehS A B r0 r1 E)(h:Leh A B r0 r1 x y u0 u1 u2 V v1 v2 odd)(K:v2<=y)(L:v1+v2<=x-y):
  Leh A B r0 r1 y (x%y) u1 u2 (u1+x/y*u2) v1 v2 (v1+x/y*v2) (!odd)/\u1+x/y*u2<=r0/\v1+x/y*v2<=r0/\x%y<y/\1<=y:=by
 have⟨F,e,l,⟨G,Z4,Z0⟩,J,v,d,T⟩:=h;have a:1<=y:=Z;have b:x%y<y:=DJ _ a;have Z3:1<=x/y:=(aa3 a).2 J;have i:x%y+x/y*y=x:=by rw[C3];exact Nat.mod_add_div x y
 generalize hqq:x/y=q at*;generalize hrr:x%y=r at*;have I:0<=lp A B (- sg odd) u2 v2:=SG D (ZR odd) e G CG K;have H:0<=lp A B (sg odd) (u1+u2) (v1+v2):=(by refine SG D (ZQ odd) ?_ Z4 CG L;rw[<-SH,Int.natCast_sub J,F,e,iE];omega);rw[<-SH]at H;have W:lp A B (- sg odd) u2 v2= - lp A B (sg odd) u2 v2:=iE ..;have c:lp A B (sg odd) (u1+q*u2) (v1+q*v2)=lp A B (sg odd) u1 v1-q*lp A B (- sg odd) u2 v2:=(by rw[iE];unfold lp;push_cast;grind);have w:lp A B (- sg odd) u2 v2<=q*lp A B (- sg odd) u2 v2:=(by have:=Int.mul_le_mul_of_nonneg_right (show(1:Int)<=q from Z) I;omega);have C:(r0:Int)=v2*x+v1*y:=by grind [iE,lp,SF]
 have j:r0=v2*x+v1*y:=by exact_mod_cast C
 have g:v1+q*v2<=r0:=by
  rw[j,<-i];have M:v1<=v1*y:=EK _ a;have N:q*v2<=q*v2*y:=EK _ a;have Z1:v2*(r+q*y)=v2*r+q*v2*y:=by grind
  omega
 have f:u1+q*u2<=v1+q*v2:=(by obtain⟨p,rfl⟩:∃p,q=p+1:=⟨q-1,Z⟩;have M:p*u2<=p*v2:=C9 _ G;have N:(p+1)*u2=p*u2+u2:=EM _ _;have Z1:(p+1)*v2=p*v2+v2:=EM _ _;omega);refine⟨⟨?_,?_,?_,?_,D9 b,?_,?_,?_⟩,C5 f g,g,b,a⟩;rw[mJ];exact e;rw[mJ,Hk];have:(r:Int)=x-q*y:=by(have:(x:Int)=r+q*y:=by exact_mod_cast i.symm);omega
 rw[this,F,e];unfold lp;push_cast;grind;rw[mJ,<-l];push_cast;grind;refine⟨f,Z,Z⟩;rw[mJ,Hk,c,<-v];rw[Int.gcd_comm];simp[Int.mul_comm];right;rw[mJ,Hk,c];obtain⟨rfl,rfl,rfl,rfl,rfl⟩|⟨_,S,s⟩:=d;have P:lp A B (sg χ) 1 0=A:=by simp[lp,sg]
 have o:lp A B (- sg χ) 0 1=B:=by simp[lp,sg]
 rw[o]at w;rw[P,o];exact⟨Z,Z,Z⟩;exact⟨Z,Z,Z⟩;rw[mJ,Hk];obtain⟨R,_⟩|⟨_,S,s⟩:=d;exact .inl R;right;exact⟨I,Z,v,Z,s⟩
theorem Leh.tot{A x y b:Nat}(h:Leh A B r0 r1 x y u0 u1 u2 b v1 v2 odd):r0=v2*x+v1*y:=by
 have⟨d,e,c,_,_,_,_,_⟩:=h;have a:(r0:Int)=v2*x+v1*y:=by grind [iE,lp,SF]
 exact_mod_cast a
def LehS.r_le{A E:Nat}(h:LehS A B r0 r1 E):r1<=r0:=by obtain c|c:=EH r0 r1;have d:=C9 E c;rw[Jq]at d;have:=h.a;have:=h.b;have:=h.le;omega;exact c
theorem Leh.done{A x y c:Nat}(h:Leh A B r0 r1 x y u0 u1 u2 c v1 v2 odd)(hv:c≠0):
  ∃a b:Nat,(odd=χ->c*B=u0*A+a/\u1*A=v1*B+b)/\(odd=φ->u0*A=c*B+a/\v1*B=u1*A+b)/\b<=a/\C6 a b=C6 A B/\a+b<=A/\a<=B:=by
 obtain f|⟨g,j,i,l,o⟩:=h.out;exact BO f hv;generalize e1:lp A B (sg odd) u1 v1=b at*;generalize e2:lp A B (- sg odd) u0 c=a at*;obtain⟨e,rfl⟩:=Jd g;obtain⟨d,rfl⟩:=Jd (show(0:Int)<=a from Z);refine⟨d,e,?_,?_,Z,by simpa using i,Z,Z⟩;rintro rfl;simp only[lp,sg]at e1 e2;constructor;have:(c:Int)*B=u0*A+d:=by simp at e2;grind
 exact_mod_cast this;have:(u1:Int)*A=v1*B+e:=by simp at e1;grind
 exact_mod_cast this;rintro rfl;simp only[lp,sg]at e1 e2;constructor;have:(u0:Int)*A=c*B+d:=by simp at e2;grind
 exact_mod_cast this;have:(v1:Int)*B=u1*A+e:=by simp at e1;grind
 exact_mod_cast this
end
section
open Go Go.GL
variable {ops:List Oper}{h h' h1 h2:HF}{n m n0 off i lo n' bt sz nt kk bytes b c size len Z4 c1 c2 l1 l2 c' cr u0 u1 v1 m' n1 n2 cy lx ly P V d B r:Nat}{w ms C Z0 A X T:List Nat}{Q:SV->Prop}{args cl cs vs:List ψ}{al ld:List (Nat×Nat)}{ef:List (Nat×HF×List Nat)}{z v x4 x5 x6:ψ}{ty ty' eB e' xT:TypeId}{fn:Func}{f:FuncId}{E:Env}{odd bx sx sy:Bool}{a1 a2 ax ay:Option Addr}{α:Type}{q:Rat}{y:Operand}
variable {h0:HF}{cq:Nat}
def ng(k:Nat)(j:Sl h n 1 (Y a1 l1 c1) (u64s A))(l:Sl h n 1 (Y a2 l2 c2) (u64s C))(Z1:NW A)(R:NW C)(hb:O A<10000000/\O C<80)(o:0<wv C):
  CF (Ka (k+6)) 127 [Y a1 l1 c1,Y a2 l2 c2] h n λv g i w=>∃d c a b,v=.tuple #[d,c]/\w=[]/\n<=i/\J9 n h g/\Sl g i 1 d (u64s a)/\NW a/\Sl g i 1 c (u64s b)/\NW b/\wv a=wv A/wv C/\wv b=wv A%wv C/\xC n d/\(xC n c\/c=Y a1 l1 c1):=by refine zw R4 ?_;have I:=j.lenW;have J:=l.lenW;subst I J;refine mL ?_;refine Zt ?_;refine zF _ R5 (ZP k j l Z1 R Z o) ?_;rintro _ S T _⟨d,c,a,b,rfl,rfl,s,B,e,u,f,y,K,L,p,q⟩;obtain⟨D,M,G,rfl,_⟩:=e.len;obtain⟨F,N,H,rfl,_⟩:=f.len;refine my ?_;exact retH [Y D M G,Y F N H] R3 ⟨_,_,a,b,ω,ω,s,B,e,u,f,y,K,L,p,q⟩
theorem fc{x0 x1 s:Nat}(g:Z4<P)(c:s<=64):P*2^(64-s)*(x1*2^s+x0/2^(64-s))<=Z4+P*(x0+18446744073709551616*x1)/\Z4+P*(x0+18446744073709551616*x1)<P*2^(64-s)*(x1*2^s+x0/2^(64-s))+P*2^(64-s):=by
 have d:=DS x0 (2^(64-s));have a:=DJ x0 (Dw (n:=64-s) (show 0<2 by decide));have f:=fa c;generalize 2^(64-s)=D at*;generalize 2^s=S at*;have e:x0+18446744073709551616*x1=D*(x1*S+x0/D)+x0%D:=by grind
 generalize x1*S+x0/D=R at*;generalize x0%D=m at*;rw[e,DY,<-Dm];have b:=C9 P (show m+1<=D from a);rw[Jq]at b;omega
def lE{x0 x1:Nat}(c:O X=m+2)(a:X[m]?=ξ x0)(b:X[m+1]?=ξ x1):wv X=wv (X.take m)+18446744073709551616^m*(x0+18446744073709551616*x1):=by
 have e:wv X=wv (X.take (m+2)):=by rw[<-c,Da]
 rw[e,zQ b,zQ a,Db,DY,Dm,GA]
def ZS{x0:Nat}(b:O X=m+1)(a:X[m]?=ξ x0):wv X=wv (X.take m)+18446744073709551616^m*x0:=by
 have e:wv X=wv (X.take (m+1)):=by rw[<-b,Da]
 rw[e,zQ a]
def uY(a:Kb X)(hm:m<=O X):wv (X.take m)<18446744073709551616^m:=by have:=wW (a.take m);rw[DD,DX hm]at this;exact this
def ZT{x0 x1 i a:Nat}(o:O A=m+2)(p:O C=m+2)(c:Kb A)(b:A[m]?=ξ x0)(e:A[m+1]?=ξ x1)(f:C[m]?=ξ i)(g:C[m+1]?=ξ a)(d:wv C<=wv A):a<=x1:=by obtain h|h:=EH x1 a;have q:=uY c (m:=m) Z;have s:=c.get b;rw[lE o b e,lE p f g]at d;generalize 18446744073709551616^m=P at*;have j:x0+18446744073709551616*x1+1<=i+18446744073709551616*a:=Z;have l:=C9 P j;rw[Jq]at l;omega;exact h
def SimR(A B:Nat)(v:ψ):Prop:=∃x y u0 u1 u2 v0 v1 v2 r0 r1:Nat,∃odd:Bool,v=.agg #[CJ .u64 (u0:Int),CJ .u64 (u1:Int),CJ .u64 (v0:Int),CJ .u64 (v1:Int),U odd]/\Leh A B r0 r1 x y u0 u1 u2 v0 v1 v2 odd/\u0<=18446744073709551615/\u1<=18446744073709551615/\v0<=18446744073709551615/\v1<=18446744073709551615
structure LSt where
 x:Nat
 y:Nat
 u0:Nat
 u1:Nat
 u2:Nat
 v0:Nat
 v1:Nat
 v2:Nat
 odd:Bool
def LSt.row(z:LSt):List ψ:=[CJ .u64 (z.u0:Int),CJ .u64 (z.u1:Int),CJ .u64 (z.v0:Int),CJ .u64 (z.v1:Int),U z.odd]
def LSt.bd(z:LSt):Prop:=z.x<=18446744073709551615/\z.u0<=18446744073709551615/\z.u1<=18446744073709551615/\z.u2<=18446744073709551615/\z.v0<=18446744073709551615/\z.v1<=18446744073709551615/\z.v2<=18446744073709551615
theorem fC(k:Nat)(hA:Sl h n 1 (Y a1 l1 c1) (u64s A))(hC:Sl h n 1 (Y a2 l2 c2) (u64s C))(nA:NW A)(Z3:NW C)(hb:O A<10000000)(a6:wv C<=wv A)(ba:2<=O A)(ab:0<wv C):
  CF (Ka (k+3)) 129 [Y a1 l1 c1,Y a2 l2 c2] h n λv R n' w=>w=[]/\n<=n'/\J9 n h R/\SimR (wv A) (wv C) v:=by
 refine zw R4 ?_;have e1:=hA.lenW;have e2:=hC.lenW;subst e1 e2;have bb:O C<=O A:=(by obtain hl|hl:=EH (O A) (O C);have:=nA.len_lt Z3 hl;omega;exact hl);obtain⟨m,T⟩:∃m,O A=m+2:=⟨O A-2,Z⟩;obtain⟨I,G⟩:∃x,A[m+1]?=ξ x:=⟨A[m+1]'Z,CK Z⟩;obtain⟨L,a9⟩:∃x,A[m]?=ξ x:=⟨A[m]'Z,CK Z⟩;have aq:=nA.1.get G;have V:=nA.1.get a9;have ap:I≠0:=by
  have⟨i,d,ad⟩:=Go.Proofs.YtpcpimjejdegcaaGreatDoor.snoc (l:=A) (by intro e;rw[e]at T;simp at T);have av:O i=m+1:=by rw[ad]at T;simp at T;omega
  rw[ad,<-av,Dq CG,D7]at G;have:d=I:=by simpa using G
  rw[<-this];exact ar9 (by rw[<-ad];exact nA)
 rw[T]at hA⊢;refine zN ?_;refine xV R5 ?_;generalize hh:upd h (3*n+2) _=h1;have a4:J9 n h h1:=by grind [Fe]
 have J:∃e,h1 (3*n+2)=ξ (.row [CJ .u64 0,CJ .u64 0,CJ .u64 0,CJ .u64 0,U χ] e):=⟨_,kF⟩;have a0:=hA.ext a4 (Dc n);have a3:=hC.ext a4 (Dc n);refine Zj ?_;refine yE (f:=λd:Nat=>CJ .u64 (d:Int)) (j:=m+1) R7 a0 ⟨ω,Z⟩ G (λ_=>rfl) R4 λ_=>?_;refine yi _ R5 (fX k h1 (n+1) aq ap) ?_;rintro _⟨s,rfl,az,bc,a8⟩;refine se (c:=s) R7 Z<|my ?_;have a7:∀x,x<18446744073709551616->x/2^(64-s)<2^s:=λx hx=>SB Z hx;obtain⟨K,ae⟩:∃r,r=I*2^s+L/2^(64-s):=⟨_,ω⟩;have an:K<=18446744073709551615:=(by have:=SA (w:=I) (s:=s) Z (a7 L V);rw[C7 a8]at this;omega);obtain⟨E,hE⟩:∃E,E=18446744073709551616^m*2^(64-s):=⟨_,ω⟩;have B:=fc (Z4:=wv (A.take m)) (x0:=L) (x1:=I) (s:=s) (uY nA.1 Z) Z;rw[<-lE T a9 G,<-hE,<-ae]at B;rw[wb rfl];repeat refine zR ?_
 refine yE (f:=λd:Nat=>CJ .u64 (d:Int)) (j:=m+1) R7 a0 ⟨ω,Z⟩ G (λ_=>rfl) R4 λ_=>?_;refine zM ?_;refine xK (a:=I) (s:=s) R6 Z ?_;rw[C7 a8];repeat refine zR ?_
 refine yE (f:=λd:Nat=>CJ .u64 (d:Int)) (j:=m) R7 a0 ⟨ω,Z⟩ a9 (λ_=>rfl) R4 λ_=>?_;refine zM ?_;refine ym (a:=64) (b:=s) R6 Z<|yn (a:=L) (s:=64-s) R6 Z<|wG (a:=I*2^s) (b:=L/2^(64-s)) R6 ⟨a8,Dh (Ef _ _) V⟩ ?_;rw[jZ (a7 L V),<-ae];refine my ?_;refine hH ?_;simp only[yu,xg,zK,yY];refine yj (α:=Nat) (λz=>[(4,ι (3*n+2)),(7,CJ .u64 (K:Int)),(8,CJ .u64 (z:Int))])
  (λz R n' w=>h1=R/\n+1=n'/\w=[]/\LehS (wv A) (wv C) K z E) ?_ ?_
 .refine zN ?_;by_cases hl2:O C=m+2;obtain⟨y1,N⟩:∃x,C[m+1]?=ξ x:=⟨C[m+1]'Z,CK Z⟩;obtain⟨M,F⟩:∃x,C[m]?=ξ x:=⟨C[m]'Z,CK Z⟩;have b9:=Z3.1.get N;have W:=Z3.1.get F;have al:=ZT T hl2 nA.1 a9 G F N a6;have ak:y1*2^s<18446744073709551616:=Dh (CS _ al) a8;have D:=fc (Z4:=wv (C.take m)) (x0:=M) (x1:=y1) (s:=s) (uY Z3.1 Z) Z;rw[<-lE hl2 F N,<-hE]at D;refine lI ?_;rw[wb rfl];repeat refine zR ?_
  refine yE (f:=λd:Nat=>CJ .u64 (d:Int)) (j:=m+1) R7 a3 ⟨ω,Z⟩ N (λ_=>rfl) R4 λ_=>?_;refine zM ?_;refine xK (a:=y1) (s:=s) R6 Z ?_;rw[C7 ak];repeat refine zR ?_
  refine yE (f:=λd:Nat=>CJ .u64 (d:Int)) (j:=m) R7 a3 ⟨ω,Z⟩ F (λ_=>rfl) R4 λ_=>?_;refine zM ?_;refine ym (a:=64) (b:=s) R6 Z<|yn (a:=M) (s:=64-s) R6 Z<|wG (a:=y1*2^s) (b:=M/2^(64-s)) R6 ⟨ak,Dh (Ef _ _) W⟩ ?_;rw[jZ (a7 M W)];refine my ?_;exact zA (y1*2^s+M/2^(64-s)) P3 ⟨ω,ω,ω,⟨B,D,a6,ab⟩⟩;refine iU ?_;by_cases hl1:O C=m+1;obtain⟨M,F⟩:∃x,C[m]?=ξ x:=⟨C[m]'Z,CK Z⟩;have W:=Z3.1.get F;have D:=fc (Z4:=wv (C.take m)) (x0:=M) (x1:=0) (s:=s) (uY Z3.1 Z) Z;rw[Ey,DG,D2,Dd,<-ZS hl1 F,<-hE]at D;refine Zh ?_;refine yE (f:=λd:Nat=>CJ .u64 (d:Int)) (j:=m) R7 a3 ⟨ω,Z⟩ F (λ_=>rfl) R4 λ_=>?_;refine zM ?_;refine ym (a:=64) (b:=s) R6 Z<|yn (a:=M) (s:=64-s) R6 Z<|my ?_;exact zA (M/2^(64-s)) P3 ⟨ω,ω,ω,⟨B,D,a6,ab⟩⟩;refine iU ?_;refine zA 0 P3 ⟨ω,ω,ω,⟨B,⟨by rw[Ey];exact Ig _,?_⟩,a6,ab⟩⟩;have g1:=wW Z3.1;have g2:18446744073709551616^O C<=18446744073709551616^m:=CW zd Z;have g3:18446744073709551616^m*1<=18446744073709551616^m*2^(64-s):=C9 _ (Dw zd);rw[hE,Ey];omega
 rintro r1 t _ _ _⟨rfl,rfl,rfl,hS⟩;have ao:=hS.r_le;refine zN ?_;refine xV R5 ?_;generalize hh:upd h1 (3*(n+1)+2) _=h2;have ag:J9 n h h2:=λb hb=>by rw[<-hh,zm Z,a4 b hb]
 have aa:∃e,h2 (3*n+2)=ξ (.row [CJ .u64 0,CJ .u64 0,CJ .u64 0,CJ .u64 0,U χ] e):=(by have⟨e,J⟩:=J;exact⟨e,by rw[<-hh,zm Z];exact J⟩);have q2:∃e,h2 (3*(n+1)+2)=ξ (.row [CJ .u64 0,CJ .u64 0,CJ .u64 0,CJ .u64 0,U χ] e):=⟨_,kF⟩;have⟨e2,q2⟩:=q2;refine kj ?_;refine yF (cs:=[CJ .u64 1]) R8 q2 zb gQ ?_;generalize hh:upd h2 (3*(n+1)+2) _=h3;have ah:J9 n h h3:=λb hb=>by rw[<-hh,zm Z,ag b hb]
 have af:∃e,h3 (3*n+2)=ξ (.row [CJ .u64 0,CJ .u64 0,CJ .u64 0,CJ .u64 0,U χ] e):=(by have⟨e,aa⟩:=aa;exact⟨e,by rw[<-hh,zm Z];exact aa⟩);have q3:∃e,h3 (3*(n+1)+2)=ξ (.row (LSt.row ⟨K,r1,0,1,0,0,0,1,χ⟩) e):=⟨e2,kF⟩;refine mL ?_;refine ye (α:=LSt) (λz=>[(4,ι (3*n+2)),(7,CJ .u64 (z.x:Int)),(8,CJ .u64 (z.y:Int)),(9,ι (3*(n+1)+2)),(10,CJ .u64 (z.u2:Int)),(11,CJ .u64 (z.v2:Int))])
  (λz R n' w=>n'=n+1+1/\w=[]/\J9 n h R/\(∃e,R (3*n+2)=ξ (.row [CJ .u64 0,CJ .u64 0,CJ .u64 0,CJ .u64 0,U χ] e))/\(∃e,R (3*(n+1)+2)=ξ (.row z.row e))/\Leh (wv A) (wv C) K r1 z.x z.y z.u0 z.u1 z.u2 z.v0 z.v1 z.v2 z.odd/\z.bd) (λz=>z.y)
  ⟨K,r1,0,1,0,0,0,1,χ⟩ P6 ⟨ω,ω,ah,af,q3,Leh.init ao,an,(show(0:Nat)<=18446744073709551615 by decide),(show(1:Nat)<=18446744073709551615 by decide),(show(0:Nat)<=18446744073709551615 by decide),(show(0:Nat)<=18446744073709551615 by decide),(show(0:Nat)<=18446744073709551615 by decide),(show(1:Nat)<=18446744073709551615 by decide)⟩ (by show r1<LL;unfold LL;omega) ?_
 rintro⟨x,y,u0,p,H,Z0,g,u,o⟩ t h4 _ _ ⟨rfl,rfl,a5,⟨e1,J⟩,⟨e4,Z1⟩,S,au⟩;have⟨b1,b2,b3,b4,b5,b6,b7⟩:=au;simp only[LSt.row]at Z1 S b1 b2 b3 b4 b5 b6 b7;have al:=S.yx;have b8:=S.tot;have hl:=S.le;refine zN ?_;by_cases g1:u<=y;case neg=>
  exact BA
 have b0:g+u<=K:=(by have f1:u*1<=u*x:=C9 _ Z;have f2:g*1<=g*y:=C9 _ Z;omega);refine Zn ?_;refine Zs ?_;refine ym (a:=x) (b:=y) R6 Z<|zM ?_;refine zT R6 Z1 (v:=CJ .u64 (g:Int)) R2<|zM ?_;refine yT (a:=g) (b:=u) R6 Z ?_;by_cases g2:g+u<=x-y;case neg=>
  exact BA
 have⟨ac,aw,ax,aj,N⟩:=Leh.step hS S g1 g2;refine Zd ?_;obtain⟨q,hq⟩:∃q,q=x/y:=⟨_,ω⟩;obtain⟨r,hr⟩:∃r,r=x%y:=⟨_,ω⟩;rw[<-hq]at ac aw ax;rw[<-hr]at ac aj;refine mM ?_;refine xN (a:=x) (b:=y) R6 ⟨Z,Z⟩ ?_;rw[<-hq];refine my ?_;rw[wb rfl];refine Zs ?_;refine vO (a:=x) (b:=y) R6 Z ?_;rw[<-hr];refine my ?_;refine zM ?_;refine zT R6 Z1 (v:=CJ .u64 (p:Int)) R2<|mM ?_;refine zT R6 Z1 (v:=CJ .u64 (p:Int)) R2<|mM ?_;refine xt (a:=q) (b:=H) R6 Z<|yT (a:=p) (b:=q*H) R6 Z<|zM ?_;refine yF (cs:=[CJ .u64 (p:Int)]) R8 Z1 zb gQ ?_;refine zM ?_;refine yF (cs:=[CJ .u64 (H:Int)]) R8 (zg _ _ _) zb gQ ?_;rw[uk];generalize hh:upd h4 (3*(n+1)+2) _=h5;have ai:J9 n h h5:=λb hb=>by rw[<-hh,zm Z,a5 b hb]
 have am:=(show h5 (3*n+2)=h4 (3*n+2)from by rw[<-hh,zm Z]).trans J;have q5:h5 (3*(n+1)+2)=ξ (.row [CJ .u64 (p:Int),CJ .u64 (H:Int),CJ .u64 (Z0:Int),CJ .u64 (g:Int),U o] e4):=by rw[<-hh,zg];rfl
 refine my ?_;refine zM ?_;refine zT R6 q5 (v:=CJ .u64 (g:Int)) R2<|mM ?_;refine zT R6 q5 (v:=CJ .u64 (g:Int)) R2<|mM ?_;refine xt (a:=q) (b:=u) R6 Z<|yT (a:=g) (b:=q*u) R6 Z<|zM ?_;refine yF (cs:=[CJ .u64 (g:Int)]) R8 q5 zb gQ ?_;refine zM ?_;refine yF (cs:=[CJ .u64 (u:Int)]) R8 (zg _ _ _) zb gQ ?_;rw[uk];generalize hh:upd h5 (3*(n+1)+2) _=h6;have ar:J9 n h h6:=λb hb=>by rw[<-hh,zm Z,ai b hb]
 have ay:=(show h6 (3*n+2)=h5 (3*n+2)from by rw[<-hh,zm Z]).trans am;have q6:h6 (3*(n+1)+2)=ξ (.row [CJ .u64 (p:Int),CJ .u64 (H:Int),CJ .u64 (g:Int),CJ .u64 (u:Int),U o] e4):=by rw[<-hh,zg];rfl
 refine my ?_;refine zM ?_;refine zT R6 q6 (v:=U o) R2<|mM ?_;refine yF (cs:=[U (!o)]) R8 q6 zb gQ ?_;refine zN ?_;exact goOn ⟨y,r,p,H,p+q*H,g,u,g+q*u,!o⟩ aj P6 ⟨ω,ω,λb hb=>(zm Z).trans (ar b hb),⟨e1,(zm Z).trans ay⟩,⟨e4,(zg _ _ _).trans ω⟩,ac,by show y<=_;omega,b3,b4,by show p+q*H<=_;omega,b6,b7,by show g+q*u<=_;omega⟩
section
variable {a cap l:Nat}{e:TypeId}
theorem kn{x w s:Nat}(f:V+c*P=Z4*w)(g:18446744073709551616*c'+s=x*w+c):V+P*s+c'*(P*18446744073709551616)=(Z4+P*x)*w:=by grind
theorem ZU{s t:Nat}(h:d+s*P=a+t*P)(g:d<P)(f:a<P):d=a:=by grind [only,Gj,C7]
def On{D p q j m i f g:Nat}(v:p+j*P=f)(w:q+m*P=g)(h3:D+p=q+i*P)(y:g=f+a)(o:D<P)(u:a<P):D=a:=by refine ZU (s:=m) (t:=i+j) (P:=P) ?_ o u;rw[Dv];omega
def cE{S D:List Nat}{x:Nat}(d:Nat)(hx:Z0[O D]?=ξ x):((D++Z0.drop (O D))++S).set (O D) d=((D++[d])++Z0.drop (O (D++[d])))++S:=by have:=kg (P:=[]) (S:=S) d hx;rw[DP,DP,Gq,Dd]at this;exact this
def kI{S:List Nat}(hb:b<3*n)(i:h b=ξ (.row (u64s (Z0++S)) e))(g:O Z0=l)(f:l<=cap):Sl h n 1 (Y (ξ ⟨b,0,θ⟩) l cap) (u64s Z0):=by subst g;exact dP (P:=[]) hb i f
structure ASt where
 D:List Nat
 F:List Nat
 cP:Nat
 cQ:Nat
 cR:Nat
 cT:Nat
 b1:Nat
 b2:Nat
 p:Nat
 q:Nat
 r:Nat
 t:Nat
def ASt.ok(A B:List Nat)(u0 u1 v0 v1:Nat)(odd:Bool)(z:ASt):Prop:=
 (O z.D)<=O A/\O z.F=O z.D/\Kb z.D/\Kb z.F/\z.cP<18446744073709551616/\z.cQ<18446744073709551616/\z.cR<18446744073709551616/\z.cT<18446744073709551616/\z.b1<=1/\z.b2<=1/\
 z.p+z.cP*18446744073709551616^O z.D=wv (A.take (O z.D))*u0/\z.q+z.cQ*18446744073709551616^O z.D=wv (B.take (O z.D))*v0/\z.r+z.cR*18446744073709551616^O z.D=wv (B.take (O z.D))*v1/\z.t+z.cT*18446744073709551616^O z.D=wv (A.take (O z.D))*u1/\
 (odd=χ->wv z.D+z.p=z.q+z.b1*18446744073709551616^O z.D/\wv z.F+z.r=z.t+z.b2*18446744073709551616^O z.D)/\
 (odd=φ->wv z.D+z.q=z.p+z.b1*18446744073709551616^O z.D/\wv z.F+z.t=z.r+z.b2*18446744073709551616^O z.D)
def ASt.step{B:List Nat}{J x y:Nat}{z:ASt}(hz:z.ok A B u0 u1 J v1 odd)(hx:A[O z.D]?=ξ x)(hy:B[O z.D]?=ξ y){m o s u v w f i j:Nat}
  (W:18446744073709551616*v+m=x*u0+z.cP)(Z3:18446744073709551616*cq+o=y*J+z.cQ)(h3:18446744073709551616*cr+s=y*v1+z.cR)(h4:18446744073709551616*w+u=x*u1+z.cT)
  (hl:v<18446744073709551616/\cq<18446744073709551616/\cr<18446744073709551616/\w<18446744073709551616/\d<18446744073709551616/\f<18446744073709551616/\i<=1/\j<=1)
  (S:odd=χ->d+m+z.b1=o+18446744073709551616*i/\f+s+z.b2=u+18446744073709551616*j)(T:odd=φ->d+o+z.b1=m+18446744073709551616*i/\f+u+z.b2=s+18446744073709551616*j):
  ASt.ok A B u0 u1 J v1 odd ⟨z.D++[d],z.F++[f],v,cq,cr,w,i,j,z.p+18446744073709551616^O z.D*m,z.q+18446744073709551616^O z.D*o,z.r+18446744073709551616^O z.D*s,z.t+18446744073709551616^O z.D*u⟩:=by have⟨k1,k2,k3,k4,k5,k6,k7,k8,k9,a1,K,L,M,N,Z1,R⟩:=hz;have⟨l1,l2,l3,l4,l5,l6,l7,l8⟩:=hl;have a0:O z.D<O A:=(CQ.1 hx).1;unfold ASt.ok;simp only[CP,C8];rw[zQ hx,zQ hy,yO,yO,k2,Db];refine⟨Z,ω,Gl k3 l5,Gl k4 l6,l1,l2,l3,l4,l7,l8,kn K W,kn L Z3,kn M h3,kn N h4,λg=>?_,λg=>?_⟩;have⟨C,G⟩:=Z1 g;have⟨H,I⟩:=S g;exact⟨vK C H,vK G I⟩;have⟨C,G⟩:=R g;have⟨H,I⟩:=T g;exact⟨vK C H,vK G I⟩
def ASt.fin{B:List Nat}{u:Nat}{z:ASt}(I:z.ok A B u0 u1 u v1 odd)(H:O z.D=O A)(y:O B=O A)(w:a<18446744073709551616^O A)(hb:b<18446744073709551616^O A)(C:odd=χ->u*wv B=u0*wv A+a/\u1*wv A=v1*wv B+b)(G:odd=φ->u0*wv A=u*wv B+a/\v1*wv B=u1*wv A+b):
  wv z.D=a/\wv z.F=b:=by
 have⟨T,J,K,L,W,Z3,k7,k8,k9,S,f,g,i,j,o,p⟩:=I;have v:=wW K;have m:=wW L;rw[J]at m;rw[H]at f g i j o p v m;have Z1:A.take (O A)=A:=Da;have R:B.take (O A)=B:=by rw[<-y,Da]
 rw[Z1]at f j;rw[R]at g i;cases odd with
 |false=>
  have⟨q,s⟩:=o rfl;have⟨M,N⟩:=C rfl;exact⟨On f g q aD v w,On i j s aD m hb⟩
 |true=>
  have⟨q,s⟩:=p rfl;have⟨M,N⟩:=G rfl;exact⟨On g f q aD v w,On j i s aD m hb⟩
theorem ZV(k:Nat){g i u cB:Nat}{B TA TB:List Nat}{eA:TypeId}{m:Nat}(a6:g<3*n)(a7:i<3*n)(ai:g≠i)(aj:h g=ξ (.row (u64s (A++TA)) eA))(ak:h i=ξ (.row (u64s (B++TB)) eB))(b6:O A<=u)(b7:O B<=cB)(hB:O B=O A)(bt:1<=O A)(bs:O A<1000000000)(dA:Kb A)(dB:Kb B)
  (hu:u0<18446744073709551616/\u1<18446744073709551616/\m<18446744073709551616/\v1<18446744073709551616)(ha:a<18446744073709551616^O A)(hb:b<18446744073709551616^O A)(hE:odd=χ->m*wv B=u0*wv A+a/\u1*wv A=v1*wv B+b)(hO:odd=φ->u0*wv A=m*wv B+a/\v1*wv B=u1*wv A+b):
  CF (Ka (k+3)) 130 [.agg #[CJ .u64 (u0:Int),CJ .u64 (u1:Int),CJ .u64 (m:Int),CJ .u64 (v1:Int),U odd],Y (ξ ⟨g,0,θ⟩) (O A) u,Y (ξ ⟨i,0,θ⟩) (O B) cB] h n λ_ o n' w=>∃A' B',(∀c∈w,c=g\/c=i)/\n<=n'/\(∀c,c<3*n->c≠g->c≠i->o c=h c)/\o g=ξ (.row (u64s (A'++TA)) eA)/\o i=ξ (.row (u64s (B'++TB)) eB)/\Kb A'/\Kb B'/\O A'=O A/\O B'=O A/\wv A'=a/\wv B'=b:=by
 refine Lu R4 ?_;have⟨ao,ap,aq,ar⟩:=hu;refine zN ?_;refine Ll (cs:=[CJ .u64 (u0:Int),CJ .u64 (u1:Int),CJ .u64 (m:Int),CJ .u64 (v1:Int),U odd]) R5 ?_;generalize hh:upd h (3*n+2) _=C;have J:∀c,c<3*n->C c=h c:=λc hc=>by rw[<-hh,zm Z]
 have q1:∃e,C (3*n+2)=ξ (.row [CJ .u64 (u0:Int),CJ .u64 (u1:Int),CJ .u64 (m:Int),CJ .u64 (v1:Int),U odd] e):=⟨_,oB⟩;refine mL ?_;refine Zb ?_;refine ye (α:=ASt) (λz=>[(1,Y (ξ ⟨g,0,θ⟩) (O A) u),(2,Y (ξ ⟨i,0,θ⟩) (O B) cB),(3,ι (3*n+2)),(6,CJ .u64 (z.cP:Int)),(7,CJ .u64 (z.cQ:Int)),(8,CJ .u64 (z.cR:Int)),(9,CJ .u64 (z.cT:Int)),(10,CJ .u64 (z.b1:Int)),(11,CJ .u64 (z.b2:Int)),(19,Y (ξ ⟨g,0,θ⟩) (O A) u),(20,CJ .i64 (O A:Int)),(21,CJ .i64 (O z.D:Int))])
  (λz o n' w=>n'=n+1/\(∀c∈w,c=g\/c=i)/\(w=[]->O z.D=0)/\(∀c,c<3*n->c≠g->c≠i->o c=h c)/\(∃e,o (3*n+2)=ξ (.row [CJ .u64 (u0:Int),CJ .u64 (u1:Int),CJ .u64 (m:Int),CJ .u64 (v1:Int),U odd] e))/\o g=ξ (.row (u64s ((z.D++A.drop (O z.D))++TA)) eA)/\o i=ξ (.row (u64s ((z.F++B.drop (O z.F))++TB)) eB)/\z.ok A B u0 u1 m v1 odd) (λz=>O A-O z.D)
  ⟨[],[],0,0,0,0,0,0,0,0,0,0⟩ VE ⟨ω,λx M=>BO M CT,λ_=>rfl,λc hc _ _=>J c hc,q1,(J _ a6).trans aj,(J _ a7).trans ak,CH,ω,HT,HT,tu,tu,tu,tu,by show(0:Nat)<=_;decide,by show(0:Nat)<=_;decide,pq,pq,pq,pq,λ_=>by simp[wv,dv],λ_=>by simp[wv,dv]⟩ Aj ?_
 rintro⟨D,F,cP,cQ,cR,cT,Z3,b2,p,q,r,t'⟩ t s _ w ⟨rfl,hw,au,a2,⟨e2,G⟩,N,Z1,hz⟩;have b0:ASt.ok A B u0 u1 m v1 odd ⟨D,F,cP,cQ,cR,cT,Z3,b2,p,q,r,t'⟩:=hz;have bp:=hz;have⟨k1,k2,k3,k4,k5,k6,k7,k8,k9,a3,_⟩:=bp;simp only at au N Z1 k1 k2 k3 k4 k5 k6 k7 k8 k9 a3;refine zN ?_;by_cases hDA:O D=O A;refine iU ?_;have⟨f1,f2⟩:=ASt.fin b0 hDA hB ha hb hE hO;rw[hDA,EZ,Do]at N;rw[k2,hDA,<-hB,EZ,Do]at Z1;refine⟨ω,[],ω,⟨D,F,hw,Dc n,a2,N,Z1,k3,k4,hDA,Z,f1,f2⟩,λh0=>?_⟩;have:=au h0;omega;obtain⟨x,M⟩:∃x,A[O D]?=ξ x:=⟨A[O D]'Z,CK Z⟩;obtain⟨y,hy⟩:∃y,B[O D]?=ξ y:=⟨B[O D]'Z,CK Z⟩;have K:=dA.get M;have L:=dB.get hy;have a4:Sl s (n+1) 1 (Y (ξ ⟨g,0,θ⟩) (O A) u) (u64s (D++A.drop (O D))):=kI Z N aD b6;have a5:Sl s (n+1) 1 (Y (ξ ⟨i,0,θ⟩) (O B) cB) (u64s (F++B.drop (O F))):=kI Z Z1 aD b7;have av:B[O F]?=ξ y:=by rw[k2];exact hy
 refine Zh ?_;refine yE (f:=λd:Nat=>CJ .u64 (d:Int)) (j:=O D) R7 a4 R2 (uy M) (λ_=>rfl) R4 λ_=>?_;refine hH ?_;refine yE (f:=λd:Nat=>CJ .u64 (d:Int)) (j:=O F) R7 a5 ⟨ω,Z⟩ (uy av) (λ_=>rfl) R4 λ_=>?_;refine my ?_;have bk:=qW K ao;refine mM ?_;refine zT R6 G (v:=CJ .u64 (u0:Int)) R2<|zM ?_;refine yi _ R5 (uN k s (n+1) K ao k5) ?_;rintro _ rfl;obtain⟨R,al⟩:∃z,z=(x*u0+cP)%18446744073709551616:=⟨_,ω⟩;obtain⟨cp,a8⟩:∃z,z=(x*u0+cP)/18446744073709551616:=⟨_,ω⟩;rw[<-al,<-a8];have ae:R<18446744073709551616:=Z;have b9:cp<18446744073709551616:=Z;have bd:18446744073709551616*cp+R=x*u0+cP:=Z;refine my ?_;have bl:=qW L aq;refine mM ?_;refine zT R6 G (v:=CJ .u64 (m:Int)) R2<|zM ?_;refine yi _ R5 (uN k s (n+1) L aq k6) ?_;rintro _ rfl;obtain⟨S,am⟩:∃z,z=(y*m+cQ)%18446744073709551616:=⟨_,ω⟩;obtain⟨cq,a9⟩:∃z,z=(y*m+cQ)/18446744073709551616:=⟨_,ω⟩;rw[<-am,<-a9];have af:S<18446744073709551616:=Z;have ba:cq<18446744073709551616:=Z;have be:18446744073709551616*cq+S=y*m+cQ:=Z;refine my ?_;have bm:=qW L ar;refine mM ?_;refine zT R6 G (v:=CJ .u64 (v1:Int)) R2<|zM ?_;refine yi _ R5 (uN k s (n+1) L ar k7) ?_;rintro _ rfl;obtain⟨T,an⟩:∃z,z=(y*v1+cR)%18446744073709551616:=⟨_,ω⟩;obtain⟨cr,aa⟩:∃z,z=(y*v1+cR)/18446744073709551616:=⟨_,ω⟩;rw[<-an,<-aa];have ag:T<18446744073709551616:=Z;have bb:cr<18446744073709551616:=Z;have bf:18446744073709551616*cr+T=y*v1+cR:=Z;refine my ?_;have bn:=qW K ap;refine mM ?_;refine zT R6 G (v:=CJ .u64 (u1:Int)) R2<|zM ?_;refine yi _ R5 (uN k s (n+1) K ap k8) ?_;rintro _ rfl;obtain⟨W,I⟩:∃z,z=(x*u1+cT)%18446744073709551616:=⟨_,ω⟩;obtain⟨ct,ab⟩:∃z,z=(x*u1+cT)/18446744073709551616:=⟨_,ω⟩;rw[<-I,<-ab];have ah:W<18446744073709551616:=Z;have bc:ct<18446744073709551616:=Z;have bg:18446744073709551616*ct+W=x*u1+cT:=Z;refine my ?_;refine zM ?_;refine zT R6 G (v:=U odd) R2 ?_;simp only[yu,xg,zK,yY];refine yj (α:=Nat×Nat×Nat×Nat) (λz=>[(1,Y (ξ ⟨g,0,θ⟩) (O A) u),(2,Y (ξ ⟨i,0,θ⟩) (O B) cB),(3,ι (3*n+2)),(6,CJ .u64 (cp:Int)),(7,CJ .u64 (cq:Int)),(8,CJ .u64 (cr:Int)),(9,CJ .u64 (ct:Int)),(10,CJ .u64 (Z3:Int)),(11,CJ .u64 (b2:Int)),(12,CJ .u64 (z.1:Int)),(13,CJ .u64 (z.2.1:Int)),(14,CJ .u64 (z.2.2.1:Int)),(15,CJ .u64 (z.2.2.2:Int)),(16,CJ .i64 (O D:Int)),(19,Y (ξ ⟨g,0,θ⟩) (O A) u),(20,CJ .i64 (O A:Int)),(21,CJ .i64 (O D:Int))])
  (λz o n' w'=>s=o/\n+1=n'/\w=w'/\z.1<18446744073709551616/\z.2.1<18446744073709551616/\z.2.2.1<18446744073709551616/\z.2.2.2<18446744073709551616/\(odd=χ->z.1=R/\z.2.1=S/\z.2.2.1=T/\z.2.2.2=W)/\(odd=φ->z.1=S/\z.2.1=R/\z.2.2.1=W/\z.2.2.2=T)) ?_ ?_
 cases odd with
 |false=>
  rw[za rfl];refine zN ?_;exact zA (R,S,T,W) QO ⟨ω,ω,ω,ae,af,ag,ah,λ_=>R4,λh=>by cases h⟩
 |true=>
  rw[ze rfl];refine mL ?_;exact zA (S,R,W,T) QO ⟨ω,ω,ω,af,ae,ah,ag,λh=>Ag,λ_=>R4⟩
 rintro⟨z1,z2,z3,z4⟩ t3 _ _ _ ⟨rfl,rfl,rfl,aw,ax,ay,az,gE,gO⟩;simp only at aw ax ay az gE gO;refine zN ?_;have bi:(D++A.drop (O D)).length=O A:=by grind
 have bj:(F++B.drop (O F)).length=O B:=by grind
 repeat refine zR ?_
 refine rn (x:=z2) (y:=z1) (c:=Z3) R5 k9 ?_;have a0:=PN ax aw k9;obtain⟨d,hd⟩:∃d,d=(z2+18446744073709551616-z1-Z3)%18446744073709551616:=⟨_,ω⟩;obtain⟨e1,ac⟩:∃e1,e1=(if z1+Z3<=z2 then 0 else 1):=⟨_,ω⟩;rw[<-hd,<-ac]at a0⊢;have b8:d<18446744073709551616:=Z;have b3:e1<=1:=by rw[ac];split<;>omega
 repeat refine zR ?_
 refine yG (j:=O D) (off:=0) (v:=CJ .u64 (d:Int)) R8 ω ⟨Z,by rw[zL,CP,bi];omega⟩ N a6 (λ_=>rfl) R3 (λ_=>rfl) ω λ_=>?_;rw[Dd,yk,cE _ M];generalize hh:upd s g _=h3;have bq:h3 g=ξ (.row (u64s (((D++[d])++A.drop (O (D++[d])))++TA)) eA):=by rw[<-hh,zg]
 have br:h3 i=ξ (.row (u64s ((F++B.drop (O F))++TB)) eB):=by rw[<-hh,zm (Ne.symm ai)];exact Z1
 have q3:=(show h3 (3*n+2)=s (3*n+2)from by rw[<-hh,zm Z]).trans G;have bo:∀c,c<3*n->c≠g->c≠i->h3 c=h c:=λc hc C H=>by rw[<-hh,zm C];exact a2 c hc C H
 refine hH ?_;refine rn (x:=z4) (y:=z3) (c:=b2) R5 a3 ?_;have a1:=PN az ay a3;obtain⟨f,hf⟩:∃d,d=(z4+18446744073709551616-z3-b2)%18446744073709551616:=⟨_,ω⟩;obtain⟨b5,ad⟩:∃e1,e1=(if z3+b2<=z4 then 0 else 1):=⟨_,ω⟩;rw[<-hf,<-ad]at a1⊢;have bh:f<18446744073709551616:=Z;have b4:b5<=1:=by rw[ad];split<;>omega
 repeat refine zR ?_
 refine yG (j:=O F) (off:=0) (v:=CJ .u64 (f:Int)) R8 Z ⟨Z,by rw[zL,CP,bj];omega⟩ br a7 (λ_=>rfl) R3 (λ_=>rfl) ω λ_=>?_;rw[Dd,yk,cE _ av];refine Zb ?_;have I:=ASt.step b0 M hy bd be bf bg ⟨b9,ba,bb,bc,b8,bh,b3,b4⟩ (λh=>by
  have⟨i1,i2,i3,i4⟩:=gE h;rw[<-i1,<-i2,<-i3,<-i4];exact⟨a0,a1⟩) (λh=>by
  have⟨i1,i2,i3,i4⟩:=gO h;rw[<-i1,<-i2,<-i3,<-i4];exact⟨a0,a1⟩)
 refine goOn _ ?_ ⟨ω,ω,ω,ω,ω,ω,ω,ω,ω,ω,ω,?_,CE⟩ ⟨ω,?_,?_,?_,⟨e2,(zm Z).trans q3⟩,(zm ai).trans bq,zg _ _ _,I⟩;show (O A)-O (D++[d])<O A-O D;exact Bp;exact eS;intro c hc;obtain rfl|hc:=Dk.1 hc;exact .inr rfl;obtain rfl|hc:=Dk.1 hc;exact .inl rfl;exact hw c hc;intro h;cases h;intro c hc C H;exact(zm H).trans (bo c hc C H)
end
section
variable {a:Nat}
section
variable {sT e:TypeId}{x:ψ}
theorem ZW{cap:Nat}{c:List ψ}(y:E.und sT=ξ (.slice e))(hi:E.inf e=ξ (1,bytes,z))(D:O (zn z)=1)(p:1<=bytes)(hx:argS h 1 x 1 [v])(hb:(len+1)*bytes<=1099511627776)(hc:len+1<=cap)(u:h b=ξ (.row c e'))(q:len<O c)(s:ones [v]=φ):
  yW E h n sT (Y (ξ ⟨b,0,θ⟩) len cap) x=ξ (.val (Y (ξ ⟨b,0,θ⟩) (len+1) cap) (upd h b (ξ (.row (c.set len v) e'))) n [b]):=by
 have⟨g,f⟩:=hx;have c1:Dj ((len+1)*bytes) 1099511627776=φ:=CV hb;have c2:DO (O (zn z)) 1=φ:=by simp_all
 have i:Dj 1 1=φ:=rfl;have j:Dj 1 bytes=φ:=CV p;have l:Dj (len+1) cap=φ:=CV hc;have m:LS h ((⟨b,0,θ⟩:Addr).add (len*1)) [v]=ξ (upd h b (ξ (.row (c.set len v) e'))):=(by rw[wO,Dd,DL,uZ u (by rw[C8];omega) s,splice_one c len v q]);simp only[yW,y,hi,g,f,c1,c2,i,j,l,DZ,uB,m]
end
structure GRow (h:HF)(lo n b:Nat)(A T:List Nat):Prop where
 g:gro b=φ
 lo:3*lo<=b
 hi:b<3*n
 r:h b=ξ (.row (u64s (A++T)) 141)
def GRow.sl{h:HF}{n:Nat}(g:GRow h lo n b A T):Sl h n 1 (Y (ξ ⟨b,0,θ⟩) (O A) (O A+O T)) (u64s A):=kI g.hi g.r ω Z
def GRow.ext{h:HF}{n:Nat}(g:GRow h lo n b A T)(e:J9 n h h')(c:n<=n'):GRow h' lo n' b A T:=⟨g.g,g.lo,by have:=g.hi;omega,by rw[e b g.hi];exact g.r⟩
theorem GRow.cut{h:HF}{n:Nat}(g:GRow h lo n b A T):GRow h lo n b (yf A) (A.drop (O (yf A))++T):=⟨g.g,g.lo,g.hi,by
 rw[<-Dp];have:yf A++A.drop (O (yf A))=A:=by grind [rV,yf,D1]
 rw[this];exact g.r⟩
theorem GRow.cap:O (yf A)+(A.drop (O (yf A))++T).length=O A+O T:=by grind [xU]
section
variable {X:CtxF}{r:List Oper}{t:TF}{o:Oper}{d:Tmp}
def ZX{sT:TypeId}{s x:Operand}{bytes:Nat}{z:ψ}{d0:Nat}(F:zh ops t o=φ)(hd:o.dst=ξ d)(hn:zv X.nt (ξ d)=φ)(q:o.op=.call {callee:=.builtin .append,args:=#[s,x],argTypes:=#[sT,xT]})(j:(match X.E.und xT with|some (.int _)=>χ|none=>χ|_=>φ)=φ)
  (D:X.E.und sT=ξ (.slice 141))(hi:X.E.inf 141=ξ (1,bytes,z))(G:O (zn z)=1)(m:1<=bytes)(i:J8 t s=Y (ξ ⟨b,0,θ⟩) (O A) (O A+O T))(f:GRow h lo n b A T)(hx:argS h 1 (J8 t x) 1 (u64s [d0]))(hb:(O A+1)*bytes<=1099511627776)(J:X.n0<=lo/\lo<=n)
  (k:∀b' T' h' n',n<=n'->GRow h' lo n' b' (A++[d0]) T'->(∀c,c<3*n->c≠b->h' c=h c)->(b'=b\/3*n<=b')->EO X ops r ⟨upd t d (Y (ξ ⟨b',0,θ⟩) (O A+1) (O A+1+O T')),h',n',w⟩ Q):EO X ops (o::r) ⟨t,h,n,w⟩ Q:=by
 have I:=f.lo;cases T with
 |cons x T=>
  rw[DN]at i;refine yM (v:=Y (ξ ⟨b,0,θ⟩) (O A+1) (O A+(O T+1))) ⟨F,hd,hn,q,j⟩ (by rw[i];exact ZW D hi G m hx hb Z f.r (by rw[zL,CP,DN];omega) ω) ?_;rw[zV λy l=>by rw[C0.1 l];omega];have:=k b T (upd h b (ξ (.row ((u64s (A++x::T)).set (O A) (CJ .u64 (d0:Int))) 141))) n CG ⟨f.g,f.lo,f.hi,by
   rw[zg,yk,D8 _ _ CG,D7,List.set_cons_zero,Dp];rfl⟩ (λc _ hc=>zm hc) (.inl ω)
  rw[show (O A)+(O T+1)=O A+1+O T from Z];exact this
 |nil=>
  rw[Gq,DG]at i;have u:=f.r;rw[Do]at u;refine yM (v:=Y (ξ ⟨3*n+1,0,θ⟩) (O A+1) (O A+1)) ⟨F,hd,hn,q,j⟩ (by rw[i];exact ue D hi G CG m hx CG hb f.g u (by rw[zL,DL]) (yZ (xW A) ω) ω) ?_;rw[zV λy l=>by rw[C0.1 l];omega];have H:=f.hi;exact k (3*n+1) [] _ (n+1) (Dc n) ⟨uD n,Z,Z,by rw[zg,Do,vg]⟩ (λc hc p=>by rw[zm Z,zm p]) (.inr Z)
end
def SI{A f:Nat}(c:2*b<=A)(g:a<=B)(h:A*B<2^f)(j:0<A*B):∃f',f=f'+1/\a*b<2^f':=by
 cases f with
 |zero=>rw[EG]at h;omega
 |succ f=>
  refine⟨f,ω,?_⟩;have i:a*(2*b)<=B*A:=Df g c;rw[Gu,C3 B A]at i;rw[Db]at h;omega
structure GSt where
 A:List Nat
 TA:List Nat
 bA:Nat
 B:List Nat
 aB:Option Addr
 cB:Nat
 f:Nat
structure GOk (h:HF)(lo n g:Nat)(z:GSt):Prop where
 rA:GRow h lo n z.bA z.A z.TA
 sB:Sl h n 1 (Y z.aB (O z.B) z.cB) (u64s z.B)
 rB:1<=O z.B->∃bB TB,z.aB=ξ ⟨bB,0,θ⟩/\z.cB=O z.B+O TB/\GRow h lo n bB z.B TB/\z.bA≠bB
 nA:NW z.A
 nB:NW z.B
 le:wv z.B<=wv z.A
 pos:0<wv z.A
 lA:O z.A<1000000
 lB:O z.B<80
 gcd:C6 (wv z.A) (wv z.B)=g
 fuel:wv z.A*wv z.B<2^z.f
def SJ(h:NW A)(f:1<=O A):0<wv A:=by obtain c|c:=FE (wv A);have:A=[]:=h.inj aa2 AK;rw[this]at f;exact BO f zd;exact c
def uO{B:List Nat}(f:NW A)(g:NW B)(h:wv B<=wv A):O B<=O A:=by obtain c|c:=EH (O A) (O B);have:=f.len_lt g c;omega;exact c
def ZY(h:gro b=φ):b%3=1:=DE h
theorem eD(k:Nat){h:HF}(hG:GK.G h){n:Nat}(hn:20<=n)(hA:Sl h n 1 (Y a1 l1 c1) (u64s A))(hC:Sl h n 1 (Y a2 l2 c2) (u64s C))(u:NW A)(nC:NW C)(hb:O A<80/\O C<80):
  CF (Ka (k+7)) 100 [Y a1 l1 c1,Y a2 l2 c2] h n λv h' n' w=>∃L,ResW n h v h' n' w L/\wv L=C6 (wv A) (wv C)/\(xC n v\/v=Y a1 l1 c1\/v=Y a2 l2 c2):=by
 refine zw R4<|mL ?_;refine mM ?_;refine yi _ R5 (uF (k+3) hA hC u nC Z) ?_;rintro _ rfl;refine lW R6 ?_;simp only[yu,xg,zK,yY];refine yj (α:=(Option Addr×Nat×Nat×List Nat)×(Option Addr×Nat×Nat×List Nat)) (λz=>[(0,Y z.1.1 z.1.2.1 z.1.2.2.1),(1,Y z.2.1 z.2.2.1 z.2.2.2.1)]) (λz h' n' w=>h=h'/\n=n'/\w=[]/\Sl h n 1 (Y z.1.1 z.1.2.1 z.1.2.2.1) (u64s z.1.2.2.2)/\Sl h n 1 (Y z.2.1 z.2.2.1 z.2.2.2.1) (u64s z.2.2.2.2)/\NW z.1.2.2.2/\NW z.2.2.2.2/\O z.1.2.2.2<80/\O z.2.2.2.2<80/\wv z.2.2.2.2<=wv z.1.2.2.2/\C6 (wv z.1.2.2.2) (wv z.2.2.2.2)=C6 (wv A) (wv C)/\(Y z.1.1 z.1.2.1 z.1.2.2.1=Y a1 l1 c1\/Y z.1.1 z.1.2.1 z.1.2.2.1=Y a2 l2 c2)) ?_ ?_
 .by_cases hlt:wv A<wv C
  .rw[ze (by show U _=_;rw[LF hlt];rfl)];refine mL ?_;exact zA ((a2,l2,c2,C),(a1,l1,c1,A)) P2 ⟨ω,ω,ω,hC,hA,nC,u,hb.2,hb.1,D9 hlt,Fw _ _,.inr ω⟩
  rw[za (by
   show U _=_;obtain h|h:=EH (wv C) (wv A)
   .rw[sO h];rfl
   .rw[show wv A=wv C from Z,jd];rfl)]
  refine zN ?_;exact zA ((a1,l1,c1,A),(a2,l2,c2,C)) P2 ⟨ω,ω,ω,hA,hC,u,nC,hb.1,hb.2,by show wv C<=wv A;omega,ω,.inl ω⟩
 rintro⟨⟨a,l,c,X⟩,⟨a',l',c',Z3⟩⟩ t _ _ _ ⟨rfl,rfl,rfl,hX,hY,nX,nY,br,aw,a7,H,hv⟩;simp only at hX hY nX nY br aw a7 H hv;generalize hgg:C6 (wv A) (wv C)=g at H⊢;have eX:=hX.lenW;have eY:=hY.lenW;subst eX eY;refine zN ?_;by_cases hY0:Z3=[]
 .subst hY0;refine Zg ?_;exact retH _ ⟨ω,(zi ω),ω⟩ ⟨X,⟨ω,CG,FH _ _,hX,nX⟩,Bq,.inr hv⟩
 have bs:1<=O Z3:=by grind
 have ag:1<=O X:=C5 bs (uO nX nY a7);have bq:X≠[]:=λe=>by rw[e]at ag;exact BO ag zd
 refine Zr ?_;refine zF _ R5 (ub (k+5) hX Z) ?_;rintro v5 h2 i _⟨rfl,ak,W,_,a8⟩;obtain⟨b5,rfl,be,bf,bg,ap,_⟩:=(a8 bq).inv2 Z;refine zM ?_;refine zF _ R5 (ub (k+5) (hY.ext W ak) Z) ?_;rintro v6 h3 n3 _⟨rfl,cu,D,_,ay⟩;obtain⟨b6,rfl,bh,ck,bi,au,_⟩:=(ay hY0).inv2 Z;have an:J9 n h h3:=W.trans D ak;have r5:GRow h3 n n3 b5 X []:=⟨be,bf,Z,by rw[Do,D _ bg];exact ap⟩;have r6:GRow h3 n n3 b6 Z3 []:=⟨bh,Z,bi,by rw[Do];exact au⟩;refine my ?_;refine ye (α:=GSt) (λz=>[(5,Y (ξ ⟨z.bA,0,θ⟩) (O z.A) (O z.A+O z.TA)),(6,Y z.aB (O z.B) z.cB)]) (λz h' n' w=>n<=n'/\w=[]/\J9 n h h'/\GOk h' n n' g z) (λz=>z.f)
  ⟨X,[],b5,Z3,ξ ⟨b6,0,θ⟩,O Z3,64*(O X+O Z3)⟩ P2 ⟨Z,ω,an,r5,r6.sl,λ_=>⟨b6,[],ω,ω,r6,by show b5≠b6;omega⟩,nX,nY,a7,SJ nX ag,by show O X<_;omega,aw,H,?_⟩ (by show 64*(O X+O Z3)<LL;unfold LL;omega) ?_
 .show wv X*wv Z3<2^(64*(O X+O Z3));rw[HJ,show(2:Nat)^64=18446744073709551616 from ω,D4];exact Nat.mul_lt_mul'' (wW nX.1) (wW nY.1)
 rintro⟨A,TA,F,B,aB,cB,f⟩ t h1 n1 _ ⟨aj,rfl,ac,c7⟩;have⟨rA,sB,rB,u,N,aa,R,lA,lB,H,hf⟩:=c7;simp only at rA sB rB u N aa R lA lB H hf aj;refine zN ?_;by_cases hB2:2<=O B;case neg=>
  refine iU ?_;cases B with
  |nil=>
   refine Zg ?_;exact retH _ ⟨ω,(zi ω),ω⟩ ⟨A,⟨ω,aj,ac,rA.sl,u⟩,Bq,.inl rA.lo⟩
  |cons y B=>
   have bn:B=[]:=by grind
   subst bn;obtain⟨bB,TB,rfl,rfl,gB,az⟩:=rB eF;have hy:y<18446744073709551616:=N.1 y eF;have cy:y≠0:=ar9 (l:=[]) N;rw[pP]at H;have b1:=gB.r;have bo:GK.G h1:=rR hG ac hn;rw[show[y].length=1 from rfl];refine iU ?_;refine zl ?_;repeat refine zE ?_
   refine yd R6 (wf ω b1 (v:=CJ .u64 (y:Int)) R2) R2 ?_;repeat refine zE ?_
   refine yd R6 (wf ω b1 (v:=CJ .u64 (y:Int)) R2) R2<|ND _ R7 (YU (k+2) (l:=A) (d:=y) Z u.1 ⟨Z,hy⟩ rA.sl) ?_;rintro _ rfl;refine ND _ R7 (Yk (k+4) bo n1 hy (Jp (DJ _ Z) hy)) ?_;rintro _ rfl;refine wa _ R7 (sH (k+5) h1 n1 (Dh (Nat.gcd_le_left _ Z) hy)) ?_;rintro v9 h9 n9 _⟨L9,⟨rfl,c6,ce,b2,bp⟩,cb,cn,c0⟩;obtain⟨a9,l9,c9,rfl,_⟩:=b2.len;refine⟨sj,c6,?_⟩;repeat refine zE ?_
   refine zN ?_;exact retH _ ⟨ω,(zi ω),ω⟩ ⟨L9,⟨ω,by show n<=n9;omega,ac.trans ce Z,b2,bp⟩,by rw[cb,Y8,H],.inl (c0.mono Z)⟩
 obtain⟨bB,TB,rfl,rfl,gB,az⟩:=rB Z;have K:=SJ N (show 1<=O B from Z);have bm:=uO u N aa;refine Zm ?_;refine zF _ R5 (fC (k+3) rA.sl gB.sl u N Z aa Z K) ?_;rintro _ h2 i _⟨rfl,ak,W,x,y,u0,u1,u2,v0,v1,v2,r0,r1,a3,rfl,hL,d0,d1,d2,d3⟩;refine xV R5<|yc [CJ .u64 (u0:Int),CJ .u64 (u1:Int),CJ .u64 (v0:Int),CJ .u64 (v1:Int),U a3] R7 ω (zg _ _ _) ω (by show 3*n<=3*i+2;omega) ?_;rw[uk];generalize hh:upd h2 (3*i+2) _=h3;have q3:∃e,h3 (3*i+2)=ξ (.row [CJ .u64 (u0:Int),CJ .u64 (u1:Int),CJ .u64 (v0:Int),CJ .u64 (v1:Int),U a3] e):=⟨_,oB⟩;have⟨e3,q3⟩:=q3;have a6:J9 n1 h1 h3:=λb hb=>by rw[<-hh,zm Z,W b hb]
 have D:J9 n h h3:=ac.trans a6 aj;have ae:=rA.ext a6 (show n1<=i+1 from Z);have Z4:=gB.ext a6 (show n1<=i+1 from Z);refine jQ ?_;refine zT R6 q3 (v:=CJ .u64 (v0:Int)) R2 ?_;by_cases hv0:v0=0
 .refine Zm ?_;refine zF _ R5 (ng k ae.sl Z4.sl u N Z K) ?_;rintro _ h4 n4 _⟨vq,vr,Lq,J,rfl,rfl,ab,P,ca,cw,am,b0,hq,hr,_,_⟩;obtain⟨aq,lq,cq,rfl,_⟩:=ca.len;obtain⟨ar,lr,cr,rfl,_⟩:=am.len;have c3:=DJ (wv A) K;have ct:O J<=O B:=uO N b0 Z;have bd:=am.lenW;subst bd;refine Zk ?_;refine zF _ R5 (ub (k+5) am Z) ?_;rintro v5 h5 n5 _⟨rfl,cv,cd,al,a8⟩;obtain⟨a5,l5,c5,rfl,_⟩:=al.len;have bc:=al.lenW;subst bc;refine my ?_;have ao:J9 (i+1) h3 h5:=P.trans cd ab;obtain⟨f',rfl,ah⟩:=SI (a:=wv B) (b:=wv A%wv B) (by
   have h1:=DS (wv A) (wv B);have h2:wv B*1<=wv B*(wv A/wv B):=C9 _ ((aa3 K).2 aa);omega) CG hf (EJ R K)
  refine goOn ⟨B,TB,bB,J,a5,c5,f'⟩ (Fi _) P2 ⟨by show n<=n5;omega,ω,D.trans ao (show n<=i+1 from Z),Z4.ext ao (show i+1<=n5 from Z),al,λhl=>?_,N,b0,by show wv J<=wv B;rw[hr];exact D9 c3,K,by show O B<_;omega,by show O J<_;omega,?_,by show wv B*wv J<_;rw[hr];exact ah⟩
  .obtain⟨b7,e7,bj,cl,bk,bl,_⟩:=(a8 (λe=>by rw[show(GSt.mk B TB bB J a5 c5 f').B=J from ω,e]at hl;exact BO hl (JM 0))).inv2 (show O J≠0 from λe=>by rw[show(GSt.mk B TB bB J a5 c5 f').B=J from ω,e]at hl;exact BO hl (JM 0));injection e7 with e1 e2 e3
   subst e1 e3;have:=gB.hi;exact⟨b7,[],ω,ω,⟨bj,Z,bk,by rw[Do];exact bl⟩,by show bB≠b7;omega⟩
  show C6 (wv B) (wv J)=g;rw[hr,<-H,Fw,<-JH,Fw]
 have⟨a,b,hE,hO,bw,ai,ci,ax⟩:=hL.done hv0;refine mS ?_;simp only[yu,xg,zK,yY];refine yj (α:=Nat×List Nat×List Nat×Nat) (λz=>[(5,Y (ξ ⟨F,0,θ⟩) (O A) (O A+O TA)),(6,Y (ξ ⟨z.1,0,θ⟩) (O z.2.1) (O z.2.1+O z.2.2.1)),(7,ι (3*i+2))])
  (λz h' n' w=>n'=z.2.2.2/\i+1<=n'/\w=[]/\J9 n h h'/\GRow h' n n' F A TA/\GRow h' n n' z.1 z.2.1 z.2.2.1/\F≠z.1/\h' (3*i+2)=ξ (.row [CJ .u64 (u0:Int),CJ .u64 (u1:Int),CJ .u64 (v0:Int),CJ .u64 (v1:Int),U a3] e3)/\O z.2.1=O A/\Kb z.2.1/\wv z.2.1=wv B) ?_ ?_
 .refine zN ?_;refine ye (α:=Nat×List Nat×List Nat) (λz=>[(5,Y (ξ ⟨F,0,θ⟩) (O A) (O A+O TA)),(6,Y (ξ ⟨z.1,0,θ⟩) (O z.2.1) (O z.2.1+O z.2.2)),(7,ι (3*i+2))])
   (λz h' n' w=>i+1<=n'/\w=[]/\J9 n h h'/\GRow h' n n' F A TA/\GRow h' n n' z.1 z.2.1 z.2.2/\F≠z.1/\h' (3*i+2)=ξ (.row [CJ .u64 (u0:Int),CJ .u64 (u1:Int),CJ .u64 (v0:Int),CJ .u64 (v1:Int),U a3] e3)/\O z.2.1<=O A/\Kb z.2.1/\wv z.2.1=wv B) (λz=>O A-O z.2.1)
   (bB,B,TB) P3 ⟨CG,ω,D,ae,Z4,az,q3,bm,N.1,ω⟩ (by show O A-O B<LL;unfold LL;omega) ?_
  rintro⟨bZ,Z0,T⟩ t h4 n4 _ ⟨ab,rfl,P,j,s,m,q4,V,dZ,M⟩;simp only at s m V dZ M;refine zN ?_;by_cases hZA:O Z0<O A
  .refine lI ?_;refine jQ ?_;refine pZ (cs:=u64s [0]) R5 ?_;generalize hh:upd h4 (3*n4+2) _=h5;have S:J9 n4 h4 h5:=by grind [Fe]
   have q5:∃e,h5 (3*n4+2)=ξ (.row (u64s [0]) e):=⟨_,oB⟩;have⟨e5,q5⟩:=q5;refine ZX (lo:=n) (d0:=0) ω ω ω ω ω ω ω ω zd ω (s.ext S (Dc n4)) (yp q5 R2) Z ⟨CG,Z⟩ λb' T' h6 n6 c4 g6 a0 bv=>?_;refine my ?_;have cm:=ZY s.g;have b9:=s.hi;have a4:=s.lo;have b8:=j.hi;refine goOn (b',Z0++[0],T') aD ⟨ω,by show Y _ _ _=Y _ _ _;rw[CP];rfl,ω,CE⟩ ⟨by show i+1<=n6;omega,ω,λb hb=>?_,⟨j.g,j.lo,by show F<3*n6;omega,?_⟩,g6,by show F≠b';obtain e|e:=bv<;>omega,?_,by show(Z0++[0]).length<=_;rw[CP,C8];omega,Gl dZ zd,by show wv (Z0++[0])=_;rw[yO,Ey,DG,M]⟩
   .exact(a0 b Z Z).trans ((S b Z).trans (P b hb))
   .exact(a0 F Z m).trans ((S F Z).trans j.r)
   exact(a0 (3*i+2) Z Z).trans ((S (3*i+2) Z).trans q4)
  refine iU ?_;exact zA (bZ,Z0,T,n4) P3 ⟨ω,ab,ω,P,j,s,m,q4,by show O Z0=_;omega,dZ,M⟩
 rintro⟨bZ,Z0,T,n4⟩ t h4 _ _ ⟨rfl,ab,rfl,P,j,s,m,q4,V,dZ,M⟩;simp only at s m V dZ M;refine zN ?_;refine z7 (v:=.agg #[CJ .u64 (u0:Int),CJ .u64 (u1:Int),CJ .u64 (v0:Int),CJ .u64 (v1:Int),U a3]) R5 (yw R2 q4 ω zb ω)<|mM ?_;have cj:=wW u.1;refine zF _ R5 (ZV (k+3) (a:=a) (b:=b) j.hi s.hi m j.r s.r Z Z V Z Z u.1 dZ ⟨Z,Z,Z,Z⟩ Z Z (by rw[M];exact hE) (by rw[M];exact hO)) ?_;rintro _ h6 n6 w6⟨q,I,cc,c4,a0,qA,qB,ba,bb,b3,cf,cg,ch⟩;have af:=j.lo;have a4:=s.lo;have b8:=j.hi;have b9:=s.hi;try simp only[tH]
 rw[zV (w:=[]) λy hy=>by
  show 3*n<=y;obtain rfl|rfl:=cc y hy
  .exact af
  .exact a4]
 have b4:GRow h6 n n6 F q TA:=⟨j.g,af,Z,qA⟩;have av:GRow h6 n n6 bZ I T:=⟨s.g,a4,Z,qB⟩;refine my ?_;refine zM ?_;have tA:=xi (k+5) (l:=q) Z (λad e=>by injection e with e;rw[<-e]) b4.sl;rw[b3]at tA;refine zF _ R5 tA ?_;rintro _ h6 n6 _⟨rfl,rfl,rfl,rfl,cx⟩;refine zM ?_;have tB:=xi (k+5) (l:=I) Z (λad e=>by injection e with e;rw[<-e]) av.sl;rw[cf,<-V]at tB;refine zF _ R5 tB ?_;rintro _ h6 n6 _⟨rfl,rfl,rfl,rfl,c8⟩;refine my ?_;have p:=xD ba;have Z1:=xD bb;rw[cg]at p;rw[ch]at Z1;have bt:0<a:=by
  obtain h0|h0:=FE a
  .have bu:b=0:=Z;rw[h0,bu,Nat.gcd_zero_right]at ai;have:=F0 (wv B) R;omega
  exact h0
 obtain⟨f',rfl,ah⟩:=SI (a:=a) (b:=b) Z ax hf (EJ R K);have bx:=GRow.cap (A:=q) (T:=TA);have bz:=GRow.cap (A:=I) (T:=T);have co:O (yf q)<=O B:=uO N p.1 (by rw[p.2];exact ax);have cp:O (yf I)<=O (yf q):=uO p.1 Z1.1 Z;exact goOn ⟨yf q,q.drop (O (yf q))++TA,F,yf I,ξ ⟨bZ,0,θ⟩,O Z0+O T,f'⟩ (Fi _) ⟨by show Y _ _ _=Y _ _ _;rw[bx,b3],ω,CE⟩ ⟨by show n<=n6;omega,ω,λc hc=>(a0 c Z Z Z).trans (P c hc),b4.cut,c8,λ_=>⟨bZ,I.drop (O (yf I))++T,ω,by show O Z0+O T=_;rw[bz];omega,av.cut,m⟩,p.1,Z1.1,by show wv (yf I)<=wv (yf q);rw[p.2,Z1.2];exact bw,by show 0<wv (yf q);rw[p.2];exact bt,by show(yf q).length<_;omega,by show(yf I).length<_;omega,by show C6 (wv (yf q)) (wv (yf I))=g;rw[p.2,Z1.2,ai,H],by show wv (yf q)*wv (yf I)<_;rw[p.2,Z1.2];exact ah⟩
end
def rx(k:Nat)(h:HF)(n:Nat)(b:Bool)(a:Option Addr)(l c:Nat):CF (Ka (k+1)) 119 [U b,Y a l c] h n λv d e w=>v=.agg #[U (b&&decide (0<l)),Y a l c]/\e=n+1/\w=[]/\J9 n h d:=by
 refine zw R4<|zN ?_;refine xV R5<|zN ?_;cases b;repeat refine zR ?_
 refine yc [U χ,Y a l c] R7 ω (zg _ _ _) ω (by show 3*n<=_;omega) ?_;refine zN ?_;exact uq R5 (zg _ _ _) ω ⟨ω,ω,ω,by rw[uk];exact Fe Z⟩;by_cases hl:0<l;repeat refine zR ?_
 refine yc [U φ,Y a l c] R7 ω (zg _ _ _) ω (by show 3*n<=_;omega) ?_;refine zN ?_;exact uq R5 (zg _ _ _) ω ⟨by rw[BJ hl];rfl,ω,ω,by rw[uk];exact Fe Z⟩;repeat refine zR ?_
 refine yc [U χ,Y a l c] R7 ω (zg _ _ _) ω (by show 3*n<=_;omega) ?_;refine zN ?_;exact uq R5 (zg _ _ _) ω ⟨by rw[Ae hl];rfl,ω,ω,by rw[uk];exact Fe Z⟩
def NW.zero_iff{L:List Nat}(h:NW L):wv L=0↔L=[]:=⟨λe=>h.inj aa2 AL,λe=>by rw[e];rfl⟩
section
variable {l:Nat}{e:TypeId}
def Gw(n:Nat)(h:HF)(P:ψ->HF->Nat->Prop):ψ->HF->Nat->List Nat->Prop:=λv h' n' w=>w=[]/\n<=n'/\J9 n h h'/\P v h' n'
def CX(C:CalF)(f:FuncId)(args:List ψ)(h:HF)(n:Nat)(P:ψ->HF->Nat->Prop):Prop:=CF C f args h n (Gw n h P)
def VF.cx{C:CalF}{h:HF}{n:Nat}{P:ψ->Prop}(c:VF C f args h n P):CX C f args h n λv _ _=>P v:=by refine wc c ?_;rintro v _ _ _⟨rfl,rfl,rfl,a⟩;exact⟨ω,CG,FH _ _,a⟩
def CX.mono{C:CalF}{h:HF}{n:Nat}{P a:ψ->HF->Nat->Prop}(c:CX C f args h n P)(j:∀v h' n',P v h' n'->a v h' n'):CX C f args h n a:=by refine wc c ?_;rintro v _ _ _⟨q,g,s,p⟩;exact⟨q,g,s,j _ _ _ p⟩
def Only(b:Nat)(h h':HF):Prop:=∀c,c≠b->h' c=h c
def J9.st{n:Nat}{h a g:HF}(x:J9 n h a)(o:Only b a g)(hb:3*n<=b):J9 n h g:=λc j=>(o c Z).trans (x c j)
section
variable {X:CtxF}{r:List Oper}{t:TF}{o:Oper}{d:Tmp}
def tK(cs:List ψ)(a:nJ X ops t o d (Kh o.op=2/\Kr X.E o.op (J8 t)=ξ ⟨cs,e,χ,θ⟩))
  (k:∀h',h' (3*n+2)=ξ (.row cs e)->J9 n h h'->EO X ops r ⟨upd t d (ι (3*n+2)),h',n+1,w⟩ Q):EO X ops (o::r) ⟨t,h,n,w⟩ Q:=by have⟨a,j,q,g,p⟩:=a;exact Ll ⟨a,j,q,g,p⟩ (k _ (zg _ _ _) (Fe Z))
theorem wt(cs:List ψ)(a:nJ X ops t o d (o.op=.alloc e/\X.E.inf e=ξ (sz,bt,z)/\zn z=cs))
  (k:∀h',h' (3*n+2)=ξ (.row cs e)->J9 n h h'->EO X ops r ⟨upd t d (ι (3*n+2)),h',n+1,w⟩ Q):EO X ops (o::r) ⟨t,h,n,w⟩ Q:=by
 obtain⟨a,g,p,q,j,s⟩:=a;subst s;exact xV ⟨a,g,p,q,j⟩ (k _ (zg _ _ _) (Fe Z))
def mq{a x:Operand}{c:List ψ}(c':List ψ)(j:zh ops t o=φ/\o.dst=θ/\o.op=.store ty a x/\X.E.inf ty=ξ (sz,bt,z)/\J8 t a=CM (ξ ⟨b,off,θ⟩))(hb:h b=ξ (.row c e))(hx:zn (J8 t x)=cs/\O cs=sz/\ones cs=φ)(C:off+sz<=O c)(p:zu c off cs=c')(g:3*X.n0<=b)
  (k:∀h',h' b=ξ (.row c' e)->Only b h h'->EO X ops r ⟨t,h',n,w⟩ Q):EO X ops (o::r) ⟨t,h,n,w⟩ Q:=by have⟨j,A,D,B,s⟩:=j;have⟨hx,F,q⟩:=hx;subst p;exact yF ⟨j,A,D,B,s,hx,F,q⟩ hb C g (k _ (zg _ _ _) λc u=>zm u)
def gJ{P:ψ->HF->Nat->Prop}(g:nJ X ops t o d (Kh o.op=3/\effF X.E o.op (J8 t) h n=ξ (.enter f args)))(a:CX X.C f args h n P)
  (k:∀v h' n',P v h' n'->n<=n'->J9 n h h'->EO X ops r ⟨upd t d v,h',n',w⟩ Q):EO X ops (o::r) ⟨t,h,n,w⟩ Q:=by have⟨g,u,B,s,A⟩:=g;refine zF _ ⟨g,u,B,s,A⟩ a ?_;rintro v h' n' _⟨rfl,j,p,q⟩;exact k v h' n' q j p
end
section
variable {X:CtxF}{r:List Oper}{t:TF}{o:Oper}{d:Tmp}
def ZZ(cs:List ψ)(p:zh ops t o=φ)(g:o.dst=ξ d)(j:zv X.nt (ξ d)=φ)(a:Kh o.op=2)(hm:Kr X.E o.op (J8 t)=ξ ⟨cs,e,χ,θ⟩)
  (k:∀h',h' (3*n+2)=ξ (.row cs e)->J9 n h h'->ED X ops r ms (i+1) ⟨⟨upd t d (ι (3*n+2)),h',n+1,w⟩,(i,3*n+2)::al,ld,ef⟩ Q):ED X ops (o::r) (m::ms) i ⟨⟨t,h,n,w⟩,al,ld,ef⟩ Q:=
 XQ p g j a hm (k _ (zg _ _ _) (Fe Z))
def Z5{a x:Operand}{c:List ψ}(c':List ψ)(H:zh ops t o=φ)(C:o.dst=θ)(F:o.op=.store ty a x)(hi:X.E.inf ty=ξ (sz,bt,z))(A:J8 t a=CM (ξ ⟨b,off,θ⟩))(hb:h b=ξ (.row c e))(hx:zn (J8 t x)=cs)(G:O cs=sz)(u:ones cs=φ)(D:off+sz<=O c)(j:zu c off cs=c')(g:3*X.n0<=b)(p:xq m ef=φ)(q:xJ m al=φ)(s:ya m [b] ld=φ)
  (k:∀h',h' b=ξ (.row c' e)->Only b h h'->ED X ops r ms (i+1) ⟨⟨t,h',n,w⟩,al,ld,(i,h,[b])::ef⟩ Q):ED X ops (o::r) (m::ms) i ⟨⟨t,h,n,w⟩,al,ld,ef⟩ Q:=by subst j;exact jX ⟨H,C,F,hi,A,hx,G⟩ u hb D g ⟨p,q,s⟩ (k _ (zg _ _ _) λc B=>zm B)
def Z6{P:ψ->HF->Nat->Prop}(D:zh ops t o=φ)(u:o.dst=ξ d)(B:zv X.nt (ξ d)=φ)(s:Kh o.op=3)(A:effF X.E o.op (J8 t) h n=ξ (.enter f args))(g:CX X.C f args h n P)(j:xq m ef=φ)(a:xJ m al=φ)
  (k:∀v h' n',P v h' n'->n<=n'->J9 n h h'->ED X ops r ms (i+1) ⟨⟨upd t d v,h',n',w⟩,al,ld,(i,h,[])::ef⟩ Q):ED X ops (o::r) (m::ms) i ⟨⟨t,h,n,w⟩,al,ld,ef⟩ Q:=by refine wa _ ⟨D,u,B,s,A,j,a⟩ g ?_;rintro v h' n' _⟨rfl,a,p,q⟩;exact⟨sj,a,k v h' n' q a p⟩
end
def qP{s:SV}:resF Kj s []=ξ []:=rfl
def yX{s:SV}{a:Tmp}{r:List ResultVar}(h:s.t a=v)(g:resF Kj s r=ξ vs):resF Kj s (.tmp a::r)=ξ (v::vs):=by simp only[resF,g,h]
def we{s:SV}{a:Tmp}{g:Addr}{r:List ResultVar}(j:s.t a=CM (ξ g))(p:yB Kj ty s.h g=ξ v)(q:resF Kj s r=ξ vs):resF Kj s (.cell a ty::r)=ξ (v::vs):=by simp only[resF,j,p,q]
def retX{P:ψ->HF->Nat->Prop}{e:Ex}{t:TF}{h:HF}{n:Nat}(vs:List ψ)(a:rI e=φ/\resF Kj ⟨t,h,n,[]⟩ fn.results.toList=ξ vs/\uQ vs=χ)(j:n0<=n)(hx:J9 n0 h0 h)(p:P (qm vs) h n):RetH fn (Gw n0 h0 P) e ⟨t,h,n,[]⟩:=by have⟨a,q,g⟩:=a;exact retH vs ⟨a,q,g⟩ ⟨ω,j,hx,p⟩
def nu:ψ->Bool
 | CJ .u64 _=>χ
 | CJ .u32 _=>χ
 |_=>φ
def Sl.onlyG{h:HF}{n:Nat}(s:Sl h n 1 v cl)(g:∀x∈cl,nu x=χ)(B:h b=ξ (.row cs e))(C:cs.all nu=φ)(A:Only b h h'):Sl h' n 1 v cl:=by
 cases s with
 |nil ha=>exact .nil ha
 | @at_ b2 off len cap x cs2 c2 hb hx hc hcap hl he=>
  by_cases h0:len=0;subst h0;have:cl=[]:=by rw[<-he];simp
  subst this;exact .nil (.inr ⟨_,_,_,ω,hb⟩);have j:b2≠b:=by
   intro p;subst p;rw[B]at hx;cases hx;injection hc with hc;subst hc;have q:O cl=len:=by rw[<-he,DD,Es];omega
   obtain⟨d,a,rfl⟩:∃d a,cl=d::a:=by
    cases cl with
    |nil=>exact BO q.symm h0
    |cons d a=>exact⟨d,a,ω⟩
   have u:d∈cs:=by
    have:d∈(cs.drop off).take (len*1):=by rw[he];exact Eb
    exact List.mem_of_mem_drop (Dx this)
   have:=Fu.1 C _ u;rw[g d Eb]at this;cases this
  exact .at_ hb (by rw[A _ j];exact hx) hc hcap hl he
def Sl.only{h:HF}{n:Nat}{L:List Nat}(s:Sl h n 1 v (u64s L))(g:h b=ξ (.row cs e))(j:cs.all nu=φ)(a:Only b h h'):Sl h' n 1 v (u64s L):=
 s.onlyG (λx p=>by obtain⟨d,_,rfl⟩:=DU.1 p;rfl) g j a
def Sl.only32{h:HF}{n:Nat}{L:List Nat}(s:Sl h n 1 v (u32s L))(g:h b=ξ (.row cs e))(j:cs.all nu=φ)(a:Only b h h'):Sl h' n 1 v (u32s L):=
 s.onlyG (λx p=>by obtain⟨d,_,rfl⟩:=DU.1 p;rfl) g j a
def WW(h:HF)(n:Nat)(a:Option Addr)(l c m:Nat):Prop:=∃L,Sl h n 1 (Y a l c) (u64s L)/\NW L/\wv L=m
def WW.ext{h:HF}{n:Nat}{a:Option Addr}{m:Nat}(i:WW h n a l c m)(e:J9 n h h')(q:n<=n'):WW h' n' a l c m:=by have⟨L,g,j,p⟩:=i;exact⟨L,g.ext e q,j,p⟩
def WW.only{h:HF}{n g:Nat}{a:Option Addr}{m:Nat}(i:WW h n a l c m)(u:h g=ξ (.row cs e))(A:cs.all nu=φ)(s:Only g h h'):WW h' n a l c m:=by have⟨L,j,p,q⟩:=i;exact⟨L,j.only u A s,p,q⟩
def WW.zero{h:HF}{n:Nat}{a:Option Addr}{m:Nat}(i:WW h n a l c m):l=0↔m=0:=by have⟨L,g,j,p⟩:=i;have e:=g.lenW;rw[<-p,j.zero_iff,<-CY,e]
def WW.as{h:HF}{n:Nat}{a:Option Addr}{m:Nat}(i:WW h n a l c m)(e:m=m'):WW h n a l c m':=e▸i
def WW.nil(h:HF)(n:Nat):WW h n θ 0 0 0:=⟨[],.nil (.inl ω),aa2,ω⟩
def IW(h:HF)(n:Nat)(b:Bool)(a:Option Addr)(l c:Nat)(x:Int):Prop:=b=decide (x<0)/\WW h n a l c x.natAbs
def IW.ext{h:HF}{n:Nat}{b:Bool}{a:Option Addr}{x:Int}(i:IW h n b a l c x)(e:J9 n h h')(g:n<=n'):IW h' n' b a l c x:=⟨i.1,i.2.ext e g⟩
def IW.only{h:HF}{n g:Nat}{b:Bool}{a:Option Addr}{x:Int}(i:IW h n b a l c x)(p:h g=ξ (.row cs e))(q:cs.all nu=φ)(j:Only g h h'):IW h' n b a l c x:=⟨i.1,i.2.only p q j⟩
def IW.as{h:HF}{n:Nat}{b:Bool}{a:Option Addr}{x y:Int}(i:IW h n b a l c x)(e:x=y):IW h n b a l c y:=e▸i
def IW.lt{h:HF}{n:Nat}{a:Option Addr}{x:Int}(i:IW h n φ a l c x):x<0:=of_decide_eq_true i.1.symm
def IW.ge{h:HF}{n:Nat}{a:Option Addr}{x:Int}(i:IW h n χ a l c x):0<=x:=Int.not_lt.1 (of_decide_eq_false i.1.symm)
def IV(x:Int)(v:ψ)(h:HF)(n:Nat):Prop:=∃b a l c,v=.agg #[U b,Y a l c]/\IW h n b a l c x
def WV(m:Nat)(v:ψ)(h:HF)(n:Nat):Prop:=∃a l c,v=Y a l c/\WW h n a l c m
def BV(p:Prop)(v:ψ)(_:HF)(_:Nat):Prop:=∃b:Bool,v=U b/\(b=φ↔p)
def NI(x:Int)(v:ψ)(_:HF)(_:Nat):Prop:=∃s:Int,v=CJ .i64 s/\(s= -1/\x<0\/s=0/\x=0\/s=1/\0<x)
def IW.zero(h:HF)(n:Nat):IW h n χ θ 0 0 0:=⟨ω,WW.nil h n⟩
def GG(h:HF)(n:Nat):Prop:=GK.G h/\20<=n
def GG.ext{h:HF}{n:Nat}(g:GG h n)(e:J9 n h h')(a:n<=n'):GG h' n':=⟨rR g.1 e g.2,C5 g.2 a⟩
def BW:Nat:=18446744073709551616^39
def yU{m e:Nat}(h:m<2^e)(j:e<=2496):m<BW:=by have a:e<=64*39:=j;generalize hk:39=k at a;have g:m<(2^64)^k:=(by rw[<-HJ];exact CZ h (CW zd a));subst hk;exact g
def NW.len39{L:List Nat}(h:NW L)(hb:wv L<BW):O L<=39:=h.len_le hb
def KW(b:Bool)(m:Nat):Int:=if b then -(m:Int)else m
def SK(b:Bool)(m:Nat):(KW b m).natAbs=m:=by unfold KW;split<;>omega
theorem SL(b:Bool)(m:Nat):decide (KW b m<0)=(b&&decide (0<m)):=by grind [KW]
def yJ(k:Nat){h:HF}{n:Nat}{a:Option Addr}{m:Nat}(i:WW h n a l c m)(g:Bool):CX (Ka (k+1)) 119 [U g,Y a l c] h n (IV (KW g m)):=by refine wc (rx k h n g a l c) ?_;rintro _ h' n' _⟨rfl,rfl,rfl,j⟩;refine⟨ω,Dc _,j,_,_,_,_,ω,?_,?_⟩;rw[SL];have:=i.zero;congr 1;by_cases h0:0<l;rw[BJ h0,BJ Z];rw[Ae h0,Ae Z];rw[SK];exact i.ext j Zq
def ResW.ww{n:Nat}{h:HF}{w:List Nat}{L:List Nat}(r:ResW n h v h' n' w L){m:Nat}(e:wv L=m):w=[]/\n<=n'/\J9 n h h'/\WV m v h' n':=by have⟨j,p,q,g,s⟩:=r;obtain⟨a,l,c,rfl,_⟩:=g.len;exact⟨j,p,q,_,_,_,ω,L,g,s,e⟩
section
variable (k:Nat){h:HF}{n:Nat}{a1 a2:Option Addr}{l1 c1 l2 c2 x y:Nat}
def SO(i:WW h n a1 l1 c1 x)(j:WW h n a2 l2 c2 y)(hb:x<BW/\y<BW):CX (Ka (k+2)) 133 [Y a1 l1 c1,Y a2 l2 c2] h n (WV (x+y)):=by obtain⟨A,p,a,rfl⟩:=i;obtain⟨C,q,g,rfl⟩:=j;have:=a.len39 hb.1;have:=g.len39 hb.2;refine wc (dK k p q a g Z) ?_;exact BP
def Nc(i:WW h n a1 l1 c1 x)(j:WW h n a2 l2 c2 y)(hb:x<BW/\y<BW)(a:y<=x):CX (Ka (k+2)) 134 [Y a1 l1 c1,Y a2 l2 c2] h n (WV (x-y)):=by obtain⟨A,p,g,rfl⟩:=i;obtain⟨C,q,s,rfl⟩:=j;have:=g.len39 hb.1;refine wc (fe k p q g s Z a) ?_;exact BP
def NJ(i:WW h n a1 l1 c1 x)(j:WW h n a2 l2 c2 y)(hb:x<BW/\y<BW):CX (Ka (k+3)) 120 [Y a1 l1 c1,Y a2 l2 c2] h n (WV (x*y)):=by obtain⟨A,p,a,rfl⟩:=i;obtain⟨C,q,g,rfl⟩:=j;have:=a.len39 hb.1;have:=g.len39 hb.2;refine wc (fV k p q a g Z Z) ?_;exact BP
def SP(i:WW h n a1 l1 c1 x)(j:WW h n a2 l2 c2 y)(hb:x<BW/\y<BW)(h0:0<y):CX (Ka (k+6)) 127 [Y a1 l1 c1,Y a2 l2 c2] h n λv h' n'=>∃a l c g q p,v=.tuple #[Y a l c,Y g q p]/\WW h' n' a l c (x/y)/\WW h' n' g q p (x%y):=by obtain⟨A,Z1,B,rfl⟩:=i;obtain⟨C,P,D,rfl⟩:=j;have:=B.len39 hb.1;have:=D.len39 hb.2;refine wc (ng k Z1 P B D Z h0) ?_;rintro v h' n' w⟨R,S,F,G,rfl,H,I,J,s,K,u,L,M,N,_⟩;obtain⟨a,l,c,rfl,_⟩:=s.len;obtain⟨g,q,p,rfl,_⟩:=u.len;exact⟨H,I,J,_,_,_,_,_,_,ω,⟨F,s,K,M⟩,⟨G,u,L,N⟩⟩
def SQ(g:GG h n)(i:WW h n a1 l1 c1 x)(j:WW h n a2 l2 c2 y)(hb:x<BW/\y<BW):CX (Ka (k+7)) 100 [Y a1 l1 c1,Y a2 l2 c2] h n (WV (C6 x y)):=by obtain⟨A,q,a,rfl⟩:=i;obtain⟨C,s,p,rfl⟩:=j;have:=a.len39 hb.1;have:=p.len39 hb.2;refine wc (eD k g.1 g.2 q s a p Z) ?_;exact BP
def Nd(i:WW h n a1 l1 c1 x)(j:WW h n a2 l2 c2 y)(hb:x<BW/\y<BW):CX (Ka (k+3)) 124 [Y a1 l1 c1,Y a2 l2 c2] h n (NI ((x:Int)-y)):=by obtain⟨A,g,a,rfl⟩:=i;obtain⟨C,p,q,rfl⟩:=j;have:=a.len39 hb.1;refine(uF k g p a q Z).cx.mono ?_;rintro _ _ _ rfl;refine⟨_,ω,?_⟩;obtain h|h|h:=Gs (wv A) (wv C);exact .inl ⟨LF h,Z⟩;exact .inr (.inl ⟨by rw[h];exact jd _,Z⟩);exact .inr (.inr ⟨sO h,Z⟩)
def Z7(h:HF)(n:Nat){w:Nat}(a:w<18446744073709551616):CX (Ka (k+1)) 86 [CJ .u64 (w:Int)] h n (WV w):=by refine wc (sH k h n a) ?_;exact BP
end
end
section
variable {u:Nat}{h0:HF}{x1 x2 x3:ψ}
theorem Kg{b:Bool}{p:Prop}(h:b=φ↔p):b=χ/\¬p\/b=φ/\p:=by grind
def KO{p:Prop}(h:p:=by first|exact⟨hx,hy⟩|exact⟨hy,hx⟩):p:=h
def Kf{p:Prop}(h:¬p):∃b:Bool,U χ=U b/\(b=φ↔p):=⟨_,ω,λa=>Ac,λa=>BO a h⟩
def Kp{p:Prop}(h:p):∃b:Bool,U φ=U b/\(b=φ↔p):=⟨_,ω,λ_=>h,λ_=>rfl⟩
def Kx(b:Nat)(h h':HF):Prop:=Only b h h'/\∃cs e,h b=ξ (.row cs e)/\cs.all nu=φ
def ExtB(n:Nat)(B:List Nat)(h h':HF):Prop:=∀b,b<3*n->b∉B->h' b=h b
def ExtB.refl(n:Nat)(B:List Nat)(h:HF):ExtB n B h h:=λ_ _ _=>rfl
def ExtB.ext{n:Nat}{B:List Nat}{a b c:HF}(x:ExtB n B a b)(y:J9 n' b c)(j:n<=n'):ExtB n B a c:=λk g e=>(y k Z).trans (x k g e)
def ExtB.st{n m:Nat}{B:List Nat}{a b c:HF}(x:ExtB n B a b)(o:Only m b c)(hm:3*n<=m\/m∈B):ExtB n B a c:=λk j g=>by
 refine(o k λe=>?_).trans (x k j g);subst e;obtain hm|hm:=hm
 .omega
 exact g hm
def ExtB.trans{n m:Nat}{B C:List Nat}{a b c:HF}(x:ExtB n B a b)(y:ExtB m C b c)(hm:n<=m)(g:∀k∈C,k∈B\/3*n<=k):ExtB n B a c:=λk l e=>(y k Z λj=>by obtain h|h:=g k j;exact e h;omega).trans (x k l e)
def ExtB.to{n m:Nat}{B:List Nat}{a b:HF}(x:ExtB n B a b)(hm:m<=n)(e:∀k∈B,3*m<=k):J9 m a b:=λk j=>x k Z λg=>by have:=e k g;omega
structure Exa (n:Nat)(h h':HF):Prop where
 e:J9 n h h'
def Exa.zz{n b:Nat}{h:HF}{y:Option BF}(x:Exa n h h')(hb:b<3*n)(e:h b=y):h' b=y:=(x.e b hb).trans e
def J9.zz{n b:Nat}{h:HF}{y:Option BF}(x:J9 n h h')(hb:b<3*n)(e:h b=y):h' b=y:=(x b hb).trans e
def Only.zz{b:Nat}{h:HF}{y:Option BF}(x:Only b h h')(hb:c≠b)(e:h c=y):h' c=y:=(x c hb).trans e
def Kx.zz{b:Nat}{h:HF}{y:Option BF}(x:Kx b h h')(hb:c≠b)(e:h c=y):h' c=y:=(x.1 c hb).trans e
def ExtB.zz{n b:Nat}{B:List Nat}{h:HF}{y:Option BF}(x:ExtB n B h h')(hb:b<3*n)(a:b∉B)(e:h b=y):h' b=y:=(x b hb a).trans e
def Oo(o:Option BF):Prop:=∃x,o=ξ x/\((∃cs e,x=.row cs e/\cs.all nu=φ)\/x.cells=θ)
def Oo.row{e:TypeId}{o:Option BF}(h:o=ξ (.row cs e))(a:cs.all nu=φ):Oo o:=⟨_,h,.inl ⟨_,_,ω,a⟩⟩
def LW(b:Nat)(h h':HF):Prop:=Only b h h'/\∃x,h b=ξ x/\x.cells=θ
def LW.zz{b:Nat}{h:HF}{y:Option BF}(x:LW b h h')(hb:c≠b)(e:h c=y):h' c=y:=(x.1 c hb).trans e
def Tr(n:Nat)(h:HF)(n':Nat)(h':HF):Prop:=n<=n'/\∀c,c<3*n->h' c=h c\/Oo (h c)
def Tx(n:Nat)(h:HF)(n':Nat)(h':HF):Prop:=n<=n'/\J9 n h h'
def Ty(n:Nat)(B:List Nat)(h:HF)(n':Nat)(h':HF):Prop:=n<=n'/\ExtB n B h h'
section
variable {B:List Nat}
def Tr.refl(n:Nat)(h:HF):Tr n h n h:=⟨CG,λ_ _=>.inl ω⟩
def Tr.e(x:J9 n1 h1 h2)(g:n1<=n2)(t:Tr n h n1 h1):Tr n h n2 h2:=⟨C5 t.1 g,λc a=>by rw[x c Bs];exact t.2 c a⟩
def Tr.s(x:Kx b h1 h2)(t:Tr n h n1 h1):Tr n h n1 h2:=by refine⟨t.1,λc g=>?_⟩;by_cases e:c=b;subst e;have⟨cs,e,j,l⟩:=x.2;obtain a|a:=t.2 c g;rw[a]at j;exact .inr (.row j l);exact .inr a;rw[x.1 c e];exact t.2 c g
def Tr.l(x:LW b h1 h2)(t:Tr n h n1 h1):Tr n h n1 h2:=by refine⟨t.1,λc g=>?_⟩;by_cases e:c=b;subst e;have⟨y,j,p⟩:=x.2;obtain a|a:=t.2 c g;rw[a]at j;exact .inr ⟨y,j,.inr p⟩;exact .inr a;rw[x.1 c e];exact t.2 c g
def Tr.trans{n1 n2:Nat}{h1 h2:HF}(a:Tr n h n1 h1)(b:Tr n1 h1 n2 h2):Tr n h n2 h2:=by refine⟨C5 a.1 b.1,λc j=>?_⟩;rcases b.2 c (by have:=a.1;omega)with e|e;rw[e];exact a.2 c j;obtain g|g:=a.2 c j;rw[g]at e;exact .inr e;exact .inr g
def Tx.lp(x:LW b h1 h2)(hb:3*n<=b)(t:Tx n h n1 h1):Tx n h n1 h2:=⟨t.1,t.2.st x.1 hb⟩
def Ty.lp(x:LW b h1 h2)(hb:3*n<=b\/b∈B)(t:Ty n B h n1 h1):Ty n B h n1 h2:=⟨t.1,t.2.st x.1 hb⟩
def Tx.refl(n:Nat)(h:HF):Tx n h n h:=⟨CG,FH _ _⟩
def Tx.e(x:J9 n1 h1 h2)(a:n1<=n2)(t:Tx n h n1 h1):Tx n h n2 h2:=⟨C5 t.1 a,t.2.trans x t.1⟩
def Tx.a(x:Exa lo h1 h2)(g:n<=lo)(j:n<=n2)(t:Tx n h n1 h1):Tx n h n2 h2:=⟨j,t.2.trans x.e g⟩
def Tx.o(x:Only b h1 h2)(hb:3*n<=b)(t:Tx n h n1 h1):Tx n h n1 h2:=⟨t.1,t.2.st x hb⟩
def Tx.s(x:Kx b h1 h2)(hb:3*n<=b)(t:Tx n h n1 h1):Tx n h n1 h2:=⟨t.1,t.2.st x.1 hb⟩
def Tx.l(x:ExtB n1 B h1 h2)(e:n1<=n2)(a:∀k∈B,3*n<=k)(t:Tx n h n1 h1):Tx n h n2 h2:=⟨C5 t.1 e,t.2.trans (x.to t.1 a) CG⟩
def Ty.refl(n:Nat)(B:List Nat)(h:HF):Ty n B h n h:=⟨CG,ExtB.refl _ _ _⟩
def Ty.e(x:J9 n1 h1 h2)(a:n1<=n2)(t:Ty n B h n1 h1):Ty n B h n2 h2:=⟨C5 t.1 a,t.2.ext x t.1⟩
def Ty.a(x:Exa lo h1 h2)(g:n<=lo)(j:n<=n2)(t:Ty n B h n1 h1):Ty n B h n2 h2:=⟨j,t.2.ext x.e g⟩
def Ty.o(x:Only b h1 h2)(hb:3*n<=b\/b∈B)(t:Ty n B h n1 h1):Ty n B h n1 h2:=⟨t.1,t.2.st x hb⟩
def Ty.s(x:Kx b h1 h2)(hb:3*n<=b\/b∈B)(t:Ty n B h n1 h1):Ty n B h n1 h2:=⟨t.1,t.2.st x.1 hb⟩
def Ty.l(x:ExtB n1 C h1 h2)(e:n1<=n2)(a:∀k∈C,k∈B\/3*n<=k)(t:Ty n B h n1 h1):Ty n B h n2 h2:=⟨C5 t.1 e,t.2.trans x t.1 a⟩
end
theorem Sl.trG{h:HF}{n:Nat}(s:Sl h n 1 v cl)(l:∀x∈cl,nu x=χ)(t:Tr n h n' h'):Sl h' n' 1 v cl:=by
 cases s with
 |nil ha=>exact .nil (uw ha t.1)
 | @at_ b2 off len cap x cs2 c2 hb hx hc hcap hl he=>
  have g:b2<3*n':=by have:=t.1;omega
  obtain e|⟨y,j,⟨cs,e,rfl,D⟩|p⟩:=t.2 b2 hb;exact .at_ g (e.trans hx) hc hcap hl he;by_cases h0:len=0;subst h0;have:cl=[]:=by rw[<-he];simp
  subst this;exact .nil (.inr ⟨_,_,_,ω,g⟩);exfalso;rw[j]at hx;cases hx;injection hc with hc;subst hc;have q:O cl=len:=by grind
  obtain⟨d,a,rfl⟩:∃d a,cl=d::a:=by
   cases cl with
   |nil=>exact BO q.symm h0
   |cons d a=>exact⟨d,a,ω⟩
  have A:d∈cs:=by grind
  have:=Fu.1 D _ A;rw[l d Eb]at this;cases this;rw[hx]at j;cases j;rw[hc]at p;cases p
def WW.t{h:HF}{n:Nat}{a:Option Addr}{l m:Nat}(i:WW h n a l c m)(t:Tr n h n' h':=by exact zt):WW h' n' a l c m:=by have⟨L,h1,h2,e⟩:=i;exact⟨L,h1.trG (λx g=>by obtain⟨d,_,rfl⟩:=List.mem_map.1 g;rfl) t,h2,e⟩
def IW.t{h:HF}{n:Nat}{b:Bool}{a:Option Addr}{l:Nat}{x:Int}(i:IW h n b a l c x)(t:Tr n h n' h':=by exact zt):IW h' n' b a l c x:=⟨i.1,i.2.t t⟩
def GG.t{h:HF}{n:Nat}(g:GG h n)(t:Tr n h n' h':=by exact zt):GG h' n':=by have⟨⟨A,D,F⟩,G⟩:=g;have f:∀c x,h c=ξ x->(∀cs e,x=.row cs e->cs.all nu=χ)->c<60->(∀y,x=y->y.cells≠θ)->h' c=ξ x:=(by intro c x l H L I;obtain s|⟨y,a,⟨J,K,rfl,p⟩|j⟩:=t.2 c Z;rw[s,l];rw[l]at a;injection a with a;rw[H _ _ a]at p;cases p;rw[l]at a;injection a with a;subst a;exact absurd j (I _ ω));refine⟨⟨f _ _ A ?_ ?_ ?_,f _ _ D ?_ ?_ ?_,f _ _ F ?_ ?_ ?_⟩,Nat.le_trans G t.1⟩<;>first|decide|(intro cs e q;cases q<;>rfl)|(intro y q;subst q;intro j;cases j)
def GG.x{h:HF}{n:Nat}(g:GG h n)(t:Tx n h n' h':=by exact zx):GG h' n':=g.ext t.2 t.1
def IW.x{h:HF}{n:Nat}{b:Bool}{a:Option Addr}{l:Nat}{x:Int}(i:IW h n b a l c x)(t:Tx n h n' h':=by exact zx):IW h' n' b a l c x:=i.ext t.2 t.1
def Sl.x{h:HF}{n:Nat}{c:List ψ}(s:Sl h n sz v c)(t:Tx n h n' h':=by exact zx):Sl h' n' sz v c:=s.ext t.2 t.1
def zt{n:Nat}{h:HF}(t:Tr n h n' h':=by(repeat (first|exact Tr.refl _ _|(apply Tr.e;assumption;(first|assumption|exact Nat.le_refl _|exact Nat.le_succ _|omega))|(apply Tr.s;assumption)|(apply Tr.l;assumption)))):Tr n h n' h':=t
def zx{n:Nat}{h:HF}(t:Tx n h n' h':=by(repeat (first|exact Tx.refl _ _|(apply Tx.e;assumption;(first|assumption|exact Nat.le_refl _|exact Nat.le_succ _|omega))|(apply Tx.a;assumption;omega;omega)|(apply Tx.s;assumption;omega)|(apply Tx.o;assumption;omega)|(apply Tx.lp;assumption;omega)|(apply Tx.l;assumption;(first|assumption|exact Nat.le_refl _|exact Nat.le_succ _|omega);(intro b g;simp only[List.mem_cons,List.not_mem_nil,or_false]at g<;>omega))))):Tx n h n' h':=t
def zy{n:Nat}{B:List Nat}{h:HF}(t:Ty n B h n' h':=by(repeat (first|exact Ty.refl _ _ _|(apply Ty.e;assumption;(first|assumption|exact Nat.le_refl _|exact Nat.le_succ _|omega))|(apply Ty.a;assumption;omega;omega)|(apply Ty.s;assumption;(first|(left;omega)|(right;simp)))|(apply Ty.o;assumption;(first|(left;omega)|(right;simp)))|(apply Ty.lp;assumption;(first|(left;omega)|(right;simp)))|(apply Ty.l;assumption;(first|assumption|exact Nat.le_refl _|exact Nat.le_succ _|omega);(intro b g;simp only[List.mem_cons,List.not_mem_nil,or_false]at g⊢ <;>omega))))):ExtB n B h h':=t.2
def zp{b:Nat}{h:HF}{x:Option BF}(t:h b=x:=by(repeat (first|assumption|(apply J9.zz;assumption;omega)|(apply Kx.zz;assumption;omega)|(apply Only.zz;assumption;omega)|(apply LW.zz;assumption;omega)|(apply Exa.zz;assumption;omega)|(apply ExtB.zz;assumption;omega;(simp only[List.mem_cons,List.not_mem_nil,or_false,not_false_eq_true]<;>omega))))):h b=x:=t
def Mr{h:HF}{b:Nat}{c:List ψ}{e:TypeId}{r:List ψ}(L:List ψ)(g:GL.isAgg E ty=ξ φ)(hi:E.inf ty=ξ (sz,bt,z))(hb:h b=ξ (.row c e))(a:c.drop off=L++r)(j:L.length=sz)(h1:0<L.length:=by exact Nat.succ_pos _):yB E ty h ⟨b,off,θ⟩=ξ (.agg L.toArray):=by have h2:=congrArg List.length a;rw[List.length_drop,List.length_append]at h2;refine yw (cs:=L) ⟨g,hi⟩ hb ω Z ?_;rw[a,<-j,List.take_left]
def ld1{h:HF}{b:Nat}{c:List ψ}{e:TypeId}{r:List ψ}(a:GL.isAgg E ty=ξ φ)(hi:E.inf ty=ξ (1,bt,z))(hb:h b=ξ (.row c e))(g:c.drop off=x1::r):yB E ty h ⟨b,off,θ⟩=ξ (.agg #[x1]):=Mr [x1] a hi hb g rfl
def Oq{h:HF}{b:Nat}{c:List ψ}{e:TypeId}{r:List ψ}(a:GL.isAgg E ty=ξ φ)(hi:E.inf ty=ξ (2,bt,z))(hb:h b=ξ (.row c e))(g:c.drop off=x1::x2::r):yB E ty h ⟨b,off,θ⟩=ξ (.agg #[x1,x2]):=Mr [x1,x2] a hi hb g rfl
def Ot{h:HF}{b:Nat}{c:List ψ}{e:TypeId}{r:List ψ}(a:GL.isAgg E ty=ξ φ)(hi:E.inf ty=ξ (3,bt,z))(hb:h b=ξ (.row c e))(g:c.drop off=x1::x2::x3::r):yB E ty h ⟨b,off,θ⟩=ξ (.agg #[x1,x2,x3]):=Mr [x1,x2,x3] a hi hb g rfl
def Ou{h:HF}{b:Nat}{c:List ψ}{e:TypeId}{r:List ψ}(a:GL.isAgg E ty=ξ φ)(hi:E.inf ty=ξ (4,bt,z))(hb:h b=ξ (.row c e))(g:c.drop off=x1::x2::x3::x4::r):yB E ty h ⟨b,off,θ⟩=ξ (.agg #[x1,x2,x3,x4]):=Mr [x1,x2,x3,x4] a hi hb g rfl
def Ov{h:HF}{b:Nat}{c:List ψ}{e:TypeId}{r:List ψ}(a:GL.isAgg E ty=ξ φ)(hi:E.inf ty=ξ (5,bt,z))(hb:h b=ξ (.row c e))(g:c.drop off=x1::x2::x3::x4::x5::r):yB E ty h ⟨b,off,θ⟩=ξ (.agg #[x1,x2,x3,x4,x5]):=Mr [x1,x2,x3,x4,x5] a hi hb g rfl
def Ow{h:HF}{b:Nat}{c:List ψ}{e:TypeId}{r:List ψ}(a:GL.isAgg E ty=ξ φ)(hi:E.inf ty=ξ (6,bt,z))(hb:h b=ξ (.row c e))(g:c.drop off=x1::x2::x3::x4::x5::x6::r):yB E ty h ⟨b,off,θ⟩=ξ (.agg #[x1,x2,x3,x4,x5,x6]):=Mr [x1,x2,x3,x4,x5,x6] a hi hb g rfl
def ld10{h:HF}{b:Nat}{c:List ψ}{e:TypeId}{g j l a:ψ}{r:List ψ}(p:GL.isAgg E ty=ξ φ)(hi:E.inf ty=ξ (10,bt,z))(hb:h b=ξ (.row c e))(q:c.drop off=x1::x2::x3::x4::x5::x6::g::j::l::a::r):yB E ty h ⟨b,off,θ⟩=ξ (.agg #[x1,x2,x3,x4,x5,x6,g,j,l,a]):=Mr [x1,x2,x3,x4,x5,x6,g,j,l,a] p hi hb q rfl
def ld11{h:HF}{b:Nat}{c:List ψ}{e:TypeId}{j l p a g:ψ}{r:List ψ}(q:GL.isAgg E ty=ξ φ)(hi:E.inf ty=ξ (11,bt,z))(hb:h b=ξ (.row c e))(s:c.drop off=x1::x2::x3::x4::x5::x6::j::l::p::a::g::r):yB E ty h ⟨b,off,θ⟩=ξ (.agg #[x1,x2,x3,x4,x5,x6,j,l,p,a,g]):=Mr [x1,x2,x3,x4,x5,x6,j,l,p,a,g] q hi hb s rfl
structure Hd (q:Prop):Prop where
 go:q
def SR:Op->Bool
 | .move _=>φ
 | .assign _=>φ
 | .pick _ _ _=>φ
 | .nilCheck _=>φ
 | .unOp _ _ _=>φ
 | .fieldAddr _ _ _=>φ
 | .extract _ _=>φ
 |_=>χ
def SS:Op->Bool
 | .binOp _ _ _ _ _=>φ
 |_=>χ
def litB:ψ->Bool
 | U b=>b|| !b
 |_=>χ
def SU:Op->Option Operand
 | .call c=>(match c.callee,c.args.toList with| .builtin .len,[x]=>ξ x|_,_=>θ)
 |_=>θ
section
variable {X:CtxF}{r:List Oper}{t:TF}{o:Oper}{d:Tmp}
def Z8(_:SR o.op=φ)(k:EO X ops (o::r) ⟨t,h,n,w⟩ Q):EO X ops (o::r) ⟨t,h,n,w⟩ Q:=k
def Z9(_:SS o.op=φ)(k:EO X ops (o::r) ⟨t,h,n,w⟩ Q):EO X ops (o::r) ⟨t,h,n,w⟩ Q:=k
def zo{x:Operand}{b:Nat}{y:BF}(_:o.op=.load ty x)(_:J8 t x=CM (ξ ⟨b,off,θ⟩))(hb:h b=ξ y)(k:h b=ξ y->EO X ops (o::r) ⟨t,h,n,w⟩ Q):EO X ops (o::r) ⟨t,h,n,w⟩ Q:=k hb
def zgQ{x:Operand}{q:BinOp}(_:o.op=.binOp q ty x y ty')(_:litB (J8 t x)=φ)(_:litB (J8 t y)=φ)(k:EO X ops (o::r) ⟨t,h,n,w⟩ Q):EO X ops (o::r) ⟨t,h,n,w⟩ Q:=k
def zgN{x:Operand}{a:Option Addr}{l:Nat}(_:SU o.op=ξ x)(_:J8 t x=Y a l c)(k:EO X ops (o::r) ⟨t,h,n,w⟩ Q):EO X ops (o::r) ⟨t,h,n,w⟩ Q:=k
end
section
variable {X:CtxF}{r:List Oper}{t:TF}{o:Oper}{d:Tmp}
def zhE(_:SR o.op=φ)(k:ED X ops (o::r) (m::ms) i ⟨⟨t,h,n,w⟩,al,ld,ef⟩ Q):ED X ops (o::r) (m::ms) i ⟨⟨t,h,n,w⟩,al,ld,ef⟩ Q:=k
def zhB(_:SS o.op=φ)(k:ED X ops (o::r) (m::ms) i ⟨⟨t,h,n,w⟩,al,ld,ef⟩ Q):ED X ops (o::r) (m::ms) i ⟨⟨t,h,n,w⟩,al,ld,ef⟩ Q:=k
def zhL{x:Operand}{b:Nat}{y:BF}{g:HF}(_:o.op=.load ty x)(_:J8 t x=CM (ξ ⟨b,off,θ⟩))(_:wn m ef i h=(u,g))(hb:g b=ξ y)(k:g b=ξ y->ED X ops (o::r) (m::ms) i ⟨⟨t,h,n,w⟩,al,ld,ef⟩ Q):ED X ops (o::r) (m::ms) i ⟨⟨t,h,n,w⟩,al,ld,ef⟩ Q:=k hb
def zhQ{x:Operand}{q:BinOp}(_:o.op=.binOp q ty x y ty')(_:litB (J8 t x)=φ)(_:litB (J8 t y)=φ)(k:ED X ops (o::r) (m::ms) i ⟨⟨t,h,n,w⟩,al,ld,ef⟩ Q):ED X ops (o::r) (m::ms) i ⟨⟨t,h,n,w⟩,al,ld,ef⟩ Q:=k
def zhN{x:Operand}{a:Option Addr}{l:Nat}(_:SU o.op=ξ x)(_:J8 t x=Y a l c)(k:ED X ops (o::r) (m::ms) i ⟨⟨t,h,n,w⟩,al,ld,ef⟩ Q):ED X ops (o::r) (m::ms) i ⟨⟨t,h,n,w⟩,al,ld,ef⟩ Q:=k
end
def zG{p q:Prop}(k:q)(e:Hd q->p:=by intro k;(repeat (first|refine NA R3 ?_|(refine Z8 ω ?_;first|refine st_I R5 ?_|refine st_B R5 ?_|refine st_S R5 ?_|refine st_P R5 ?_|refine st_A R5 ?_|refine st_T R5 ?_|refine st_U R5 ?_|refine zZ (v:=.pointer θ) R4 ω ?_)|(refine zo ω ω (by(repeat (first|assumption|(apply J9.zz;assumption;omega)|(apply Kx.zz;assumption;omega)|(apply Only.zz;assumption;omega)|(apply LW.zz;assumption;omega)|(apply Exa.zz;assumption;omega)|(apply ExtB.zz;assumption;omega;(simp only[List.mem_cons,List.not_mem_nil,or_false,not_false_eq_true]<;>omega))))) (λa=>?_);first|refine z7 R5 (wf ω a R2) ?_|refine z7 R5 (ld1 ω ω a ω) ?_|refine z7 R5 (Oq ω ω a ω) ?_|refine z7 R5 (Ot ω ω a ω) ?_|refine z7 R5 (Ou ω ω a ω) ?_|refine z7 R5 (Ov ω ω a ω) ?_|refine z7 R5 (Ow ω ω a ω) ?_|refine z7 R5 (ld10 ω ω a ω) ?_|refine z7 R5 (ld11 ω ω a ω) ?_)|(refine zgN ω ω ?_;refine st_I R5 ?_)|(refine zgQ ω ω ω ?_;refine st_B R5 ?_)|(refine Z9 ω ?_;first|refine jC R6 Z ?_|refine Od R6 Z ?_|refine oa R6 Z ?_|refine mD R6 Z ?_|refine ME R6 Z ?_|refine MZ R6 Z ?_|refine jD R6 Z ?_|refine NC R6 Z ?_|refine Oe R6 Z ?_|refine Of R6 Z ?_|refine Og R6 Z ?_|refine Oh R6 Z ?_|refine uI R6 Z ?_|refine qO R6 Z ?_)|simp only[NV,Nat.reduceEqDiff,reduceCtorEq]|refine(ze ω).mpr ?_|refine(za ω).mpr ?_));exact k.go):p:=e ⟨k⟩
def zH{p q:Prop}(k:q)(e:Hd q->p:=by intro k;(repeat (first|refine Pu ω ω ω ?_|(refine zhE ω ?_;first|refine dr_I R5 ?_|refine dr_B R5 ?_|refine dr_S R5 ?_|refine dr_P R5 ?_|refine dr_A R5 ?_|refine dr_T R5 ?_|refine dr_U R5 ?_)|(refine zhL ω ω ω (by(repeat (first|assumption|(apply J9.zz;assumption;omega)|(apply Kx.zz;assumption;omega)|(apply Only.zz;assumption;omega)|(apply LW.zz;assumption;omega)|(apply Exa.zz;assumption;omega)|(apply ExtB.zz;assumption;omega;(simp only[List.mem_cons,List.not_mem_nil,or_false,not_false_eq_true]<;>omega))))) (λa=>?_);first|refine yd R6 (wf ω a R2) R2 ?_|refine yd R6 (ld1 ω ω a ω) R2 ?_|refine yd R6 (Oq ω ω a ω) R2 ?_|refine yd R6 (Ot ω ω a ω) R2 ?_|refine yd R6 (Ou ω ω a ω) R2 ?_|refine yd R6 (Ov ω ω a ω) R2 ?_|refine yd R6 (Ow ω ω a ω) R2 ?_|refine yd R6 (ld10 ω ω a ω) R2 ?_|refine yd R6 (ld11 ω ω a ω) R2 ?_)|(refine zhN ω ω ?_;refine dr_I R5 ?_)|(refine zhQ ω ω ω ?_;refine dr_B R5 ?_)|(refine zhB ω ?_;first|refine Rp R6 Z ?_|refine Rq R6 Z ?_|refine Rs R6 Z ?_|refine Rt R6 Z ?_|refine Rv R6 Z ?_|refine Rw R6 Z ?_|refine Ry R6 Z ?_|refine Rz R6 Z ?_|refine RB R6 Z ?_|refine RC R6 Z ?_|refine RG R6 Z ?_|refine RH R6 Z ?_|refine Pv R6 Z ?_|refine Pw R6 Z ?_)|simp only[NV,Nat.reduceEqDiff,reduceCtorEq]|refine(ze ω).mpr ?_|refine(za ω).mpr ?_));exact k.go):p:=e ⟨k⟩
def zJ{p q:Prop}(k:q)(e:Hd q->p:=by intro k;refine zH ?_;refine zG ?_;exact k.go):p:=e ⟨k⟩
section
variable {X:CtxF}{r:List Oper}{t:TF}{o:Oper}{d:Tmp}
theorem SW{m b i:Nat}{r:List (Nat×Nat)}(h:c≠b)(k:ya m [b] r=φ):ya m [b] ((i,c)::r)=φ:=by
 have a:memN c [b]=χ:=by grind [memN,DO,DE]
 unfold ya;rw[a,He,Jl];exact k
def vc_A(h:v=.agg ⟨cs⟩):zn v=cs:=by subst h;rfl
def sA{e:TypeId}(k:∀h',h' (3*n+2)=ξ (.row cs e)->J9 n h h'->EO X ops r ⟨upd t d (.pointer (ξ ⟨3*n+2,0,θ⟩)),h',n+1,w⟩ Q)(a:zh ops t o=φ:=by rfl)(hd:o.dst=ξ d:=by rfl)(hn:zv X.nt (ξ d)=φ:=by rfl)(ho:o.op=.alloc e:=by rfl)(hi:X.E.inf e=ξ (sz,bt,z):=by rfl)(hz:zn z=cs:=by first|exact vc_A rfl|exact ω):EO X ops (o::r) ⟨t,h,n,w⟩ Q:=wt cs ⟨a,hd,hn,ho,hi,hz⟩ k
def sB{e:TypeId}(cs:List ψ)(k:∀h',h' (3*n+2)=ξ (.row cs e)->J9 n h h'->EO X ops r ⟨upd t d (.pointer (ξ ⟨3*n+2,0,θ⟩)),h',n+1,w⟩ Q)(a:zh ops t o=φ:=by rfl)(hd:o.dst=ξ d:=by rfl)(hn:zv X.nt (ξ d)=φ:=by rfl)(hc:Kh o.op=2:=by rfl)(hm:Kr X.E o.op (J8 t)=ξ ⟨cs,e,χ,θ⟩:=by rfl):EO X ops (o::r) ⟨t,h,n,w⟩ Q:=tK cs ⟨a,hd,hn,hc,hm⟩ k
def sC{P:ψ->HF->Nat->Prop}(a:CX X.C f args h n P)(k:∀v h' n',P v h' n'->n<=n'->J9 n h h'->EO X ops r ⟨upd t d v,h',n',w⟩ Q)(e:zh ops t o=φ:=by rfl)(hd:o.dst=ξ d:=by rfl)(hn:zv X.nt (ξ d)=φ:=by rfl)(hc:Kh o.op=3:=by rfl)(he:effF X.E o.op (J8 t) h n=ξ (.enter f args):=by rfl):EO X ops (o::r) ⟨t,h,n,w⟩ Q:=gJ ⟨e,hd,hn,hc,he⟩ a k
def sT(cs:Array ψ)(k:EO X ops r ⟨upd t d (.agg cs),h,n,w⟩ Q)(a:zh ops t o=φ:=by rfl)(hd:o.dst=ξ d:=by rfl)(hn:zv X.nt (ξ d)=φ:=by rfl)(hc:Kh o.op=0:=by rfl)(hv:yy X.E o.op (J8 t)=ξ (.agg cs):=by rfl):EO X ops (o::r) ⟨t,h,n,w⟩ Q:=st_A ⟨a,hd,hn,hc,hv⟩ k
def sS{a x:Operand}{b:Nat}{c:List ψ}{e:TypeId}(c':List ψ)(k:∀h',h' b=ξ (.row c' e)->Kx b h h'->EO (KI kk n0 nt) ops r ⟨t,h',n,w⟩ Q)(g:zh ops t o=φ:=by rfl)(hd:o.dst=θ:=by rfl)(ho:o.op=.store ty a x:=by rfl)(hi:Kj.inf ty=ξ (sz,bt,z):=by rfl)(ha:J8 t a=.pointer (ξ ⟨b,off,θ⟩):=by rfl)(hb:h b=ξ (.row c e):=by exact zp)(hu:c.all nu=φ:=by rfl)(hx:zn (J8 t x)=cs:=by rfl)(hs:cs.length=sz:=by rfl)(h1:ones cs=φ:=by rfl)(hl:off+sz<=c.length:=by exact zb)(hsp:zu c off cs=c':=by rfl)(hnew:3*n0<=b:=by omega):EO (KI kk n0 nt) ops (o::r) ⟨t,h,n,w⟩ Q:=mq c' ⟨g,hd,ho,hi,ha⟩ hb ⟨hx,hs,h1⟩ hl hsp hnew λh' p q=>k h' p ⟨q,_,_,hb,hu⟩
end
section
variable {X:CtxF}{r:List Oper}{t:TF}{o:Oper}{d:Tmp}
def dB{e:TypeId}(cs:List ψ)(k:∀h',h' (3*n+2)=ξ (.row cs e)->J9 n h h'->ED X ops r ms (i+1) ⟨⟨upd t d (.pointer (ξ ⟨3*n+2,0,θ⟩)),h',n+1,w⟩,(i,3*n+2)::al,ld,ef⟩ Q)(a:zh ops t o=φ:=by rfl)(hd:o.dst=ξ d:=by rfl)(hn:zv X.nt (ξ d)=φ:=by rfl)(hc:Kh o.op=2:=by rfl)(hm:Kr X.E o.op (J8 t)=ξ ⟨cs,e,χ,θ⟩:=by rfl):ED X ops (o::r) (m::ms) i ⟨⟨t,h,n,w⟩,al,ld,ef⟩ Q:=ZZ cs a hd hn hc hm k
def dC{P:ψ->HF->Nat->Prop}(a:CX X.C f args h n P)(k:∀v h' n',P v h' n'->n<=n'->J9 n h h'->ED X ops r ms (i+1) ⟨⟨upd t d v,h',n',w⟩,al,ld,(i,h,[])::ef⟩ Q)(e:zh ops t o=φ:=by rfl)(hd:o.dst=ξ d:=by rfl)(hn:zv X.nt (ξ d)=φ:=by rfl)(hc:Kh o.op=3:=by rfl)(he:effF X.E o.op (J8 t) h n=ξ (.enter f args):=by rfl)(h1:xq m ef=φ:=by rfl)(h2:xJ m al=φ:=by rfl):ED X ops (o::r) (m::ms) i ⟨⟨t,h,n,w⟩,al,ld,ef⟩ Q:=Z6 e hd hn hc he a h1 h2 k
def dT(cs:Array ψ)(k:ED X ops r ms (i+1) ⟨⟨upd t d (.agg cs),h,n,w⟩,al,ld,ef⟩ Q)(a:zh ops t o=φ:=by rfl)(hd:o.dst=ξ d:=by rfl)(hn:zv X.nt (ξ d)=φ:=by rfl)(hc:(Kh o.op==0||Kh o.op==4)=φ:=by rfl)(hv:yy X.E o.op (J8 t)=ξ (.agg cs):=by rfl):ED X ops (o::r) (m::ms) i ⟨⟨t,h,n,w⟩,al,ld,ef⟩ Q:=dr_A ⟨a,hd,hn,hc,hv⟩ k
def dS{a x:Operand}{b:Nat}{c:List ψ}{e:TypeId}(c':List ψ)(k:∀h',h' b=ξ (.row c' e)->Kx b h h'->ED (KI kk n0 nt) ops r ms (i+1) ⟨⟨t,h',n,w⟩,al,ld,(i,h,[b])::ef⟩ Q)(g:zh ops t o=φ:=by rfl)(hd:o.dst=θ:=by rfl)(ho:o.op=.store ty a x:=by rfl)(hi:Kj.inf ty=ξ (sz,bt,z):=by rfl)(ha:J8 t a=.pointer (ξ ⟨b,off,θ⟩):=by rfl)(hb:h b=ξ (.row c e):=by exact zp)(hu:c.all nu=φ:=by rfl)(hx:zn (J8 t x)=cs:=by rfl)(hs:cs.length=sz:=by rfl)(h1:ones cs=φ:=by rfl)(hl:off+sz<=c.length:=by exact zb)(hsp:zu c off cs=c':=by rfl)(hnew:3*n0<=b:=by omega)(g1:xq m ef=φ:=by rfl)(g2:xJ m al=φ:=by rfl)(g3:ya m [b] ld=φ:=by first|exact rfl|(repeat (first|exact rfl|(apply SW;omega)))):ED (KI kk n0 nt) ops (o::r) (m::ms) i ⟨⟨t,h,n,w⟩,al,ld,ef⟩ Q:=Z5 c' g hd ho hi ha hb hx hs h1 hl hsp hnew g1 g2 g3 λh' p q=>k h' p ⟨q,_,_,hb,hu⟩
end
def SX{s:SV}{a:Tmp}{b:Nat}{y:BF}{r:List ResultVar}(_:s.t a=CM (ξ ⟨b,off,θ⟩))(hb:s.h b=ξ y)(k:s.h b=ξ y->resF Kj s (.cell a ty::r)=ξ vs):resF Kj s (.cell a ty::r)=ξ vs:=k hb
def zq{p:Prop}{P:ψ->HF->Nat->Prop}{e:Ex}{t:TF}{h:HF}{n0 n:Nat}(a:P (qm vs) h n)(go:Hd (RetH fn (Gw n0 h0 P) e ⟨t,h,n,[]⟩)->p:=by intro k;refine zH ?_;refine zG ?_;exact k.go)(he:rI e=φ:=by rfl)(hr:resF Kj ⟨t,h,n,[]⟩ fn.results.toList=ξ vs:=by(repeat (first|exact qP|(apply yX (v:=.bool _);exact ω)|(apply yX (v:=.int _ _);exact ω)|(apply yX (v:=.slice _ _ _);exact ω)|(apply yX (v:=.agg #[_,_]);exact ω)|(apply yX (v:=.agg #[_,_,_,_]);exact ω)|(apply yX (v:=.string _);exact ω)|(apply yX;exact ω)|(apply SX;exact rfl;(focus ((repeat (first|assumption|(apply J9.zz;assumption;omega)|(apply Kx.zz;assumption;omega)|(apply Only.zz;assumption;omega)|(apply LW.zz;assumption;omega)|(apply Exa.zz;assumption;omega)|(apply ExtB.zz;assumption;omega;(simp only[List.mem_cons,List.not_mem_nil,or_false,not_false_eq_true]<;>omega))));done));intro hblk;first|(apply we;exact rfl;exact wf ω hblk R2)|(apply we;exact rfl;exact ld1 ω ω hblk ω)|(apply we;exact rfl;exact Oq ω ω hblk ω)|(apply we;exact rfl;exact Ot ω ω hblk ω)|(apply we;exact rfl;exact Ou ω ω hblk ω)|(apply we;exact rfl;exact Ov ω ω hblk ω)|(apply we;exact rfl;exact Ow ω ω hblk ω)|(apply we;exact rfl;exact ld10 ω ω hblk ω)|(apply we;exact rfl;exact ld11 ω ω hblk ω)))))(hf:uQ vs=χ:=by rfl)(hx:Tx n0 h0 n h:=by exact zx):p:=go ⟨retX vs ⟨he,hr,hf⟩ hx.1 hx.2 a⟩
def zf{p:Prop}{P:ψ->Prop}{e:Ex}{s:SV}(a:P (qm vs))(go:Hd (RetF fn P e s)->p:=by intro k;refine zH ?_;refine zG ?_;exact k.go)(he:rI e=φ:=by rfl)(hr:resF Kj s fn.results.toList=ξ vs:=by(repeat (first|exact qP|(apply yX (v:=.bool _);exact ω)|(apply yX (v:=.int _ _);exact ω)|(apply yX (v:=.slice _ _ _);exact ω)|(apply yX (v:=.agg #[_,_]);exact ω)|(apply yX (v:=.agg #[_,_,_,_]);exact ω)|(apply yX (v:=.string _);exact ω)|(apply yX;exact ω)|(apply SX;exact rfl;(focus ((repeat (first|assumption|(apply J9.zz;assumption;omega)|(apply Kx.zz;assumption;omega)|(apply Only.zz;assumption;omega)|(apply LW.zz;assumption;omega)|(apply Exa.zz;assumption;omega)|(apply ExtB.zz;assumption;omega;(simp only[List.mem_cons,List.not_mem_nil,or_false,not_false_eq_true]<;>omega))));done));intro hblk;first|(apply we;exact rfl;exact wf ω hblk R2)|(apply we;exact rfl;exact ld1 ω ω hblk ω)|(apply we;exact rfl;exact Oq ω ω hblk ω)|(apply we;exact rfl;exact Ot ω ω hblk ω)|(apply we;exact rfl;exact Ou ω ω hblk ω)|(apply we;exact rfl;exact Ov ω ω hblk ω)|(apply we;exact rfl;exact Ow ω ω hblk ω)|(apply we;exact rfl;exact ld10 ω ω hblk ω)|(apply we;exact rfl;exact ld11 ω ω hblk ω)))))(hf:uQ vs=φ:=by rfl)(hw:s.w=[]:=by rfl):p:=go ⟨retF vs he hr ⟨hf,hw⟩ a⟩
def sF{X:CtxF}{c:Code}{t:TF}{h:HF}{n:Nat}{w:List Nat}{Q:Ex->SV->Prop}(e:α->List (Nat×ψ))(I:α->HF->Nat->List Nat->Prop)(μ:α->Nat)(a:α)(j:I a h n w)(g:∀a t h n w,I a h n w->EC X c ⟨gk t (e a),h,n,w⟩ (qY e I μ a Q))(l:tJ t (e a):=by repeat (first|exact trivial|refine⟨ω,?_⟩))(hm:μ a<X.L:=by show _<LL;unfold LL;(try dsimp only);omega):EC X (.loop c) ⟨t,h,n,w⟩ Q:=ye e I μ a l j hm g
def sK{e:α->List (Nat×ψ)}{I:α->HF->Nat->List Nat->Prop}{μ:α->Nat}{a:α}{Q:Ex->SV->Prop}{t:TF}{h:HF}{n:Nat}{w:List Nat}(g:α)(h3:I g h n w)(h1:μ g<μ a:=by(try dsimp only);omega)(h2:tJ t (e g):=by repeat (first|exact trivial|refine⟨ω,?_⟩)):qY e I μ a Q .normal ⟨t,h,n,w⟩:=goOn g h1 h2 h3
def mN{p q:Prop}(k:q)(e:ZH q->p:=by intro k;refine zG ?_;refine zl ?_;exact k.go):p:=e ⟨k⟩
def kh{p q:Prop}(k:q)(e:ZH q->p:=by intro k;refine mN ?_;refine zH ?_;exact k.go):p:=e ⟨k⟩
def Za{p q:Prop}(k:q)(e:ZH q->p:=by intro k;refine zG ?_;refine sA ?_;exact k.go):p:=e ⟨k⟩
end
section
variable {cx:Nat}
def bj(k:Nat){x:Int}(a:IW h n sx ax lx cx x):VF (Ka (k+1)) 57 [.agg #[U sx,Y ax lx cx]] h n λv=>∃b:Bool,v=U b/\(b=φ↔x=0):=by refine zO R4<|zG ?_;refine sB [U sx,Y ax lx cx] λc d e=>?_;refine zG ?_;by_cases q12:(lx:Int)=0;refine zf ?_;exact⟨_,ω,AV⟩;refine zf ?_;exact⟨_,ω,AV⟩
def yK(k:Nat){x:Int}(a:IW h n bx ax lx cx x):CX (Ka (k+1)) 57 [.agg #[U bx,Y ax lx cx]] h n (BV (x=0)):=(bj k a).cx
def zpa(k:Nat){x:Int}(a:IW h n sx ax lx cx x):VF (Ka (k+1)) 46 [.agg #[U sx,Y ax lx cx]] h n λv=>∃s:Int,v=CJ .i64 s/\(s= -1/\x<0\/s=0/\x=0\/s=1/\0<x):=by refine zO R4<|zG ?_;refine sB [U sx,Y ax lx cx] λb c d=>?_;refine zG ?_;by_cases q12:(lx:Int)=0;refine zf ?_;exact⟨_,ω,by have:=a.2.zero;omega⟩;refine zG ?_;cases sx;refine zf ?_;exact⟨_,ω,by have:=a.ge;have:=a.2.zero;omega⟩;refine zf ?_;exact⟨_,ω,by have:=a.lt;have:=a.2.zero;omega⟩
def Nf(k:Nat){x:Int}(a:IW h n bx ax lx cx x):CX (Ka (k+1)) 46 [.agg #[U bx,Y ax lx cx]] h n (NI x):=(zpa k a).cx
def tU(k:Nat){x:Int}(d:IW h n bx ax lx cx x):CX (Ka (k+1)) 101 [.agg #[U bx,Y ax lx cx]] h n (BV (x=1)):=by have⟨e,L,b,a,c⟩:=d;refine(Zv k b a).cx.mono ?_;rintro _ _ _ rfl;refine⟨_,ω,?_⟩;rw[c,e,Bool.and_eq_true,Bool.not_eq_true',decide_eq_false_iff_not,decide_eq_true_iff];omega
def negX(k:Nat){x:Int}(a:IW h n sx ax lx cx x):CX (Ka (k+2)) 95 [.agg #[U sx,Y ax lx cx]] h n (IV (-x)):=by refine zw R4<|zG ?_;refine sB [U sx,Y ax lx cx] λo C H=>?_;refine sA λp D I=>?_;refine zG ?_;cases sx;refine zG ?_;refine sC (yJ _ a.t.2 φ) ?_;rintro _ q w⟨d,b,l,f,rfl,i⟩ L J;refine sS [U d,Y b l f] λs F A=>?_;refine zq ?_;exact⟨_,_,_,_,ω,i.t.as (by have:=a.ge;unfold KW;(try simp only[Ia,He,if_true,if_false,ET]);omega)⟩;refine zG ?_;refine sC (yJ _ a.t.2 χ) ?_;rintro _ u y⟨e,c,m,g,rfl,j⟩ M K;refine sS [U e,Y c m g] λv G B=>?_;refine zq ?_;exact⟨_,_,_,_,ω,j.t.as (by have:=a.lt;unfold KW;(try simp only[Ia,He,if_true,if_false,ET]);omega)⟩
def addX(k:Nat){x:Int}{y:Int}(a:IW h n sx ax lx cx x)(b:IW h n sy ay ly cy y)(hx:x.natAbs<BW)(hy:y.natAbs<BW):CX (Ka (k+4)) 103 [.agg #[U sx,Y ax lx cx],.agg #[U sy,Y ay ly cy]] h n (IV (x+y)):=by refine zw R4<|zG ?_;refine sB [U sx,Y ax lx cx] λar co d3=>?_;refine sB [U sy,Y ay ly cy] λau cp d4=>?_;refine sA λav cq d5=>?_;refine zG ?_;cases sx;refine zG ?_;cases sy;refine kh ?_;refine dC (SO _ a.t.2 b.t.2 KO) ?_;rintro _ aw bw⟨ab,bo,aj,rfl,L⟩ dp d6;refine dC (yJ _ L χ) ?_;rintro _ az bz⟨p,e,a3,C,rfl,M⟩ dq d7;refine dS [U p,Y e a3 C] λb0 cr cg=>?_;refine zq ?_;exact⟨_,_,_,_,ω,M.t.as (by have:=a.ge;have:=b.ge;unfold KW;(try simp only[if_true,if_false,ET]);omega)⟩;refine zG ?_;refine sC (Nd _ a.t.2 b.t.2 KO) ?_;rintro _ b1 c0⟨d1,rfl,c⟩ dr d8;obtain⟨rfl,c⟩|⟨rfl,c⟩|⟨rfl,c⟩:=c;refine kh ?_;refine dC (Nc _ b.t.2 a.t.2 KO Z) ?_;rintro _ b2 c1⟨ac,bp,ak,rfl,N⟩ ds d9;refine dC (yJ _ N φ) ?_;rintro _ b3 c2⟨q,f,a4,D,rfl,Z1⟩ dt da;refine dS [U q,Y f a4 D] λb4 cs ch=>?_;refine zq ?_;exact⟨_,_,_,_,ω,Z1.t.as ns⟩;refine kh ?_;refine dC (Nc _ a.t.2 b.t.2 KO Z) ?_;rintro _ b5 c3⟨ad,bq,al,rfl,P⟩ du db;refine dC (yJ _ P χ) ?_;rintro _ b6 c4⟨s,g,a5,F,rfl,R⟩ dv dc;refine dS [U s,Y g a5 F] λb7 ct ci=>?_;refine zq ?_;exact⟨_,_,_,_,ω,R.t.as ns⟩;refine kh ?_;refine dC (Nc _ a.t.2 b.t.2 KO Z) ?_;rintro _ b8 c5⟨ae,br,am,rfl,S⟩ dw dd;refine dC (yJ _ S χ) ?_;rintro _ b9 c6⟨u,i,a6,G,rfl,T⟩ dx de;refine dS [U u,Y i a6 G] λba cu cj=>?_;refine zq ?_;exact⟨_,_,_,_,ω,T.t.as ns⟩;refine zG ?_;cases sy;refine zG ?_;refine sC (Nd _ a.t.2 b.t.2 KO) ?_;rintro _ bb c7⟨d2,rfl,d⟩ dy df;obtain⟨rfl,d⟩|⟨rfl,d⟩|⟨rfl,d⟩:=d;refine kh ?_;refine dC (Nc _ b.t.2 a.t.2 KO Z) ?_;rintro _ bc c8⟨af,bs,an,rfl,Z4⟩ dz dg;refine dC (yJ _ Z4 χ) ?_;rintro _ bd c9⟨v,j,a7,H,rfl,V⟩ e0 dh;refine dS [U v,Y j a7 H] λbe cv ck=>?_;refine zq ?_;exact⟨_,_,_,_,ω,V.t.as nN⟩;refine kh ?_;refine dC (Nc _ a.t.2 b.t.2 KO Z) ?_;rintro _ bf ca⟨ag,bt,ao,rfl,W⟩ e1 di;refine dC (yJ _ W φ) ?_;rintro _ bg cb⟨w,l,a8,I,rfl,Z3⟩ e2 dj;refine dS [U w,Y l a8 I] λbh cw cl=>?_;refine zq ?_;exact⟨_,_,_,_,ω,Z3.t.as nN⟩;refine kh ?_;refine dC (Nc _ a.t.2 b.t.2 KO Z) ?_;rintro _ bi cc⟨ah,bu,ap,rfl,Z0⟩ e3 dk;refine dC (yJ _ Z0 φ) ?_;rintro _ bj cd⟨A,m,a9,J,rfl,a0⟩ e4 dl;refine dS [U A,Y m a9 J] λbk cz cm=>?_;refine zq ?_;exact⟨_,_,_,_,ω,a0.t.as nN⟩;refine kh ?_;refine dC (SO _ a.t.2 b.t.2 KO) ?_;rintro _ bl ce⟨ai,bv,aq,rfl,a1⟩ e5 dm;refine dC (yJ _ a1 φ) ?_;rintro _ bm cf⟨B,o,aa,K,rfl,a2⟩ e6 dn;refine dS [U B,Y o aa K] λbn d0 cn=>?_;refine zq ?_;exact⟨_,_,_,_,ω,a2.t.as (by have:=a.lt;have:=b.lt;unfold KW;(try simp only[if_true,if_false,ET]);omega)⟩
def ke{b:Bool}{x y:Int}(h:b=(decide (x<0) != decide (y<0))):KW b (x.natAbs*y.natAbs)=x*y:=by subst h;by_cases hx:x<0<;>by_cases hy:y<0;rw[BJ hx,BJ hy];show((x.natAbs*y.natAbs:Nat):Int)=_;rw[EW,Gk Z,Gk Z,Int.neg_mul_neg];rw[BJ hx,Ae hy];show -((x.natAbs*y.natAbs:Nat):Int)=_;rw[EW,Gk Z,Hl Z,Int.neg_mul,Hk];rw[Ae hx,BJ hy];show -((x.natAbs*y.natAbs:Nat):Int)=_;rw[EW,Hl Z,Gk Z,Int.mul_neg,Hk];rw[Ae hx,Ae hy];show((x.natAbs*y.natAbs:Nat):Int)=_;rw[EW,Hl Z,Hl Z]
def kd{b:Bool}{x y:Int}(h:b=(decide (x<0) != decide (y<0))):KW b (x.natAbs/y.natAbs)=x.tdiv y:=by subst h;by_cases hx:x<0<;>by_cases hy:y<0;obtain⟨a,rfl⟩:∃a:Nat,x= -(a:Int):=⟨x.natAbs,Z⟩;obtain⟨c,rfl⟩:∃c:Nat,y= -(c:Int):=⟨y.natAbs,Z⟩;rw[BJ hx,BJ hy,ab6,ab7,Hk,Ff,Ff];rfl;obtain⟨a,rfl⟩:∃a:Nat,x= -(a:Int):=⟨x.natAbs,Z⟩;obtain⟨c,rfl⟩:∃c:Nat,y=(c:Int):=⟨y.natAbs,Z⟩;rw[BJ hx,Ae hy,ab6,Ff];rfl;obtain⟨a,rfl⟩:∃a:Nat,x=(a:Int):=⟨x.natAbs,Z⟩;obtain⟨c,rfl⟩:∃c:Nat,y= -(c:Int):=⟨y.natAbs,Z⟩;rw[Ae hx,BJ hy,ab7,Ff];rfl;obtain⟨a,rfl⟩:∃a:Nat,x=(a:Int):=⟨x.natAbs,Z⟩;obtain⟨c,rfl⟩:∃c:Nat,y=(c:Int):=⟨y.natAbs,Z⟩;rw[Ae hx,Ae hy];rfl
def mulX(k:Nat){x:Int}{y:Int}(a:IW h n sx ax lx cx x)(b:IW h n sy ay ly cy y)(hx:x.natAbs<BW)(hy:y.natAbs<BW):CX (Ka (k+5)) 87 [.agg #[U sx,Y ax lx cx],.agg #[U sy,Y ay ly cy]] h n (IV (x*y)):=by refine zw R4<|zG ?_;refine sB [U sx,Y ax lx cx] λS ao az=>?_;refine sB [U sy,Y ay ly cy] λT ap b0=>?_;refine sA λZ4 aq b1=>?_;refine kh ?_;cases sx;refine zH ?_;cases sy;refine zH ?_;refine dC (NJ _ a.t.2 b.t.2 KO) ?_;rintro _ V ac⟨J,a8,N,rfl,s⟩ ba b2;refine dC (yJ _ s χ) ?_;rintro _ W ad⟨g,c,F,m,rfl,u⟩ bb b3;refine dS [U g,Y c F m] λZ3 ar ak=>?_;refine zq ?_;exact⟨_,_,_,_,ω,u.t.as (by have:=a.ge;have:=b.ge;exact ke rp)⟩;refine zH ?_;refine dC (NJ _ a.t.2 b.t.2 KO) ?_;rintro _ Z0 ae⟨K,a9,Z1,rfl,v⟩ bc b4;refine dC (yJ _ v φ) ?_;rintro _ a0 af⟨i,d,G,o,rfl,w⟩ bd b5;refine dS [U i,Y d G o] λa1 au al=>?_;refine zq ?_;exact⟨_,_,_,_,ω,w.t.as (by have:=a.ge;have:=b.lt;exact ke rp)⟩;refine zH ?_;cases sy;refine zH ?_;refine dC (NJ _ a.t.2 b.t.2 KO) ?_;rintro _ a2 ag⟨L,aa,P,rfl,A⟩ be b6;refine dC (yJ _ A φ) ?_;rintro _ a3 ah⟨j,e,H,p,rfl,B⟩ bf b7;refine dS [U j,Y e H p] λa4 av am=>?_;refine zq ?_;exact⟨_,_,_,_,ω,B.t.as (by have:=a.lt;have:=b.ge;exact ke rp)⟩;refine zH ?_;refine dC (NJ _ a.t.2 b.t.2 KO) ?_;rintro _ a5 ai⟨M,ab,R,rfl,C⟩ bg b8;refine dC (yJ _ C χ) ?_;rintro _ a6 aj⟨l,f,I,q,rfl,D⟩ bh b9;refine dS [U l,Y f I q] λa7 aw an=>?_;refine zq ?_;exact⟨_,_,_,_,ω,D.t.as (by have:=a.lt;have:=b.lt;exact ke rp)⟩
def zmr(k:Nat){x:Int}{y:Int}(o:IW h n sx ax lx cx x)(m:IW h n sy ay ly cy y)(hx:x.natAbs<BW)(hy:y.natAbs<BW)(b9:y≠0):CX (Ka (k+7)) 102 [.agg #[U sx,Y ax lx cx],.agg #[U sy,Y ay ly cy]] h n λv V n'=>∃b a l c g d e f,v=.tuple #[.agg #[U b,Y a l c],.agg #[U g,Y d e f]]/\IW V n' b a l c (x.tdiv y)/\∃r,IW V n' g d e f r:=by refine zw R4<|zG ?_;refine sB [U sx,Y ax lx cx] λai bu ca=>?_;refine sB [U sy,Y ay ly cy] λaj bv cb=>?_;refine sA λak bw cc=>?_;refine sA λal bz cd=>?_;refine zG ?_;by_cases q15:(ly:Int)=0;refine zG ?_;refine sT #[U χ,η] ?_;refine sT #[U χ,η] ?_;refine sS [U χ,η] λam c0 bk=>?_;refine sS [U χ,η] λan c1 bl=>?_;refine zG ?_;exact BO (m.2.zero.1 Z) Z;refine zG ?_;refine sC (SP _ o.t.2 m.t.2 KO Z) ?_;rintro _ ao bb⟨ad,ba,ae,af,ag,ah,rfl,i,j⟩ cn ce;refine kh ?_;cases sx;refine zH ?_;cases sy;refine zH ?_;refine dC (yJ _ i χ) ?_;rintro _ ap bc⟨D,p,a5,M,rfl,W⟩ co cf;refine zH ?_;refine dC (yJ _ j.t χ) ?_;rintro _ aq bd⟨F,q,a6,N,rfl,Z3⟩ cp cg;refine dS [U D,Y p a5 M] λar c2 bm=>?_;refine dS [U F,Y q a6 N] λau c3 bn=>?_;refine zq ?_;exact⟨_,_,_,_,_,_,_,_,ω,W.t.as (by have:=o.ge;have:=m.ge;exact kd rp),_,Z3.t⟩;refine zH ?_;refine dC (yJ _ i φ) ?_;rintro _ av be⟨G,s,a7,Z1,rfl,Z0⟩ cq ch;refine zH ?_;refine dC (yJ _ j.t χ) ?_;rintro _ aw bf⟨H,u,a8,P,rfl,a0⟩ cr ci;refine dS [U G,Y s a7 Z1] λaz c4 bo=>?_;refine dS [U H,Y u a8 P] λb0 c5 bp=>?_;refine zq ?_;exact⟨_,_,_,_,_,_,_,_,ω,Z0.t.as (by have:=o.ge;have:=m.lt;exact kd rp),_,a0.t⟩;refine zH ?_;cases sy;refine zH ?_;refine dC (yJ _ i φ) ?_;rintro _ b1 bg⟨I,w,a9,R,rfl,a1⟩ cs cj;refine zH ?_;refine dC (yJ _ j.t φ) ?_;rintro _ b2 bh⟨J,A,aa,S,rfl,a2⟩ ct ck;refine dS [U I,Y w a9 R] λb3 c6 bq=>?_;refine dS [U J,Y A aa S] λb4 c7 br=>?_;refine zq ?_;exact⟨_,_,_,_,_,_,_,_,ω,a1.t.as (by have:=o.lt;have:=m.ge;exact kd rp),_,a2.t⟩;refine zH ?_;refine dC (yJ _ i χ) ?_;rintro _ b5 bi⟨K,B,ab,T,rfl,a3⟩ cu cl;refine zH ?_;refine dC (yJ _ j.t φ) ?_;rintro _ b6 bj⟨L,C,ac,Z4,rfl,a4⟩ cv cm;refine dS [U K,Y B ab T] λb7 c8 bs=>?_;refine dS [U L,Y C ac Z4] λb8 c9 bt=>?_;refine zq ?_;exact⟨_,_,_,_,_,_,_,_,ω,a3.t.as (by have:=o.lt;have:=m.lt;exact kd rp),_,a4.t⟩
def quoX(k:Nat){x:Int}{y:Int}(p:IW h n sx ax lx cx x)(q:IW h n sy ay ly cy y)(hx:x.natAbs<BW)(s:y.natAbs<BW)(m:y≠0):CX (Ka (k+8)) 58 [.agg #[U sx,Y ax lx cx],.agg #[U sy,Y ay ly cy]] h n (IV (x.tdiv y)):=by refine zw R4<|zG ?_;refine sB [U sx,Y ax lx cx] λv S a3=>?_;refine sB [U sy,Y ay ly cy] λw T a4=>?_;refine sA λA Z4 a5=>?_;refine zG ?_;refine sC (tU _ q.t) ?_;rintro _ B L⟨u,rfl,f⟩ aa a6;obtain⟨rfl,e⟩|⟨rfl,e⟩:=Kg f;refine zG ?_;refine sC (zmr _ p.t q.t hx s m) ?_;rintro _ C M⟨b,a,d,c,l,g,i,j,rfl,o,a2,K⟩ ab a7;refine Za λD V a8=>?_;refine sA λF W a9=>?_;refine sS [U b,Y a d c] λG Z3 N=>?_;refine sS [U l,Y g i j] λH Z0 Z1=>?_;refine zG ?_;refine sS [U b,Y a d c] λI a0 P=>?_;refine zq ?_;exact⟨_,_,_,_,ω,o.t⟩;refine zG ?_;refine sS [U sx,Y ax lx cx] λJ a1 R=>?_;refine zq ?_;exact⟨_,_,_,_,ω,p.t.as (by rw[e,Int.tdiv_one])⟩
def gcdX(k:Nat){x:Int}{y:Int}(g:GG h n)(e:IW h n sx ax lx cx x)(f:IW h n sy ay ly cy y)(hx:x.natAbs<BW)(hy:y.natAbs<BW):CX (Ka (k+8)) 56 [.agg #[U sx,Y ax lx cx],.agg #[U sy,Y ay ly cy]] h n (IV ((C6 x.natAbs y.natAbs:Nat):Int)):=by refine zw R4<|zG ?_;refine sB [U sx,Y ax lx cx] λi s A=>?_;refine sB [U sy,Y ay ly cy] λj u B=>?_;refine sA λl v C=>?_;refine zG ?_;refine sC (SQ _ g.t e.t.2 f.t.2 KO) ?_;rintro _ m p⟨a,c,b,rfl,d⟩ F D;refine sT #[U χ,Y a c b] ?_;refine sS [U χ,Y a c b] λo w q=>?_;refine zq ?_;exact⟨_,_,_,_,ω,AZ,d.t⟩
def zf3(k:Nat){x:Int}{y:Int}(a:IW h n sx ax lx cx x)(b:IW h n sy ay ly cy y)(hx:x.natAbs<BW)(hy:y.natAbs<BW):VF (Ka (k+4)) 118 [.agg #[U sx,Y ax lx cx],.agg #[U sy,Y ay ly cy]] h n λv=>∃s:Int,v=CJ .i64 s/\(s= -1/\x<y\/s=0/\x=y\/s=1/\y<x):=by refine zO R4<|zG ?_;refine sB [U sx,Y ax lx cx] λe m u=>?_;refine sB [U sy,Y ay ly cy] λf o w=>?_;refine zG ?_;cases sx;refine zG ?_;cases sy;refine zG ?_;refine sC (Nd _ a.t.2 b.t.2 KO) ?_;rintro _ g j⟨p,rfl,c⟩ C A;obtain⟨rfl,c⟩|⟨rfl,c⟩|⟨rfl,c⟩:=c;refine zf ?_;exact⟨_,ω,Bd⟩;refine zf ?_;exact⟨_,ω,Bd⟩;refine zf ?_;exact⟨_,ω,Bd⟩;refine zf ?_;exact⟨_,ω,by have:=a.ge;have:=b.lt;omega⟩;refine zG ?_;cases sy;refine zf ?_;exact⟨_,ω,by have:=a.lt;have:=b.ge;omega⟩;refine zG ?_;refine sC (Nd _ b.t.2 a.t.2 KO) ?_;rintro _ i l⟨q,rfl,d⟩ D B;obtain⟨rfl,d⟩|⟨rfl,d⟩|⟨rfl,d⟩:=d;refine zf ?_;exact⟨_,ω,Be⟩;refine zf ?_;exact⟨_,ω,Be⟩;refine zf ?_;exact⟨_,ω,Be⟩
def SY(k:Nat){x:Int}{y:Int}(a:IW h n sx ax lx cx x)(c:IW h n sy ay ly cy y)(hx:x.natAbs<BW)(hy:y.natAbs<BW):VF (Ka (k+4)) 98 [.agg #[U sx,Y ax lx cx],.agg #[U sy,Y ay ly cy]] h n λv=>∃b:Bool,v=U b/\(b=φ↔x=y):=by refine zO R4<|zG ?_;refine sB [U sx,Y ax lx cx] λf o u=>?_;refine sB [U sy,Y ay ly cy] λg p w=>?_;refine zG ?_;cases sx;refine zG ?_;cases sy;refine zG ?_;refine sC (Nd _ a.t.2 c.t.2 KO) ?_;rintro _ i l⟨q,rfl,d⟩ C A;obtain⟨rfl,d⟩|⟨rfl,d⟩|⟨rfl,d⟩:=d;refine zf ?_;exact⟨_,ω,ru⟩;refine zf ?_;exact⟨_,ω,ru⟩;refine zf ?_;exact⟨_,ω,ru⟩;refine zf ?_;exact⟨_,ω,by have:=a.ge;have:=c.lt;simp only[reduceCtorEq,true_iff,false_iff];omega⟩;refine zG ?_;cases sy;refine zf ?_;exact⟨_,ω,by have:=a.lt;have:=c.ge;simp only[reduceCtorEq,true_iff,false_iff];omega⟩;refine zG ?_;refine sC (Nd _ a.t.2 c.t.2 KO) ?_;rintro _ j m⟨s,rfl,e⟩ D B;obtain⟨rfl,e⟩|⟨rfl,e⟩|⟨rfl,e⟩:=e;refine zf ?_;exact⟨_,ω,sn⟩;refine zf ?_;exact⟨_,ω,sn⟩;refine zf ?_;exact⟨_,ω,sn⟩
end
section
variable {l:Nat}
def denZ(q:Rat):Int:=if q.den=1 then 0 else(q.den:Int)
theorem yr:denZ q=0↔q.den=1:=by unfold denZ;have:=q.den_pos;split<;>omega
theorem wq(h:¬denZ q=0):denZ q=(q.den:Int):=by grind [denZ]
def ur(x y:Rat):(x+y).num=(x.num*y.den+y.num*x.den)/((C6 (x.num*y.den+y.num*x.den).natAbs (x.den*y.den):Nat):Int):=by rw[ae6,Ht]
def ut(x y:Rat):(x+y).den=(x.den*y.den)/C6 (x.num*y.den+y.num*x.den).natAbs (x.den*y.den):=by rw[ae6,Ht]
def sf(x y:Rat):(x*y).num=(x.num*y.num)/((C6 (x.num*y.num).natAbs (x.den*y.den):Nat):Int):=by rw[ae7,Ht]
def si(x y:Rat):(x*y).den=(x.den*y.den)/C6 (x.num*y.num).natAbs (x.den*y.den):=by rw[ae7,Ht]
theorem sG(a b:Int)(m:Nat):C6 (a*m+b).natAbs m=C6 b.natAbs m:=by
 have c:(JQ (a*m+b) m)=JQ b m:=by simp_all
 simpa [JQ]using c
theorem Ox{x y:Rat}(hx:denZ x=0)(a:denZ y=0):(x+y).num=x.num+y.num/\denZ (x+y)=0:=by simp_all [yr,ur,ut]
def PQ{x y:Rat}(hx:denZ x=0)(c:¬denZ y=0):(x+y).num=x.num*denZ y+y.num/\denZ (x+y)=denZ y:=by have g:=wq c;rw[yr]at hx c;have a:=ur x y;have b:=ut x y;have f:C6 (x.num*(y.den:Int)+y.num).natAbs y.den=1:=(sG x.num y.num y.den).trans y.reduced;rw[hx]at a b;simp only[EV]at a b;have e:((1:Nat):Int)=1:=rfl;rw[e,ae8,f]at a;rw[e,ae8,f,HK]at b;rw[a,g];refine⟨by rw[e,am3],?_⟩;unfold denZ;rw[b,Cs c]
def S3{x y:Rat}(hx:¬denZ x=0)(a:denZ y=0):(x+y).num=y.num*denZ x+x.num/\denZ (x+y)=denZ x:=by rw[Rat.add_comm];exact PQ a hx
structure AddS (x y:Rat)(d l r:Nat)(N:Int)(s:Nat):Prop where
 hd:d=C6 x.den y.den
 hl:y.den=d*l
 hr:x.den=d*r
 hN:N=x.num*l+y.num*r
 hs:s=C6 N.natAbs d
def AddS.cop{x y:Rat}{N:Int}{s:Nat}(a:AddS x y d l r N s):C6 N.natAbs (r*l)=1:=by
 have e:0<d:=by rw[a.hd];exact F0 _ x.den_pos
 have b:Gt l r:=by
  have c:C6 x.den y.den=d*C6 r l:=by rw[a.hr,a.hl,H6]
  rw[<-a.hd]at c;have:d*1=d*C6 r l:=Z;have:=Nat.eq_of_mul_eq_mul_left e this;rw[Nat.coprime_iff_gcd_eq_one,Fw];exact this.symm
 have f:Gt x.num.natAbs r:=FY ⟨d,by rw[a.hr,C3]⟩ x.reduced;have g:Gt y.num.natAbs l:=FY ⟨d,by rw[a.hl,C3]⟩ y.reduced;have c:C6 N.natAbs r=1:=(by have:C6 (y.num*(r:Int)+x.num*(l:Int)).natAbs r=1:=(by rw[sG,Dz,C4];exact Ii f b);rw[a.hN,Int.add_comm];exact this);have i:C6 N.natAbs l=1:=(by have:C6 (x.num*(l:Int)+y.num*(r:Int)).natAbs l=1:=(by rw[sG,Dz,C4];exact Ii g b.symm);rw[a.hN];exact this);exact H3 c i
theorem AddS.res{x y:Rat}{N:Int}{s:Nat}(a:AddS x y d l r N s):(x+y).num=N.tdiv (s:Int)/\(x+y).den=r*(y.den/s):=by
 have b:0<d:=by rw[a.hd];exact F0 _ x.den_pos
 have c:0<s:=by rw[a.hs];exact Er _ b
 have u:=a.cop;have j:=ur x y;have m:=ut x y;have f:x.num*(y.den:Int)+y.num*(x.den:Int)=(d:Int)*N:=(by rw[a.hl,a.hr,a.hN];simp only[EW];grind);have g:x.den*y.den=d*(r*l*d):=by rw[a.hl,a.hr];grind
 have i:C6 ((d:Int)*N).natAbs (d*(r*l*d))=d*s:=(by rw[Dz,C4,H6,Hs d (au6 u),<-a.hs]);rw[f,g,i]at j;rw[f,g,i]at m;have o:(s:Int)∣N:=by
  have:s∣N.natAbs:=by rw[a.hs];exact Fh _ _
  exact FD.2 this
 have p:s∣d:=by rw[a.hs];exact Fx _ _
 refine⟨?_,?_⟩;rw[j,EW,Int.mul_ediv_mul_of_pos _ _ Z,GO o];rw[m,Nat.mul_div_mul_left _ _ b];have⟨e,v⟩:=p;rw[a.hl,v];rw[show r*l*(s*e)=s*(r*(l*e))from by grind,Fp _ c,show s*e*l=s*(l*e)from by grind,Fp _ c]
theorem lK(a b:Nat):(a:Int).tdiv (b:Int)=((a/b:Nat):Int):=rfl
def AddS.mk'{x y:Rat}(hx:¬denZ x=0)(b:¬denZ y=0):∃d l r N s,AddS x y d l r N s/\((C6 (denZ x).natAbs (denZ y).natAbs:Nat):Int)=d/\(denZ y).tdiv ((C6 (denZ x).natAbs (denZ y).natAbs:Nat):Int)=l/\(denZ x).tdiv ((C6 (denZ x).natAbs (denZ y).natAbs:Nat):Int)=r/\x.num*((denZ y).tdiv ((C6 (denZ x).natAbs (denZ y).natAbs:Nat):Int))+y.num*((denZ x).tdiv ((C6 (denZ x).natAbs (denZ y).natAbs:Nat):Int))=N/\∀M:Int,M=N->((C6 M.natAbs (((C6 (denZ x).natAbs (denZ y).natAbs:Nat):Int)).natAbs:Nat):Int)=(s:Nat):=by rw[wq hx,wq b];simp only[C4,lK];have c:0<C6 x.den y.den:=F0 _ x.den_pos;refine⟨C6 x.den y.den,y.den/C6 x.den y.den,x.den/C6 x.den y.den,_,C6 (x.num*((y.den/C6 x.den y.den:Nat):Int)+y.num*((x.den/C6 x.den y.den:Nat):Int)).natAbs (C6 x.den y.den),⟨ω,?_,?_,ω,ω⟩,ω,ω,ω,ω,?_⟩;rw[F3 (Fx _ _)];rw[F3 (Fh _ _)];intro M a;rw[a]
theorem zm2(x y:Rat):(x*y).num=(x.num/((C6 x.num.natAbs y.den:Nat):Int))*(y.num/((C6 y.num.natAbs x.den:Nat):Int))/\(x*y).den=(x.den/C6 y.num.natAbs x.den)*(y.den/C6 x.num.natAbs y.den):=by
 have w:=sf x y;have A:=si x y;have Z1:C6 (x.num*y.num).natAbs (x.den*y.den)=C6 x.num.natAbs y.den*C6 y.num.natAbs x.den:=by
  rw[Dz];by_cases hx:x.num=0;have B:x.den=1:=by have:=x.reduced;rw[hx]at this;simpa using this
  rw[hx,B];simp;by_cases hy:y.num=0;have C:y.den=1:=by have:=y.reduced;rw[hy]at this;simpa using this
  rw[hy,C];simp;have f:0<C6 x.num.natAbs y.den:=Er _ y.den_pos;have g:0<C6 y.num.natAbs x.den:=Er _ x.den_pos;have I:=Iy f;have J:=Iy g;have D:=F3 (Fh x.num.natAbs y.den);have F:=F3 (Fx x.num.natAbs y.den);have G:=F3 (Fh y.num.natAbs x.den);have H:=F3 (Fx y.num.natAbs x.den);have i:=x.reduced;have j:=y.reduced;generalize C6 x.num.natAbs y.den=g1 at*;generalize C6 y.num.natAbs x.den=g2 at*;generalize x.num.natAbs/g1=a at*;generalize y.den/g1=b at*;generalize y.num.natAbs/g2=c at*;generalize x.den/g2=e at*;rw[<-D,<-F,<-G,<-H];rw[<-D,<-H]at i;rw[<-G,<-F]at j;have p:Gt a e:=Ir ⟨g1,C3 _ _⟩ (FY ⟨g2,C3 _ _⟩ i);have s:Gt c b:=Ir ⟨g2,C3 _ _⟩ (FY ⟨g1,C3 _ _⟩ j);have:Gt (a*c) (e*b):=Ii (H3 p I) (H3 J s);rw[show g1*a*(g2*c)=(g1*g2)*(a*c)from by grind,show g2*e*(g1*b)=(g1*g2)*(e*b)from by grind,H6,this,DL]
 rw[Z1]at w A;have K:((C6 x.num.natAbs y.den:Nat):Int)∣x.num:=FD.2 (Fh _ _);have L:((C6 y.num.natAbs x.den:Nat):Int)∣y.num:=FD.2 (Fh _ _);have M:C6 y.num.natAbs x.den∣x.den:=Fx _ _;have N:C6 x.num.natAbs y.den∣y.den:=Fx _ _;refine⟨?_,?_⟩;rw[w,EW];have⟨u,m⟩:=K;have⟨v,o⟩:=L;have f:0<C6 x.num.natAbs y.den:=Er _ y.den_pos;have g:0<C6 y.num.natAbs x.den:=Er _ x.den_pos;generalize C6 x.num.natAbs y.den=g1 at*;generalize C6 y.num.natAbs x.den=g2 at*;rw[m,o,GB _ Z,GB _ Z,show(g1:Int)*u*(g2*v)=(g1*g2)*(u*v)from by grind,GB];exact Int.mul_ne_zero Z Z;rw[A];have⟨u,m⟩:=M;have⟨v,o⟩:=N;have f:0<C6 x.num.natAbs y.den:=Er _ y.den_pos;have g:0<C6 y.num.natAbs x.den:=Er _ x.den_pos;generalize C6 x.num.natAbs y.den=g1 at*;generalize C6 y.num.natAbs x.den=g2 at*;rw[m,o,Fp _ g,Fp _ f,show g2*u*(g1*v)=(g1*g2)*(u*v)from by grind,Fp _ (EJ f g)]
theorem jc(x y:Rat):(x<y↔x.num*y.den<y.num*x.den)/\(x=y↔x.num*y.den=y.num*x.den)/\(y<x↔y.num*x.den<x.num*y.den):=by grind [Rat.lt_iff,Rat.le_antisymm,Rat.not_lt.1]
end
end
end Go.Proofs.YtpcpimjejdegcaaGreatDoor
