import Derived.KernelRfl
import Derived.Test.YtdeaddceicfanaaGreatDoorTamB
open Option renaming some→ξ,none→θ
open Bool renaming true→φ,false→χ
open Go renaming Value→ψ
set_option linter.defProp false
open Bool renaming and_self→DT,eq_false_iff→HP,false_eq_true→Ew,not_false→G5,not_true→H3,or_true→Jj
open Classical renaming byContradiction→CW
open Go.Proofs.YtdeaddceicfanaaGreatDoor.J3 renaming refl→Fy,upd→E9
open Go.Proofs.YtdeaddceicfanaaGreatDoor.J5 renaming nil→HO,snoc→Gc,zeros→ap0
open Go.Proofs.YtdeaddceicfanaaGreatDoor.NW renaming last→as4,nil→aa6
open Go.Proofs.YtdeaddceicfanaaGreatDoor.Norm renaming nil→IB
open Go.Value renaming bool→U,int→CC,pointer→CH,slice→Y,string→CG
open Int renaming ediv_one→an0,eq_ofNat_of_zero_le→Ja,gcd→JM,lt_or_le→an2,mul_ediv_cancel_left→Gt,mul_neg_of_neg_of_pos→IH,mul_nonneg→aj1,mul_one→af5,mul_pos→Hf,natAbs_mul→Dl,natAbs_natCast→CR,natAbs_neg→E2,natAbs_of_nonneg→Hb,natAbs_tdiv→Gh,natCast_mul→EH,neg_neg→Ha,neg_tdiv→ac0,ofNat_dvd_left→Fq,ofNat_natAbs_of_nonpos→Gb,sign_eq_one_of_pos→FW,tdiv_eq_ediv_of_dvd→GF,tdiv_neg→ac1,tdiv_one→Jo,toNat_natCast→Ef,zero_mul→Gn
open List renaming all_eq_true→E3,append_assoc→Dh,append_nil→Dm,drop_eq_nil_of_le→EX,drop_left'→Ju,drop_length→EQ,drop_replicate→JQ,drop_zero→Dy,foldl→ar0,foldl_cons→Ig,getElem?_append_left→DW,getElem?_append_right→Dn,getElem?_drop→DX,getElem?_eq_getElem→CD,getElem?_eq_some_iff→CK,length→O,length_append→CJ,length_cons→DJ,length_drop→Ek,length_eq_one_iff→FX,length_eq_zero_iff→CT,length_nil→Gg,length_pos_iff→Gy,length_replicate→Dk,length_singleton→C0,length_take→DA,mem_append→DQ,mem_cons→De,mem_cons_self→D4,mem_map→DL,mem_of_getElem?→CE,mem_of_mem_take→Dp,mem_singleton→CV,nil_append→Dt,not_mem_nil→CO,replicate→CI,replicate_append_replicate→HT,replicate_succ→GA,replicate_zero→E7,set_append_right→D1,take_append_drop→DP,take_length→C3,take_of_length_le→CL,take_succ_eq_append_getElem→Fb
open Nat renaming Coprime→Gl,add_assoc→Gs,add_comm→D6,add_mul→Dq,add_mul_div_left→G7,add_mul_div_right→G0,add_mul_mod_self_right→Ga,add_sub_cancel→FI,add_zero→DE,beq→DK,ble→Dd,ble_eq_true_of_le→CP,coprime_div_gcd_div_gcd→Is,div_add_mod→DN,div_div_eq_div_mul→Fm,div_eq_of_lt→EP,div_le_self→Ei,div_lt_iff_lt_mul→Ee,div_one→HD,eq_of_beq_eq_true→DC,eq_zero_or_pos→Fr,gcd→CZ,gcd_comm→EY,gcd_dvd_left→E6,gcd_dvd_right→Fc,gcd_le_left→Ij,gcd_mul_left→HZ,gcd_pos_of_pos_left→FP,gcd_pos_of_pos_right→D7,gcd_rec→IP,le_mul_of_pos_right→EF,le_of_ble_eq_true→Da,le_of_lt→DZ,le_sub_one_of_lt→JF,le_succ→C8,le_trans→CU,lt_of_le_of_lt→C7,lt_of_lt_of_le→CS,lt_or_ge→EB,lt_succ_self→Fv,lt_trans→Ir,lt_trichotomy→Gk,min_eq_left→DR,mod_eq_of_lt→C1,mod_lt→Dz,mul_add→DS,mul_assoc→Di,mul_comm→CY,mul_div_cancel'→FS,mul_div_cancel_left→Fg,mul_div_mul_right→HV,mul_le_mul→C6,mul_le_mul_left→C4,mul_le_mul_right→CM,mul_left_comm→Gm,mul_lt_mul''→GH,mul_lt_mul_of_pos_right→Er,mul_mod_mul_right→GZ,mul_one→DD,mul_pos→Et,mul_succ→Jn,mul_zero→Eo,not_succ_le_zero→JH,one_le_div_iff→aa7,one_mul→EM,or_comm→af0,pow_add→DV,pow_le_pow_left→Gz,pow_le_pow_right→CQ,pow_mul→HC,pow_pos→Ds,pow_succ→C5,pow_zero→EA,sub_self→DY,succ_mul→EI,two_pow_pos→GY,zero_add→C9,zero_le→HA,zero_mod→ab9,zero_mul→DU
open Nat.Coprime renaming coprime_dvd_left→Ik,coprime_dvd_right→FM,gcd_mul_left_cancel_right→Hj,mul_left→Ib,mul_right→HW,symm→au9
open Rat renaming add_def→af3,den_intCast→ag7,divInt→Dw,mul_def→af4,normalize_eq→Hk,num_eq_zero→Fk,num_intCast→ag6
open UInt8 renaming ofNat→Ec,toNat_inj→GX
set_option maxHeartbeats 8000000
set_option linter.unusedVariables false
set_option linter.unusedSimpArgs false
namespace Go.Proofs.YtdeaddceicfanaaGreatDoor
section
open Go Go.GL
variable{ops:List Oper}{h h':HF}{n bytes size i m cap len top n' bt sz lo Z4 c' c1 c2 cX l1 l2 n0 b g j V a d r c L l P k N:Nat}{t:TF}{w ms ln Z0 A C X:List Nat}{Q:SV->Prop}{o:Oper}{al:List (Nat×Nat)}{ef:List (Nat×HF×List Nat)}{z d1 d2 n1 n2 v:ψ}{e ty xT e3:TypeId}{args new cs:List ψ}{body:Code}{ik' ik:IntKind}{ji:Int}{fn:Func}{a1 a2:Option Addr}{s:List UInt8}{x:Operand}{q:Rat}{f:FuncId}{E:Env}
variable{ld:List Nat}{sT:TypeId}
def IntR.off{c a:ψ}{x:Int}{l:List Nat}{y:Option BF}(r:IntR h n c a x l)(d:Ks b a):IntR (upd h b y) n c a x l:=⟨r.neg,r.sl.off d,r.norm,r.val⟩
def IntR.len_le{e f:ψ}{x y:Int}{l c:List Nat}(r:IntR h n e f x l)(d:IntR h' n' d1 d2 y c)(a:y.natAbs<=x.natAbs):O c<=O l:=r.norm.len_le d.norm (by rw[r.val,d.val];exact a)
def IntR.ones{c a:ψ}{x:Int}{l:List Nat}(r:IntR h n c a x l):ones [c,a]=φ:=by rw[r.neg];show GL.ones (a::_)=φ;rw[r.sl.ones];rfl
def Away(n:Nat)(c0 v:ψ):Prop:=(v=c0/\Below n v)\/xC (n+1+1+1) v
def Away.off{a:ψ}(h:Away n a v)(c:3*n<=b)(d:b<3*(n+1+1+1)):Ks b v:=by obtain h|h:=h;exact h.2.off c;exact h.off d
def Away.or{a:ψ}(h:Away n a v):v=a\/xC n v:=by obtain h|h:=h;exact .inl h.1;exact .inr (h.mono Z)
structure FrS (n:Nat)(c0 d0:ψ)(h h':HF)(n':Nat)(c1 c2 d1 d2:ψ)(x y:Int)(A C:List Nat):Prop where
 n3:n+1+1+1<=n'
 ext:J3 n h h'
 b2:∃e,h' (3*n+2)=ξ (.row [c1,c2] e)
 b3:∃e,h' (3*(n+1)+2)=ξ (.row [d1,d2] e)
 b4:∃e,h' (3*(n+1+1)+2)=ξ (.row [U χ,Y θ 0 0,U χ,Y θ 0 0] e)
 ix:IntR h' n' c1 c2 x A
 iy:IntR h' n' d1 d2 y C
 ox:Away n c0 c2
 oy:Away n d0 d2
def FrS.exts{d d0:ψ}{a:HF}{c:Nat}{e f:ψ}{x y:Int}(s:FrS n d d0 h h' n' e f d1 d2 x y A C)(hx:J3 n' h' a)(i:n'<=c):FrS n d d0 h a c e f d1 d2 x y A C:=by have⟨F,ext,⟨o,j⟩,⟨p,l⟩,⟨q,m⟩,u,w,B,D⟩:=s;exact⟨Z,ext.trans hx Z,⟨o,by rw[hx _ Z];exact j⟩,⟨p,by rw[hx _ Z];exact l⟩,⟨q,by rw[hx _ Z];exact m⟩,u.ext hx i,w.ext hx i,B,D⟩
def FrS.putx{c d0:ψ}{q u:ψ}{x y:Int}(s:FrS n c d0 h h' n' q u d1 d2 x y A C){d a:ψ}{l:Int}{f:List Nat}(i:IntR h' n' d a l f)(o:Away n c a)(e:TypeId):FrS n c d0 h (upd h' (3*n+2) (ξ (.row [d,a] e))) n' d a d1 d2 l y f C:=by have⟨J,ext,⟨H,G⟩,⟨w,m⟩,⟨B,p⟩,I,F,K,j⟩:=s;exact⟨Z,λb D=>by rw[zm Z];exact ext b D,⟨e,zg _ _ _⟩,⟨w,by rw[zm Z];exact m⟩,⟨B,by rw[zm Z];exact p⟩,i.off (o.off Z Z),F.off (j.off Z Z),o,j⟩
def FrS.puty{f d0:ψ}{j l:ψ}{x y:Int}(s:FrS n f d0 h h' n' j l d1 d2 x y A C){c a:ψ}{p:Int}{d:List Nat}(i:IntR h' n' c a p d)(o:Away n d0 a)(e:TypeId):FrS n f d0 h (upd h' (3*(n+1)+2) (ξ (.row [c,a] e))) n' j l c a x p A d:=by have⟨J,ext,⟨w,q⟩,⟨H,G⟩,⟨B,u⟩,F,I,m,K⟩:=s;exact⟨Z,λb D=>by rw[zm Z];exact ext b D,⟨w,by rw[zm Z];exact q⟩,⟨e,zg _ _ _⟩,⟨B,by rw[zm Z];exact u⟩,F.off (m.off Z Z),i.off (o.off Z Z),m,o⟩
def Yr{x y:Int}(a:0<y):(Dw x y).num=x/((CZ x.natAbs y.natAbs:Nat):Int):=by rw[Rat.num_divInt,FW a,Int.one_mul];unfold JM;rw[EY]
theorem Ys{x y:Int}(a:0<y):(Dw x y).den=y.natAbs/CZ x.natAbs y.natAbs:=by grind [Rat.den_divInt,JM,EY]
def RM{x:Int}(h:g∣x.natAbs):x.tdiv (g:Int)=x/(g:Int):=GF (Fq.2 h)
theorem Yt{y:Int}(h:0<y)(g:Nat):y/(g:Int)=((y.natAbs/g:Nat):Int):=by grind
structure DenR (h:HF)(n:Nat)(d1 d2:ψ)(q:Nat)(ld:List Nat):Prop where
 neg:d1=U χ
 sl:Sl h n 1 d2 (u32s ld)
 norm:Norm ld
 val:val ld=if q=1 then 0 else q
theorem RN(k:Nat){c1 d:ψ}{x y:Int}(hx:IntR h n c1 d x A)(hy:IntR h n d1 d2 y C)(al:y≠0)(hb:O A<1000000000/\O C<1000000000):
  CF (J4 (k+5)) 113 [.agg #[c1,d],.agg #[d1,d2]] h n λv h' n' w=>w=[]/\n<=n'/\J3 n h h'/\∃a m e1 s ln ld,v=.agg #[a,m,e1,s]/\RatR h' n' a m e1 s (Dw x y) ln ld/\O ln<=O A/\O ld<=O C/\(m=d\/xC n m)/\(s=d2\/xC n s):=by
 apply zw R4;obtain⟨q,hq⟩:∃q,q=Dw x y:=⟨_,ω⟩;rw[<-hq];apply(zN);apply Lb (cs:=[c1,d]) R5;apply Lb (cs:=[d1,d2]) R5;apply xV R5;apply(zN);generalize hh:upd (upd (upd h (3*n+2) _) (3*(n+1)+2) _) (3*(n+1+1)+2) _=h1;have W:J3 n h h1:=by rw[<-hh];intro b hb;rw[zm Z,zm Z,zm Z]
 have R:FrS n d d2 h h1 (n+1+1+1) c1 d d1 d2 x y A C:=⟨Cy,W,⟨_,Bo⟩,⟨_,by rw[<-hh,zm Z,zg]⟩,⟨_,gQ⟩,hx.ext W Z,hy.ext W Z,.inl ⟨ω,hx.sl.below⟩,.inl ⟨ω,hy.sl.below⟩⟩;have⟨ak,J⟩:=R.b2;have⟨a8,c⟩:=R.b3;repeat apply(zR)
 apply zT R6 c R2;apply(zN);refine yj (α:=(ψ×ψ)×Int×Int) (λ_=>[(2,ε (3*n+2)),(3,ε (3*(n+1)+2)),(4,ε (3*(n+1+1)+2))]) (λz h' n' w=>w=[]/\FrS n d d2 h h' n' z.1.1 d z.1.2 d2 z.2.1 z.2.2 A C/\0<z.2.2/\Dw z.2.1 z.2.2=q) ?_ ?_;by_cases hn:y<0;rw[ze (by show d1=_;rw[hy.neg,Ct hn])];apply(zl);refine yd R6 (yw R2 J ω zb ω) R2<|wa _ R7 (Pz (k+2) R.ix) ?_;rintro _ h2 n2 _⟨rfl,B,M,a,rfl,i1⟩;refine⟨ω,B,?_⟩;apply yd R6 (yw R2 c ω zb ω) ⟨(Ra eC),ω⟩;apply wa _ R7 (Pz (k+2) (R.iy.ext M B));rintro _ h3 n3 _⟨rfl,I,F,l,rfl,i2⟩;refine⟨ω,I,?_⟩;have o:=(R.exts M B).exts F I;have ai:=i1.ext F I;have⟨s,a0⟩:=o.b2;apply jX R7 i1.ones a0 zb eF R3;have T:=o.putx ai o.ox s;have⟨e3,ad⟩:=T.b3;apply jX R7 i2.ones ad zb eF R3;have S5:=T.puty (i2.off (T.oy.off Z Z)) T.oy e3;apply(zN);exact⟨((a,l),-x,-y),P3,ω,S5,by show 0< -y;omega,by show Dw (-x) (-y)=q;rw[Rat.divInt_neg',Ha,hq]⟩;rw[za (by show d1=_;rw[hy.neg,BG hn])];apply(zN);exact⟨((c1,d1),x,y),P3,ω,R,by show 0<y;omega,hq.symm⟩;rintro⟨⟨a,l⟩,x',y'⟩ t h1 n1 _ ⟨rfl,S,Z3,a7⟩;simp only at S Z3 a7;have L:=Yr (x:=x') Z3;have K:=Ys (x:=x') Z3;rw[a7]at L K;apply(zN);have⟨ak,J⟩:=S.b2;have⟨a8,c⟩:=S.b3;refine z7 (v:=.agg #[a,d]) R5 (yw R2 J ω zb ω)<|z7 (v:=.agg #[l,d2]) R5 (yw R2 c ω zb ω)<|zF _ R5 (Yq k S.ix S.iy hb) ?_;rintro _ h2 n2 _⟨rfl,B,M,g1,g2,G,rfl,ig,bG,og⟩;generalize hg:CZ x'.natAbs y'.natAbs=g at*;refine xV R5<|yc [g1,g2] R7 ig.ones (zg _ _ _) ω (by show 3*n<=_;have:=S.n3;omega) ?_;rw[uk];have S2:=S.exts M B;generalize hh:upd h2 (3*n2+2) _=h3;have F:J3 n2 h2 h3:=by grind [E9]
 have D:∃e,h3 (3*n2+2)=ξ (.row [g1,g2] e):=⟨_,gZ⟩;have⟨tg,D⟩:=D;have o:=S2.exts F Zq;have Z0:=ig.ext F Zq;apply(zN);refine z7 (v:=.agg #[g1,g2]) R5 (yw R2 D ω zb ω)<|yi _ R5 (RK (k+3) Z0 bG) ?_;rintro _⟨b,rfl,H,p⟩;rw[CR]at H p;have a2:0<g:=by grind
 have a3:g∣x'.natAbs:=by rw[<-hg];exact E6 _ _
 have a4:g∣y'.natAbs:=by rw[<-hg];exact Fc _ _
 apply MU R6;apply(zN);have I:=o.n3;refine yj (α:=(ψ×ψ×ψ×ψ)×List Nat×List Nat) (λ_=>[(2,ε (3*n+2)),(3,ε (3*(n+1)+2)),(4,ε (3*(n+1+1)+2))]) (λz h' n' w=>w=[]/\FrS n d d2 h h' n' z.1.1 z.1.2.1 z.1.2.2.1 z.1.2.2.2 q.num (q.den:Int) z.2.1 z.2.2/\O z.2.1<=O A/\O z.2.2<=O C) ?_ ?_;by_cases hgt:(1:Int)<(b:Int);rw[ze (by show U (decide ((1:Int)<(b:Int)))=_;rw[Ct hgt])];apply(zN);have⟨s,a0⟩:=o.b2;refine z7 (v:=.agg #[a,d]) R5 (yw R2 a0 ω zb ω)<|z7 (v:=.agg #[g1,g2]) R5 (yw R2 D ω zb ω)<|zF _ R5 (RL k o.ix Z0 Z hb.1) ?_;rintro _ h4 n4 _⟨rfl,a6,a1,q1,q2,r1,r2,Lq,Lr,rfl,iq,ir,fq,fr⟩;repeat apply(zR)
 have T:=o.exts a1 a6;have⟨e4,ae⟩:=T.b2;apply yc [q1,q2] R7 iq.ones ae ω eF;have S5:=T.putx iq (.inr (fq.mono Z)) e4;apply(zN);have⟨e5,af⟩:=S5.b3;have a9:=(zm (f:=h4) (i:=3*n+2) (v:=ξ (.row [q1,q2] e4)) (j:=3*n2+2) Z).trans ((a1 _ Z).trans D);refine z7 (v:=.agg #[l,d2]) R5 (yw R2 af ω zb ω)<|z7 (v:=.agg #[g1,g2]) R5 (yw R2 a9 ω zb ω) ?_;have aj:Ks (3*n+2) g2:=og _ (by have:=S.n3;omega) (S.ox.off Z Z) (S.oy.off Z Z);apply zF _ R5 (RL k S5.iy ((Z0.ext a1 a6).off aj) Z hb.2);rintro _ h6 n6 _⟨rfl,ab,ah,p1,p2,s1,s2,Lp,Ls,rfl,ip,is,fp,fs⟩;repeat apply(zR)
 have S6:=S5.exts ah ab;have⟨e6,ag⟩:=S6.b3;apply yc [p1,p2] R7 ip.ones ag ω eF;have S7:=S6.puty ip (.inr (fp.mono Z)) e6;apply(zN);rw[RM a3,<-L,RM a4,show y'/(g:Int)=(q.den:Int)from by rw[K];exact Yt Z3 g]at S7;refine zA ((q1,q2,p1,p2),Lq,Lp) P3 ⟨ω,S7,o.ix.len_le iq ?_,o.iy.len_le ip ?_⟩;rw[Gh];exact Ca;rw[Gh];exact Ca;rw[za (by show U (decide ((1:Int)<(b:Int)))=_;rw[BG hgt])];apply(zN);have aa:g=1:=Z;subst aa;rw[show((1:Nat):Int)=1 from ω,an0]at L;rw[HD]at K;refine zA ((a,d,l,d2),A,C) P3 ⟨ω,?_,Cy,Cy⟩;show FrS n d d2 h h3 (n2+1) a d l d2 q.num (q.den:Int) A C;rw[L,K,show((y'.natAbs:Nat):Int)=y' from Z];exact o;rintro⟨⟨a,m,l,P⟩,L1,L2⟩ t h5 n5 _ ⟨rfl,S,a5,u⟩;simp only at S a5 u;apply(zN);have⟨a8,c⟩:=S.b3;refine z7 (v:=.agg #[l,P]) R5 (yw R2 c ω zb ω)<|yi _ R5 (RK (k+3) S.iy Z) ?_;rintro _⟨b,rfl,H,p⟩;rw[CR]at H p;apply Mh R6;apply(zN);refine yj (α:=(ψ×ψ)×List Nat) (λ_=>[(2,ε (3*n+2)),(3,ε (3*(n+1)+2)),(4,ε (3*(n+1+1)+2))]) (λz h' n' w=>w=[]/\n+1+1+1<=n'/\J3 n h h'/\(∃e,h' (3*n+2)=ξ (.row [a,m] e))/\(∃e,h' (3*(n+1)+2)=ξ (.row [z.1.1,z.1.2] e))/\(∃e,h' (3*(n+1+1)+2)=ξ (.row [U χ,η,U χ,η] e))/\IntR h' n' a m q.num L1/\DenR h' n' z.1.1 z.1.2 q.den z.2/\Away n d m/\Away n d2 z.1.2/\O z.2<=O C) ?_ ?_;by_cases hd:(b:Int)=1;rw[ze (by show U (decide ((b:Int)=1))=_;rw[Ct hd])];apply(zN);refine zZ (v:=.agg #[U χ,η]) R4 rfl<|yc [U χ,η] R7 ω c ω eF ?_;apply(zN);have Z4:q.den=1:=p.1 Z;have⟨n3,ext,⟨s,b2⟩,_,⟨e4,b4⟩,N,iy,Z1,oy⟩:=S;exact zA ((U χ,η),[]) P3 ⟨ω,n3,λb hb=>(zm Z).trans (ext b hb),⟨s,(zm Z).trans b2⟩,⟨_,zg _ _ _⟩,⟨e4,(zm Z).trans b4⟩,N.off (Z1.off Z Z),⟨ω,.nil (.inl ω),IB,by rw[Cw Z4];rfl⟩,Z1,.inr trivial,Cz⟩;rw[za (by show U (decide ((b:Int)=1))=_;rw[BG hd])];apply(zN);have Z4:q.den≠1:=λe=>hd (by have:=p.2 e;omega);have⟨n3,ext,b2,b3,b4,N,iy,Z1,oy⟩:=S;exact zA ((l,P),L2) P3 ⟨ω,n3,ext,b2,b3,b4,N,⟨by rw[iy.neg];simp,iy.sl,iy.norm,by rw[Cv Z4,iy.val,CR]⟩,Z1,oy,u⟩;rintro⟨⟨l,P⟩,L2⟩ t h6 n6 _ ⟨rfl,n3,ext,⟨s,b2⟩,⟨e3,b3⟩,⟨e4,b4⟩,N,V,Z1,oy,u⟩;simp only at b2 b3 b4 N V Z1 oy u;apply(zN);refine z7 (v:=.agg #[a,m]) R5 (yw R2 b2 ω zb ω)<|z7 (v:=.agg #[l,P]) R5 (yw R2 b3 ω zb ω)<|zZ (v:=.agg #[a,m,l,P]) R4 ω ?_;have ac:ones [a,m,l,P]=φ:=(by rw[N.neg];show GL.ones (m::_)=φ;rw[N.sl.ones,V.neg];show GL.ones (P::_)=φ;rw[V.sl.ones];rfl);apply yc [a,m,l,P] R7 ac b4 ω eF;apply(zN);refine uq R5 (zg _ _ _) ω ⟨ω,by show n<=n6;omega,λb hb=>(zm Z).trans (ext b hb),_,_,_,_,L1,L2,ω,⟨N.off (Z1.off Z Z),V.neg,V.sl.off (oy.off Z Z),V.norm,V.val⟩,a5,u,Z1.or,oy.or⟩
def AllD(s:List UInt8):Prop:=∀b∈s,48<=b.toNat/\b.toNat<=57
def dval:List UInt8->Nat:=ar0 (λv b=>10*v+(b.toNat-48)) 0
def Yu(s:List UInt8):∀v,ar0 (λv b=>10*v+(b.toNat-48)) v s=v*10^O s+dval s:=by
 induction s with
 |nil=>intro v;simp[dval]
 |cons b s ih=>
  intro v;unfold dval;rw[Ig,Ig,ih,ih (10*0+_),DJ,C5,Dq,Dq];rw[show 10*v*10^O s=v*(10^O s*10)from by rw[CY 10 v,Di,CY 10]];omega
def sJ(a b:List UInt8):dval (a++b)=dval a*10^O b+dval b:=by
 conv=>lhs;unfold dval
 rw[List.foldl_append];exact Yu b (dval a)
def rK(a:List UInt8)(b:UInt8):dval (a++[b])=10*dval a+(b.toNat-48):=by rw[sJ];simp[dval];omega
theorem qy(h:AllD s):dval s<10^O s:=by
 induction s with
 |nil=>simp[dval]
 |cons b s ih=>
  have e:=h b eC;have f:=ih λx c=>h x (by simp[c]);rw[show b::s=[b]++s from ω,sJ];simp only[CJ,C0];rw[D6 1,C5];have a:dval [b]<=9:=by simp[dval];omega
  have g:dval [b]*10^O s<=9*10^O s:=CM _ a;omega
def Norm.len_pow{L:List Nat}(h:Norm L)(hv:val L<10^i):O L<=i:=by apply CW;intro a;obtain⟨j,d,rfl⟩:=snoc (l:=L) aD;have g:=h.last;rw[Of]at hv;have c:4294967296^O j*1<=4294967296^O j*YtdeaddceicfanaaGreatDoor.val [d]:=C4 _ (by simp[YtdeaddceicfanaaGreatDoor.val];omega);have e:4294967296^i<=4294967296^O j:=CQ Z (by simp at a;omega);have f:10^i<=4294967296^i:=Gz Z _;omega
def AllD.take_succ{b:UInt8}(h:AllD (s.take i))(hb:s[i]?=ξ b)(e:48<=b.toNat/\b.toNat<=57):AllD (s.take (i+1)):=by obtain⟨c,rfl⟩:=CK.1 hb;rw[Fb c];intro x a;obtain a|a:=DQ.1 a;exact h x a;rw[CV.1 a];exact e
def mA{b:UInt8}(hb:s[i]?=ξ b):s.take (i+1)=s.take i++[b]:=by obtain⟨a,rfl⟩:=CK.1 hb;rw[Fb a]
section
variable{X:CtxF}{r:List Oper}{d:Tmp}
theorem yH{i:Operand}{b:UInt8}(a:qt X ops t o d (o.op=.index ty x i/\X.E.und ty=ξ .string/\J2 t x=CG ⟨⟨s⟩⟩/\J2 t i=CC ik ji/\ji=(j:Int)))(hb:s[j]?=ξ b)
  (k:EO X ops r ⟨upd t d (Γ (b.toNat:Int)),h,n,w⟩ Q):EO X ops (o::r) ⟨t,h,n,w⟩ Q:=by
 obtain⟨a,f,l,e,m,p,g,c⟩:=a;subst c;refine zZ ⟨a,f,l,AF⟩ ?_ k;rw[e];show iK X.E ty (J2 t x) (J2 t i)=_;rw[p,g];simp only[iK,m,Ef,hb,Cw (Int.natCast_nonneg j)]
end
def Yv(n:Nat)(h:HF)(s:List UInt8)(v:ψ)(h':HF)(n':Nat)(w:List Nat):Prop:=w=[]/\n<=n'/\J3 n h h'/\∃c1 c2 L ok,∃x:Nat,v=.tuple #[.agg #[c1,c2],U ok]/\IntR h' n' c1 c2 (x:Int) L/\O L<=O s/\xC n c2/\(AllD s/\s≠[]->ok=φ/\x=dval s)/\(ok=φ->AllD s/\s≠[])
def M5{P:ψ->HF->Nat->List Nat->Prop}{e:Ex}{t:TF}{h:HF}{n:Nat}{w:List Nat}{a f:Tmp}{m:TypeId}{u:ψ}(c:rI e=φ/\fn.results.toList=[.cell a ty,.tmp f]/\t a=ε b/\t f=u/\GL.isAgg Kc ty=ξ φ/\Kc.inf ty=ξ (sz,bt,z))(hb:h b=ξ (.row cs m))(l:O cs=sz/\uQ [.agg cs.toArray,u]=χ)(A:P (.tuple #[.agg cs.toArray,u]) h n w):RetH fn P e ⟨t,h,n,w⟩:=by have⟨c,B,p,g,v,y⟩:=c;have⟨l,q⟩:=l;refine retH [.agg cs.toArray,u] ⟨c,?_,q⟩ A;rw[B];have C:=yw ⟨v,y⟩ hb ω (show 0+sz<=O cs from Z) (show(cs.drop 0).take sz=cs by rw[Dy,CL Z]);simp only[resF,p,g,C]
theorem RO(k:Nat)(h:HF)(n:Nat)(s:List UInt8)(hs:O s<1000000):CF (J4 (k+3)) 110 [CG ⟨⟨s⟩⟩] h n (Yv n h s):=by
 apply zw R4;apply(zN);apply xV R5;apply(Zn);apply(kG);generalize hh:upd h (3*n+2) _=N;have ae:∃e,N (3*n+2)=ξ (.row [U χ,η] e):=⟨_,gQ⟩;have am:J3 n h N:=by grind [E9]
 refine ye (α:=Nat×Option Addr×Nat×List Nat) (λz=>[(0,CG ⟨⟨s⟩⟩),(2,ε (3*n+2)),(4,Y z.2.1 (O z.2.2.2) z.2.2.1),(5,υ (z.1:Int))])
  (λz D K w'=>w'=[]/\n+1<=K/\J3 n h D/\(∃e,D (3*n+2)=ξ (.row [U χ,η] e))/\z.1<=O s/\AllD (s.take z.1)/\Sl D K 1 (Y z.2.1 (O z.2.2.2) z.2.2.1) (u32s z.2.2.2)/\Norm z.2.2.2/\val z.2.2.2=dval (s.take z.1)/\xC (n+1) (Y z.2.1 (O z.2.2.2) z.2.2.1)) (λz=>O s-z.1)
  (0,θ,0,[]) P4 ⟨ω,Cy,am,ae,Cz,λb g=>Cu g eC,.nil (.inl ω),IB,ω,Cx⟩ (by show O s-0<LL;unfold LL;omega) ?_
 rintro⟨i,a,c,L⟩ t h2 M _ ⟨rfl,ar,J,⟨e2,I⟩,hi,p,T,m,u,P⟩;simp only at hi p T m u P;have ap:O L<=i:=m.len_pow (by grind [qy,DA,DR]);apply(zN);by_cases hie:i=O s;have aj:s.take i=s:=by rw[hie,C3]
 rw[aj]at p u;apply(Zb);apply st_I (ik:=.i64) (a:=(O s:Int)) R5;apply(Zz);apply zF _ R5 (Mi (k+1) _ _ χ a (O L) c);rintro _ h3 n3 _⟨rfl,rfl,rfl,Z3⟩;apply(zM);refine st_B R5<|yc [U (χ&&decide (0<O L)),Y a (O L) c] R7 ω (by rw[Z3 _ Z];exact I) ω eF ?_;apply(kG);refine M5 R6 (zg _ _ _) R2 ⟨ω,by show n<=M+1;omega,λb g=>(zm Z).trans ((Z3 b Z).trans (J b g)),_,_,L,_,dval s,ω,M4 ((T.ext Z3 Zq).off (P.off Z)) m (by rw[u];simp) (λ_=>by rw[BG Z]),Z,P.mono Z,λq=>⟨by simpa using q.2,ω⟩,λq=>⟨p,by simpa using q⟩⟩;have ao:i<O s:=Z;apply(Zb);apply st_I (ik:=.i64) (a:=(O s:Int)) R5;apply(Zr);repeat apply(zR)
 simp only[yu,xg,zK,yY];refine yj (α:=Nat) (λz=>[(0,CG ⟨⟨s⟩⟩),(2,ε (3*n+2)),(4,Y a (O L) c),(5,υ ((i+z:Nat):Int)),(6,ν ((dval ((s.drop i).take z):Nat):Int)),(7,ν ((10^z:Nat):Int))])
  (λz D K w'=>h2=D/\K=M/\w'=[]/\1<=z/\z<=9/\i+z<=O s/\AllD (s.take (i+z))) ?_ ?_
 apply(zN);refine ye (α:=Nat) (λz=>[(0,CG ⟨⟨s⟩⟩),(2,ε (3*n+2)),(4,Y a (O L) c),(5,υ ((i+z:Nat):Int)),(6,ν ((dval ((s.drop i).take z):Nat):Int)),(7,ν ((10^z:Nat):Int)),(8,υ (z:Int))])
   (λz D K w'=>h2=D/\K=M/\w'=[]/\z<=9/\i+z<=O s/\AllD (s.take (i+z))) (λz=>9-z) 0 P7 ⟨ω,ω,ω,Cz,by show i+0<=O s;omega,p⟩ (by show 9-0<LL;decide) ?_
 rintro z t h3 n3 _⟨rfl,rfl,rfl,Z0,H,f⟩;apply(zN);by_cases hz:z=9;subst hz;apply(Zj);exact zA 9 P6 ⟨ω,ω,ω,by decide,by decide,H,f⟩;have an:z<=8:=Z;by_cases hie2:i+z=O s;apply(zM);apply jC R6 Z;apply(Zw);apply st_I (ik:=.i64) (a:=(O s:Int)) R5;apply(Zj);exact zA z P6 ⟨ω,ω,ω,Z,Z0,H,f⟩;have a0:i+z<O s:=Z;obtain⟨b,g⟩:∃b,s[i+z]?=ξ b:=⟨s[i+z],CD a0⟩;apply(zM);apply jC R6 Z;apply(Zw);apply st_I (ik:=.i64) (a:=(O s:Int)) R5;apply(Zx);apply yH R8 g;have R:b∈s:=CE g;by_cases hb1:b.toNat<48;apply(Zo);refine zZ R4 rfl<|yc [U χ,η] R7 ω I ω eF ?_;apply(kG);refine M5 R6 (zg _ _ _) R2 ⟨ω,by show n<=n3;omega,λb g=>(zm Z).trans (J b g),_,_,[],χ,0,ω,⟨ω,.nil (.inl ω),IB,ω⟩,Cz,trivial,λq=>by have:=q.1 b R;omega,λq=>by cases q⟩;repeat apply(zR)
 apply yH R8 g;by_cases hb2:57<b.toNat;apply(Zo);refine zZ R4 rfl<|yc [U χ,η] R7 ω I ω eF ?_;apply(kG);refine M5 R6 (zg _ _ _) R2 ⟨ω,by show n<=n3;omega,λb g=>(zm Z).trans (J b g),_,_,[],χ,0,ω,⟨ω,.nil (.inl ω),IB,ω⟩,Cz,trivial,λq=>by have:=q.1 b R;omega,λq=>by cases q⟩;apply(Zj);have G:AllD ((s.drop i).take z):=λx W=>f x aD;have l:=qy G;have y:O ((s.drop i).take z)=z:=by grind
 rw[y]at l;have a3:10^z<=10^8:=CQ Z an;have a1:(s.drop i).take (z+1)=(s.drop i).take z++[b]:=mA aD;have a2:dval ((s.drop i).take (z+1))=dval ((s.drop i).take z)*10+(b.toNat-48):=by rw[a1,rK];omega
 have a7:10^(z+1)=10^z*10:=C5 _ _;generalize hV:dval ((s.drop i).take z)=V at l a2;generalize hF:10^z=F at l a3 a7;rw[show(10:Nat)^8=100000000 from rfl]at a3;apply(zM);apply xM (b:=10) R6 Z;apply(Zb);apply yH R8 g;apply jA (b:=48) R6 Z;apply MY R7 Z;apply xu R6 Z;apply(zM);apply xM (b:=10) R6 Z;apply(Zn);apply(kG);refine goOn (z+1) Z ⟨ω,ω,ω,gH,by show ν _=ν _;rw[a2],by show ν _=ν _;rw[a7],gH,Cx⟩ ⟨ω,ω,ω,by show z+1<=9;omega,by show i+(z+1)<=O s;omega,AllD.take_succ f g Z⟩;rintro z t _ M _⟨rfl,rfl,rfl,aw,Z0,H,f⟩;have G:AllD ((s.drop i).take z):=λx W=>f x aD;have l:=qy G;have y:O ((s.drop i).take z)=z:=by grind
 have v:dval (s.take (i+z))=dval (s.take i)*10^z+dval ((s.drop i).take z):=by rw[List.take_add,sJ,y]
 rw[y]at l;have a5:10^z<=10^9:=CQ Z Z0;generalize hV:dval ((s.drop i).take z)=V at l v;generalize hF:10^z=F at l a5 v;rw[show(10:Nat)^9=1000000000 from rfl]at a5;apply(Zt);apply pZ R5;have ab:=Rt k (h:=upd h2 (3*M+2) (ξ (.row [ν (F:Int)] 196))) (A:=L) (C:=[F]) (T.ext (E9 Z) (C8 M)) (Sl.own (Z1:=[F]) (len:=1) (cap:=1) (zg _ _ _) Z ω Cy) m.1 (λx W=>by simp at W;omega) eP;apply zF _ R5 ab;rintro v4 h4 n4 w4⟨L4,⟨rfl,au,a8,a4,c4,rfl,af,B,aq⟩,Z4⟩;apply(zM);apply pZ R5;have ai:=Ly (k+1) (h:=upd h4 (3*n4+2) (ξ (.row [ν (V:Int)] 196))) (n:=n4+1) eC (Sl.own (Z1:=[V]) (len:=1) (cap:=1) (zg _ _ _) Z ω Cy);apply zF _ R5 ai;rintro _ _ _ _⟨e5,e6,rfl,rfl,ag⟩;subst e5 e6;have al:val [F]=F:=by simp[val]
 rw[al]at Z4;have ac:O L4<1000000000:=(by have N:=qy p;rw[DA,DR hi]at N;have h2:=B.len_pow (i:=i+z) (by rw[Z4,u,DV,hF];exact Er N (by rw[<-hF];exact Ds Z));omega);have aa:=Rr k (h:=upd h4 (3*n4+2) (ξ (.row [ν (V:Int)] 196))) (af.ext (E9 Z) (C8 n4)) ag B.1 (Pn _ (λx W=>by simp at W;omega)) ⟨ac,by have:=xU [V];simp at this;omega⟩;apply zF _ R5 aa;rintro v6 h6 n6 w6⟨L6,⟨rfl,av,a9,a6,c6,rfl,ah,S,ad⟩,ak⟩;apply(kG);refine goOn (i+z,a6,c6,L6) Z P4 ⟨ω,by show n+1<=n6;omega,λb g=>?_,⟨e2,?_⟩,H,f,ah,S,?_,ad.mono Z⟩;exact(a9 b Z).trans ((zm Z).trans ((a8 b Z).trans ((zm Z).trans (J b g))));exact(a9 _ Z).trans ((zm Z).trans ((a8 _ Z).trans ((zm Z).trans I)));show val L6=dval (s.take (i+z));rw[ak,Z4,u,v,LN];simp[val]
def len8:List UInt8:=[0,1,2,2,3,3,3,3,4,4,4,4,4,4,4,4,5,5,5,5,5,5,5,5,5,5,5,5,5,5,5,5,6,6,6,6,6,6,6,6,6,6,6,6,6,6,6,6,6,6,6,6,6,6,6,6,6,6,6,6,6,6,6,6,7,7,7,7,7,7,7,7,7,7,7,7,7,7,7,7,7,7,7,7,7,7,7,7,7,7,7,7,7,7,7,7,7,7,7,7,7,7,7,7,7,7,7,7,7,7,7,7,7,7,7,7,7,7,7,7,7,7,7,7,7,7,7,7,8,8,8,8,8,8,8,8,8,8,8,8,8,8,8,8,8,8,8,8,8,8,8,8,8,8,8,8,8,8,8,8,8,8,8,8,8,8,8,8,8,8,8,8,8,8,8,8,8,8,8,8,8,8,8,8,8,8,8,8,8,8,8,8,8,8,8,8,8,8,8,8,8,8,8,8,8,8,8,8,8,8,8,8,8,8,8,8,8,8,8,8,8,8,8,8,8,8,8,8,8,8,8,8,8,8,8,8,8,8,8,8,8,8,8,8,8,8,8,8,8,8,8,8,8,8,8,8]
theorem Yw:∀i,i<256->∃b,len8[i]?=ξ b/\b.toNat<=8/\i<2^b.toNat/\(i≠0->2^b.toNat<=2*i):=by
 intro i a;have h:∀i:Fin 256,(len8[i.val]?).any (λb=>decide (b.toNat<=8/\i.val<2^b.toNat/\(i.val≠0->2^b.toNat<=2*i.val)))=φ:=by decide+kernel
 have:=h ⟨i,a⟩;grind
theorem Yx{x m i L:Nat}(hi:x/2^m=i)(b:i<2^L)(c:i≠0->2^L<=2*i)(h3:m=0\/i≠0):x<2^(m+L)/\(x≠0->2^(m+L)<=2*x):=by
 have e:0<2^m:=Ds zd;have d:=DN x (2^m);have f:=Dz x e;rw[hi]at d;rw[DV];constructor;have:2^m*(i+1)<=2^m*2^L:=C4 _ b;grind;intro g;have a:i≠0:=by grind
 have:=C4 (2^m) (c a);grind
def bi(k:Nat)(h:HF)(n:Nat){x:Nat}(hx:x<18446744073709551616):VF (J4 (k+1)) 184 [ι (x:Int)] h n λv=>∃m:Nat,v=υ (m:Int)/\m<=64/\x<2^m/\(x≠0->2^m<=2*x):=by
 apply zO R4;have j:∀m s,x/2^m/2^s=x/2^(m+s):=λm s=>by rw[Fm,<-DV]
 apply(ZA);refine yj (α:=Nat×Nat) (λz=>[(0,ι (z.2:Int)),(2,υ (z.1:Int))]) (λz f g w=>h=f/\n=g/\w=[]/\x/2^z.1=z.2/\z.2<4294967296/\z.1<=32/\(z.1=0\/z.2≠0)) ?_ ?_;by_cases hge:4294967296<=x;rw[ze Af];apply(Zi);apply yn R6 zd;apply(Zn);exact zA (32,x/2^32) P2 ⟨ω,ω,ω,ω,by show x/2^32<_;omega,Nat.le_refl 32,.inr (by show x/2^32≠0;omega)⟩;rw[za Ae];apply(zN);exact zA (0,x) P2 ⟨ω,ω,ω,by show x/2^0=x;rw[EA,HD],by show x<_;omega,HA 32,.inl ω⟩;rintro⟨m,i⟩ t _ _ _ ⟨rfl,rfl,rfl,a,d,e,c⟩;simp only at a d e c;apply(Za);refine yj (α:=Nat×Nat) (λz=>[(0,ι (z.2:Int)),(2,υ (z.1:Int))]) (λz f g w=>h=f/\n=g/\w=[]/\x/2^z.1=z.2/\z.2<65536/\z.1<=48/\(z.1=0\/z.2≠0)) ?_ ?_;by_cases hge:65536<=i;rw[ze Af];apply(Zi);apply yn R6 zd;apply(Zn);exact zA (m+16,i/2^16) P2 ⟨ω,ω,ω,by show x/2^(m+16)=i/2^16;rw[<-a,j],by show i/2^16<_;omega,by show m+16<=48;omega,.inr (by show i/2^16≠0;omega)⟩;rw[za Ae];apply(zN);exact zA (m,i) P2 ⟨ω,ω,ω,a,by show i<_;omega,by show m<=48;omega,c⟩;rintro⟨m,i⟩ t _ _ _ ⟨rfl,rfl,rfl,a,d,e,c⟩;simp only at a d e c;apply(Za);refine yj (α:=Nat×Nat) (λz=>[(0,ι (z.2:Int)),(2,υ (z.1:Int))]) (λz f g w=>h=f/\n=g/\w=[]/\x/2^z.1=z.2/\z.2<256/\z.1<=56/\(z.1=0\/z.2≠0)) ?_ ?_;by_cases hge:256<=i;rw[ze Af];apply(Zi);apply yn R6 zd;apply(Zn);exact zA (m+8,i/2^8) P2 ⟨ω,ω,ω,by show x/2^(m+8)=i/2^8;rw[<-a,j],by show i/2^8<_;omega,by show m+8<=56;omega,.inr (by show i/2^8≠0;omega)⟩;rw[za Ae];apply(zN);exact zA (m,i) P2 ⟨ω,ω,ω,a,by show i<_;omega,by show m<=56;omega,c⟩;rintro⟨m,i⟩ t _ _ _ ⟨rfl,rfl,rfl,a,d,e,c⟩;simp only at a d e c;have⟨b,u,y,l,o⟩:=Yw i d;apply(Zt);apply mE R7;rw[C1 d];apply yH R8 u;apply vj R7 Z;apply(kG);have⟨p,q⟩:=Yx a l o c;exact retF _ ω (zi ω) R2 ⟨m+b.toNat,ω,Z,p,q⟩
def fX(k:Nat)(h:HF)(n:Nat){x:Nat}(hx:x<18446744073709551616)(c:x≠0):VF (J4 (k+2)) 175 [ι (x:Int)] h n λv=>∃s:Nat,v=υ (s:Int)/\s<64/\9223372036854775808<=x*2^s/\x*2^s<18446744073709551616:=by
 apply zO R4;apply(Zu);apply yi _ R5 (bi k h n hx);rintro _⟨m,rfl,g,b,d⟩;apply(kG);have f:m≠0:=λe=>by subst e;simp at b;omega
 refine retF _ ω (zi ω) R2 ⟨64-m,dG,Z,?_,?_⟩;have a:=CM (2^(64-m)) (d c);rw[<-DV,show m+(64-m)=64 from Z,Di]at a;omega;have a:=Er b (Ds (n:=64-m) (show 0<2 by decide));rw[<-DV,show m+(64-m)=64 from Z]at a;exact a
section
theorem iZ{Z4 y s Q r:Nat}(h:Z4*2^s=Q*(y*2^s)+r)(d:r<y*2^s):Z4/y=Q/\Z4%y=r/2^s:=by
 have c:0<2^s:=Ds zd;have f:0<y:=Nat.pos_of_ne_zero λe=>by rw[e,DU]at d;omega
 have a:Z4*2^s/(y*2^s)=Q:=by simp_all [D6,G0,EP,C9]
 have b:Z4*2^s%(y*2^s)=r:=(by rw[h,D6,Ga,C1 d]);rw[HV _ _ c]at a;rw[GZ]at b;exact⟨a,by rw[<-b,Nat.mul_div_cancel _ c]⟩
def jG{lo s:Nat}(a:s<=64):lo*2^s=lo/2^(64-s)*18446744073709551616+lo*2^s%18446744073709551616:=by have e:lo*2^s/18446744073709551616=lo/2^(64-s):=(by rw[show(18446744073709551616:Nat)=2^(64-s)*2^s from by rw[<-DV,show 64-s+s=64 from Z],HV _ _ (Ds zd)]);have:=DN (lo*2^s) 18446744073709551616;rw[e,CY]at this;exact this.symm
def jZ{a b s:Nat}(hb:b<2^s):a*2^s|||b=a*2^s+b:=by have:=Nat.shiftLeft_add_eq_or_of_lt hb a;rw[Nat.shiftLeft_eq]at this;exact this.symm
theorem Yy{top N b a d c Z3 Z0:Nat}(e:b*Z3+d=top*4294967296+N/4294967296)(f:a*Z3+c=d*4294967296+N%4294967296)(g:Z0=Z3):top*18446744073709551616+N=(b*4294967296+a)*Z0+c:=by grind
set_option maxRecDepth 100000
theorem pH(k:Nat)(h:HF)(n:Nat){hi lo y:Nat}(K:hi<y)(M:lo<18446744073709551616)(T:y<18446744073709551616):VF (J4 (k+3)) 179 [ι (hi:Int),ι (lo:Int),ι (y:Int)] h n λv=>v=.tuple #[ι (((hi*18446744073709551616+lo)/y:Nat):Int),ι (((hi*18446744073709551616+lo)%y:Nat):Int)]:=by
 apply zO R4;apply(Za);apply(Zp);rw[za rfl];apply(zN);by_cases h0:hi=0;subst h0;apply(Zo);rw[N7 rfl];apply(Zb);apply xN R6 Z;apply(Zb);apply vO R6 Z;apply(kG);exact retF [ι _,ι _] ω ω R2 (by rw[DU,C9];rfl);apply(ZB);apply yi _ R5 (fX k h n T Z);rintro _⟨s,rfl,hs,I,q⟩;apply se R7 Z;apply(ZC);apply xK R6 Z;rw[C1 q];have hp:0<2^s:=Ds zd;have L:hi*2^s+2^s<=y*2^s:=(by have:=CM (2^s) (show hi+1<=y from K);rw[Dq,EM]at this;exact this);have C:lo/2^(64-s)<2^s:=(by rw[Ee (Ds zd),<-DV,show s+(64-s)=64 from Z];exact M);have P:=jG (lo:=lo) (s:=s) Z;have D:lo*2^s%18446744073709551616<18446744073709551616:=Dz _ zd;have B:(hi*18446744073709551616+lo)*2^s=(hi*2^s+lo/2^(64-s))*18446744073709551616+lo*2^s%18446744073709551616:=by grind
 apply(kG);generalize hYe:y*2^s=Z3 at I q L⊢;repeat apply(zW)
 apply(zN);repeat apply(zW)
 apply(Zt);apply xK R6 Z;rw[C1 (show hi*2^s<18446744073709551616 from Z)];apply(Zb);refine ym (a:=64) R6 Z<|yn R6 Z<|wG R6 Z ?_;rw[jZ C];have p:hi*2^s+lo/2^(64-s)<Z3:=Z;generalize hi*2^s+lo/2^(64-s)=top at B p⊢;apply(ZC);apply xK R6 Z;generalize lo*2^s%18446744073709551616=N at B D⊢;apply(kG);repeat apply(zW)
 apply(zN);repeat apply(zW)
 apply(zN);obtain⟨d,R⟩:∃d,d=Z3/4294967296:=⟨_,ω⟩;obtain⟨H,S⟩:∃H,H=Z3%4294967296:=⟨_,ω⟩;have u:d*4294967296+H=Z3:=Z;rw[<-R,<-S];apply(Zb);apply xN R6 Z;apply(kG);have J:top/d*d+top%d=top:=by rw[CY];exact DN _ _
 apply(Zw);refine xt R6 Z<|ym R6 Z ?_;rw[show top-top/d*d=top%d from Z];repeat apply(zR)
 simp only[yY,ug,yu,xg,zK];refine XY Z Z Z Z ω P9 λt2 F f j=>?_;rw[<-wU j];rw[u]at f;obtain⟨c,i⟩:∃c,c=(top*4294967296+N/4294967296)%Z3:=⟨_,ω⟩;have l:=DN (top*4294967296+N/4294967296) Z3;have w:=Dz (top*4294967296+N/4294967296) (show 0<Z3 from Z);rw[<-i]at w;rw[<-f,<-i]at l;rw[CY]at l;simp only[yY,ug,yu,xg,zK];apply(zM);apply wk R6;apply(zM);apply uo R6;apply(Zb);refine wk R6<|sd R6 Z ?_;rw[show((top*4294967296%18446744073709551616+N/4294967296)%18446744073709551616+18446744073709551616-F*Z3%18446744073709551616)%18446744073709551616=c from Z];repeat apply(zR)
 simp only[yY,ug,yu,xg,zK];apply(Zb);apply xN R6 Z;repeat apply(zR)
 simp only[yY,ug,yu,xg,zK];have J:c/d*d+c%d=c:=by rw[CY];exact DN _ _
 apply(Zw);refine xt R6 Z<|ym R6 Z ?_;rw[show c-c/d*d=c%d from Z];repeat apply(zR)
 simp only[yY,ug,yu,xg,zK];refine XZ Z Z Z Z ω P9 λt3 Z4 e j=>?_;rw[<-wU j];rw[u]at e;obtain⟨G,g⟩:∃G,G=(c*4294967296+N%4294967296)%Z3:=⟨_,ω⟩;have m:=DN (c*4294967296+N%4294967296) Z3;have A:=Dz (c*4294967296+N%4294967296) (show 0<Z3 from Z);have Z1:(c*4294967296+N%4294967296)/Z3<4294967296:=(by rw[Ee Z];have:(c+1)*4294967296<=Z3*4294967296:=CM _ w;rw[CY 4294967296];omega);rw[<-e]at Z1;rw[<-g]at A;rw[<-e,<-g]at m;have V:F<4294967296:=(by apply CW;intro hn;have W:4294967296*Z3<=F*Z3:=CM _ Z;have Z0:(top+1)*4294967296<=Z3*4294967296:=CM _ p;omega);rw[CY]at m;apply(Zi);apply xt (b:=4294967296) R6 Z;apply(zM);apply yT R6 Z;apply(zM);apply wk R6;apply(zM);apply uo R6;apply(Zb);refine wk R6<|sd R6 Z ?_;rw[show((c*4294967296%18446744073709551616+N%4294967296)%18446744073709551616+18446744073709551616-Z4*Z3%18446744073709551616)%18446744073709551616=G from Z];apply(zM);apply yn R6 Z;apply(kG);have o:=iZ (B.trans (Yy l m hYe)) (by rw[hYe];exact A);apply retF [ι _,ι _] ω ω R2;rw[o.1,o.2];rfl
end
def cH(j:Nat)(q:List Nat)(d:Nat):(CI (j+1) 0++q).set j d=CI j 0++d::q:=by rw[List.replicate_succ',Dh,D1 _ _ eC,Dk,DY];rfl
theorem pQ{Vq:Nat}(b:0<d)(c:V=d*Vq+r):(a+18446744073709551616*V)/d=(r*18446744073709551616+a)/d+18446744073709551616*Vq/\(a+18446744073709551616*V)%d=(r*18446744073709551616+a)%d:=by
 have e:a+18446744073709551616*V=(r*18446744073709551616+a)+d*(18446744073709551616*Vq):=by grind
 rw[e];exact⟨G7 _ _ b,Nat.add_mul_mod_self_left _ _ _⟩
def RP(b:r<d)(c:a<18446744073709551616):(r*18446744073709551616+a)/d<18446744073709551616:=by rw[Ee Z];have:(r+1)*18446744073709551616<=d*18446744073709551616:=CM _ b;rw[CY 18446744073709551616];omega
def gI{l:List Nat}(h:l[j]?=ξ a):wv (l.drop j)=a+18446744073709551616*wv (l.drop (j+1)):=by rw[uR h];rfl
theorem Yz(k:Nat){a:Option Addr}{l:List Nat}(hb:O l<1099511627)(p:J5 l)(c:0<d/\d<18446744073709551616)(hv:Sl h n 1 (Y a len cap) (u64s l)):
  VF (J4 (k+4)) 143 [Y a len cap,ι (d:Int)] h n λv=>v=ι ((wv l%d:Nat):Int):=by
 apply zO R4;have b:=hv.lenW;subst b;apply(Za);apply(Zn);refine ye (α:=Nat×Nat) (λx=>[(0,Y a (O l) cap),(1,ι (d:Int)),(5,ι (x.2:Int)),(6,υ ((x.1:Int)-1))])
  (λx m q w=>h=m/\n=q/\w=[]/\x.1<=O l/\x.2=wv (l.drop x.1)%d) (λx=>x.1)
  (O l,0) P4 ⟨ω,ω,ω,Cy,by rw[EQ];exact(ab9 _).symm⟩ sP ?_
 rintro⟨j,r⟩ t _ _ _ ⟨rfl,rfl,rfl,o,e⟩;simp only at o e;have g:r<d:=by rw[e];exact Dz _ c.1
 apply(zN);cases j with
 |zero=>
  apply(Zp);exact retF _ ω (zi ω) R2 (by rw[e,Dy];rfl)
 |succ j=>
  obtain⟨x,f⟩:∃x,l[j]?=ξ x:=⟨l[j]'Z,CD Z⟩;have i:=p.get f;apply(Zs);refine yE R7 hv ⟨ω,Z⟩ f (λ_=>rfl) R4 λ_=>?_;repeat apply(zR)
  apply yi _ R5 (pH k h n g i c.2);rintro _ rfl;apply(Zn);refine goOn (j,(r*18446744073709551616+x)%d) AE ⟨ω,ω,ω,dG,Cx⟩ ⟨ω,ω,ω,Be,?_⟩;show _%d=wv (l.drop j)%d;rw[gI f,(pQ (V:=wv (l.drop (j+1))) (Vq:=wv (l.drop (j+1))/d) (r:=r) (a:=x) c.1 (by grind [DN])).2]
theorem YA(k:Nat){a:Option Addr}{l:List Nat}(hb:O l<1099511627)(Z1:J5 l)(i:0<d/\d<18446744073709551616)(hv:Sl h n 1 (Y a len cap) (u64s l)):
  CF (J4 (k+4)) 201 [Y a len cap,ι (d:Int)] h n λv o C w=>∃v1 L,v=.tuple #[v1,ι ((wv l%d:Nat):Int)]/\ResW n h v1 o C w L/\wv L=wv l/d/\O L<=O l/\xC n v1:=by
 apply zw R4;have p:=hv.lenW;subst p;apply(Zu);apply vB R9 Z;rw[show zn (ι 0)=[ι 0]from rfl,xO];apply(Zn);apply(kG);refine ye (α:=Nat×List Nat×Nat) (λx=>[(0,Y a (O l) cap),(1,ι (d:Int)),(6,Y (ξ ⟨3*n+2,0,θ⟩) (O l) (O l)),(7,ι (x.2.2:Int)),(8,υ ((x.1:Int)-1))])
  (λx o C w=>C=n+1/\w=[]/\J3 n h o/\x.1<=O l/\(∃e,o (3*n+2)=ξ (.row (u64s (CI x.1 0++x.2.1)) e))/\x.1+O x.2.1=O l/\J5 x.2.1/\x.2.2<d/\wv (l.drop x.1)=d*wv x.2.1+x.2.2) (λx=>x.1)
  (O l,[],0) ⟨rfl,rfl,rfl,rfl,rfl,Cx⟩ ⟨rfl,rfl,E9 Z,Cy,⟨_,by rw[zg,Dm]⟩,eC,HO,i.1,by rw[EQ];rfl⟩ sP ?_
 rintro⟨j,q,r⟩ t M _ _ ⟨rfl,rfl,f,N,⟨e,c⟩,G,u,m,g⟩;simp only at N c G u m g;apply(zN);cases j with
 |zero=>
  rw[E7,Dt]at c;have R:O q=O l:=Z;apply(Zz);have H:=xi (k+2) (n:=n+1) (a:=ξ ⟨3*n+2,0,θ⟩) (len:=O l) (cap:=O l) (l:=q) Z (λ_ e=>by injection e with e;rw[<-e]) (.at_ Z c rfl Cy (by rw[zL];omega) AV);apply zF _ R5 H;rintro S _ _ _⟨rfl,rfl,rfl,rfl,P⟩;apply(kG);rw[Dy]at g;have D:wv l/d=wv q:=by rw[g,Nat.mul_add_div i.1,EP m,DE]
  have F:wv l%d=r:=by rw[g,Nat.mul_add_mod,C1 m]
  refine retH [Y _ _ _,ι _] R3 ⟨_,yf q,by rw[F];rfl,⟨rfl,Ai,f,P,NW.trim u⟩,?_,?_,bJ⟩
  .rw[D];exact Og _ _
  have:=xU q;omega
 |succ j=>
  obtain⟨x,A⟩:∃x,l[j]?=ξ x:=⟨l[j]'Z,CD Z⟩;have s:=Z1.get A;have I:=hv.ext f (C8 n);apply(Zs);refine yE R7 I ⟨rfl,Z⟩ A (λ_=>rfl) R4 λ_=>?_;repeat apply(zR)
  apply yi _ R5 (pH k M (n+1) m s i.2);rintro _ rfl;repeat apply(zR)
  refine uH (j:=j) R8 Z Az c bJ (λ_=>rfl) R3 (λ_=>rfl) rfl λ_=>?_;rw[yk,cH];apply(Zn);obtain⟨J,K⟩:=pQ i.1 g;refine goOn (j,(r*18446744073709551616+x)/d::q,(r*18446744073709551616+x)%d) AE ⟨rfl,rfl,rfl,rfl,dG,Cx⟩ ⟨rfl,rfl,λb hb=>(zm Z).trans (f b hb),Be,⟨e,zg _ _ _⟩,by show j+O (_::q)=_;simp;omega,?_,Dz _ i.1,?_⟩
  .intro y B;rcases De.1 B with rfl|B
   .exact RP m s
   exact u y B
  show wv (l.drop j)=d*wv (_::q)+_;rw[gI A,<-K];have:=DN (x+18446744073709551616*wv (l.drop (j+1))) d;rw[J]at this;exact this.symm
def Oi(h:c<10):(Ec (48+c)).toNat=48+c:=by rw[UInt8.toNat_ofNat',C1 Z]
def pI:∀V,AllD ((decB V).map Ec)/\dval ((decB V).map Ec)=V:=by
 intro V;induction V using Nat.strongRecOn with
 |ind V ih=>
  by_cases h0:V=0;subst h0;unfold decB;rw[xo];exact⟨λb a=>Cu a eC,ω⟩;have e:decB V=decB (V/10)++[48+V%10]:=(by unfold decB;rw[wy h0];simp);have⟨f,g⟩:=ih (V/10) Z;have d:=Oi (c:=V%10) Z;rw[e,List.map_append,List.map_cons,List.map_nil];refine⟨λb a=>?_,?_⟩;obtain a|a:=DQ.1 a;exact f b a;rw[CV.1 a,d];omega;rw[rK,g,d];omega
theorem wx(V:Nat):AllD (decT V)/\dval (decT V)=V/\decT V≠[]:=by unfold decT;by_cases h0:V=0;rw[Cw h0,h0];exact⟨λb a=>by rw[CV.1 a];decide,ω,eC⟩;rw[Cv h0];refine⟨(pI V).1,(pI V).2,λe=>?_⟩;have:=(pI V).2;rw[e]at this;exact h0 this.symm
def Oj(t:List UInt8)(j:Nat):Prop:=j<=O t/\(∀i,i<j->t[i]?≠ξ 47)/\(j=O t\/t[j]?=ξ 47)
def AllD.slash{a:List UInt8}(h:AllD a):a[i]?≠ξ 47:=λe=>by
 have:=h 47 (CE e);have b:(47:UInt8).toNat=47:=rfl;omega
theorem Oj.uniq{a r:List UInt8}(m:AllD a)(o:r=[]\/∃f,r=47::f)(h:Oj (a++r) j):j=O a:=by have⟨g,l,b⟩:=h;obtain e|rfl|d:=Gk j (O a);exfalso;obtain b|b:=b;grind;rw[DW e]at b;exact m.slash b;rfl;exfalso;obtain rfl|⟨f,rfl⟩:=o;simp at g;omega;refine l (O a) d ?_;rw[Dn Cy,DY];rfl
def vF(s:List UInt8):Prop:=∃q:Rat,ratT q=s
def z6(s:List UInt8):Bool:=s[0]?==ξ 45
def xB(s:List UInt8):List UInt8:=if z6 s then s.drop 1 else s
theorem qj(q:Rat):z6 (ratT q)=decide (q.num<0)/\xB (ratT q)=decT q.num.natAbs++(if q.den=1 then[]else 47::decT q.den):=by
 have l:z6 (ratT q)=decide (q.num<0):=by
  unfold z6 ratT;by_cases hn:q.num<0;grind;rw[Cv hn,BG hn,Dt];have⟨d,_,f⟩:=wx q.num.natAbs;rw[DW (Gy.2 f)];cases hd:(decT q.num.natAbs)[0]? with
  |none=>rfl
  |some b=>
   have:=d b (CE hd);show(ξ b==ξ 45)=χ;have a:b≠45:=λe=>by subst e;have g:(45:UInt8).toNat=45:=rfl;omega
   simpa using a
 grind [xB,ratT]
theorem YB(b:ratT q=s)(hj:Oj (xB s) j):z6 s=decide (q.num<0)/\(xB s).take j=decT q.num.natAbs/\(q.den=1->j=O (xB s))/\(q.den≠1->j<O (xB s)/\(xB s).drop (j+1)=decT q.den):=by subst b;have⟨d,a⟩:=qj q;rw[a]at hj⊢;have e:=hj.uniq (wx _).1 aD;simp_all
theorem RQ(s:List UInt8):O (xB s)<=O s:=by grind [xB]
section
variable{X:CtxF}{r:List Oper}{d:Tmp}
theorem u4{i:Operand}(a:qt X ops t o d (o.op=.slice ty x (ξ i) θ θ/\X.E.und ty=ξ .string/\J2 t x=CG ⟨⟨s⟩⟩/\J2 t i=CC ik ji/\ji=(j:Int)))(v:j<=O s)
  (k:EO X ops r ⟨upd t d (CG ⟨⟨s.drop j⟩⟩),h,n,w⟩ Q):EO X ops (o::r) ⟨t,h,n,w⟩ Q:=by
 obtain⟨a,g,m,e,p,u,l,c⟩:=a;subst c;refine zZ ⟨a,g,m,AF⟩ ?_ k;rw[e];show xc X.E ty (J2 t x) (ξ (J2 t i)) θ=_;rw[u,l];have f:(0:Int)<=(j:Int)/\(j:Int)<=(O s:Int):=Z;simp only[xc,p,bnd,Cw f,Ef];rw[CL aD]
theorem ND{i:Operand}(a:qt X ops t o d (o.op=.slice ty x θ (ξ i) θ/\X.E.und ty=ξ .string/\J2 t x=CG ⟨⟨s⟩⟩/\J2 t i=CC ik ji/\ji=(j:Int)))(v:j<=O s)
  (k:EO X ops r ⟨upd t d (CG ⟨⟨s.take j⟩⟩),h,n,w⟩ Q):EO X ops (o::r) ⟨t,h,n,w⟩ Q:=by
 obtain⟨a,g,m,e,p,u,l,c⟩:=a;subst c;refine zZ ⟨a,g,m,AF⟩ ?_ k;rw[e];show xc X.E ty (J2 t x) θ (ξ (J2 t i))=_;rw[u,l];have f:(0:Int)<=(j:Int)/\(j:Int)<=(O s:Int):=Z;simp only[xc,p,bnd,Cw f,Ef,Dy,Nat.sub_zero]
end
def RatR.off{h:HF}{n:Nat}{y:Option BF}(r:RatR h n n1 n2 d1 d2 q ln ld)(a:Ks b n2)(c:Ks b d2):RatR (upd h b y) n n1 n2 d1 d2 q ln ld:=⟨r.num.off a,r.neg,r.sl.off c,r.norm,r.val⟩
def RatR.ones{h:HF}{n:Nat}(r:RatR h n n1 n2 d1 d2 q ln ld):ones [n1,n2,d1,d2]=φ:=by rw[r.num.neg];show GL.ones (n2::_)=φ;rw[r.num.sl.ones,r.neg];show GL.ones (d2::_)=φ;rw[r.sl.ones];rfl
def RatR.zero(h:HF)(n:Nat):RatR h n (U χ) (η) (U χ) (η) 0 [] []:=⟨⟨ω,.nil (.inl ω),IB,ω⟩,ω,.nil (.inl ω),IB,ω⟩
def YC(h:q.den=1):q=((q.num:Int):Rat):=by apply Rat.ext;rw[ag6];rw[ag7,h]
def RatR.whole{h:HF}{n:Nat}{a c:ψ}{x:Int}{l:List Nat}(r:IntR h n a c x l):RatR h n a c (U χ) (η) (x:Rat) l []:=⟨by rw[ag6];exact r,ω,.nil (.inl ω),IB,by rw[ag7];rfl⟩
def YD(n:Nat)(h:HF)(s:List UInt8)(v:ψ)(h':HF)(n':Nat)(w:List Nat):Prop:=w=[]/\n<=n'/\J3 n h h'/\∃n1 n2 d1 d2 q ln ld ok,v=.tuple #[.agg #[n1,n2,d1,d2],U ok]/\RatR h' n' n1 n2 d1 d2 q ln ld/\O ln<=O s/\O ld<=O s/\xC n n2/\xC n d2/\(ok=φ->ratT q=s)/\(vF s->ok=φ)
def YE(k:Nat)(h:HF)(n:Nat)(s:List UInt8)(hs:O s<1000000):CF (J4 (k+6)) 66 [CG ⟨⟨s⟩⟩] h n (YD n h s):=by
 refine zw R4<|zN (k:=?_);refine xV R5<|Zl (k:=?_);simp only[yu,xg,zK,yY];generalize hh:upd h (3*n+2) _=h1;have a8:∃e,h1 (3*n+2)=ξ (.row [U χ,η,U χ,η] e):=⟨_,gQ⟩;have av:J3 n h h1:=by rw[<-hh];exact E9 Z
 have⟨e1,a8⟩:=a8;have ao:=RQ s;refine Mz [(0,CG ⟨⟨s⟩⟩),(2,ε (3*n+2)),(4,CG ⟨⟨s⟩⟩),(5,U (z6 s))] (λu F w=>h1=u/\F=n+1/\w=[]) ?_ ?_;refine Zi (k:=?_);refine st_I (ik:=.i64) (a:=(O s:Int)) R5 ?_;by_cases hs0:O s=0;refine kG (k:=?_);exact Le ⟨ω,ω,ω,by rw[CT.1 hs0];rfl,Cx⟩ R3;obtain⟨b,g⟩:∃b,s[0]?=ξ b:=⟨s[0]'Z,CD Z⟩;refine MC R6 Z ?_;repeat refine zR (k:=?_)
 refine yH (j:=0) R8 g ?_;have l:z6 s=decide (b.toNat=45):=(by unfold z6;rw[g];by_cases h45:b=45;subst h45;rfl;rw[show decide (b.toNat=45)=χ from BG (λe=>h45 (GX.1 e))];simpa using h45);by_cases h45:b.toNat=45;refine kG (k:=?_);exact Le ⟨ω,ω,ω,by rw[l,Ct h45];rfl,Cx⟩ R3;refine kG (k:=?_);exact Le ⟨ω,ω,ω,by rw[l,BG h45];rfl,Cx⟩ R3;rintro t _ _ _⟨rfl,rfl,rfl⟩;refine Za (k:=?_);refine Mz [(0,CG ⟨⟨s⟩⟩),(2,ε (3*n+2)),(4,CG ⟨⟨xB s⟩⟩),(5,U (z6 s))] (λu F w=>h1=u/\F=n+1/\w=[]) ?_ ?_;by_cases l:z6 s=φ;rw[ze (by show U (z6 s)=_;rw[l])];refine Zi (k:=?_);have au:1<=O s:=by
  unfold z6 at l;cases s with
  |nil=>simp at l
  |cons=>simp
 refine u4 (j:=1) R8 au<|kG (k:=?_);exact Le ⟨ω,ω,by unfold xB;rw[Cw l];rfl,ω,Cx⟩ R3;rw[za (by show U (z6 s)=_;rw[HP.2 l])];refine zN (k:=?_);exact Le ⟨ω,ω,by unfold xB;rw[Cv l];rfl,ω,Cx⟩ R3;rintro t _ _ _⟨rfl,rfl,rfl⟩;generalize hT:xB s=T at ao;refine Zi (k:=?_);refine st_I (ik:=.i64) (a:=(O T:Int)) R5<|Zl (k:=?_);simp only[yu,xg,zK,yY];refine yj (α:=Nat) (λz=>[(0,CG ⟨⟨s⟩⟩),(2,ε (3*n+2)),(4,CG ⟨⟨T⟩⟩),(5,U (z6 s)),(6,CC .i64 (z:Int))]) (λz u F w=>h1=u/\F=n+1/\w=[]/\Oj T z) ?_ ?_;refine zN (k:=?_);refine ye (α:=Nat) (λz=>[(0,CG ⟨⟨s⟩⟩),(2,ε (3*n+2)),(4,CG ⟨⟨T⟩⟩),(5,U (z6 s)),(6,CC .i64 (O T:Int)),(7,CC .i64 (z:Int))]) (λz u F w=>h1=u/\F=n+1/\w=[]/\z<=O T/\∀i,i<z->T[i]?≠ξ 47) (λz=>O T-z) 0 P6 ⟨ω,ω,ω,Cz,λi hi=>Cu hi (Nat.not_lt_zero i)⟩ (by show O T-0<LL;unfold LL;omega) ?_;rintro z t _ _ _⟨rfl,rfl,rfl,hz,a3⟩;refine Zt (k:=?_);refine st_I (ik:=.i64) (a:=(O T:Int)) R5 ?_;by_cases hze:z=O T;refine Zj (k:=?_);exact zA (O T) P5 ⟨ω,ω,ω,Cy,by rw[<-hze];exact a3,.inl ω⟩;obtain⟨b,g⟩:∃b,T[z]?=ξ b:=⟨T[z]'Z,CD Z⟩;refine Zx (k:=?_);refine yH (j:=z) R8 g ?_;by_cases h47:b.toNat=47;have al:b=47:=GX.1 h47;subst al;refine Zr (k:=?_);exact zA z P5 ⟨ω,ω,ω,hz,a3,.inr g⟩;refine Zp (k:=?_);refine goOn (z+1) (by show O T-(z+1)<O T-z;omega) ⟨ω,ω,ω,ω,ω,gH,Cx⟩ ⟨ω,ω,ω,by show z+1<=O T;omega,λi hi=>?_⟩;by_cases hiz:i<z;exact a3 i hiz;have:i=z:=Z;subst this;rw[g];intro e;injection e with e;subst e;exact h47 rfl;rintro z t _ _ _⟨rfl,rfl,rfl,ah⟩;refine zN (k:=?_);have ay:z<=O T:=ah.1;have m:∀c,ratT c=s->z6 s=decide (c.num<0)/\T.take z=decT c.num.natAbs/\(c.den=1->z=O T)/\(c.den≠1->z<O T/\T.drop (z+1)=decT c.den):=(by intro c f;have:=YB f (j:=z) (by rw[hT];exact ah);rw[hT]at this;exact this);refine Zb (k:=?_);refine ND (j:=z) R8 ay ?_;have b8:O (T.take z)<=O s:=by rw[DA];omega
 refine zF _ R5 (RO (k+2) _ _ (T.take z) Z) ?_;rintro _ h2 n2 _⟨rfl,b5,ai,c1,c2,L,ok,x,rfl,ix,b3,fx,a5,am⟩;repeat refine zR (k:=?_)
 refine xV R5<|yc [c1,c2] R7 ix.ones (zg _ _ _) ω eF ?_;rw[uk];generalize hh:upd h2 (3*n2+2) _=h3;have ac:J3 n2 h2 h3:=by rw[<-hh];exact E9 Z
 have Z4:∃e,h3 (3*n2+2)=ξ (.row [c1,c2] e):=⟨_,gZ⟩;have⟨e8,Z4⟩:=Z4;have H:=ix.ext ac Zq;have a9:h3 (3*n+2)=_:=(ac _ Z).trans ((ai _ Z).trans a8);have N:J3 n h h3:=λb g=>(ac b Z).trans ((ai b Z).trans (av b g));refine kG (k:=?_);cases ok with
 |false=>
  refine Zo (k:=?_);refine zZ (v:=.agg #[U χ,η,U χ,η]) R4 rfl<|yc [U χ,η,U χ,η] R7 ω a9 ω eF ?_;refine kG (k:=?_);refine M5 R6 (zg _ _ _) R2 ⟨ω,by show n<=n2+1;omega,λb g=>(zm Z).trans (N b g),_,_,_,_,0,[],[],χ,ω,RatR.zero _ _,Cz,Cz,trivial,trivial,λh=>Cu h eC,?_⟩;rintro⟨c,f⟩;have⟨_,p2,_,_⟩:=m c f;have C:=wx c.num.natAbs;rw[<-p2]at C;exact Cu (a5 ⟨C.1,C.2.2⟩).1 eC
 |true=>
 refine Zj (k:=?_);have ak:=am rfl;have ax:=(a5 ak).2;obtain⟨a,b9,p,rfl,_⟩:=H.sl.len;have e1:=H.sl.lenU;subst e1;repeat refine zR (k:=?_)
 refine zT R6 Z4 (v:=Y a (O L) p) R2<|zF _ R5 (Mi (k+4) _ _ (z6 s) a (O L) p) ?_;rintro _ h4 n4 _⟨rfl,rfl,rfl,W⟩;refine zZ (v:=.agg #[U (z6 s&&decide (0<O L)),Y a (O L) p,U χ,η]) R4 rfl<|xV R5<|yc [U (z6 s&&decide (0<O L)),Y a (O L) p,U χ,η] R7 ω (zg _ _ _) ω eF ?_;rw[uk];generalize hh:upd h4 (3*(n2+1+1)+2) _=h5;have Z3:J3 (n2+1+1) h4 h5:=by rw[<-hh];exact E9 Z
 have A:∃e,h5 (3*(n2+1+1)+2)=ξ (.row [U (z6 s&&decide (0<O L)),Y a (O L) p,U χ,η] e):=⟨_,gZ⟩;have aa:h5 (3*n+2)=_:=(Z3 _ Z).trans ((W _ Z).trans a9);have Z1:J3 n h h5:=λb g=>(Z3 b Z).trans ((W b Z).trans (N b g));obtain⟨K,V⟩:∃K:Int,K=if z6 s then -(x:Int)else x:=⟨_,ω⟩;have iN:IntR h5 (n2+1+1+1) (U (z6 s&&decide (0<O L))) (Y a (O L) p) K L:=(by refine M4 ((H.sl.ext W Zq).ext Z3 Zq) H.norm ?_ λh0=>?_;rw[H.val,V];split<;>omega;rw[V]at h0⊢;by_cases l:z6 s=φ;rw[Cw l]at h0⊢;rw[l,Ct Z];rw[Cv l,HP.2 l,BG Z]);have a4:∀c,ratT c=s->K=c.num:=(by intro c f;have⟨p1,p2,_,_⟩:=m c f;rw[V,ax,p2,(wx _).2.1,p1];by_cases hn:c.num<0;rw[Cw (Ct hn)];omega;rw[Cv (by simpa using hn)];omega);refine Zt (k:=?_);refine st_I (ik:=.i64) (a:=(O T:Int)) R5<|lW R6<|zN (k:=?_);refine yj (α:=(ψ×ψ×ψ×ψ)×Rat×List Nat×List Nat) (λ_=>[(0,CG ⟨⟨s⟩⟩),(2,ε (3*n+2)),(10,ε (3*(n2+1+1)+2))])
  (λz u F w=>w=[]/\n2+1+1+1<=F/\J3 n h u/\u (3*n+2)=ξ (.row [U χ,η,U χ,η] e1)/\(∃e,u (3*(n2+1+1)+2)=ξ (.row [z.1.1,z.1.2.1,z.1.2.2.1,z.1.2.2.2] e))/\RatR u F z.1.1 z.1.2.1 z.1.2.2.1 z.1.2.2.2 z.2.1 z.2.2.1 z.2.2.2/\O z.2.2.1<=O s/\O z.2.2.2<=O s/\xC (n+1) z.1.2.1/\xC (n+1) z.1.2.2.2/\∀c,ratT c=s->z.2.1=c) ?_ ?_
 by_cases hzT:(z:Int)<(O T:Int);rw[ze (by show U (decide ((z:Int)<(O T:Int)))=_;rw[Ct hzT])];refine Zg (k:=?_);refine u4 (j:=z+1) R8 Z ?_;have b4:O (T.drop (z+1))<=O s:=by rw[Ek];omega
 refine zF _ R5 (RO (k+2) _ _ (T.drop (z+1)) Z) ?_;rintro _ h6 n6 _⟨rfl,aq,Z0,d1,d2,D,af,y,rfl,iy,b2,fy,ag,b0⟩;repeat refine zR (k:=?_)
 refine xV R5<|yc [d1,d2] R7 iy.ones (zg _ _ _) ω eF ?_;rw[uk];generalize hh:upd h6 (3*n6+2) _=h7;have G:J3 n6 h6 h7:=by rw[<-hh];exact E9 Z
 have B:∃e,h7 (3*n6+2)=ξ (.row [d1,d2] e):=⟨_,gZ⟩;have⟨b1,B⟩:=B;have ab:h7 (3*n+2)=_:=(G _ Z).trans ((Z0 _ Z).trans aa);have P:J3 n h h7:=λb g=>(G b Z).trans ((Z0 b Z).trans (Z1 b g));have ae:=iy.ext G Zq;have M:∀c,ratT c=s->af=φ/\y=c.den:=by
  intro c f;have⟨p1,p2,p3,p4⟩:=m c f;have ap:c.den≠1:=λe=>by have:=p3 e;omega
  have C:=wx c.den;rw[<-(p4 ap).2]at C;have:=ag ⟨C.1,C.2.2⟩;rw[C.2.1]at this;exact this
 refine kG (k:=?_);by_cases hfine:af=φ/\y≠0;obtain⟨rfl,aj⟩:=hfine;repeat refine zR (k:=?_)
 refine z7 (v:=.agg #[d1,d2]) R5 (yw R2 B ω zb ω)<|yi _ R5 (Po (k+4) ae) ?_;rintro _ rfl;rw[FW Z];refine Zj (k:=?_);have⟨an,A⟩:=A;have S:h7 (3*(n2+1+1)+2)=_:=(G _ Z).trans ((Z0 _ Z).trans A);repeat refine zR (k:=?_)
 refine z7 (v:=.agg #[U (z6 s&&decide (0<O L)),Y a (O L) p]) R5 (yw R2 S ω zb ω)<|z7 (v:=.agg #[d1,d2]) R5 (yw R2 B ω zb ω) ?_;have az:=(iN.ext Z0 aq).ext G Zq;refine zF _ R5 (RN k az ae Z Z) ?_;rintro _ h8 n8 _⟨rfl,b6,ad,u1,I,v1,J,ln,ld,rfl,R,a1,a2,o1,o2⟩;have a6:h8 (3*(n2+1+1)+2)=_:=(ad _ Z).trans S;refine yc [u1,I,v1,J] R7 R.ones a6 ω eF ?_;refine zN (k:=?_);have f1:xC (n+1) I:=(by obtain rfl|o1:=o1;exact fx;exact o1.mono Z);have f2:xC (n+1) J:=(by obtain rfl|o2:=o2;exact fy.mono Z;exact o2.mono Z);have g1:Ks (3*(n2+1+1)+2) I:=(by obtain rfl|o1:=o1;exact ix.sl.below.off Z;exact o1.off Z);have g2:Ks (3*(n2+1+1)+2) J:=(by obtain rfl|o2:=o2;exact fy.off Z;exact o2.off Z);refine zA ((u1,I,v1,J),Dw K (y:Int),ln,ld) P3 ⟨ω,by show n2+1+1+1<=n8;omega,λb g=>(zm Z).trans ((ad b Z).trans (P b g)),(zm Z).trans ((ad _ Z).trans ab),⟨_,zg _ _ _⟩,R.off g1 g2,by show O ln<=O s;omega,by show O ld<=O s;omega,f1,f2,λc f=>?_⟩;show Dw K (y:Int)=c;rw[a4 c f,(M c f).2];exact Rat.num_divInt_den c;have a0:¬vF s:=λ⟨c,f⟩=>hfine ⟨(M c f).1,by rw[(M c f).2];exact c.den_nz⟩;cases af with
 |false=>
  exact Bt
 |true=>
  have aj:y=0:=CW λe=>hfine ⟨ω,e⟩;subst aj;repeat refine zR (k:=?_)
  refine z7 (v:=.agg #[d1,d2]) R5 (yw R2 B ω zb ω)<|yi _ R5 (Po (k+4) ae) ?_;rintro _ rfl;exact Bt
 rw[za (by show U (decide ((z:Int)<(O T:Int)))=_;rw[BG hzT])];refine zN (k:=?_);refine zA ((U (z6 s&&decide (0<O L)),Y a (O L) p,U χ,η),(K:Rat),L,[]) P3 ⟨ω,Cy,Z1,aa,A,RatR.whole iN,by show O L<=O s;omega,Cz,fx,trivial,λc f=>?_⟩;have⟨p1,p2,p3,p4⟩:=m c f;have C:c.den=1:=CW λe=>by have:=(p4 e).1;omega
 show(K:Rat)=c;rw[a4 c f];exact(YC C).symm;rintro⟨⟨u1,I,v1,J⟩,q,ln,ld⟩ t h9 n9 _ ⟨rfl,b7,aw,ar,⟨an,a7⟩,R,a1,a2,f1,f2,f⟩;simp only at a7 R a1 a2 f1 f2 f;refine zN (k:=?_);refine zl (k:=?_);refine yd (v:=.agg #[u1,I,v1,J]) R6 (yw R2 a7 ω zb ω) R2<|yd (v:=.agg #[u1,I,v1,J]) R6 (yw R2 a7 ω zb ω) R2<|NA _ R7 (Rm (k+1) R Z) ?_;rintro _ rfl;refine zE (k:=?_);refine yQ (v:=U (ratT q==s)) R5<|jX (cs:=[u1,I,v1,J]) R7 R.ones ar zb eF R3 ?_;repeat refine zE (k:=?_)
 refine zN (k:=?_);exact M5 R6 (zg _ _ _) R2 ⟨ω,by show n<=n9;omega,λb g=>(zm Z).trans (aw b g),_,_,_,_,q,ln,ld,_,ω,R.off (f1.off Z) (f2.off Z),a1,a2,f1.mono Z,f2.mono Z,λhe=>eq_of_beq he,λ⟨c,hq⟩=>by rw[f c hq,hq];exact beq_self_eq_true s⟩
section
variable{X:CtxF}{r:List Oper}{d:Tmp}
def YF{a:TypeId}(u:zh ops t o=φ)(p:o.dst=ξ d)(q:zv X.nt (ξ d)=φ)(f:o.op=.convert ty e x)(hx:J2 t x=CG ⟨⟨s⟩⟩)(hm:vI X.E ty e (CG ⟨⟨s⟩⟩)=ξ ⟨s.map λb=>Γ b.toNat,a,φ,ξ (O s,O s)⟩)
  (k:EO X ops r ⟨upd t d (Y (ξ ⟨3*n+1,0,θ⟩) (O s) (O s)),upd h (3*n+1) (ξ (.row (s.map λb=>Γ b.toNat) a)),n+1,w⟩ Q):EO X ops (o::r) ⟨t,h,n,w⟩ Q:=by
 have⟨y,g,j⟩:=k;refine⟨y,?_,j⟩;rw[seqF,u];have m:Kd o.op=4:=by rw[f];rfl
 have l:Kl X.E o.op (J2 t)=ξ ⟨s.map λb=>Γ b.toNat,a,φ,ξ (O s,O s)⟩:=by rw[f];show vI X.E ty e (J2 t x)=_;rw[hx];exact hm
 simp only[KO,m,l,Mf,xH,p,q,addW];exact g
end
def Gro.inv2{h:HF}{n:Nat}{c:List ψ}(g:Gro h lo n e sz v len c)(a:len≠0):∃b,v=Y (ξ ⟨b,0,θ⟩) len len/\gro b=φ/\3*lo<=b/\b<3*n/\h b=ξ (.row c e)/\O c=len*sz:=by
 cases g with
 |nil=>exact Cu ω a
 |at_ hg hlo hb hr hl ho=>exact⟨_,ω,hg,hlo,hb,hr,hl⟩
def M6{E D:List Nat}{x:Nat}(d:Nat)(h:D[O E]?=ξ x):(E++D.drop (O E)).set (O E) d=(E++[d])++D.drop (O (E++[d])):=by rw[uR h,D1 _ _ Cy,DY];simp
def cL(h:i<=19):10^i<=10000000000000000000:=CQ zd h
def NW.len_pow{L:List Nat}(h:NW L)(hv:wv L<10^i):O L<=i:=
 h.len_le (CS hv (Gz zd i))
def NW.of_low{L:List Nat}(h:J5 L)(a:O L=i+1)(hv:18446744073709551616^i<=wv L):NW L:=by obtain⟨l,d,rfl⟩:=Go.Proofs.YtdeaddceicfanaaGreatDoor.snoc (l:=L) aD;refine⟨h,xy l λe=>?_⟩;subst e;rw[wv,qz,Eo,DE]at hv;have f:=LX (l:=l) λx g=>h x (by simp[g]);simp at a;rw[a]at f;omega
def YG{w:Nat}(f:w<18446744073709551616)(hb:b<18446744073709551616)(a:c<18446744073709551616):(w*b+c)/18446744073709551616<18446744073709551616:=by rw[Ee zd];have:w*b<=18446744073709551615*18446744073709551615:=C6 Z Z;omega
theorem mc(k:Nat)(h:HF)(n:Nat)(hs:AllD s)(hl:O s<1000000):CF (J4 (k+3)) 207 [CG ⟨⟨s⟩⟩] h n λv H M w=>∃L,ResW n h v H M w L/\wv L=dval s/\xC n v:=by
 refine zw R4<|ZA (k:=?_);refine ye (α:=List UInt8×List UInt8×ψ×List Nat) (λz=>[(0,CG ⟨⟨z.2.1⟩⟩),(3,z.2.2.1)])
  (λz H M w=>w=[]/\n<=M/\J3 n h H/\s=z.1++z.2.1/\Gro H n M 152 1 z.2.2.1 (O z.2.2.2) (u64s z.2.2.2)/\NW z.2.2.2/\wv z.2.2.2=dval z.1) (λz=>O z.2.1)
  ([],s,η,[]) P2 ⟨ω,Cy,Fy _ _,ω,.nil,aa6,ω⟩ (by show O s<LL;unfold LL;omega) ?_
 rintro⟨q,g,v3,D⟩ t h1 A _ ⟨rfl,a6,a7,G,K,J,R⟩;simp only at G K J R;have b0:O q+O g<1000000:=by grind
 have am:AllD q:=λb u=>hs b (by rw[G];simp[u]);have ao:AllD g:=λb u=>hs b (by rw[G];simp[u]);have aw:O D<=O q:=J.len_pow (by rw[R];exact qy am);obtain⟨Z3,rfl,_⟩:=K.shape;refine zN (k:=?_);by_cases hr0:g=[];.subst hr0;refine Zp (k:=?_);rw[Dm]at G;exact retH _ ⟨ω,(zi ω),ω⟩ ⟨D,⟨ω,a6,a7,K.sl,J⟩,by rw[R,G],K.fresh⟩
 have az:0<O g:=Gy.2 hr0;obtain⟨sz,b1⟩:∃sz,sz=(O g-1)%19+1:=⟨_,ω⟩;have au:1<=sz/\sz<=19/\sz<=O g:=Z;have af:O (g.take sz)=sz:=by rw[DA];omega
 have Z1:AllD (g.take sz):=λb u=>ao b (Dp u);refine zM (k:=?_);refine st_I (ik:=.i64) (a:=(O g:Int)) R5<|ZD (k:=?_);refine st_I (ik:=.i64) (a:=(O g:Int)) R5<|qO (a:=(O g:Int)) (b:=1) R6 Z<|Q1 (a:=(O g:Int)-1) (b:=19) R6 zd ?_;rw[show((O g:Int)-1).tmod 19=(((O g-1)%19:Nat):Int)from by rw[show(O g:Int)-1=((O g-1:Nat):Int)from Z];rfl];refine uI (a:=(((O g-1)%19:Nat):Int)) (b:=1) R6 Z ?_;rw[show(((O g-1)%19:Nat):Int)+1=(sz:Int)from Z];refine Zn (k:=?_);refine Zb (k:=?_);refine ND (s:=g) (j:=sz) R8 Z<|YF (s:=g.take sz) ω ω ω ω ω ω ?_;generalize hC:g.take sz=C at af Z1⊢;generalize hh2:upd h1 (3*A+1) _=h2;have I:∃el,h2 (3*A+1)=ξ (.row (C.map λb=>CC .u8 b.toNat) el):=⟨_,by rw[<-hh2,zg]⟩;have⟨el,I⟩:=I;have a8:J3 A h1 h2:=by rw[<-hh2];exact E9 Z
 have aa:=K.ext a8 (C8 A);have ai:Sl h2 (A+1) 1 (Y (ξ ⟨3*A+1,0,θ⟩) (O C) (O C)) (C.map λb=>CC .u8 (b.toNat:Int)):=.at_ Z I ω Cy eC (by rw[Dy,CL eC]);refine st_I (ik:=.i64) (a:=(O C:Int)) R5<|kG (k:=?_);refine ye (α:=Nat) (λi=>[(0,CG ⟨⟨g⟩⟩),(3,Y Z3 (O D) (O D)),(4,CC .i64 (sz:Int)),(5,CC .u64 ((dval (C.take i):Nat):Int)),(6,CC .u64 ((10^i:Nat):Int)),(23,Y (ξ ⟨3*A+1,0,θ⟩) (O C) (O C)),(24,CC .i64 (O C:Int)),(25,CC .i64 (i:Int))]) (λi H M w=>h2=H/\M=A+1/\w=[]/\i<=O C) (λi=>O C-i) 0 P8 ⟨ω,ω,ω,Cz⟩ AG ?_;rintro i t _ _ _⟨rfl,rfl,rfl,hi⟩;refine zN (k:=?_);by_cases hiC:i=O C;case neg=>
  obtain⟨b,u⟩:∃b,C[i]?=ξ b:=⟨C[i]'Z,CD Z⟩;have ax:=Z1 b (CE u);have ay:dval (C.take i)<10^i:=(by have:=qy (s:=C.take i) λb u=>Z1 b (Dp u);exact BA);have hp:=cL (i:=i+1) Z;rw[C5]at hp;refine Zo (k:=?_);refine yE (f:=λb:UInt8=>CC .u8 (b.toNat:Int)) (j:=i) R7 ai R2 u (λ_=>rfl) R4 λ_=>?_;refine kG (k:=?_);refine zM (k:=?_);refine xt (a:=10) (b:=dval (C.take i)) R6 Z<|zM (k:=?_);refine jA (a:=b.toNat) (b:=48) R6 Z<|se (c:=b.toNat-48) R7 Z<|yT (a:=10*dval (C.take i)) (b:=b.toNat-48) R6 Z<|kG (k:=?_);refine zM (k:=?_);refine xt (a:=10^i) (b:=10) R6 Z<|Zn (k:=?_);refine goOn (i+1) (by show O C-(i+1)<O C-i;omega) ⟨ω,ω,ω,?_,?_,ω,ω,ω,Cx⟩ ⟨ω,ω,ω,Ak⟩;show CC .u64 _=CC .u64 _;rw[mA u,rK];show CC .u64 _=CC .u64 _;rw[C5]
 subst hiC;refine Zj (k:=?_);rw[C3];refine Zb (k:=?_);refine u4 (s:=g) (j:=sz) R8 Z<|Zn (k:=?_);refine kG (k:=?_);have av:dval C<10^O C:=qy Z1;have hp:=cL (i:=O C) Z;refine ye (α:=List Nat×Nat) (λz=>[(0,CG ⟨⟨g.drop sz⟩⟩),(3,Y Z3 (O D) (O D)),(6,CC .u64 ((10^O C:Nat):Int)),(9,CC .u64 (z.2:Int)),(42,Y Z3 (O D) (O D)),(43,CC .i64 (O D:Int)),(44,CC .i64 (O z.1:Int))])
  (λz H M w=>M=A+1/\w=[]/\J3 n h H/\Gro H n (A+1) 152 1 (Y Z3 (O D) (O D)) (O D) (u64s (z.1++D.drop (O z.1)))/\O z.1<=O D/\J5 z.1/\z.2<18446744073709551616/\wv z.1+z.2*18446744073709551616^O z.1=wv (D.take (O z.1))*10^O C+dval C) (λz=>O D-O z.1)
  ([],dval C) P7 ⟨ω,ω,a7.trans a8 a6,aa,Cz,HO,by show dval C<_;omega,oo⟩ (by show O D-0<LL;unfold LL;omega) ?_
 rintro⟨E,c⟩ t h3 _ _ ⟨rfl,rfl,a2,F,ah,S,hc,N⟩;simp only at F ah S hc N;refine zN (k:=?_);by_cases hED:O E=O D;case neg=>
  obtain⟨x,hx⟩:∃x,D[O E]?=ξ x:=⟨D[O E]'Z,CD Z⟩;have a9:=J.1.get hx;have⟨b,Z0,an,ak,al,ae,ab⟩:=F.inv2 Z;injection Z0 with Z0 _ _;subst Z0;have ag:Sl h3 (A+1) 1 (Y (ξ ⟨b,0,θ⟩) (O D) (O D)) (u64s (E++D.drop (O E))):=F.sl;have ar:(E++D.drop (O E))[O E]?=ξ x:=by rw[Dn Cy,DY,DX,DE,hx]
  refine Zs (k:=?_);refine yE (f:=λd:Nat=>CC .u64 (d:Int)) (j:=O E) R7 ag R2 ar (λ_=>rfl) R4 λ_=>?_;refine Zl (k:=?_);refine yi _ R5 (uN k h3 (A+1) a9 (show 10^O C<18446744073709551616 from Z) hc) ?_;rintro _ rfl;repeat refine zR (k:=?_)
  refine uH (j:=O E) (v:=CC .u64 (((x*10^O C+c)%18446744073709551616:Nat):Int)) R8 ω (by rw[ab];omega) ae (by show 3*n<=b;omega) (λ_=>rfl) R3 (λ_=>rfl) ω λ_=>?_;rw[yk,M6 _ hx];refine Zn (k:=?_);have ad:(x*10^O C+c)%18446744073709551616<18446744073709551616:=Dz _ zd;refine goOn (E++[(x*10^O C+c)%18446744073709551616],(x*10^O C+c)/18446744073709551616) (by show O D-O (E++[_])<O D-O E;simp;omega) ⟨ω,ω,ω,ω,ω,ω,nN,Cx⟩ ⟨ω,ω,λb' aj=>(zm Z).trans (a2 b' aj),.at_ an ak al (zg _ _ _) ?_ (xW _),by show(E++[_]).length<=_;simp;omega,Gc S ad,YG a9 Z hc,?_⟩;rw[zL,CJ,Ek];simp;omega;show wv (E++[_])+_*18446744073709551616^O (E++[_])=wv (D.take (O (E++[_])))*_+_;simp only[CJ,C0];have ap:wv (D.take (O E+1))=wv (D.take (O E))+18446744073709551616^O E*x:=wJ hx;rw[ap,C5];have:=Pt (B:=18446744073709551616) (P:=18446744073709551616^O E) (V:=wv E) (V':=wv (E++[(x*10^O C+c)%18446744073709551616])) (c:=c) (p:=x*10^O C) (d:=(x*10^O C+c)%18446744073709551616) (c':=(x*10^O C+c)/18446744073709551616) (by rw[wv,qz,CY];rfl) (by rw[D6 c];exact DN _ _);rw[this,N];generalize 18446744073709551616^O E=P;generalize 10^O C=T;generalize wv (D.take (O E))=W;rw[Dq,CY P x,Nat.mul_right_comm];omega
 rw[hED,EQ,Dm]at F;rw[hED,C3]at N;refine Zj (k:=?_);have a1:s=(q++C)++g.drop sz:=by rw[G,<-hC,Dh,DP]
 have a4:dval (q++C)=wv D*10^O C+dval C:=by rw[sJ,R]
 have Z4:O (g.drop sz)<O g:=by rw[Ek];omega
 by_cases hc0:c=0;.subst hc0;refine Zj (k:=?_);rw[DU,DE]at N;refine goOn (q++C,g.drop sz,Y Z3 (O D) (O D),E) Z4 P2 ⟨ω,by show n<=A+1;omega,a2,a1,by show Gro _ _ _ _ _ _ (O E) _;rw[hED];exact F,?_,by show wv E=dval (q++C);rw[N,a4]⟩;show NW E;cases hDn:D with
  |nil=>
   rw[hDn]at hED;rw[CT.1 hED];exact aa6
  |cons y D'=>
   have⟨l,d,a0⟩:=Go.Proofs.YtdeaddceicfanaaGreatDoor.snoc (l:=D) (by rw[hDn];simp);have ac:=(show NW (l++[d])by rw[<-a0];exact J).low;rw[<-a0]at ac;refine NW.of_low (i:=O l) S (by rw[hED,a0];simp) ?_;rw[N];have:wv D*1<=wv D*10^O C:=C4 _ (Ds zd);omega
 refine Zs (k:=?_);refine pZ (cs:=[CC .u64 (c:Int)]) R5<|MX (m:=1) R8 zd (F.ext (E9 Z) Zq) (yp (zg _ _ _) R2) Cy Z ω ω (by show n<=n/\_;omega) ?_;intro v' h5 a5 aq _;obtain⟨a',rfl,_⟩:=a5.shape;refine kG (k:=?_);refine goOn (q++C,g.drop sz,Y a' (O D+1) (O D+1),E++[c]) Z4 P2 ⟨ω,by show n<=A+1+1+1;omega,λb u=>(aq b u).trans ((zm Z).trans (a2 b u)),a1,?_,⟨Gc S hc,xy E hc0⟩,?_⟩;.show Gro _ _ _ _ _ _ (O (E++[c])) (u64s (E++[c]));rw[vg,CJ,hED];exact a5
 show wv (E++[c])=dval (q++C);rw[wv,qz,a4,<-N,hED,CY];rfl
def zB(n:Nat):gro (3*n+2)=χ:=by exact B7
section
variable{sT:TypeId}{x:ψ}
theorem nG{m:Nat}(u:E.und sT=ξ (.slice e))(hi:E.inf e=ξ (size,bytes,z))(y:O (zn z)=size)(a:1<=size/\1<=bytes)(hx:argS h size x m new)(hb:m*bytes<=1099511627776)(s:gro b=χ)(hm:m≠0):
  yW E h n sT (Y (ξ ⟨b,0,θ⟩) 0 0) x=ξ (.val (Y (ξ ⟨3*n+1,0,θ⟩) m m) (upd h (3*n+1) (ξ (.row new e))) (n+1) []):=by
 have⟨c,hc⟩:=hx;have f:Dd (m*bytes) 1099511627776=φ:=CP hb;have g:DK (O (zn z)) size=φ:=by simp_all
 have j:Dd 1 size=φ:=CP a.1;have l:Dd 1 bytes=φ:=CP a.2;have p:Dd m 0=χ:=by
  cases hb:Dd m 0 with
  |false=>rfl
  |true=>have:=Da hb;omega
 have q:yD h size 0 (Y (ξ ⟨b,0,θ⟩) 0 0)=ξ []:=by simp[yD]
 simp only[yW,u,hi,c,hc,C9,f,g,j,l,p,q,DT,My,s,Dt]
theorem nE{a:Option Addr}(s:E.und sT=ξ (.slice e))(hi:E.inf e=ξ (size,bytes,z))(u:O (zn z)=size)(c:1<=size/\1<=bytes)(hx:argS h size x 0 [])(hb:L*bytes<=1099511627776):
  yW E h n sT (Y a L L) x=ξ (.val (Y a L L) h n []):=by
 have⟨f,hc⟩:=hx;have g:Dd (L*bytes) 1099511627776=φ:=CP hb;have j:DK (O (zn z)) size=φ:=by simp_all
 have l:Dd 1 size=φ:=CP c.1;have p:Dd 1 bytes=φ:=CP c.2;have q:Dd L L=φ:=CP Cy;simp only[yW,s,hi,f,hc,DE,g,j,l,p,q,DT,uB]
inductive Gr0 (h:HF) (lo n:Nat) (e:TypeId) (sz:Nat):ψ->Nat->List ψ->Prop
 |gro {v:ψ} {len:Nat} {c:List ψ} (g:Gro h lo n e sz v len c):Gr0 h lo n e sz v len c
 |emp {m:Nat} (hlo:lo<=m) (hm:m<n):Gr0 h lo n e sz (Y (ξ ⟨3*m+2,0,θ⟩) 0 0) 0 []
def Gr0.ext{h:HF}{n:Nat}{e:TypeId}{c:List ψ}(g:Gr0 h lo n e sz v len c)(a:J3 n h h')(f:n<=n'):Gr0 h' lo n' e sz v len c:=by
 cases g with
 |gro g=>exact .gro (g.ext a f)
 |emp hlo hm=>exact .emp hlo Z
def Gr0.shape{h:HF}{n:Nat}{e:TypeId}{c:List ψ}(g:Gr0 h lo n e sz v len c):∃a,v=Y a len len/\O c=len*sz:=by
 cases g with
 |gro g=>exact g.shape
 |emp hlo hm=>exact⟨_,ω,eC⟩
def YH{m:Nat}{c:List ψ}(p:E.und sT=ξ (.slice e))(hi:E.inf e=ξ (size,bytes,z))(q:O (zn z)=size)(g:1<=size/\1<=bytes)(f:Gr0 h lo n e size v len c)(hx:argS h size x m new)(hb:(len+m)*bytes<=1099511627776)(j:O new=m*size)(l:ones new=φ)(y:lo<=n):
  ∃v' h' n' W,yW E h n sT v x=ξ (.val v' h' n' W)/\n<=n'/\Gr0 h' lo n' e size v' (len+m) (c++new)/\J3 lo h h'/\Keep v n h h'/\(∀b∈W,3*lo<=b/\gro b=φ)/\(v'=v\/xC n v'):=by
 by_cases hm:m=0;subst hm;have s:new=[]:=CT.1 (by rw[j];simp);subst s;obtain⟨a,rfl,_⟩:=f.shape;exact⟨_,_,_,_,nE p hi q g hx hb,Cy,by rw[Dm];exact f,Fy _ _,λ_ _ _=>rfl,λb hb=>Cu hb CO,.inl ω⟩;cases f with
 |emp hlo2 hm2=>
  rw[C9]at hb⊢;refine⟨_,_,_,_,nG p hi q g hx hb (zB _) hm,C8 n,.gro (.at_ (uD n) Z Z (zg _ _ _) j l),E9 Z,λb hb _=>zm Z,λb hb=>Cu hb CO,.inr rp⟩
 |gro f=>
  cases f with
  |nil=>
   refine⟨_,_,_,_,append_nil p hi q g.1 g.2 hx Z aD,C8 n,?_,E9 Z,λb hb _=>zm Z,λb hb=>Cu hb CO,.inr rp⟩;rw[C9];exact .gro (.at_ (uD n) Z Z (zg _ _ _) j l)
  |at_ f hlo2 hb2 hr hl2 ho2=>
   refine⟨_,_,_,_,ue p hi q g.1 g.2 hx Z hb f hr hl2 (yZ ho2 l) j,C8 n,.gro (.at_ (uD n) Z Z (zg _ _ _) aD (yZ ho2 l)),λb hb=>?_,λb hb u=>?_,λb hb=>?_,.inr rp⟩;rw[zm Z,zm Z];rw[zm Z,zm (λe=>u 0 len len (by rw[e]))];have hb:=CV.1 hb;rw[hb];exact⟨hlo2,f⟩
end
def fR{m:Nat}:∀{l:List (Nat×Nat)},(∀x∈l,x.2≠b)->ya m [b] l=φ:=by
 intro l;induction l with
 |nil=>intro _;rfl
 |cons x l ih=>
  intro h;have⟨i,c⟩:=x;have a:memN c [b]=χ:=by
   unfold memN;cases he:DK c b with
   |false=>rfl
   |true=>exact Cu (DC he) (h (i,c) eC)
  unfold ya;rw[a,G5,Jj];exact ih λy f=>h y (by simp[f])
section
variable{X:CtxF}{r:List Oper}{d:Tmp}
def RR{sT e:TypeId}{s x:Operand}{size bytes m:Nat}{z:ψ}{c:List ψ}(f:qt X ops t o d (o.op=.call {callee:=.builtin .append,args:=#[s,x],argTypes:=#[sT,xT]}/\(match X.E.und xT with|some (.int _)=>χ|none=>χ|_=>φ)=φ/\X.E.und sT=ξ (.slice e)/\X.E.inf e=ξ (size,bytes,z)/\O (zn z)=size))(p:1<=size/\1<=bytes)(F:Gr0 h lo n e size (J2 t s) len c)(hx:argS h size (J2 t x) m new)(hb:(len+m)*bytes<=1099511627776)(H:O new=m*size)(j:ones new=φ)(g:X.n0<=lo/\lo<=n)
  (k:∀a h' n',n<=n'->Gr0 h' lo n' e size a (len+m) (c++new)->J3 lo h h'->Keep (J2 t s) n h h'->(a=J2 t s\/xC n a)->EO X ops r ⟨upd t d a,h',n',w⟩ Q):EO X ops (o::r) ⟨t,h,n,w⟩ Q:=by have⟨f,hd,hn,I,l,J,G,K⟩:=f;have⟨a,h',n',W,q,u,y,A,B,C,D⟩:=YH J G K p F hx hb H j g.2;apply yM ⟨f,hd,hn,I,l⟩ q;rw[my λb hb=>by have:=(C b hb).1;omega];exact k a h' n' u y A B D
end
section
variable{X:CtxF}{r:List Oper}{ld:List (Nat×Nat)}{d:Tmp}
end
def Sl.zero{a:Option Addr}(s:Sl h n 1 (Y a l c) (u64s A))(d:a=θ):A=[]:=by have i:=s.lenW;by_cases h0:l=0;exact CT.1 Z;have⟨b,f,x,g,e,_⟩:=s.inv h0;rw[d]at e;cases e
def ub(k:Nat){a:Option Addr}{L:List Nat}(i:Sl h n 1 (Y a len cap) (u64s L))(p:O L<1000000000):CF (J4 (k+1)) 139 [Y a len cap] h n λv f j w=>w=[]/\n<=j/\J3 n h f/\Sl f j 1 v (u64s L)/\(L≠[]->Gro f n j 152 1 v (O L) (u64s L)):=by
 refine zw R4 ?_;have g:=i.lenW;subst g;refine Zu (k:=?_);cases a with
 |none=>
  have b:=i.zero rfl;subst b;refine zN (k:=?_);rw[ze rfl];refine Za (k:=?_);exact retH _ ⟨ω,(zi ω),ω⟩ ⟨ω,Cy,Fy _ _,.nil (.inl ω),λh=>Cu ω h⟩
 |some ad=>
  refine zN (k:=?_);rw[za rfl];refine zN (k:=?_);refine pZ R5 ?_;repeat refine zR (k:=?_)
  have d:=i.ext (E9 (x:=ξ (.row [] 152)) (show 3*n<=3*n+2 from Z)) (C8 n);by_cases b:L=[];subst b;refine yM R5 (nE ω ω ω zd (uX d) zd)<|kG (k:=?_);exact retH _ ⟨ω,(zi ω),ω⟩ ⟨ω,C8 n,E9 Z,.nil (.inr ⟨_,_,_,ω,by show 3*n+2<3*(n+1);omega⟩),λh=>Cu ω h⟩;have m:O L≠0:=λe=>b (CT.1 e);refine yM R5 (nG ω ω ω zd (uX d) Z (zB n) m)<|kG (k:=?_);have o:Gro (upd (upd h (3*n+2) (ξ (.row [] 152))) (3*(n+1)+1) (ξ (.row (u64s L) 152))) n (n+1+1) 152 1 (Y (ξ ⟨3*(n+1)+1,0,θ⟩) (O L) (O L)) (O L) (u64s L):=.at_ (uD (n+1)) Z Z (zg _ _ _) (by rw[zL,DD]) (xW L);exact retH _ ⟨ω,(zi ω),ω⟩ ⟨ω,by show n<=n+1+1;omega,(E9 Z).trans (E9 Z) (C8 n),o.sl,λ_=>o⟩
theorem ma(k:Nat)(h:HF)(n:Nat)(m:AllD s)(q:O s<=570):CF (J4 (k+4)) 188 [CG ⟨⟨s⟩⟩,η] h n λv d e w=>∃L,ResW n h v d e w L/\wv L=dval s/\xC n v:=by
 apply zw R4;apply(ZA);apply ye (λ_=>[(0,CG ⟨⟨s⟩⟩),(5,υ (-1))]) (λ_ d e w=>h=d/\n=e/\w=[]) (λ_=>0) () ⟨rfl,rfl,Cx⟩ ⟨rfl,rfl,rfl⟩ (by show 0<LL;decide);rintro _ t _ _ _⟨rfl,rfl,rfl⟩;apply(Za);rw[za rfl];apply(Za);rw[ze rfl];apply(Zi);apply zF _ R5 (mc k h n m Z);rintro v p u _⟨L,⟨rfl,f,g,b,i⟩,o,j⟩;obtain⟨a,l,c,rfl,_⟩:=b.len;apply(kG);exact retH _ ⟨rfl,(zi rfl),rfl⟩ ⟨L,⟨rfl,f,g,b,i⟩,o,j⟩
def nZ(k:Nat)(h:HF)(n:Nat)(m:AllD s)(j:O s<=570):CF (J4 (k+5)) 161 [CG ⟨⟨s⟩⟩] h n λv f p w=>∃L,ResW n h v f p w L/\wv L=dval s/\xC n v:=by apply zw R4;apply(ZA);apply(zM);apply st_I (ik:=.i64) (a:=(O s:Int)) R5;apply(ZE);apply zF _ R5 (ma k h n m j);rintro v q u _⟨L,⟨rfl,d,e,b,g⟩,o,i⟩;obtain⟨a,l,c,rfl,_⟩:=b.len;apply(kG);exact retH _ ⟨ω,(zi ω),ω⟩ ⟨L,⟨ω,d,e,b,g⟩,o,i⟩
def NatR(n:Nat)(h:HF)(v:ψ)(h':HF)(n':Nat)(w:List Nat)(x:Nat):Prop:=∃a l c L,v=.agg #[U χ,Y a l c]/\ResW n h (Y a l c) h' n' w L/\wv L=x
def YI(k:Nat)(h:HF)(n:Nat)(o:AllD s)(m:O s<=570):CF (J4 (k+6)) 119 [CG ⟨⟨s⟩⟩] h n λv g q w=>NatR n h v g q w (dval s):=by apply zw R4;apply(zN);apply xV R5;apply(Zi);apply zF _ R5 (nZ k _ _ o m);rintro v B u _⟨L,⟨rfl,y,e,d,i⟩,p,j⟩;obtain⟨a,l,c,rfl,_⟩:=d.len;have f:=(e (3*n+2) Z).trans (zg _ _ _);refine zZ R4 rfl<|yc [U χ,Y a l c] R7 ω f ω bJ ?_;apply(zN);exact uq R5 (zg _ _ _) ω ⟨_,_,_,L,ω,⟨ω,by show n<=u;omega,λb f=>(zm Z).trans ((e b Z).trans (zm Z)),d.off (j.off Z),i⟩,p⟩
def pP(c:Nat):wv [c]=c:=by simp[wv,dv]
def YJ{x:Nat}:CZ c (x%c)=CZ x c:=by rw[EY,<-IP,EY]
theorem YK(k:Nat){b:Bool}{a:Option Addr}{L:List Nat}(m:Sl h n 1 (Y a l c) (u64s L))(p:NW L):VF (J4 (k+1)) 77 [.agg #[U b,Y a l c]] h n λv=>v=U (!b&&decide (wv L=1)):=by
 apply zO R4;have i:=m.lenW;subst i;apply(zN);apply Lb (cs:=[U b,Y a (O L) c]) R5;generalize hh:upd h (3*n+2) _=h1;have o:J3 n h h1:=by grind [E9]
 have f:∃e,h1 (3*n+2)=ξ (.row [U b,Y a (O L) c] e):=⟨_,gZ⟩;have⟨u,f⟩:=f;have g:=m.ext o (C8 n);apply(Zl);apply zT R6 f R2;cases b with
 |true=>
  apply(kG);exact Bv
 |false=>
 repeat apply(zR)
 apply zT R6 f R2;by_cases h1:O L=1;obtain⟨d,rfl⟩:=FX.1 h1;rw[show[d].length=1 from rfl]at f g⊢;repeat apply(zR)
 apply zT R6 f R2;refine yE (j:=0) R7 g ⟨ω,eC⟩ ω (λ_=>rfl) R4 λ_=>?_;rw[pP];by_cases hd:d=1;apply(kG);exact retF _ ω (zi ω) R2 (by rw[Ct hd];rfl);apply(kG);exact retF _ ω (zi ω) R2 (by rw[BG hd];rfl);have q:wv L≠1:=λe=>h1 (by rw[p.inj (NW.one (d:=1) zd zd) (by rw[e,pP])];rfl);apply(kG);exact retF _ ω (zi ω) R2 (by rw[BG q];rfl)
def ExtT(n bt:Nat)(h h':HF):Prop:=∀b,b<3*n->b≠bt->h' b=h b
def ExtT.refl(n a:Nat)(h:HF):ExtT n a h h:=λ_ _ _=>rfl
def strs(l:List (List UInt8)):List ψ:=l.map λs=>CG ⟨⟨s⟩⟩
def fg(a b:List (List UInt8)):strs (a++b)=strs a++strs b:=by simp[strs]
theorem YL(a:List (List UInt8)):O (strs a)=O a:=by simp[strs]
def qR{m:Nat}{W:List Nat}:∀{l:List (Nat×Nat)},xJ m l=φ->ya m W l=φ:=by
 intro l;induction l with
 |nil=>intro _;rfl
 |cons x l ih=>
  intro h;have⟨i,b⟩:=x;unfold xJ at h;split at h;rename_i hb;unfold ya;rw[hb,Bool.true_or];exact ih h;cases h
section
variable{X:CtxF}{r:List Oper}{ld:List (Nat×Nat)}{d:Tmp}
def YM{xT sT e:TypeId}{s x:Operand}{lo len a f mm:Nat}{z:ψ}{c new:List ψ}(M:zh ops t o=φ)(hd:o.dst=ξ d)(hn:zv X.nt (ξ d)=φ)(K:o.op=.call {callee:=.builtin .append,args:=#[s,x],argTypes:=#[sT,xT]})(q:(match X.E.und xT with|some (.int _)=>χ|none=>χ|_=>φ)=φ)
  (L:X.E.und sT=ξ (.slice e))(hi:X.E.inf e=ξ (a,f,z))(N:O (zn z)=a)(A:1<=a/\1<=f)(u:xq m ef=φ)(v:xJ m al=φ)(y:xJ m ld=φ)(I:Gro h lo n e a (J2 t s) len c)(hx:argS h a (J2 t x) mm new)(hm:1<=mm)(hb:(len+mm)*f<=1099511627776)(J:O new=mm*a)(p:ones new=φ)(l:X.n0<=lo/\lo<=n)
  (k:∀j g W,Gro g lo (n+1) e a j (len+mm) (c++new)->J3 lo h g->Keep (J2 t s) n h g->xC n j->ED X ops r ms (i+1) ⟨⟨upd t d j,g,n+1,w⟩,al,ld,(i,h,W)::ef⟩ Q):ED X ops (o::r) (m::ms) i ⟨⟨t,h,n,w⟩,al,ld,ef⟩ Q:=by have⟨j,g,W,B,C,D,G,F,H⟩:=uf L hi N A I hx hm hb J p l.2;apply iV M hd hn K q B u v (qR y) Zq;rw[my λb hb=>by have:=F b hb;omega];exact k j g W C D G H
end
def Lg{h:HF}{n:Nat}{P:ψ->HF->Nat->List Nat->Prop}(g:GK.orc f args=θ/\Kc.fn f=ξ fn/\fn.body=ξ body/\Dd (O args) fn.ntmps=φ)
  (hx:EC (KC k n fn.ntmps) body ⟨mj args,h,n,[]⟩ λe s=>rI e=φ/\∃a,resF Kc s fn.results.toList=ξ a/\P (qm a) s.h s.n s.w/\(s.w=[]->P (qm a) h n [])):CF (J4 (k+1)) f args h n P:=by have⟨g,i,D,p⟩:=g;refine jn g i D p (sW hx λe s⟨q,a,u,y,B⟩=>⟨q,a,u,?_⟩);unfold endF;split;rename_i hw;exact B hw;exact y
section
variable{X:CtxF}{r:List Oper}{d:Tmp}
theorem upd_self{x:Option BF}(hb:h b=x):upd h b x=h:=by grind [zg,zm]
def tH{w:List Nat}:addW n0 [] w=w:=rfl
def lZ{s:Operand}{a:Nat}{c:List ψ}(q:qt X ops t o d (o.op=.call {callee:=.builtin .copy,args:=#[s,x],argTypes:=#[sT,xT]}/\X.E.und sT=ξ (.slice e)/\X.E.inf e=ξ (size,bytes,z)/\J2 t s=Y (ξ ⟨b,0,θ⟩) a cap))(hx:argS h size (J2 t x) m cs)(hm:m<=a)(hb:h b=ξ (.row c e3))(M:O cs<=O c)(J:ones cs=φ)(p:3*X.n0<=b)
  (k:EO X ops r ⟨upd t d (υ (m:Int)),upd h b (ξ (.row (cs++c.drop (O cs)) e3)),n,w⟩ Q):EO X ops (o::r) ⟨t,h,n,w⟩ Q:=by
 have⟨q,hd,hn,F,I,D,G⟩:=q;have g:Nat.min m a=m:=DR hm;have hc:∃W,MT X.E h n sT (J2 t s) (J2 t x)=ξ (.val (υ (m:Int)) (upd h b (ξ (.row (cs++c.drop (O cs)) e3))) n W)/\∀y∈W,y=b:=by
  have⟨u,B⟩:=hx;cases cs with
  |nil=>
   refine⟨[],?_,λy i=>by cases i⟩;rw[Dt,Gg,Dy,upd_self hb];simp only[MT,I,D,G,u,g,B];rfl
  |cons v cs=>
   refine⟨[b],?_,λy i=>CV.1 i⟩;have H:LJ h ⟨b,0,θ⟩ (v::cs)=ξ (upd h b (ξ (.row ((v::cs)++c.drop (O (v::cs))) e3))):=(by rw[uZ hb Z J];unfold zu;rw[List.take_zero,Dt,C9]);simp only[MT,I,D,G,u,g,B,H];rfl
 have⟨W,hc,K⟩:=hc;have L:effF X.E o.op (J2 t) h n=ξ (.val (υ (m:Int)) (upd h b (ξ (.row (cs++c.drop (O cs)) e3))) n W):=(by rw[F];exact hc);rw[rS q (by rw[hd];exact hn) (by rw[F];rfl) L,hd,my λy i=>by rw[K y i];exact p];exact k
end
def Sl.extW{h:HF}{n:Nat}{c:List ψ}(s:Sl h n sz v c)(e:ExtT n b h h')(p:Ks b v):Sl h' n sz v c:=
 s.keep (λa l cap g=>by
  have i:=s.below;subst g;exact e _ i p) Cy
def jK{h:HF}{n:Nat}{X:List Nat}(hb:b<3*n)(g:h b=ξ (.row (u64s X) e))(a:O X<=cap):Sl h n 1 (Y (ξ ⟨b,0,θ⟩) (O X) cap) (u64s X):=.at_ hb g ω a (by rw[zL];omega) AV
theorem uy{D X:List Nat}{x:Nat}(hx:X[O D]?=ξ x):(D++X.drop (O D))[O D]?=ξ x:=by grind
def zQ{X:List Nat}{x:Nat}(hx:X[j]?=ξ x):wv (X.take (j+1))=wv (X.take j)+18446744073709551616^j*x:=wJ hx
theorem yO(D:List Nat)(d:Nat):wv (D++[d])=wv D+18446744073709551616^O D*d:=qz _ _ _
theorem wZ(D E:List Nat):wv (D++E)=wv D+18446744073709551616^O D*wv E:=vm _ _ _
def pu(X:List Nat)(j:Nat)(hj:j<=O X):wv X=wv (X.take j)+18446744073709551616^j*wv (X.drop j):=by
 conv=>lhs;rw[<-DP j X]
 rw[wZ,DA,DR hj]
theorem nK{x y s:Nat}(a:V+c*P=Z4)(g:18446744073709551616*c'+s=x+y+c):V+P*s+c'*(P*18446744073709551616)=Z4+P*x+P*y:=by grind
theorem vK{W x y s:Nat}(a:V+W=Z4+c*P)(g:s+y+c=x+18446744073709551616*c'):V+P*s+(W+P*y)=Z4+P*x+c'*(P*18446744073709551616):=by grind
theorem PA{x y:Nat}(hx:x<18446744073709551616)(g:y<18446744073709551616)(a:c<=1):(x+18446744073709551616-y-c)%18446744073709551616+y+c=x+18446744073709551616*(if y+c<=x then 0 else 1):=by grind
def RowW(n:Nat)(h:HF)(b:Nat)(e:TypeId)(h':HF)(n':Nat)(w:List Nat)(L:List Nat):Prop:=(∀c∈w,c=b)/\n'=n/\ExtT n b h h'/\h' b=ξ (.row (u64s L) e)
def YN(k:Nat){h:HF}{n M:Nat}{K:Option Addr}{X Z3:List Nat}(hb:b<3*n)(a4:h b=ξ (.row (u64s X) e))(a9:O X<=cX)(hX:J5 X)(a0:Sl h n 1 (Y K l M) (u64s Z3))(hY:J5 Z3)(ho:Ks b (Y K l M))(hl:O Z3<=O X)(a8:O X<1000000000)(hv:wv X+wv Z3<18446744073709551616^O X):
  CF (J4 (k+1)) 162 [Y (ξ ⟨b,0,θ⟩) (O X) cX,Y K l M] h n λ_ h' W w=>∃L,RowW n h b e h' W w L/\J5 L/\O L=O X/\wv L=wv X+wv Z3:=by
 apply Lg R4;have a6:=a0.lenW;subst a6;have Z0:∀(t:TF) (h':HF) (w:List Nat) (D:List Nat) (c:Nat),(∀x∈w,x=b)->ExtT n b h h'->(w=[]->h'=h)->h' b=ξ (.row (u64s (D++X.drop (O D))) e)->O D<=O X->J5 D->wv D+c*18446744073709551616^O D=wv (X.take (O D))+wv Z3->c=0->(rI .normal=φ/\∃vs,resF Kc ⟨t,h',n,w⟩ (Tryz.f162).results.toList=ξ vs/\(∃L,RowW n h b e h' n w L/\J5 L/\O L=O X/\wv L=wv X+wv Z3)/\(w=[]->∃L,RowW n h b e h n [] L/\J5 L/\O L=O X/\wv L=wv X+wv Z3)):=by
  intro t h' w D c g1 g2 g3 g4 g5 g6 g7 g8;have hL:∃L,RowW n h b e h' n w L/\J5 L/\O L=O X/\wv L=wv X+wv Z3:=⟨_,⟨g1,ω,g2,g4⟩,g6.append (hX.drop _),Al,by
   subst g8;rw[wZ];have h1:=pu X (O D) g5;omega⟩
  refine⟨ω,[],ω,hL,λF=>?_⟩;subst F;rw[g3 rfl]at hL;exact hL
 apply(ZA);refine ye (α:=List Nat×Nat) (λz=>[(0,Y (ξ ⟨b,0,θ⟩) (O X) cX),(1,Y K (O Z3) M),(4,ι (z.2:Int)),(8,Y K (O Z3) M),(9,υ (O Z3:Int)),(10,υ (O z.1:Int))])
  (λz h' W w=>n=W/\(∀x∈w,x=b)/\ExtT n b h h'/\(w=[]->h'=h)/\h' b=ξ (.row (u64s (z.1++X.drop (O z.1))) e)/\O z.1<=O Z3/\J5 z.1/\z.2<=1/\wv z.1+z.2*18446744073709551616^O z.1=wv (X.take (O z.1))+wv (Z3.take (O z.1))) (λz=>O Z3-O z.1)
  ([],0) P6 ⟨ω,λx u=>Cu u CO,ExtT.refl _ _ _,λ_=>rfl,a4,Cz,HO,Bp,oo⟩ AC ?_
 rintro⟨D,c⟩ t h1 _ w ⟨rfl,F,i,G,a,J,g,I,p⟩;simp only at a J g I p;apply(zN);by_cases hDY:O D=O Z3;case neg=>
  obtain⟨y,hy⟩:∃y,Z3[O D]?=ξ y:=⟨Z3[O D]'Z,CD Z⟩;obtain⟨x,u⟩:∃x,X[O D]?=ξ x:=⟨X[O D]'Z,CD Z⟩;have aa:=hY.get hy;have a7:=hX.get u;have N:=jK (cap:=cX) hb a aD;rw[show(D++X.drop (O D)).length=O X from by rw[CJ,Ek];omega]at N;apply(Zs);refine yE (f:=λd:Nat=>ι (d:Int)) (j:=O D) R7 (a0.extW i ho) R2 hy (λ_=>rfl) R4 λ_=>?_;apply(Zl);refine yE (f:=λd:Nat=>ι (d:Int)) (j:=O D) R7 N R2 (uy u) (λ_=>rfl) R4 λ_=>?_;repeat apply(zR)
  apply vt (x:=x) (y:=y) (c:=c) R5 I;obtain⟨s,R⟩:∃s,s=(x+y+c)%18446744073709551616:=⟨_,ω⟩;obtain⟨c',q⟩:∃c',c'=(x+y+c)/18446744073709551616:=⟨_,ω⟩;rw[<-R,<-q];repeat apply(zR)
  refine yG (j:=O D) (off:=0) (v:=ι (s:Int)) R8 ω ⟨Z,p0⟩ a hb (λ_=>rfl) R3 (λ_=>rfl) ω λ_=>?_;rw[C9,yk,M6 _ u];apply(Zn);have T:s<18446744073709551616:=Z;have Z1:c'<=1:=by rw[q];omega
  have S:18446744073709551616*c'+s=x+y+c:=by rw[R,q];omega
  refine goOn (D++[s],c') aD ⟨ω,ω,ω,ω,ω,eN,Cx⟩ ⟨ω,λz B=>by
   obtain rfl|B:=De.1 B;rfl;exact F z B,λz B H=>(zm H).trans (i z B H),λh=>Aa,zg _ _ _,gX,Gc g T,Z1,?_⟩
  simp only;rw[CJ,C0,yO,zQ u,zQ hy,C5];have:=nK p S;omega
 have a3:Z3.take (O D)=Z3:=by rw[hDY,C3]
 rw[a3]at p;apply(Zp);refine ye (α:=List Nat×Nat) (λz=>[(0,Y (ξ ⟨b,0,θ⟩) (O X) cX),(4,ι (z.2:Int)),(7,υ (O z.1:Int))])
  (λz h' W w=>n=W/\(∀x∈w,x=b)/\ExtT n b h h'/\(w=[]->h'=h)/\h' b=ξ (.row (u64s (z.1++X.drop (O z.1))) e)/\O z.1<=O X/\J5 z.1/\z.2<=1/\wv z.1+z.2*18446744073709551616^O z.1=wv (X.take (O z.1))+wv Z3) (λz=>O X-O z.1)
  (D,c) ⟨ω,ω,Br,Cx⟩ ⟨ω,F,i,G,a,by show O D<=_;omega,g,I,p⟩ (by show O X-O D<LL;unfold LL;omega) ?_
 rintro⟨D,c⟩ t h1 _ w ⟨rfl,F,i,G,a,J,g,I,p⟩;simp only at a J g I p;apply(zN);by_cases hc0:c=0;.apply(Zj);exact Z0 _ _ _ D c F i G a J g p hc0
 by_cases hDX:O D=O X;.apply(Zj);refine Z0 _ _ _ D c F i G a J g p ?_;have a5:=wW g;rw[hDX,C3]at p;rw[hDX]at a5;obtain h|h:=Fr c;exact h;have:=CM (18446744073709551616^O X) h;omega
 obtain⟨x,u⟩:∃x,X[O D]?=ξ x:=⟨X[O D]'Z,CD Z⟩;have a7:=hX.get u;have N:=jK (cap:=cX) hb a aD;rw[show(D++X.drop (O D)).length=O X from by rw[CJ,Ek];omega]at N;apply(Zs);refine yE (f:=λd:Nat=>ι (d:Int)) (j:=O D) R7 N R2 (uy u) (λ_=>rfl) R4 λ_=>?_;repeat apply(zR)
 apply vt (x:=x) (y:=0) (c:=c) R5 I;obtain⟨s,R⟩:∃s,s=(x+0+c)%18446744073709551616:=⟨_,ω⟩;obtain⟨c',q⟩:∃c',c'=(x+0+c)/18446744073709551616:=⟨_,ω⟩;rw[<-R,<-q];repeat apply(zR)
 refine yG (j:=O D) (off:=0) (v:=ι (s:Int)) R8 ω ⟨Z,p0⟩ a hb (λ_=>rfl) R3 (λ_=>rfl) ω λ_=>?_;rw[C9,yk,M6 _ u];apply(Zn);have T:s<18446744073709551616:=Z;have Z1:c'<=1:=by rw[q];omega
 have S:18446744073709551616*c'+s=x+0+c:=by rw[R,q];omega
 refine goOn (D++[s],c') aD ⟨ω,ω,eN,Cx⟩ ⟨ω,λz B=>by
  obtain rfl|B:=De.1 B;rfl;exact F z B,λz B H=>(zm H).trans (i z B H),λh=>Aa,zg _ _ _,gX,Gc g T,Z1,?_⟩
 simp only;rw[CJ,C0,yO,zQ u,C5];have:=nK p S;omega
theorem mB(k:Nat){h:HF}{n M:Nat}{K:Option Addr}{X Z3:List Nat}(hb:b<3*n)(a3:h b=ξ (.row (u64s X) e))(a8:O X<=cX)(hX:J5 X)(Z0:Sl h n 1 (Y K l M) (u64s Z3))(hY:J5 Z3)(ho:Ks b (Y K l M))(hl:O Z3<=O X)(a7:O X<1000000000)(hv:wv Z3<=wv X):
  CF (J4 (k+1)) 165 [Y (ξ ⟨b,0,θ⟩) (O X) cX,Y K l M] h n λ_ h' T w=>∃L,RowW n h b e h' T w L/\J5 L/\O L=O X/\wv L+wv Z3=wv X:=by
 apply Lg R4;have a5:=Z0.lenW;subst a5;have W:∀(t:TF) (h':HF) (w:List Nat) (D:List Nat) (c:Nat),(∀x∈w,x=b)->ExtT n b h h'->(w=[]->h'=h)->h' b=ξ (.row (u64s (D++X.drop (O D))) e)->O D<=O X->J5 D->wv D+wv Z3=wv (X.take (O D))+c*18446744073709551616^O D->c=0->(rI .normal=φ/\∃vs,resF Kc ⟨t,h',n,w⟩ (Tryz.f165).results.toList=ξ vs/\(∃L,RowW n h b e h' n w L/\J5 L/\O L=O X/\wv L+wv Z3=wv X)/\(w=[]->∃L,RowW n h b e h n [] L/\J5 L/\O L=O X/\wv L+wv Z3=wv X)):=by
  intro t h' w D c g1 g2 g3 g4 g5 g6 g7 g8;have hL:∃L,RowW n h b e h' n w L/\J5 L/\O L=O X/\wv L+wv Z3=wv X:=⟨_,⟨g1,ω,g2,g4⟩,g6.append (hX.drop _),Al,by
   subst g8;rw[wZ];have h1:=pu X (O D) g5;omega⟩
  refine⟨ω,[],ω,hL,λB=>?_⟩;subst B;rw[g3 rfl]at hL;exact hL
 apply(ZA);refine ye (α:=List Nat×Nat) (λz=>[(0,Y (ξ ⟨b,0,θ⟩) (O X) cX),(1,Y K (O Z3) M),(4,ι (z.2:Int)),(8,Y K (O Z3) M),(9,υ (O Z3:Int)),(10,υ (O z.1:Int))])
  (λz h' T w=>n=T/\(∀x∈w,x=b)/\ExtT n b h h'/\(w=[]->h'=h)/\h' b=ξ (.row (u64s (z.1++X.drop (O z.1))) e)/\O z.1<=O Z3/\J5 z.1/\z.2<=1/\wv z.1+wv (Z3.take (O z.1))=wv (X.take (O z.1))+z.2*18446744073709551616^O z.1) (λz=>O Z3-O z.1)
  ([],0) P6 ⟨ω,λx q=>Cu q CO,ExtT.refl _ _ _,λ_=>rfl,a3,Cz,HO,Bp,oo⟩ AC ?_
 rintro⟨D,c⟩ t h1 _ w ⟨rfl,B,i,G,a,J,g,I,p⟩;simp only at a J g I p;apply(zN);by_cases hDY:O D=O Z3;case neg=>
  obtain⟨y,hy⟩:∃y,Z3[O D]?=ξ y:=⟨Z3[O D]'Z,CD Z⟩;obtain⟨x,q⟩:∃x,X[O D]?=ξ x:=⟨X[O D]'Z,CD Z⟩;have a9:=hY.get hy;have a6:=hX.get q;have N:=jK (cap:=cX) hb a aD;rw[show(D++X.drop (O D)).length=O X from by rw[CJ,Ek];omega]at N;apply(Zs);refine yE (f:=λd:Nat=>ι (d:Int)) (j:=O D) R7 (Z0.extW i ho) R2 hy (λ_=>rfl) R4 λ_=>?_;apply(Zl);refine yE (f:=λd:Nat=>ι (d:Int)) (j:=O D) R7 N R2 (uy q) (λ_=>rfl) R4 λ_=>?_;repeat apply(zR)
  apply rn (x:=x) (y:=y) (c:=c) R5 I;obtain⟨s,hs⟩:∃s,s=(x+18446744073709551616-y-c)%18446744073709551616:=⟨_,ω⟩;obtain⟨c',F⟩:∃c',c'=(if y+c<=x then 0 else 1):=⟨_,ω⟩;rw[<-hs,<-F];repeat apply(zR)
  refine yG (j:=O D) (off:=0) (v:=ι (s:Int)) R8 ω ⟨Z,p0⟩ a hb (λ_=>rfl) R3 (λ_=>rfl) ω λ_=>?_;rw[C9,yk,M6 _ q];apply(Zn);have S:s<18446744073709551616:=Z;have Z1:c'<=1:=by rw[F];split<;>decide
  have R:s+y+c=x+18446744073709551616*c':=by grind
  refine goOn (D++[s],c') aD ⟨ω,ω,ω,ω,ω,eN,Cx⟩ ⟨ω,λz u=>by
   obtain rfl|u:=De.1 u;rfl;exact B z u,λz u H=>(zm H).trans (i z u H),λh=>Aa,zg _ _ _,gX,Gc g S,Z1,?_⟩
  simp only;rw[CJ,C0,yO,zQ q,zQ hy,C5];have:=vK p R;omega
 have a0:Z3.take (O D)=Z3:=by rw[hDY,C3]
 rw[a0]at p;apply(Zp);refine ye (α:=List Nat×Nat) (λz=>[(0,Y (ξ ⟨b,0,θ⟩) (O X) cX),(4,ι (z.2:Int)),(7,υ (O z.1:Int))])
  (λz h' T w=>n=T/\(∀x∈w,x=b)/\ExtT n b h h'/\(w=[]->h'=h)/\h' b=ξ (.row (u64s (z.1++X.drop (O z.1))) e)/\O z.1<=O X/\J5 z.1/\z.2<=1/\wv z.1+wv Z3=wv (X.take (O z.1))+z.2*18446744073709551616^O z.1) (λz=>O X-O z.1)
  (D,c) ⟨ω,ω,Br,Cx⟩ ⟨ω,B,i,G,a,by show O D<=_;omega,g,I,p⟩ (by show O X-O D<LL;unfold LL;omega) ?_
 rintro⟨D,c⟩ t h1 _ w ⟨rfl,B,i,G,a,J,g,I,p⟩;simp only at a J g I p;apply(zN);by_cases hc0:c=0;.apply(Zj);exact W _ _ _ D c B i G a J g p hc0
 by_cases hDX:O D=O X;.apply(Zj);refine W _ _ _ D c B i G a J g p ?_;have a4:=wW g;rw[hDX,C3]at p;rw[hDX]at a4;obtain h|h:=Fr c;exact h;have:=CM (18446744073709551616^O X) h;omega
 obtain⟨x,q⟩:∃x,X[O D]?=ξ x:=⟨X[O D]'Z,CD Z⟩;have a6:=hX.get q;have N:=jK (cap:=cX) hb a aD;rw[show(D++X.drop (O D)).length=O X from by rw[CJ,Ek];omega]at N;apply(Zs);refine yE (f:=λd:Nat=>ι (d:Int)) (j:=O D) R7 N R2 (uy q) (λ_=>rfl) R4 λ_=>?_;repeat apply(zR)
 apply rn (x:=x) (y:=0) (c:=c) R5 I;obtain⟨s,hs⟩:∃s,s=(x+18446744073709551616-0-c)%18446744073709551616:=⟨_,ω⟩;obtain⟨c',F⟩:∃c',c'=(if 0+c<=x then 0 else 1):=⟨_,ω⟩;rw[<-hs,<-F];repeat apply(zR)
 refine yG (j:=O D) (off:=0) (v:=ι (s:Int)) R8 ω ⟨Z,p0⟩ a hb (λ_=>rfl) R3 (λ_=>rfl) ω λ_=>?_;rw[C9,yk,M6 _ q];apply(Zn);have S:s<18446744073709551616:=Z;have Z1:c'<=1:=by rw[F];split<;>decide
 have R:s+0+c=x+18446744073709551616*c':=by grind
 refine goOn (D++[s],c') aD ⟨ω,ω,eN,Cx⟩ ⟨ω,λz u=>by
  obtain rfl|u:=De.1 u;rfl;exact B z u,λz u H=>(zm H).trans (i z u H),λh=>Aa,zg _ _ _,gX,Gc g S,Z1,?_⟩
 simp only;rw[CJ,C0,yO,zQ q,C5];have:=vK p R;omega
def xr{n:Nat}{h:HF}{L:List Nat}(hb:b<3*n)(g:h b=ξ (.row (u64s L) e))(a:O L=l):Sl h n 1 (Y (ξ ⟨b,0,θ⟩) l l) (u64s L):=by subst a;exact jK hb g Cy
def xD{L:List Nat}(h:J5 L):NW (yf L)/\wv (yf L)=wv L:=⟨NW.trim h,Og _ _⟩
def PC(n:Nat)(v u1 u2:ψ):Prop:=xC n v\/v=u1\/v=u2
theorem dK(k:Nat){h:HF}{n:Nat}(H:Sl h n 1 (Y a1 l1 c1) (u64s A))(I:Sl h n 1 (Y a2 l2 c2) (u64s C))(nA:NW A)(nC:NW C)(hb:O A<100000000/\O C<100000000):
  CF (J4 (k+2)) 121 [Y a1 l1 c1,Y a2 l2 c2] h n λv h' N w=>∃L,ResW n h v h' N w L/\wv L=wv A+wv C/\PC n v (Y a1 l1 c1) (Y a2 l2 c2):=by
 apply zw R4;have e1:=H.lenW;have e2:=I.lenW;subst e1 e2;apply(Za);apply(zM);apply st_I (ik:=.i64) (a:=(O A:Int)) R5;apply(zM);refine st_I (ik:=.i64) (a:=(O C:Int)) R5<|lW R6 ?_;simp only[yu,xg,zK,yY];refine yj (α:=(Option Addr×Nat×List Nat)×(Option Addr×Nat×List Nat)) (λz=>[(0,Y z.1.1 (O z.1.2.2) z.1.2.1),(1,Y z.2.1 (O z.2.2.2) z.2.2.1)]) (λz h' N w=>h=h'/\n=N/\w=[]/\Sl h n 1 (Y z.1.1 (O z.1.2.2) z.1.2.1) (u64s z.1.2.2)/\Sl h n 1 (Y z.2.1 (O z.2.2.2) z.2.2.1) (u64s z.2.2.2)/\NW z.1.2.2/\NW z.2.2.2/\O z.2.2.2<=O z.1.2.2/\O z.1.2.2<100000000/\wv z.1.2.2+wv z.2.2.2=wv A+wv C/\(Y z.1.1 (O z.1.2.2) z.1.2.1=Y a1 (O A) c1\/Y z.1.1 (O z.1.2.2) z.1.2.1=Y a2 (O C) c2)) ?_ ?_;by_cases hlt:O A<O C;rw[ze eU];apply(Za);exact zA ((a2,c2,C),(a1,c1,A)) P2 ⟨ω,ω,ω,I,H,nC,nA,AP,hb.2,D6 _ _,.inr ω⟩;rw[za eS];apply(zN);exact zA ((a1,c1,A),(a2,c2,C)) P2 ⟨ω,ω,ω,H,I,nA,nC,AQ,hb.1,ω,.inl ω⟩;rintro⟨⟨a,c,X⟩,⟨a',c',Z3⟩⟩ t _ _ _ ⟨rfl,rfl,rfl,J,K,u,Z1,D,W,q,hv⟩;simp only at J K u Z1 D W q hv;rw[<-q];apply(zN);by_cases hY0:O Z3=0;apply(Zr);rw[CT.1 hY0];exact retH _ ⟨ω,(zi ω),ω⟩ ⟨X,⟨ω,Cy,Fy _ _,J,u⟩,ω,.inr hv⟩;apply(Zz);apply vB (len:=O X+1) (cap:=O X+1) R9 Z;rw[show zn (ι 0)=[ι 0]from ω,xO];apply(Zl);have B:=J.ext (E9 (h:=h) (b:=3*n+2) (x:=ξ (.row (u64s (CI (O X+1) 0)) 152)) (show 3*n<=3*n+2 from Z)) (C8 n);apply lZ (m:=O X) R7 (uX B) Zq (zg _ _ _) (by rw[zL,zL];simp) (xW X) bJ;rw[uk,zL,rf,<-vg,JQ,show (O X)+1-O X=1 from Z];generalize hh:upd h (3*n+2) _=s;have p:∃e,s (3*n+2)=ξ (.row (u64s (X++[0])) e):=⟨_,gQ⟩;have⟨e,p⟩:=p;have G:J3 n h s:=by grind [E9]
 have g:O (X++[0])=O X+1:=by simp
 have F:wv (X++[0])=wv X:=by rw[yO,Eo,DE]
 have M:wv (X++[0])+wv Z3<18446744073709551616^O (X++[0]):=(by have s:=wW u.1;have R:=wW Z1.1;have h3:18446744073709551616^O Z3<=18446744073709551616^O X:=CQ zd D;rw[F,g,C5];omega);apply(Zg);have i:=YN k (h:=s) (n:=n+1) (b:=3*n+2) (X:=X++[0]) (cX:=O X+1) Z p Z (Gc u.1 zd) (K.ext G (C8 n)) Z1.1 (K.below.off Z) Z Z M;rw[g]at i;apply zF _ R5 i;rintro _ R _ w2⟨L,⟨a3,rfl,a4,Z0⟩,S,a5,T⟩;try simp only[tH]
 rw[my (w:=[]) λy hy=>by rw[a3 y hy];show 3*n<=3*n+2;omega];apply(Zl);have a0:=xi k (h:=R) (n:=n+1) (a:=ξ ⟨3*n+2,0,θ⟩) (len:=O X+1) (cap:=O X+1) (l:=L) Z (λ_ e=>by injection e with e;rw[<-e]) (xr Z Z0 Z);apply zF _ R5 a0;rintro _ _ _ _⟨rfl,rfl,rfl,rfl,hs⟩;apply(kG);have⟨t1,t2⟩:=xD S;exact retH _ ⟨ω,(zi ω),ω⟩ ⟨_,⟨ω,C8 n,λb hb=>(a4 b Z Z).trans (G b hb),hs,t1⟩,by rw[t2,T,F],.inl bJ⟩
def fe(k:Nat){h:HF}{n:Nat}(u:Sl h n 1 (Y a1 l1 c1) (u64s A))(B:Sl h n 1 (Y a2 l2 c2) (u64s C))(F:NW A)(S:NW C)(hb:O A<100000000)(J:wv C<=wv A):
  CF (J4 (k+2)) 123 [Y a1 l1 c1,Y a2 l2 c2] h n λv h' n' w=>∃L,ResW n h v h' n' w L/\wv L=wv A-wv C/\PC n v (Y a1 l1 c1) (Y a2 l2 c2):=by
 apply zw R4;have T:=u.lenW;have W:=B.lenW;subst T W;have g:O C<=O A:=(by obtain D|D:=EB (O A) (O C);have:=F.len_lt S D;omega;exact D);apply(Za);by_cases hC0:O C=0;apply(Zr);rw[CT.1 hC0];exact retH _ ⟨ω,(zi ω),ω⟩ ⟨A,⟨ω,Cy,Fy _ _,u,F⟩,ω,.inr (.inl ω)⟩;apply(ZB);apply zF _ R5 (ub k u Z);rintro v1 h1 n1 _⟨rfl,q,s,a3,I⟩;obtain⟨b,rfl,_,i,p,K,_⟩:=(I (λe=>by rw[e]at g;simp at g;exact hC0 Av)).inv2 Z;apply(Zl);apply zF _ R5 (mB k (cX:=O A) p K Cy F.1 (B.ext s q) S.1 (B.below.off Z) g Z J);rintro _ Z3 n2 w2⟨L,⟨Z1,rfl,R,M⟩,G,H,a0⟩;try simp only[tH]
 rw[my (w:=[]) λy hy=>by rw[Z1 y hy];exact i];apply(Zl);have N:=xi k (h:=Z3) (n:=n2) (a:=ξ ⟨b,0,θ⟩) (len:=O A) (cap:=O A) (l:=L) Z (λ_ e=>by injection e with e;rw[<-e]) (xr p M H);apply zF _ R5 N;rintro _ _ _ _⟨rfl,rfl,rfl,rfl,hs⟩;apply(kG);have⟨t1,t2⟩:=xD G;exact retH _ ⟨ω,(zi ω),ω⟩ ⟨_,⟨ω,q,λc Z0=>(R c Z Z).trans (s c Z0),hs,t1⟩,by rw[t2];omega,.inl i⟩
section
variable{off:Nat}
section
variable{X:CtxF}{r:List Oper}{d:Tmp}
theorem rt{lo hi:Operand}{j u:Int}(m a:Nat)(g:qt X ops t o d (o.op=.slice ty x (ξ lo) (ξ hi) θ/\X.E.und ty=ξ (.slice e)/\X.E.inf e=ξ (sz,bt,z)/\J2 t x=Y (ξ ⟨b,off,θ⟩) len cap/\J2 t lo=CC ik j/\J2 t hi=CC ik' u))(hm:j=(m:Int))(q:u=(a:Int))(K:m<=a/\a<=cap/\m<cap)
  (k:EO X ops r ⟨upd t d (Y (ξ ⟨b,off+m*sz,θ⟩) (a-m) (cap-m)),h,n,w⟩ Q):EO X ops (o::r) ⟨t,h,n,w⟩ Q:=by
 have⟨g,F,H,s,I,i,J,G,p⟩:=g;refine zZ ⟨g,F,H,(by rw[s];rfl)⟩ ?_ k;rw[s];subst hm q;show xc X.E ty (J2 t x) (ξ (J2 t lo)) (ξ (J2 t hi))=_;rw[J,G,p];have y:(0:Int)<=(a:Int)/\(a:Int)<=cap:=Z;have v:(0:Int)<=(m:Int)/\(m:Int)<=a:=Z;have f:Dd cap m=χ:=by
  cases f:Dd cap m with
  |false=>rfl
  |true=>have:=Da f;omega
 have B:(gro b&&(Dd 1 m&&Dd cap m))=χ:=by rw[f];simp
 have D:offA cap m sz ⟨b,off,θ⟩=⟨b,off+m*sz,θ⟩:=by grind [offA,wO,DK,DC]
 simp only[xc,I,i,bnd,Cw y,Cw v,Ef,B,D]
end
def dP{h:HF}{n:Nat}{P S:List Nat}(hb:b<3*n)(f:h b=ξ (.row (u64s (P++(Z0++S))) e))(a:O Z0<=cap):Sl h n 1 (Y (ξ ⟨b,O P,θ⟩) (O Z0) cap) (u64s Z0):=by refine .at_ hb f ω a (by rw[zL];simp only[CJ];omega) ?_;rw[rf,re,Ju ω,DD,List.take_left' rfl]
def kg{P S D:List Nat}{x:Nat}(d:Nat)(hx:Z0[O D]?=ξ x):(P++((D++Z0.drop (O D))++S)).set (O P+O D) d=P++(((D++[d])++Z0.drop (O (D++[d])))++S):=by have a:O D<O Z0:=(CK.1 hx).1;rw[D1 _ _ Z,show (O P)+O D-O P=O D from Z,List.set_append_left _ _ aD,M6 d hx]
def qW{v w:Nat}(hv:v<18446744073709551616)(a:w<18446744073709551616):v*w<=340282366920938463426481119284349108225:=CU (C6 (JF hv) (JF a)) zd
theorem be{W z v w s:Nat}(a:V+c*P=Z4+W*w)(f:18446744073709551616*c'+s=z+v*w+c):V+P*s+c'*(P*18446744073709551616)=Z4+P*z+(W+P*v)*w:=by grind
theorem li(k:Nat){h:HF}{n cZ:Nat}{F:Option Addr}{P S X:List Nat}{w:Nat}(hb:b<3*n)(R:h b=ξ (.row (u64s (P++(Z0++S))) e))(ad:O Z0<=cZ)(hZ:J5 Z0)(J:Sl h n 1 (Y F l cX) (u64s X))(hX:J5 X)(ho:Ks b (Y F l cX))(hl:O Z0=O X)(ac:O X<1000000000)(i:w<18446744073709551616):
  CF (J4 (k+2)) 166 [Y (ξ ⟨b,O P,θ⟩) (O Z0) cZ,Y F l cX,ι (w:Int)] h n λv m n' W=>∃(L:List Nat) (c:Nat),v=ι (c:Int)/\c<18446744073709551616/\RowW n h b e m n' W (P++(L++S))/\J5 L/\O L=O Z0/\wv L+c*18446744073709551616^O Z0=wv Z0+wv X*w:=by
 apply Lg R4;have a6:=J.lenW;subst a6;apply(Za);apply(Zn);refine ye (α:=List Nat×Nat) (λz=>[(0,Y (ξ ⟨b,O P,θ⟩) (O Z0) cZ),(2,ι (w:Int)),(7,ι (z.2:Int)),(14,Y F (O X) cX),(15,υ (O X:Int)),(16,υ (O z.1:Int))])
  (λz m n' W=>n=n'/\(∀x∈W,x=b)/\ExtT n b h m/\(W=[]->m=h)/\m b=ξ (.row (u64s (P++((z.1++Z0.drop (O z.1))++S))) e)/\O z.1<=O X/\J5 z.1/\z.2<18446744073709551616/\wv z.1+z.2*18446744073709551616^O z.1=wv (Z0.take (O z.1))+wv (X.take (O z.1))*w) (λz=>O X-O z.1)
  ([],0) P6 ⟨ω,λx u=>Cu u CO,ExtT.refl _ _ _,λ_=>rfl,R,Cz,HO,sa,oo⟩ AH ?_
 rintro⟨D,c⟩ t h1 _ W ⟨rfl,hW,B,ab,g,hD,q,hc,G⟩;simp only at g hD q hc G;apply(zN);by_cases hDX:O D=O X;apply(Zp);have a0:Z0.drop (O D)=[]:=by grind
 rw[a0,Dm]at g;rw[hDX,C3,<-hl,C3]at G;have Z1:∃(L:List Nat) (c':Nat),ι (c:Int)=ι (c':Int)/\c'<18446744073709551616/\RowW n h b e h1 n W (P++(L++S))/\J5 L/\O L=O Z0/\wv L+c'*18446744073709551616^O Z0=wv Z0+wv X*w:=⟨D,c,ω,hc,⟨hW,ω,B,g⟩,q,Z,G⟩;refine⟨ω,[ι (c:Int)],ω,Z1,λi=>?_⟩;have i:W=[]:=i;subst i;rw[ab rfl]at Z1;exact Z1;obtain⟨v,T⟩:∃x,X[O D]?=ξ x:=⟨X[O D]'Z,CD Z⟩;obtain⟨z,I⟩:∃x,Z0[O D]?=ξ x:=⟨Z0[O D]'Z,CD Z⟩;have M:=hX.get T;have ae:=hZ.get I;have s:(D++Z0.drop (O D)).length=O Z0:=by grind
 have K:=dP (cap:=cZ) hb g Z;rw[s]at K;have aa:=qW M i;apply(Zs);refine yE (f:=λd:Nat=>ι (d:Int)) (j:=O D) R7 (J.extW B ho) R2 T (λ_=>rfl) R4 λ_=>?_;apply(Zl);apply yi _ R5 (pC k h1 n M i);rintro _ rfl;obtain⟨p,hp⟩:∃p,p=v*w:=⟨_,ω⟩;rw[<-hp]at aa⊢;obtain⟨H,a5⟩:∃x,x=p/18446744073709551616:=⟨_,ω⟩;obtain⟨Z3,a7⟩:∃x,x=p%18446744073709551616:=⟨_,ω⟩;rw[<-a5,<-a7];apply(Zl);apply vt (x:=Z3) (y:=c) (c:=0) R5 zd;obtain⟨s1,a8⟩:∃x,x=(Z3+c+0)%18446744073709551616:=⟨_,ω⟩;obtain⟨c1,a3⟩:∃x,x=(Z3+c+0)/18446744073709551616:=⟨_,ω⟩;rw[<-a8,<-a3];apply(ZC);apply yT (a:=H) (b:=c1) R6 Z;apply(Zl);refine yE (f:=λd:Nat=>ι (d:Int)) (j:=O D) R7 K R2 (uy I) (λ_=>rfl) R4 λ_=>?_;repeat apply(zR)
 apply vt (x:=z) (y:=s1) (c:=0) R5 zd;obtain⟨s2,a9⟩:∃x,x=(z+s1+0)%18446744073709551616:=⟨_,ω⟩;obtain⟨c2,a4⟩:∃x,x=(z+s1+0)/18446744073709551616:=⟨_,ω⟩;rw[<-a9,<-a4];repeat apply(zR)
 refine yG (j:=O D) (off:=O P) (v:=ι (s2:Int)) R8 ω ⟨Z,Bb⟩ g hb (λ_=>rfl) R3 (λ_=>rfl) ω λ_=>?_;rw[yk,kg _ I];apply(ZC);apply yT (a:=H+c1) (b:=c2) R6 Z;apply(Zn);refine goOn (D++[s2],H+c1+c2) aD ⟨ω,ω,ω,ω,ω,eN,Cx⟩ ⟨ω,λx u=>by
  obtain rfl|u:=De.1 u;rfl;exact hW x u,λy hy N=>(zm N).trans (B y hy N),λh=>Aa,zg _ _ _,by show(D++[s2]).length<=_;rw[CJ,C0];omega,Gc q Z,by show H+c1+c2<_;omega,?_⟩
 simp only;rw[CJ,C0,yO,zQ T,zQ I,C5];exact be G (by rw[<-hp];omega)
theorem YO{P X L:List Nat}{w:Nat}(a:O L=O Z0)(f:wv L+c*18446744073709551616^O Z0=wv Z0+wv X*w):wv (P++(L++[c]))=wv (P++Z0)+wv X*(18446744073709551616^O P*w):=by grind [wZ,yO]
theorem fV(k:Nat){h:HF}{n:Nat}(G:Sl h n 1 (Y a1 l1 c1) (u64s A))(H:Sl h n 1 (Y a2 l2 c2) (u64s C))(nA:NW A)(nC:NW C)(hb:O A<100000000/\O C<100000000)(a0:O A<40\/O C<40):
  CF (J4 (k+3)) 124 [Y a1 l1 c1,Y a2 l2 c2] h n λv s u w=>∃L,ResW n h v s u w L/\wv L=wv A*wv C/\PC n v (Y a1 l1 c1) (Y a2 l2 c2):=by
 apply zw R4;have e1:=G.lenW;have e2:=H.lenW;subst e1 e2;apply(Za);apply(zM);apply st_I (ik:=.i64) (a:=(O A:Int)) R5;apply(zM);refine st_I (ik:=.i64) (a:=(O C:Int)) R5<|lW R6 ?_;simp only[yu,xg,zK,yY];refine yj (α:=(Option Addr×Nat×List Nat)×(Option Addr×Nat×List Nat)) (λz=>[(0,Y z.1.1 (O z.1.2.2) z.1.2.1),(1,Y z.2.1 (O z.2.2.2) z.2.2.1)]) (λz s u w=>h=s/\n=u/\w=[]/\Sl h n 1 (Y z.1.1 (O z.1.2.2) z.1.2.1) (u64s z.1.2.2)/\Sl h n 1 (Y z.2.1 (O z.2.2.2) z.2.2.1) (u64s z.2.2.2)/\NW z.1.2.2/\NW z.2.2.2/\O z.2.2.2<=O z.1.2.2/\O z.2.2.2<40/\O z.1.2.2<100000000/\wv z.1.2.2*wv z.2.2.2=wv A*wv C/\(Y z.1.1 (O z.1.2.2) z.1.2.1=Y a1 (O A) c1\/Y z.1.1 (O z.1.2.2) z.1.2.1=Y a2 (O C) c2)) ?_ ?_;by_cases hlt:O A<O C;rw[ze eU];apply(Za);exact zA ((a2,c2,C),(a1,c1,A)) P2 ⟨ω,ω,ω,H,G,nC,nA,AP,by show O A<40;omega,hb.2,CY _ _,.inr ω⟩;rw[za eS];apply(zN);exact zA ((a1,c1,A),(a2,c2,C)) P2 ⟨ω,ω,ω,G,H,nA,nC,AQ,by show O C<40;omega,hb.1,ω,.inl ω⟩;rintro⟨⟨a,c,X⟩,⟨a',c',Z3⟩⟩ t _ _ _ ⟨rfl,rfl,rfl,J,K,nX,nY,a8,S,a7,q,hv⟩;simp only at J K nX nY a8 S a7 q hv;rw[<-q];apply(Zi);refine st_I (ik:=.i64) (a:=(O X:Int)) R5<|uI (a:=(O X:Int)) (b:=1) R6 Z<|st_I (ik:=.i64) (a:=((O X:Int)+1).tdiv 2) ⟨ω,ω,ω,ω,(by show ξ (υ (IntKind.wrap .i64 _))=_;rw[LM (by have:=Int.tdiv_nonneg (a:=(O X:Int)+1) (b:=2) Z Z;have:=Int.tdiv_le_self (a:=(O X:Int)+1) (b:=2) Z;omega)])⟩ ?_;apply(kG);by_cases hY0:O Z3=0;apply(Zr);exact retH _ ⟨ω,(zi ω),ω⟩ ⟨[],⟨ω,Cy,Fy _ _,.nil (.inl ω),aa6⟩,by rw[CT.1 hY0];rfl,.inl trivial⟩;apply(Zc);simp only[yu,xg,zK,yY];refine yj (α:=Bool) (λz=>[(0,Y a (O X) c),(1,Y a' (O Z3) c'),(32,U z)]) (λz s u w=>h=s/\n=u/\w=[]/\(z=φ->wv Z3=1)) ?_ ?_;by_cases hY1:O Z3=1;obtain⟨y,rfl⟩:=FX.1 hY1;rw[show[y].length=1 from rfl]at K⊢;apply(Zg);refine yE (f:=λd:Nat=>ι (d:Int)) (l:=[y]) (j:=0) R7 K ⟨ω,eC⟩ ω (λ_=>rfl) R4 λ_=>?_;by_cases hy:y=1;apply(kG);exact zA φ P3 ⟨ω,ω,ω,λ_=>by rw[pP,hy]⟩;apply(kG);exact zA χ P3 ⟨ω,ω,ω,λh=>by cases h⟩;apply(Za);exact zA χ P3 ⟨ω,ω,ω,λh=>by cases h⟩;rintro z t _ _ _⟨rfl,rfl,rfl,hz⟩;cases z with
 |true=>
  rw[ze rfl];apply(Za);exact retH _ ⟨ω,(zi ω),ω⟩ ⟨X,⟨ω,Cy,Fy _ _,J,nX⟩,by rw[hz ω,DD],.inr hv⟩
 |false=>
 rw[za rfl];apply(Za);rw[ze rfl];apply(Zg);apply vB (len:=O X+O Z3) (cap:=O X+O Z3) R9 Z;rw[show zn (ι 0)=[ι 0]from ω,xO];generalize hh:upd h (3*n+2) _=F;have g:∃e,F (3*n+2)=ξ (.row (u64s (CI (O X) 0++CI (O Z3) 0)) e):=⟨_,by rw[<-hh,zg,HT]⟩;have⟨e,g⟩:=g;have p:J3 n h F:=by grind [E9]
 apply(Zn);refine ye (α:=Nat×List Nat) (λz=>[(0,Y a (O X) c),(6,Y (ξ ⟨3*n+2,0,θ⟩) (O X+O Z3) (O X+O Z3)),(53,Y a' (O Z3) c'),(54,υ (O Z3:Int)),(55,υ (z.1:Int))])
  (λz s u w=>u=n+1/\w=[]/\J3 n h s/\s (3*n+2)=ξ (.row (u64s (z.2++CI (O Z3-z.1) 0)) e)/\O z.2=O X+z.1/\J5 z.2/\z.1<=O Z3/\wv z.2=wv X*wv (Z3.take z.1)) (λz=>O Z3-z.1)
  (0,CI (O X) 0) P5 ⟨ω,ω,p,g,eC,ap0 _,Cz,by simp[wv,dv,pc]⟩ AC ?_
 rintro⟨i,D⟩ t F _ _ ⟨rfl,rfl,p,g,M,B,hi,I⟩;simp only at g M B hi I;apply(zN);by_cases hiY:i=O Z3;subst hiY;rw[DY,E7,Dm]at g;rw[C3]at I;apply(Zz);have aa:=xi (k+1) (h:=F) (n:=n+1) (a:=ξ ⟨3*n+2,0,θ⟩) (len:=O X+O Z3) (cap:=O X+O Z3) (l:=D) Z (λ_ e=>by injection e with e;rw[<-e]) (xr Z g M);apply zF _ R5 aa;rintro _ _ _ _⟨rfl,rfl,rfl,rfl,hs⟩;apply(kG);have⟨t1,t2⟩:=xD B;exact retH _ ⟨ω,(zi ω),ω⟩ ⟨_,⟨ω,C8 n,p,hs,t1⟩,by rw[t2,I],.inl bJ⟩;obtain⟨w,W⟩:∃x,Z3[i]?=ξ x:=⟨Z3[i]'Z,CD Z⟩;have ac:=nY.1.get W;obtain⟨P,Z0,a5,hP,hZ⟩:∃P Z0,D=P++Z0/\O P=i/\O Z0=O X:=⟨D.take i,D.drop i,(DP i D).symm,Ab,by rw[Ek];omega⟩;subst a5 hP;rw[Dh]at g;have a6:=J.ext p (C8 n);apply(Zs);refine yE (f:=λd:Nat=>ι (d:Int)) (j:=O P) R7 (K.ext p (C8 n)) R2 W (λ_=>rfl) R4 λ_=>?_;apply(Zl);apply rt (O P) (O P+O X) R9 ω ω Z;rw[show 0+O P*1=O P from Z,show (O P)+O X-O P=O Z0 from Z];repeat apply(zR)
 apply zF _ R5 (li k (n:=n+1) (b:=3*n+2) Z g Z (λd T=>B d (by simp[T])) a6 nX.1 (J.below.off Z) hZ Z ac);rintro _ h2 _ w2⟨L,cc,rfl,a9,⟨ab,rfl,ad,R⟩,a3,N,a4⟩;try simp only[tH]
 rw[my (w:=[]) λy hy=>by rw[ab y hy];show 3*n<=3*n+2;omega];obtain⟨m,hm⟩:∃m,O Z3-O P=m+1:=⟨O Z3-O P-1,Z⟩;rw[hm,<-Dh]at R;have Z1:O (P++L)=O P+O X:=by grind
 refine uH (j:=O P+O X) (v:=ι (cc:Int)) R8 ω ⟨Z,by rw[zL,CJ,Z1,Dk];omega⟩ R bJ (λ_=>rfl) R3 (λ_=>rfl) ω λ_=>?_;rw[yk,<-Z1,cI];apply(Zn);refine goOn (O P+1,P++(L++[cc])) Z P5 ⟨ω,ω,λb hb=>(zm Z).trans ((ad b Z Z).trans (p b hb)),?_,?_,?_,by show O P+1<=_;omega,?_⟩;refine(zg _ _ _).trans ?_;simp only;rw[show (O Z3)-(O P+1)=m from Z,Dh P L];simp only;rw[CJ,CJ,N,hZ,C0];omega;exact J5.append (λd T=>B d (by simp[T])) (Gc a3 a9);simp only;rw[YO N a4,I,zQ W,DS]
end
theorem YP{P V Z4 W z v w c s c':Nat}(a:V+W*w=Z4+c*P)(b:s+v*w+c=z+18446744073709551616*c'):V+P*s+(W+P*v)*w=Z4+P*z+c'*(P*18446744073709551616):=by grind
theorem YQ(k:Nat){h:HF}{n b cZ cX l:Nat}{C:Option Addr}{P Z0 S X:List Nat}{e:TypeId}{w:Nat}(hb:b<3*n)(V:h b=ξ (.row (u64s (P++(Z0++S))) e))(ad:O Z0<=cZ)(hZ:J5 Z0)(N:Sl h n 1 (Y C l cX) (u64s X))(hX:J5 X)(ho:Ks b (Y C l cX))(hl:O Z0=O X)(aa:O X<1000000000)(m:w<18446744073709551616):
  CF (J4 (k+2)) 203 [Y (ξ ⟨b,O P,θ⟩) (O Z0) cZ,Y C l cX,ι (w:Int)] h n λv o n' W=>∃(L:List Nat) (c:Nat),v=ι (c:Int)/\c<18446744073709551616/\RowW n h b e o n' W (P++(L++S))/\J5 L/\O L=O Z0/\wv L+wv X*w=wv Z0+c*18446744073709551616^O Z0:=by
 apply Lg R4;have a3:=N.lenW;subst a3;apply(Za);apply(Zn);refine ye (α:=List Nat×Nat) (λz=>[(0,Y (ξ ⟨b,O P,θ⟩) (O Z0) cZ),(2,ι (w:Int)),(7,ι (z.2:Int)),(14,Y C (O X) cX),(15,υ (O X:Int)),(16,υ (O z.1:Int))])
  (λz o n' W=>n=n'/\(∀x∈W,x=b)/\ExtT n b h o/\(W=[]->o=h)/\o b=ξ (.row (u64s (P++((z.1++Z0.drop (O z.1))++S))) e)/\O z.1<=O X/\J5 z.1/\z.2<18446744073709551616/\wv z.1+wv (X.take (O z.1))*w=wv (Z0.take (O z.1))+z.2*18446744073709551616^O z.1) (λz=>O X-O z.1)
  ([],0) P6 ⟨ω,λx A=>Cu A CO,ExtT.refl _ _ _,λ_=>rfl,V,Cz,HO,sa,oo⟩ AH ?_
 rintro⟨D,c⟩ t h1 _ W ⟨rfl,hW,B,a8,g,hD,q,hc,H⟩;simp only at g hD q hc H;apply(zN);by_cases hDX:O D=O X;apply(Zp);have a0:Z0.drop (O D)=[]:=by grind
 rw[a0,Dm]at g;rw[hDX,C3,<-hl,C3]at H;have Z4:∃(L:List Nat) (c':Nat),ι (c:Int)=ι (c':Int)/\c'<18446744073709551616/\RowW n h b e h1 n W (P++(L++S))/\J5 L/\O L=O Z0/\wv L+wv X*w=wv Z0+c'*18446744073709551616^O Z0:=⟨D,c,ω,hc,⟨hW,ω,B,g⟩,q,Z,H⟩;refine⟨ω,[ι (c:Int)],ω,Z4,λm=>?_⟩;have m:W=[]:=m;subst m;rw[a8 rfl]at Z4;exact Z4;obtain⟨v,hv⟩:∃x,X[O D]?=ξ x:=⟨X[O D]'Z,CD Z⟩;obtain⟨z,J⟩:∃x,Z0[O D]?=ξ x:=⟨Z0[O D]'Z,CD Z⟩;have R:=hX.get hv;have a9:=hZ.get J;have s:(D++Z0.drop (O D)).length=O Z0:=by grind
 have Z1:=dP (cap:=cZ) hb g Z;rw[s]at Z1;have a7:=qW R m;apply(Zs);refine yE (f:=λd:Nat=>ι (d:Int)) (j:=O D) R7 (N.extW B ho) R2 hv (λ_=>rfl) R4 λ_=>?_;apply(Zl);apply yi _ R5 (pC k h1 n R m);rintro _ rfl;obtain⟨p,hp⟩:∃p,p=v*w:=⟨_,ω⟩;rw[<-hp]at a7⊢;obtain⟨I,a2⟩:∃x,x=p/18446744073709551616:=⟨_,ω⟩;obtain⟨lo,a4⟩:∃x,x=p%18446744073709551616:=⟨_,ω⟩;rw[<-a2,<-a4];apply(Zl);apply vt (x:=lo) (y:=c) (c:=0) R5 zd;obtain⟨K,a5⟩:∃x,x=(lo+c+0)%18446744073709551616:=⟨_,ω⟩;obtain⟨F,a1⟩:∃x,x=(lo+c+0)/18446744073709551616:=⟨_,ω⟩;rw[<-a5,<-a1];apply(ZC);apply yT (a:=I) (b:=F) R6 Z;apply(Zl);refine yE (f:=λd:Nat=>ι (d:Int)) (j:=O D) R7 Z1 R2 (uy J) (λ_=>rfl) R4 λ_=>?_;repeat apply(zR)
 apply rn (x:=z) (y:=K) (c:=0) R5 zd;obtain⟨M,u⟩:∃x,x=(z+18446744073709551616-K-0)%18446744073709551616:=⟨_,ω⟩;obtain⟨G,i⟩:∃x,x=(if K+0<=z then 0 else 1):=⟨_,ω⟩;rw[<-u,<-i];have Z3:K<18446744073709551616:=Z;have a6:=PA (c:=0) a9 Z3 zd;rw[<-u,<-i]at a6;have ab:G<=1:=by rw[i];split<;>decide
 have ac:M<18446744073709551616:=Z;repeat apply(zR)
 refine yG (j:=O D) (off:=O P) (v:=ι (M:Int)) R8 ω ⟨Z,Bb⟩ g hb (λ_=>rfl) R3 (λ_=>rfl) ω λ_=>?_;rw[yk,kg _ J];apply(ZC);apply yT (a:=I+F) (b:=G) R6 Z;apply(Zn);refine goOn (D++[M],I+F+G) aD ⟨ω,ω,ω,ω,ω,eN,Cx⟩ ⟨ω,λx A=>by
  obtain rfl|A:=De.1 A;rfl;exact hW x A,λy hy T=>(zm T).trans (B y hy T),λh=>Aa,zg _ _ _,by show(D++[M]).length<=_;rw[CJ,C0];omega,Gc q Z,by show I+F+G<_;omega,?_⟩
 simp only;rw[CJ,C0,yO,zQ hv,zQ J,C5];exact YP H (by rw[<-hp];omega)
def YR{B v1 v2 vr a w2 wr P:Nat}(y:2<=B)(j:B<=2*v1)(b:v2<B)(l:vr<P)(m:w2<B):B-1<=(((v1*B+a)*B+w2)*P+wr)/((v1*B+v2)*P+vr)+1:=by
 have g:0<P:=Z;have i:0<(v1*B+v2)*P+vr:=(by have:1*1<=v1*B:=C6 Z Z;have:1*1<=(v1*B+v2)*P:=C6 Z g;omega);obtain⟨D,rfl⟩:∃D,B=D+2:=⟨B-2,Z⟩;have o:D<=(((v1*(D+2)+a)*(D+2)+w2)*P+wr)/((v1*(D+2)+v2)*P+vr):=by
  rw[Nat.le_div_iff_mul_le i];have e:(v1*(D+2)+v2)*P+vr<=(v1*(D+2)+v2+1)*P:=by rw[Dq _ 1];omega
  refine CU (C4 D e) ?_;rw[<-Di];have f:D*(v1*(D+2)+v2+1)<=v1*(D+2)*(D+2):=by
   have c:D*(v1*(D+2)+v2+1)=D*(v1*(D+2))+D*(v2+1):=by rw[Gs,DS]
   have d:v1*(D+2)*(D+2)=v1*(D+2)*D+v1*(D+2)*2:=DS _ _ _;have p:D*(v2+1)<=D*(D+2):=C4 _ b;have q:(D+2)*(D+2)<=2*v1*(D+2):=CM _ j;have s:D*(D+2)<=(D+2)*(D+2):=CM _ Z;have u:2*v1*(D+2)=v1*(D+2)*2:=by rw[Di,CY 2]
   rw[c,d,CY D (v1*(D+2))];omega
  have v:=CM P f;have w:v1*(D+2)*(D+2)*P<=((v1*(D+2)+a)*(D+2)+w2)*P:=CM P (by rw[Dq];omega);omega
 omega
structure WinD (W V:List Nat)(m:Nat):Prop where
 wl:O W=m+3
 vl:O V=m+2
 wd:J5 W
 vd:J5 V
 top:∀x,V[m+1]?=ξ x->9223372036854775808<=x
 lt:wv W<18446744073709551616*wv V
def eO(k:Nat){h:HF}{n:Nat}{a1 a2:Option Addr}{l1 Z4 l2 c2 m:Nat}{W V:List Nat}(Z0:Sl h n 1 (Y a1 l1 Z4) (u64s W))(Z3:Sl h n 1 (Y a2 l2 c2) (u64s V))(hD:WinD W V m)(hb:m<1000000000):
  VF (J4 (k+4)) 202 [Y a1 l1 Z4,Y a2 l2 c2] h n λv=>∃q:Nat,v=CC .u64 (q:Int)/\q<18446744073709551616/\wv W/wv V<=q/\q<=wv W/wv V+1:=by
 refine zO R4 ?_;have e1:=Z0.lenW;have e2:=Z3.lenW;subst e1 e2;have⟨wl,vl,wd,vd,a8,C⟩:=hD;rw[wl]at Z0⊢;rw[vl]at Z3⊢;obtain⟨c,F⟩:∃x,V[m+1]?=ξ x:=⟨V[m+1]'Z,CD Z⟩;obtain⟨g,R⟩:∃x,V[m]?=ξ x:=⟨V[m]'Z,CD Z⟩;obtain⟨A,H⟩:∃x,W[m+2]?=ξ x:=⟨W[m+2]'Z,CD Z⟩;obtain⟨w1,S⟩:∃x,W[m+1]?=ξ x:=⟨W[m+1]'Z,CD Z⟩;obtain⟨i,I⟩:∃x,W[m]?=ξ x:=⟨W[m]'Z,CD Z⟩;have hn:=a8 c F;have a7:=vd.get F;have u:=vd.get R;have ao:=wd.get H;have ai:=wd.get S;have T:=wd.get I;have eW:wv W=((A*18446744073709551616+w1)*18446744073709551616+i)*18446744073709551616^m+wv (W.take m):=Ry wl H S I;have eV:wv V=(c*18446744073709551616+g)*18446744073709551616^m+wv (V.take m):=Pw vl F R;have a6:wv (W.take m)<18446744073709551616^m:=(by have:=wW (wd.take m);exact BA);have G:wv (V.take m)<18446744073709551616^m:=(by have:=wW (vd.take m);exact BA);rw[eW,eV]at C⊢;generalize 18446744073709551616^m=P at*;generalize wv (W.take m)=wr at*;generalize wv (V.take m)=vr at*;have ah:=Rx G u C;obtain⟨e,ht⟩:∃t,t=A*18446744073709551616+w1:=⟨_,ω⟩;rw[<-ht]at C ah⊢;have al:((e*18446744073709551616+i)*P+wr)/((c*18446744073709551616+g)*P+vr)<18446744073709551616:=(by rw[Ee Z];exact C);refine ZA (k:=?_);rw[wb rfl];repeat refine zR (k:=?_)
 refine yE (f:=λd:Nat=>CC .u64 (d:Int)) (j:=m+1) R7 Z3 ⟨ω,Z⟩ F (λ_=>rfl) R4 λ_=>?_;repeat refine zR (k:=?_)
 refine yE (f:=λd:Nat=>CC .u64 (d:Int)) (j:=m) R7 Z3 ⟨ω,Z⟩ R (λ_=>rfl) R4 λ_=>?_;refine Zl (k:=?_);refine yE (f:=λd:Nat=>CC .u64 (d:Int)) (j:=m+2) R7 Z0 ⟨ω,Z⟩ H (λ_=>rfl) R4 λ_=>?_;by_cases hfull:c<=A;refine Zr (k:=?_);have h0:A=c:=Z;subst h0;refine retF _ ω (zi ω) R2 ⟨18446744073709551615,ω,by decide,Z,?_⟩;rw[ht];exact YR (B:=18446744073709551616) zd Z u G T;refine Zj (k:=?_);refine zl (k:=?_);obtain⟨b1,o1,x1,a9,rfl,am,J,o,aj,ak,L⟩:=Z0.inv Z;have l:∀{j x:Nat},W[j]?=ξ x->a9[o1+j]?=ξ (CC .u64 (x:Int)):=λhj=>qG L (by rw[u64s,List.getElem?_map,hj];rfl);repeat refine zE (k:=?_)
 refine bO R8 Z<|yd R6 (nJ ω J (v:=CC .u64 (A:Int)) ⟨o,(by rw[<-l H];congr 1;omega)⟩) R2 ?_;repeat refine zE (k:=?_)
 refine bO R8 Z<|yd R6 (nJ ω J (v:=CC .u64 (w1:Int)) ⟨o,(by rw[<-l S];congr 1;omega)⟩) R2 ?_;repeat refine zE (k:=?_)
 refine NA _ R7 (pH k h n (show A<c from Z) ai a7) ?_;rintro _ rfl;rw[<-ht];repeat refine zE (k:=?_)
 refine zN (k:=?_);have Z1:=kB (B:=18446744073709551616) (v1:=c) (v2:=g) (vr:=vr) (top:=e) (w2:=i) (wr:=wr) (P:=P) Z T a6;have ab:e/c*c+e%c=e:=by rw[CY];exact DN _ _
 have aa:e/c<18446744073709551616:=(by rw[Ee Z,ht];have:(A+1)*18446744073709551616<=c*18446744073709551616:=CM _ Z;rw[CY 18446744073709551616];omega);refine ye (α:=Nat×Nat) (λz=>[(0,Y (ξ ⟨b1,o1,θ⟩) (m+3) Z4),(5,CC .i64 ((m+2:Nat):Int)),(6,CC .u64 (c:Int)),(7,CC .u64 (g:Int)),(8,CC .u64 (z.1:Int)),(9,CC .u64 (z.2:Int))])
  (λz K n' w=>h=K/\n=n'/\w=[]/\z.1<18446744073709551616/\z.2<18446744073709551616/\z.1*c+z.2=e/\((e*18446744073709551616+i)*P+wr)/((c*18446744073709551616+g)*P+vr)<=z.1) (λz=>2-z.2/9223372036854775808)
  (e/c,e%c) P6 ⟨ω,ω,ω,aa,Ir (Dz _ Z) a7,ab,Z1⟩ (by show 2-e%c/9223372036854775808<LL;unfold LL;omega) ?_
 rintro⟨q,r⟩ t _ _ _ ⟨rfl,rfl,rfl,M,hr,D,a5⟩;simp only at M hr D a5;refine Zt (k:=?_);refine yi _ R5 (pC (k+2) h n M u) ?_;rintro _ rfl;obtain⟨p,hp⟩:∃p,p=q*g:=⟨_,ω⟩;have ag:=qW M u;rw[<-hp]at ag⊢;have a3:∀t':TF,t' 4=CC .u64 (q:Int)->p<=r*18446744073709551616+i->∃y:Nat,CC .u64 (q:Int)=CC .u64 (y:Int)/\y<18446744073709551616/\((e*18446744073709551616+i)*P+wr)/((c*18446744073709551616+g)*P+vr)<=y/\y<=((e*18446744073709551616+i)*P+wr)/((c*18446744073709551616+g)*P+vr)+1:=λ_ _ hc=>
  ⟨q,ω,M,a5,Pv Z zd G D (by rw[<-hp];exact hc) M⟩
 obtain⟨s,ad⟩:∃x,x=p/18446744073709551616:=⟨_,ω⟩;obtain⟨lo,ae⟩:∃x,x=p%18446744073709551616:=⟨_,ω⟩;rw[<-ad,<-ae];have af:p=s*18446744073709551616+lo:=Z;repeat refine zR (k:=?_)
 simp only[yu,xg,zK,yY];by_cases L:s<r;refine Za (k:=?_);rw[ze rfl];refine Za (k:=?_);exact retF _ ω (zi ω) R2 (a3 (λ_=>CC .u64 (q:Int)) ω (by
  have:(s+1)*18446744073709551616<=r*18446744073709551616:=CM _ L;omega))
 by_cases a4:s=r/\lo<=i;obtain⟨rfl,a4⟩:=a4;refine Zg (k:=?_);refine Lw R8 Z<|zT R6 J (v:=CC .u64 (i:Int)) ⟨o,(by rw[<-l I];congr 1;omega)⟩ ?_;refine Zr (k:=?_);exact retF _ ω (zi ω) R2 (a3 (λ_=>CC .u64 (q:Int)) ω Z);have ac:r*18446744073709551616+i<q*g:=(by rw[<-hp,af];obtain K|K:=EB r s;have:(r+1)*18446744073709551616<=s*18446744073709551616:=CM _ K;omega;have:s=r:=Z;subst this;omega);have a0:=ek (vr:=vr) T a6 D ac;have an:1<=q:=C7 Cz a0;refine yj (α:=Unit) (λ_=>[(0,Y (ξ ⟨b1,o1,θ⟩) (m+3) Z4),(5,CC .i64 ((m+2:Nat):Int)),(6,CC .u64 (c:Int)),(7,CC .u64 (g:Int)),(8,CC .u64 (q:Int)),(9,CC .u64 (r:Int)),(66,U χ)]) (λ_ K n' w=>h=K/\n=n'/\w=[]) ?_ ?_;by_cases hc3:s=r;subst hc3;refine Zg (k:=?_);refine Lw R8 Z<|zT R6 J (v:=CC .u64 (i:Int)) ⟨o,(by rw[<-l I];congr 1;omega)⟩ ?_;refine kG (k:=?_);exact zA () P7 R3;refine Za (k:=?_);exact zA () P7 R3;rintro _ t _ _ _⟨rfl,rfl,rfl⟩;rw[za rfl];refine Zi (k:=?_);refine ym (a:=q) (b:=1) R6 Z<|ZC (k:=?_);refine uo (a:=r) (b:=c) R6<|kG (k:=?_);have N:(q-1)*c+(r+c)=e:=(by obtain⟨y,rfl⟩:∃y,q=y+1:=⟨q-1,Z⟩;rw[Dq]at D;rw[FI];omega);by_cases hov:r+c<18446744073709551616;rw[C1 hov];refine Zj (k:=?_);exact goOn (q-1,r+c) (by show 2-(r+c)/9223372036854775808<2-r/9223372036854775808;omega) P6 ⟨ω,ω,ω,by show q-1<_;omega,hov,N,by show _<=q-1;omega⟩;rw[show(r+c)%18446744073709551616=r+c-18446744073709551616 from Z];refine Zr (k:=?_);refine retF _ ω (zi ω) R2 ⟨q-1,ω,Z,Z,Pv Z zd G N ?_ Z⟩;have h1:=qW (v:=q-1) (w:=g) Z u;have h2:18446744073709551616*18446744073709551616<=(r+c)*18446744073709551616:=CM _ Z;omega
def fa{s:Nat}(a:s<=64):(18446744073709551616:Nat)=2^(64-s)*2^s:=by rw[<-DV,show 64-s+s=64 from Z]
def fE{w s:Nat}(a:s<=64):w*2^s%18446744073709551616=w%2^(64-s)*2^s:=by rw[fa a,GZ]
def YS{w s:Nat}(b:s<=64)(a:c<2^s):c|||w*2^s%18446744073709551616=c+w*2^s%18446744073709551616:=by rw[fE b,af0,jZ a,D6]
def RT{w s:Nat}(a:s<=64)(e:c<2^s):c+w*2^s%18446744073709551616<18446744073709551616:=by have b:w%2^(64-s)+1<=2^(64-s):=Dz _ (Ds zd);have d:=CM (2^s) b;rw[Dq,EM,<-fa a]at d;rw[fE a];omega
def RU{w s:Nat}(a:s<=64)(b:w<18446744073709551616):w/2^(64-s)<2^s:=by rw[Ee (Ds zd),CY,<-fa a];exact b
theorem jV(n:Nat):2^n=18446744073709551616^(n/64)*2^(n%64):=by grind [HC,DV,DN]
theorem YT{w s S:Nat}(a:V+c*P=Z4*S)(d:w*S=c'*18446744073709551616+lo)(b:s=c+lo):V+P*s+c'*(P*18446744073709551616)=(Z4+P*w)*S:=by grind
def RV(m:Nat):wv (CI m 0)=0:=pc _ _
theorem tL(k:Nat){a:Option Addr}(I:Sl h n 1 (Y a l c) (u64s X))(Z3:NW X)(hb:O X<100000000/\m<6400000000):
  CF (J4 (k+2)) 195 [Y a l c,ι (m:Int)] h n λv G W w=>∃L,ResW n h v G W w L/\wv L=wv X*2^m/\(xC n v\/v=Y a l c):=by
 apply zw R4;have e1:=I.lenW;subst e1;apply(Za);by_cases hX0:O X=0;have S:=CT.1 hX0;apply(Zr);exact retH _ ⟨ω,(zi ω),ω⟩ ⟨X,⟨ω,Cy,Fy _ _,I,Z3⟩,by rw[S,show wv []=0 from ω,DU],.inr ω⟩;by_cases hm0:m=0;apply(Zr);exact retH _ ⟨ω,(zi ω),ω⟩ ⟨X,⟨ω,Cy,Fy _ _,I,Z3⟩,by rw[hm0,EA,DD],.inr ω⟩;apply(Zj);rw[jV m];obtain⟨g,Z1⟩:∃x,x=m/64:=⟨_,ω⟩;obtain⟨s,hs⟩:∃x,x=m%64:=⟨_,ω⟩;rw[<-Z1,<-hs];have o:s<=64:=Z;apply(zM);apply xN (a:=m) (b:=64) R6 Z;rw[<-Z1];apply wm (ik:=.i64) (a:=(g:Int)) R6 tu;apply(zM);apply vO (a:=m) (b:=64) R6 Z;rw[<-hs];apply(Zl);apply vB (len:=O X+g+1) (cap:=O X+g+1) R9 Z;rw[show zn (ι 0)=[ι 0]from ω,xO];generalize hh:upd h (3*n+2) _=A;have i:∃e,A (3*n+2)=ξ (.row (u64s (CI g 0++([]++0::CI (O X) 0))) e):=⟨_,by rw[<-hh,zg,Dt,<-GA,HT,show g+(O X+1)=O X+g+1 from Z]⟩;have⟨e,i⟩:=i;have q:J3 n h A:=by grind [E9]
 apply(Zn);refine ye (α:=List Nat×Nat) (λz=>[(5,υ (g:Int)),(6,ι (s:Int)),(7,Y (ξ ⟨3*n+2,0,θ⟩) (O X+g+1) (O X+g+1)),(29,Y a (O X) c),(30,υ (O X:Int)),(31,υ (O z.1:Int))])
  (λz G W w=>W=n+1/\w=[]/\J3 n h G/\G (3*n+2)=ξ (.row (u64s (CI g 0++(z.1++z.2::CI (O X-O z.1) 0))) e)/\O z.1<=O X/\J5 z.1/\z.2<2^s/\wv z.1+z.2*18446744073709551616^O z.1=wv (X.take (O z.1))*2^s) (λz=>O X-O z.1)
  ([],0) P6 ⟨ω,ω,q,i,Cz,HO,Ds zd,oo⟩ AH ?_
 rintro⟨D,p⟩ t A _ _ ⟨rfl,rfl,q,i,hD,B,y,H⟩;simp only at i hD B y H;have C:p<18446744073709551616:=CS y (CU (CQ zd o) zd);apply(zN);by_cases hDX:O D=O X;rw[hDX,DY,E7]at i;rw[hDX,C3]at H;apply(Zz);have a3:=xi k (h:=A) (n:=n+1) (a:=ξ ⟨3*n+2,0,θ⟩) (len:=O X+g+1) (cap:=O X+g+1) (l:=CI g 0++(D++[p])) eP (λ_ e=>by injection e with e;rw[<-e]) (xr Z i eP);apply zF _ R5 a3;rintro _ _ _ _⟨rfl,rfl,rfl,rfl,a2⟩;apply(kG);have⟨t1,t2⟩:=xD (L:=CI g 0++(D++[p])) ((ap0 g).append (Gc B C));refine retH _ ⟨ω,(zi ω),ω⟩ ⟨_,⟨ω,C8 n,q,a2,t1⟩,?_,.inl bJ⟩;rw[t2,wZ,RV,Dk,C9,yO,hDX,CY (18446744073709551616^O X) p,H,Gm];obtain⟨w,T⟩:∃x,X[O D]?=ξ x:=⟨X[O D]'Z,CD Z⟩;have a4:=Z3.1.get T;obtain⟨u,a0⟩:∃m,O X-O D=m+1:=⟨O X-O D-1,Z⟩;rw[a0]at i;have F:O (CI g 0++(D++p::CI (u+1) 0))=O X+g+1:=by simp;omega
 have hZ:=xr (n:=n+1) Z i F;have J:(CI g 0++(D++p::CI (u+1) 0))[O D+g]?=ξ p:=by grind
 have K:∀d,(CI g 0++(D++p::CI (u+1) 0)).set (O D+g) d=CI g 0++(D++d::CI (u+1) 0):=λd=>(by rw[D1 _ _ eC,Dk,FI,D1 _ _ Cy,DY];rfl);have M:∀d R,(CI g 0++(D++d::CI (u+1) 0)).set (O D+g+1) R=CI g 0++((D++[d])++R::CI u 0):=λd R=>(by rw[D1 _ _ eP,Dk,show (O D)+g+1-g=O D+1 from Z,D1 _ _ Z,show (O D)+1-O D=1 from Z,GA];simp);apply(Zs);refine yE (f:=λd:Nat=>ι (d:Int)) (j:=O D) R7 (I.ext q (C8 n)) R2 T (λ_=>rfl) R4 λ_=>?_;apply(Zl);refine yE (f:=λd:Nat=>ι (d:Int)) (j:=O D+g) R7 hZ ⟨ω,Z⟩ J (λ_=>rfl) R4 λ_=>?_;apply(Zb);refine xK (a:=w) (s:=s) R6 o<|wG (a:=p) (b:=w*2^s%18446744073709551616) R6 ⟨C,Dz _ zd⟩ ?_;rw[YS o y];have N:=RT (w:=w) o y;obtain⟨d,Z0⟩:∃d,d=p+w*2^s%18446744073709551616:=⟨_,ω⟩;rw[<-Z0]at N⊢;refine uH (j:=O D+g) (v:=ι (d:Int)) R8 Z ⟨Z,by rw[zL,F];omega⟩ i bJ (λ_=>rfl) R3 (λ_=>rfl) ω λ_=>?_;rw[yk,K];generalize hh:upd A (3*n+2) _=h2;have a1:h2 (3*n+2)=ξ (.row (u64s (CI g 0++(D++d::CI (u+1) 0))) e):=by rw[<-hh,zg]
 have a5:J3 n h h2:=λb hb=>by rw[<-hh,zm Z,q b hb]
 apply(Zt);apply(zM);apply(zR);apply(zR);apply(Zb);refine ym (a:=64) (b:=s) R6 Z<|yn (a:=w) (s:=64-s) R6 Z ?_;refine uH (j:=O D+g+1) (v:=ι ((w/2^(64-s):Nat):Int)) R8 Z ⟨Z,Az⟩ a1 bJ (λ_=>rfl) R3 (λ_=>rfl) ω λ_=>?_;rw[yk,M];apply(Zn);refine goOn (D++[d],w/2^(64-s)) aD ⟨ω,ω,ω,ω,ω,eN,Cx⟩ ⟨ω,ω,λb hb=>(zm Z).trans (a5 b hb),?_,by show(D++[d]).length<=_;rw[CJ,C0];omega,Gc B N,RU o a4,?_⟩;refine(zg _ _ _).trans ?_;simp only;rw[show (O X)-O (D++[d])=u from by rw[CJ,C0];omega];simp only;rw[CJ,C0,yO,zQ T,C5];exact YT H (jG o) Z0
def Ml(X:List Nat)(j s:Nat):Nat:=((X[j]?).getD 0)%2^s
theorem YU{x S z a:Nat}(g:V*S+r=Z4+x%S*P)(f:z*S=x-x%S+a*18446744073709551616)(hx:x%S<=x):(V+P*z)*S+r=Z4+P*x+a*(P*18446744073709551616):=by
 have e:(V+P*z)*S=V*S+P*(z*S):=by grind
 obtain⟨y,i⟩:∃y,x=y+x%S:=⟨x-x%S,Z⟩;have b:x-x%S=y:=Z;rw[e,f,b,DS];have d:P*x=P*y+P*(x%S):=by grind
 rw[d,Gm a P,CY P (x%S)];omega
def YV{x y s:Nat}(d:s<=64):(x/2^s|||y*2^(64-s)%18446744073709551616)*2^s=x-x%2^s+y%2^s*18446744073709551616\/18446744073709551616<=x:=by
 by_cases hx:x<18446744073709551616;left;have e:x/2^s<2^(64-s):=(by rw[Ee (Ds zd),<-fa d];exact hx);have b:64-(64-s)=s:=Z;have a:=fE (w:=y) (s:=64-s) Z;rw[b]at a;rw[a,af0,jZ e,Dq,Di,<-fa d,D6];have:=DN x (2^s);have f:x/2^s*2^s=x-x%2^s:=by rw[CY];omega
 rw[f];right;omega
def YW(X:List Nat)(j s:Nat):Ml X j s<2^s:=Dz _ (Ds zd)
def RW{s x:Nat}(h:X[j]?=ξ x):Ml X j s=x%2^s:=by unfold Ml;rw[h];rfl
def RX{s:Nat}(h:O X<=j):Ml X j s=0:=by unfold Ml;rw[List.getElem?_eq_none h];exact ab9 _
def YX(a:J5 X):wv X/2^m=wv (X.drop (m/64))/2^(m%64):=by rw[jV m,<-Fm];congr 1;obtain h|h:=EB (O X) (m/64);rw[EX Z,show wv []=0 from ω,EP];exact CS (wW a) (CQ zd Z);have b:wv (X.take (m/64))<18446744073709551616^(m/64):=(by have:=wW (a.take (m/64));rw[DA,DR h]at this;exact this);rw[pu X (m/64) h,G7 _ _ (Ds zd),EP b,C9]
theorem om(k:Nat){a:Option Addr}(S:Sl h n 1 (Y a l c) (u64s X))(nX:NW X)(hb:O X<100000000/\m<18446744073709551616):
  CF (J4 (k+2)) 200 [Y a l c,ι (m:Int)] h n λv p I w=>∃L,ResW n h v p I w L/\wv L=wv X/2^m/\xC n v:=by
 apply zw R4;have e1:=S.lenW;subst e1;rw[YX nX.1];obtain⟨g,C⟩:∃x,x=m/64:=⟨_,ω⟩;obtain⟨s,hs⟩:∃x,x=m%64:=⟨_,ω⟩;have B:s<=64:=Z;rw[<-C,<-hs];apply(Za);apply(zM);apply xN (a:=m) (b:=64) R6 Z;rw[<-C];apply(zM);refine st_I (ik:=.i64) (a:=(O X:Int)) R5<|se (c:=O X) R7 Z ?_;by_cases hbig:O X<=g;apply(Zr);exact retH _ ⟨ω,(zi ω),ω⟩ ⟨[],⟨ω,Cy,Fy _ _,.nil (.inl ω),aa6⟩,by rw[EX hbig,show wv []=0 from ω,Nat.zero_div],Cx⟩;apply(ZB);apply xN (a:=m) (b:=64) R6 Z;rw[<-C];apply wm (ik:=.i64) (a:=(g:Int)) R6 tu;apply(zM);apply vO (a:=m) (b:=64) R6 Z;rw[<-hs];apply(kG);obtain⟨N,hN⟩:∃N,N=O X-g:=⟨_,ω⟩;apply(zM);apply st_I (ik:=.i64) (a:=(O X:Int)) R5;apply(zM);apply qO (a:=(O X:Int)) (b:=(g:Int)) R6 Z;rw[show(O X:Int)-(g:Int)=(N:Int)from Z];apply vB (len:=N) (cap:=N) R9 Z;rw[show zn (ι 0)=[ι 0]from ω,xO];generalize hh:upd h (3*n+2) _=q;have i:∃e,q (3*n+2)=ξ (.row (u64s ([]++CI N 0)) e):=⟨_,gQ⟩;have⟨e,i⟩:=i;have o:J3 n h q:=by grind [E9]
 have Z1:O (X.drop g)=N:=by grind
 obtain⟨Z3,T⟩:∃Z3,Z3=X.drop g:=⟨_,ω⟩;rw[<-T]at Z1⊢;have a1:∀j,Z3[j]?=X[j+g]?:=λj=>by rw[T,DX,D6]
 have aa:J5 Z3:=by rw[T];exact nX.1.drop g
 apply(Zn);refine ye (α:=List Nat) (λD=>[(0,Y a (O X) c),(5,υ (g:Int)),(6,ι (s:Int)),(7,Y (ξ ⟨3*n+2,0,θ⟩) N N),(26,υ (N:Int)),(27,υ (O D:Int))])
  (λD p I w=>I=n+1/\w=[]/\J3 n h p/\p (3*n+2)=ξ (.row (u64s (D++CI (N-O D) 0)) e)/\O D<=N/\J5 D/\wv D*2^s+Ml Z3 0 s=wv (Z3.take (O D))+Ml Z3 (O D) s*18446744073709551616^O D) (λD=>N-O D)
  [] P6 ⟨ω,ω,o,i,Cz,HO,oo⟩ (by show N-0<LL;unfold LL;omega) ?_
 rintro D t q _ _⟨rfl,rfl,o,i,hD,K,J⟩;apply(zN);by_cases hDN:O D=N;rw[hDN,DY,E7,Dm]at i;rw[hDN,RX (X:=Z3) (j:=N) Z,DU,DE,<-Z1,C3]at J;apply(Zz);have a5:=xi k (h:=q) (n:=n+1) (a:=ξ ⟨3*n+2,0,θ⟩) (len:=N) (cap:=N) (l:=D) Z (λ_ e=>by injection e with e;rw[<-e]) (xr Z i hDN);apply zF _ R5 a5;rintro _ _ _ _⟨rfl,rfl,rfl,rfl,a4⟩;apply(kG);have⟨t1,t2⟩:=xD K;refine retH _ ⟨ω,(zi ω),ω⟩ ⟨_,⟨ω,C8 n,o,a4,t1⟩,?_,bJ⟩;rw[t2,<-J,D6,G0 _ _ (Ds zd),EP (YW _ _ _),C9];obtain⟨x,Z0⟩:∃x,X[O D+g]?=ξ x:=⟨X[O D+g]'Z,CD Z⟩;have a7:=nX.1.get Z0;have R:Z3[O D]?=ξ x:=by rw[a1];exact Z0
 obtain⟨H,a2⟩:∃m,N-O D=m+1:=⟨N-O D-1,Z⟩;rw[a2]at i;have M:=S.ext o (C8 n);have G:x/2^s<18446744073709551616:=C7 (Ei _ _) a7;apply(Zr);repeat apply(zR)
 refine yE (f:=λd:Nat=>ι (d:Int)) (j:=O D+g) R7 M ⟨ω,Z⟩ Z0 (λ_=>rfl) R4 λ_=>?_;apply(zM);apply yn (a:=x) (s:=s) R6 B;refine uH (j:=O D) (v:=ι ((x/2^s:Nat):Int)) R8 ω ⟨Z,by rw[zL];simp⟩ i bJ (λ_=>rfl) R3 (λ_=>rfl) ω λ_=>?_;rw[yk,cI];generalize hh:upd q (3*n+2) _=h2;have A:h2 (3*n+2)=ξ (.row (u64s ((D++[x/2^s])++CI H 0)) e):=by rw[<-hh,zg]
 have F:J3 n h h2:=λb hb=>by rw[<-hh,zm Z,o b hb]
 have a0:=S.ext F (C8 n);have u:O ((D++[x/2^s])++CI H 0)=N:=by simp;omega
 have W:((D++[x/2^s])++CI H 0)[O D]?=ξ (x/2^s):=by grind
 apply(Zg);simp only[yu,xg,zK,yY];refine RH (α:=Nat) (λ_=>[(0,Y a (O X) c),(5,υ (g:Int)),(6,ι (s:Int)),(7,Y (ξ ⟨3*n+2,0,θ⟩) N N),(26,υ (N:Int)),(27,υ (O D:Int))])
  (λz p I w=>I=n+1/\w=[]/\J3 n h p/\p (3*n+2)=ξ (.row (u64s ((D++[z])++CI H 0)) e)/\z<18446744073709551616/\z*2^s=x-x%2^s+Ml Z3 (O D+1) s*18446744073709551616) ?_ ?_
 by_cases hlast:O D+g+1<O X;obtain⟨y,hy⟩:∃x,X[O D+g+1]?=ξ x:=⟨X[O D+g+1]'Z,CD Z⟩;have a8:Z3[O D+1]?=ξ y:=by grind
 rw[ze eU];rw[RC rfl];repeat apply(zR)
 refine yE (f:=λd:Nat=>ι (d:Int)) (j:=O D) R7 (xr (n:=n+1) Z A u) R2 W (λ_=>rfl) R4 λ_=>?_;repeat apply(zR)
 refine yE (f:=λd:Nat=>ι (d:Int)) (j:=O D+g+1) R7 a0 ⟨ω,Z⟩ hy (λ_=>rfl) R4 λ_=>?_;apply(zM);refine ym (a:=64) (b:=s) R6 Z<|xK (a:=y) (s:=64-s) R6 Z<|wG (a:=x/2^s) (b:=y*2^(64-s)%18446744073709551616) R6 ⟨G,Dz _ zd⟩ ?_;refine uH (j:=O D) (v:=ι ((x/2^s|||y*2^(64-s)%18446744073709551616:Nat):Int)) R8 ω ⟨Z,by rw[zL,u];omega⟩ A bJ (λ_=>rfl) R3 (λ_=>rfl) ω λ_=>?_;rw[yk,Dh,D1 _ _ Cy,DY];apply(zN);refine zA (x/2^s|||y*2^(64-s)%18446744073709551616) P6 ⟨ω,ω,λb hb=>(zm Z).trans (F b hb),(zg _ _ _).trans (by rw[Dh];rfl),Nat.or_lt_two_pow (n:=64) G (Dz _ zd),?_⟩;rw[RW a8];exact(YV B).resolve_right Z;rw[za eS];apply(zN);refine zA (x/2^s) P6 ⟨ω,ω,F,A,G,?_⟩;rw[RX Z,DU,DE];have:=DN x (2^s);rw[CY]at this;omega;rintro z t h3 _ _⟨rfl,rfl,a6,a3,a9,hz⟩;apply(Za);refine goOn (D++[z]) aD ⟨ω,ω,ω,ω,ω,eN,Cx⟩ ⟨ω,ω,a6,?_,Bh,Gc K a9,?_⟩;refine a3.trans ?_;rw[show N-O (D++[z])=H from by rw[CJ,C0];omega];rw[CJ,C0,yO,zQ R,C5];rw[RW R]at J;exact YU J hz (Nat.mod_le _ _)
def YY{Z3 V:List Nat}{a s:Nat}(F:O Z3=m+2)(B:NW Z3)(y:Z3[m+1]?=ξ a)(q:9223372036854775808<=a*2^s)(i:a*2^s<18446744073709551616)(Z1:s<64)(e:NW V)(j:wv V=wv Z3*2^s):
  (O V)=m+2/\(∀x,V[m+1]?=ξ x->9223372036854775808<=x)/\wv V<18446744073709551616^(m+2)/\18446744073709551616^(m+1)*9223372036854775808<=wv V:=by
 have g:wv Z3=wv (Z3.take (m+1))+18446744073709551616^(m+1)*a:=(by rw[<-zQ y,show m+1+1=O Z3 from Z,C3]);have I:wv (Z3.take (m+1))<18446744073709551616^(m+1):=(by have:=wW (B.1.take (m+1));exact BA);have o:(a+1)*2^s<=18446744073709551616:=(by rw[fa (s:=s) Z]at i⊢;exact CM _ (Nat.lt_of_mul_lt_mul_right i));rw[C5 _ (m+1)];generalize hP:18446744073709551616^(m+1)=P at*;have D:0<P:=Z;have f:wv V<P*18446744073709551616:=by
  rw[j,g];have J:(wv (Z3.take (m+1))+P*a)*2^s<(P*(a+1))*2^s:=(by refine Er ?_ (Ds zd);rw[DS,DD];omega);have K:P*(a+1)*2^s<=P*18446744073709551616:=by rw[Di];exact C4 _ o
  omega
 have p:P*9223372036854775808<=wv V:=(by rw[j,g,Dq,Di];have:=C4 P q;omega);have H:O V<=m+2:=e.len_le (by rw[C5 _ (m+1),hP];exact f);have G:m+2<=O V:=(by obtain l|l:=EB (O V) (m+2);have M:=wW e.1;have u:18446744073709551616^O V<=18446744073709551616^(m+1):=CQ zd Z;rw[hP]at u;omega;exact l);refine⟨Z,λx w=>?_,f,p⟩;have L:wv V=wv (V.take (m+1))+P*x:=(by rw[<-hP,<-zQ w,show m+1+1=O V from Z,C3]);have v:wv (V.take (m+1))<P:=(by have:=wW (e.1.take (m+1));rw[DA,DR Z,hP]at this;exact this);obtain b|b:=EB x 9223372036854775808;have:=C4 P b;rw[Jn]at this;omega;exact b
theorem YZ{P S V:List Nat}(f:O Z0=N)(j:J5 Z0)(p:wv V<18446744073709551616^N)(h:wv ((P++(Z0++top::S)).drop (O P+1))<wv V)(o:1<=N):
  wv S=0/\wv (Z0++[top])<18446744073709551616*wv V:=by
 have e:(P++(Z0++top::S)).drop (O P+1)=(Z0++top::S).drop 1:=by simp_all
 rw[e]at h;cases Z0 with
 |nil=>simp at f;omega
 |cons z Z0=>
  rw[List.cons_append,List.drop_succ_cons,Dy]at h;rw[wZ,show wv (top::S)=top+18446744073709551616*wv S from rfl]at h;have g:O Z0+1=N:=by simpa using f
  have b:wv S=0:=(by obtain a|a:=Fr (wv S);exact a;have i:18446744073709551616^O Z0*(18446744073709551616*1)<=18446744073709551616^O Z0*(18446744073709551616*wv S):=C4 _ (C4 _ a);rw[DD,<-C5,show Z0.length.succ=N from g]at i;rw[DS]at h;omega);refine⟨b,?_⟩;have l:wv (Z0++[top])<wv V:=(by rw[yO];rw[b,Eo,DE]at h;exact h);have q:=j z eC;show z+18446744073709551616*wv (Z0++[top])<_;omega
def Y0(P Z0 S:List Nat)(top:Nat):wv (P++(Z0++top::S))=wv P+18446744073709551616^O P*(wv (Z0++[top])+18446744073709551616^(O Z0+1)*wv S):=by rw[show Z0++top::S=(Z0++[top])++S from by simp,wZ,wZ,CJ,C0]
theorem Y2{P S a V Q:List Nat}{b q e:Nat}(i:O a=O Z0)(g:wv (a++[b])+wv V*q=wv (Z0++[top]))(f:e=wv (P++(Z0++top::S))+wv V*wv Q*18446744073709551616^(O P+1)):
  e=wv (P++(a++b::S))+wv V*wv (q::Q)*18446744073709551616^O P:=by
 rw[Y0]at f⊢;rw[f,i,<-g,C5 _ (O P),show wv (q::Q)=q+18446744073709551616*wv Q from rfl];generalize 18446744073709551616^O P=A;generalize 18446744073709551616^(O Z0+1)*wv S=T;generalize wv (a++[b])=Z4;generalize wv V=v;generalize wv Q=w;rw[DS v,Dq,DS A,DS A,DS A];have j:v*(18446744073709551616*w)*A=v*w*(A*18446744073709551616):=by grind
 have l:A*(v*q)=v*q*A:=CY _ _;omega
theorem Y4{a V:List Nat}(b:O a=N)(F:O Z0=N)(g:J5 a)(j:0<wv V)(B:wv a+wv V*d=wv Z0+c*18446744073709551616^N)(s:wv (Z0++[top])/wv V<=d)(p:d<=wv (Z0++[top])/wv V+1):
  (c<=top->d=wv (Z0++[top])/wv V/\wv (a++[top-c])=wv (Z0++[top])%wv V)/\(top<c->d=wv (Z0++[top])/wv V+1/\wv (Z0++[top])%wv V+(c-top)*18446744073709551616^N=wv a+wv V):=by
 have u:=wW g;rw[b]at u;have K:wv (Z0++[top])=wv Z0+18446744073709551616^N*top:=by rw[yO,F]
 have i:∀t,wv (a++[t])=wv a+18446744073709551616^N*t:=λt=>by rw[yO,b]
 have e:=DN (wv (Z0++[top])) (wv V);have w:=Dz (wv (Z0++[top])) j;obtain⟨q,G⟩:∃q,q=wv (Z0++[top])/wv V:=⟨_,ω⟩;obtain⟨r,H⟩:∃r,r=wv (Z0++[top])%wv V:=⟨_,ω⟩;rw[<-G]at e s p⊢;rw[<-H]at e w⊢;generalize 18446744073709551616^N=P at*;generalize wv V=v at*;generalize wv Z0=z at*;have o:d=q\/d=q+1:=Z;constructor;intro l;obtain⟨y,I⟩:∃y,top=c+y:=⟨top-c,Z⟩;rw[i];have f:top-c=y:=Z;have D:P*top=c*P+P*y:=by grind
 rw[f];obtain rfl|rfl:=o;exact⟨ω,Z⟩;rw[DS,DD]at B;omega;intro l;obtain⟨y,I⟩:∃y,c=top+(y+1):=⟨c-top-1,Z⟩;have f:c-top=y+1:=Z;have D:c*P=P*top+(y+1)*P:=by grind
 have J:(y+1)*P=y*P+P:=by grind
 rw[f];obtain rfl|rfl:=o;omega;rw[DS,DD]at B;exact⟨ω,Z⟩
theorem Y6(k:Nat)(hA:Sl h n 1 (Y a1 l1 c1) (u64s A))(hC:Sl h n 1 (Y a2 l2 c2) (u64s C))(nA:NW A)(nC:NW C)(hb:O A<10000000/\O C<10000000)(a5:0<wv C):
  CF (J4 (k+5)) 174 [Y a1 l1 c1,Y a2 l2 c2] h n λv p n' w=>∃vq vr Lq Lr,v=.tuple #[vq,vr]/\w=[]/\n<=n'/\J3 n h p/\Sl p n' 1 vq (u64s Lq)/\NW Lq/\Sl p n' 1 vr (u64s Lr)/\NW Lr/\wv Lq=wv A/wv C/\wv Lr=wv A%wv C/\xC n vq/\(xC n vr\/vr=Y a1 l1 c1):=by
 apply zw R4;have e1:=hA.lenW;have e2:=hC.lenW;subst e1 e2;apply(Za);apply(Zb);apply yi _ R5 (uF (k+1) hA hC nA nC Z);rintro _ rfl;by_cases hlt:wv A<wv C
 .rw[Lz hlt];apply(Zr);exact retH [η,Y a1 (O A) c1] R3 ⟨_,_,[],A,rfl,rfl,Cy,Fy _ _,.nil (.inl rfl),aa6,hA,nA,by rw[EP hlt];rfl,by rw[C1 hlt],trivial,.inr rfl⟩
 have du:¬cmpZ (wv A) (wv C)<0:=by grind [wv,sO,jd,EB]
 apply(Zj);by_cases hC1:O C=1
 .obtain⟨y,rfl⟩:=FX.1 hC1;have L:=nC.1 y eC;rw[pP]at a5⊢;rw[show[y].length=1 from rfl]at hC⊢;apply(Zs);refine yE (f:=λd:Nat=>ι (d:Int)) (l:=[y]) (j:=0) R7 hC R2 rfl (λ_=>rfl) R4 λ_=>?_;apply zF _ R5 (YA k Z nA.1 ⟨a5,L⟩ hA);rintro _ G g _⟨v1,L1,rfl,⟨rfl,ap,ax,J,cu⟩,dj,_,d6⟩;obtain⟨a3,l3,c3,rfl,_⟩:=J.len;apply(Zl);apply zF _ R5 (sH (k+3) G g (w:=wv A%y) (Ir (Dz _ a5) L));rintro v2 h2 n2 _⟨L2,⟨rfl,da,Z3,av,cv⟩,dk,_,d7⟩;obtain⟨a4,l4,c4,rfl,_⟩:=av.len;apply(kG);exact retH [Y a3 l3 c3,Y a4 l4 c4] R3 ⟨_,_,L1,L2,rfl,rfl,by show n<=n2;omega,ax.trans Z3 ap,J.ext Z3 da,cu,av,cv,dj,dk,d6,.inl (d7.mono ap)⟩
 have e0:2<=O C:=by
  rcases EB (O C) 2 with h|h
  .have:O C=0:=Z;rw[CT.1 this]at a5;exact Cu a5 zd
  exact h
 obtain⟨m,hm⟩:∃m,O C=m+2:=⟨O C-2,Z⟩;have dz:m+2<=O A:=by
  rcases EB (O A) (O C) with hl|hl
  .have:=nA.len_lt nC hl;omega
  omega
 rw[hm]at hC⊢;apply(Zp);obtain⟨y1,ad⟩:∃x,C[m+1]?=ξ x:=⟨C[m+1]'Z,CD Z⟩;have cr:=nC.1.get ad;have cq:y1≠0:=by
  obtain⟨i,d,b9⟩:=Go.Proofs.YtdeaddceicfanaaGreatDoor.snoc (l:=C) (by intro e;rw[e]at hm;simp at hm);have d9:O i=m+1:=by rw[b9]at hm;simp at hm;omega
  rw[b9,<-d9,Dn Cy,DY]at ad;have:d=y1:=by simpa using ad
  rw[<-this];exact as4 (by rw[<-b9];exact nC)
 repeat apply(zR)
 refine yE (f:=λd:Nat=>ι (d:Int)) (j:=m+1) R7 hC ⟨rfl,Z⟩ ad (λ_=>rfl) R4 λ_=>?_;apply yi _ R5 (fX (k+2) h n cr cq);rintro _⟨s,rfl,cm,J,av⟩;apply se (c:=s) R7 Z;apply(ZC);apply zF _ R5 (tL (k+2) (m:=s) hC nC Z);rintro vV G g _⟨V,⟨rfl,ap,ax,W,nV⟩,bh,e4⟩;obtain⟨al,bp,ch,cg⟩:=YY hm nC ad J av cm nV bh;obtain⟨aV,lV,cV,rfl,_⟩:=W.len;have am:=W.lenW;rw[al]at am;subst am;apply(Zl);apply vB (len:=O A+1) (cap:=O A+1) R9 Z;rw[show zn (ι 0)=[ι 0]from rfl,xO];generalize hh:upd G (3*g+2) _=h2;have au:∃e,h2 (3*g+2)=ξ (.row (u64s (CI (O A+1) 0)) e):=⟨_,gZ⟩;obtain⟨eR,au⟩:=au;have Z3:J3 g G h2:=by grind [E9]
 clear hh;apply(kG);apply(Zw);apply zF _ R5 (tL (k+2) (m:=s) (hA.ext (ax.trans Z3 ap) (show n<=g+1 by omega)) nA Z);rintro vS h3 o _⟨S0,⟨rfl,e5,bi,aw,nS⟩,ca,_⟩;obtain⟨aS,lS,cS,rfl,_⟩:=aw.len;have bn:=aw.lenW;subst bn;have bz:h3 (3*g+2)=_:=(bi _ Z).trans au;have az:=wW nA.1;have cf:wv S0<18446744073709551616^(O A+1):=by
  rw[ca,C5];have G:(2:Nat)^s<18446744073709551616:=Nat.pow_lt_pow_right zd (show s<64 by omega);have h2:wv A*2^s<=wv A*18446744073709551616:=C4 _ Z;have h3:wv A*18446744073709551616<18446744073709551616^O A*18446744073709551616:=Er az zd;omega
 have b3:O S0<=O A+1:=nS.len_le cf;apply lZ (m:=O S0) R7 (uX aw) b3 bz (by rw[zL,zL,Dk];exact b3) (xW S0) AI;rw[zL,rf,<-vg,JQ];obtain⟨K,ak⟩:∃R,R=S0++CI (O A+1-O S0) 0:=⟨_,rfl⟩;rw[<-ak];have b2:O K=O A+1:=by grind
 have b1:J5 K:=by rw[ak];exact nS.1.append (ap0 _)
 have ae:wv K=wv A*2^s:=by rw[ak,wZ,RV,Eo,DE,ca]
 generalize hh:upd h3 (3*g+2) _=h4;have c0:h4 (3*g+2)=ξ (.row (u64s K) eR):=by rw[<-hh,zg]
 have cb:J3 g G h4:=λb hb=>by rw[<-hh,zm Z,bi b Z,Z3 b hb]
 clear hh bz au Z3 bi aw;apply(zN);obtain⟨M,hM⟩:∃M,M=O A-(m+2):=⟨_,rfl⟩;repeat apply(zR)
 rw[show(O A:Int)-((m+2:Nat):Int)+1=((M+1:Nat):Int)from Z];apply vB (len:=M+1) (cap:=M+1) R9 Z;rw[show zn (ι 0)=[ι 0]from rfl,xO];generalize hh:upd h4 (3*o+2) _=h5;have aq:∃e,h5 (3*o+2)=ξ (.row (u64s (CI (M+1) 0++[])) e):=⟨_,by rw[<-hh,zg,Dm]⟩;obtain⟨eQ,aq⟩:=aq;have c5:h5 (3*g+2)=ξ (.row (u64s K) eR):=by rw[<-hh,zm Z];exact c0
 have cd:J3 g G h5:=λb hb=>by rw[<-hh,zm Z,cb b hb]
 clear hh c0 cb;apply(Zn);have ab:wv (K.drop (M+1))<wv V:=by
  have G:=pu K (M+1) Z;have h2:18446744073709551616^(M+1)*wv (K.drop (M+1))<18446744073709551616^(M+1)*wv V:=by
   refine C7 (show _<=wv K by omega) ?_;rw[ae];have h3:(2:Nat)^s<=9223372036854775808:=CQ zd (show s<=63 by omega);have h4:wv A*2^s<=wv A*9223372036854775808:=C4 _ h3;have h5:wv A*9223372036854775808<18446744073709551616^O A*9223372036854775808:=Er az zd;have h6:18446744073709551616^O A*9223372036854775808=18446744073709551616^(M+1)*(18446744073709551616^(m+1)*9223372036854775808):=by
    rw[<-Di,<-DV,show M+1+(m+1)=O A from Z]
   have h7:=C4 (18446744073709551616^(M+1)) cg;omega
  exact Nat.lt_of_mul_lt_mul_left h2
 have b4:0<wv V:=Z;refine ye (α:=Nat×List Nat×List Nat) (λz=>[(8,υ ((m+2:Nat):Int)),(9,ι (s:Int)),(10,Y aV (m+2) cV),(11,Y (ξ ⟨3*g+2,0,θ⟩) (O A+1) (O A+1)),(12,Y (ξ ⟨3*o+2,0,θ⟩) (M+1) (M+1)),(13,υ ((z.1:Int)-1))])
  (λz p n' w=>n'=o+1/\w=[]/\J3 g G p/\p (3*g+2)=ξ (.row (u64s z.2.1) eR)/\p (3*o+2)=ξ (.row (u64s (CI z.1 0++z.2.2)) eQ)/\O z.2.1=O A+1/\J5 z.2.1/\z.1<=M+1/\O z.2.2=M+1-z.1/\J5 z.2.2/\wv A*2^s=wv z.2.1+wv V*wv z.2.2*18446744073709551616^z.1/\wv (z.2.1.drop z.1)<wv V) (λz=>z.1)
  (M+1,K,[]) ⟨rfl,rfl,rfl,rfl,rfl,dG,Cx⟩ ⟨rfl,rfl,cd,c5,aq,b2,b1,Cy,eC,HO,by rw[ae,show wv []=0 from rfl,Eo,DU,DE],ab⟩ (by show M+1<LL;unfold LL;omega) ?_
 clear c5 aq cd ab ae b1 b2 ak;rintro⟨j,R,Q⟩ t h6 _ _ ⟨rfl,rfl,bj,aa,a9,br,T,hj,cz,b0,hE,I⟩;simp only at aa a9 br T hj cz b0 hE I;apply(zN);cases j with
 |zero=>
  rw[Dy]at I;rw[E7,Dt]at a9;rw[EA,DD,bh]at hE;rw[bh]at I;obtain⟨r1,r2⟩:=iZ (Z4:=wv A) (y:=wv C) (s:=s) (Q:=wv Q) (r:=wv R) (by rw[hE,D6,CY (wv Q)]) I;apply(Zz);have di:=xi (k+3) (h:=h6) (n:=o+1) (a:=ξ ⟨3*o+2,0,θ⟩) (len:=M+1) (cap:=M+1) (l:=Q) Z (λ_ e=>by injection e with e;rw[<-e]) (xr Z a9 Z);apply zF _ R5 di;rintro _ h6 _ _⟨rfl,rfl,rfl,rfl,df⟩;repeat apply(zR)
  have cp:=xi (k+3) (h:=h6) (n:=o+1) (a:=ξ ⟨3*g+2,0,θ⟩) (len:=O A+1) (cap:=O A+1) (l:=R) Z (λ_ e=>by injection e with e;rw[<-e]) (xr Z aa br);apply zF _ R5 cp;rintro _ h6 _ _⟨rfl,rfl,rfl,rfl,dg⟩;obtain⟨dp,dq⟩:=xD b0;obtain⟨dr,ds⟩:=xD T;repeat apply(zR)
  apply zF _ R5 (om (k+2) (m:=s) dg dr (by have:=xU R;omega));rintro vr h7 n7 _⟨L7,⟨rfl,db,a0,c6,cw⟩,dl,d8⟩;obtain⟨a7,l7,c7,rfl,_⟩:=c6.len;apply(kG);exact retH [Y (ξ ⟨3*o+2,0,θ⟩) (O (yf Q)) (M+1),Y a7 l7 c7] R3 ⟨_,_,_,L7,rfl,rfl,by show n<=n7;omega,λb hb=>(a0 b Z).trans ((bj b Z).trans (ax b hb)),df.ext a0 db,dp,c6,cw,by rw[dq,r1],by rw[dl,ds,r2],by show 3*n<=3*o+2;omega,.inl (d8.mono Z)⟩
 |succ i=>
 obtain⟨P,Z0,top,S,cx,hP,hZ⟩:∃P Z0 top S,R=P++(Z0++top::S)/\O P=i/\O Z0=m+2:=by
  have hd:(R.drop i).drop (m+2)≠[]:=by grind [O,Ek,Gg]
  obtain⟨top,S,hS⟩:=List.exists_cons_of_ne_nil hd;exact⟨R.take i,(R.drop i).take (m+2),top,S,by rw[<-hS,DP,DP],Ab,ru⟩
 subst cx hP;have b3:O S+(O P+m+3)=O A+1:=by grind
 have cy:J5 P:=λd hd=>T d (by simp[hd]);have b5:J5 Z0:=λd hd=>T d (by simp[hd]);have c9:top<18446744073709551616:=T top eC;have d1:J5 S:=λd hd=>T d (by simp[hd]);obtain⟨d0,ci⟩:=YZ hZ b5 ch I Z;have be:=(W.ext bj (show g<=o+1 by omega));have bo:Ks (3*g+2) (Y aV (m+2) cV):=W.below.off Z;apply(Zs);apply rt (O P) (O P+m+3) R9 Z Z Z;rw[show 0+O P*1=O P from Z,show (O P)+m+3-O P=m+3 from Z];repeat apply(zR)
 have bs:Sl h6 (o+1) 1 (Y (ξ ⟨3*g+2,O P,θ⟩) (m+3) (O A+1-O P)) (u64s (Z0++[top])):=by
  have:=dP (h:=h6) (n:=o+1) (b:=3*g+2) (cap:=O A+1-O P) (P:=P) (Z0:=Z0++[top]) (S:=S) (e:=eR) Z (by rw[aa];simp) Bh;rw[CJ,C0,hZ]at this;exact this
 apply yi _ R5 (eO k bs be (m:=m) ⟨by rw[CJ,C0,hZ],al,Gc b5 c9,nV.1,bp,ci⟩ Z);rintro _⟨d,rfl,bv,d4,d5⟩;apply(Zl);apply rt (O P) (O P+(m+2)) R9 Z Z Z;rw[show 0+O P*1=O P from Z,show (O P)+(m+2)-O P=O Z0 from Z];repeat apply(zR)
 apply zF _ R5 (YQ (k+2) (n:=o+1) (b:=3*g+2) Z aa Z b5 be nV.1 bo Z Z bv);rintro _ h7 _ w7⟨u,c,rfl,d3,⟨dm,rfl,a0,bc⟩,af,dt,bg⟩;try simp only[tH]
 rw[my (w:=[]) λy L=>by rw[dm y L];show 3*n<=3*g+2;omega];have a8:O u=m+2:=Z;rw[hZ]at bg;obtain⟨g1,g2⟩:=Y4 a8 hZ af b4 bg d4 d5;have bw:h7 (3*o+2)=_:=(a0 _ Z Z).trans a9;have ah:J3 g G h7:=λb hb=>by rw[a0 b Z Z,bj b hb]
 clear a0 aa a9 bs;have cn:=(W.ext ah (show g<=o+1 by omega));have an:∀F,O (P++(u++F::S))=O A+1:=λF=>by simp only[CJ,DJ];omega
 have cl:∀F,(P++(u++F::S))[O P+(m+2)]?=ξ F:=λF=>by
  rw[Dn Z,show (O P)+(m+2)-O P=O u from Z,Dn Cy,DY];rfl
 have bf:∀(Z2:List Nat) F bm,O Z2=m+2->(P++(Z2++F::S)).set (O P+(m+2)) bm=P++(Z2++bm::S):=λZ2 F bm h2=>by
  rw[D1 _ _ Z,show (O P)+(m+2)-O P=O Z2 from Z,D1 _ _ Cy,DY];rfl
 apply(Zl);refine yE (f:=λd:Nat=>ι (d:Int)) (j:=O P+(m+2)) R7 (xr (n:=o+1) Z bc (an top)) ⟨rfl,Z⟩ (cl top) (λ_=>rfl) R4 λ_=>?_;apply(kG);apply(Zw);apply(zR);apply(Zb);apply sd (a:=top) (b:=c) R6 ⟨c9,d3⟩;obtain⟨Z1,dh⟩:∃x,x=(top+18446744073709551616-c)%18446744073709551616:=⟨_,rfl⟩;rw[<-dh];have co:Z1<18446744073709551616:=Z;refine uH (j:=O P+(m+2)) (v:=ι (Z1:Int)) R8 Z ⟨Z,by rw[zL,an];omega⟩ bc AI (λ_=>rfl) R3 (λ_=>rfl) rfl λ_=>?_;rw[yk,bf u top Z1 a8];generalize hh:upd h7 (3*g+2) _=h8;have bd:h8 (3*g+2)=ξ (.row (u64s (P++(u++Z1::S))) eR):=by rw[<-hh,zg]
 have bb:h8 (3*o+2)=ξ (.row (u64s (CI (O P+1) 0++Q)) eQ):=by rw[<-hh,zm Z];exact bw
 have bk:J3 g G h8:=λb hb=>by rw[<-hh,zm Z,ah b hb]
 clear hh bc bw ah cn;apply(Zt);apply lW R6;simp only[yu,xg,zK,yY];refine yj (α:=List Nat×Nat×Nat) (λz=>[(8,υ ((m+2:Nat):Int)),(9,ι (s:Int)),(10,Y aV (m+2) cV),(11,Y (ξ ⟨3*g+2,0,θ⟩) (O A+1) (O A+1)),(12,Y (ξ ⟨3*o+2,0,θ⟩) (M+1) (M+1)),(13,υ (O P:Int)),(14,ι (z.2.2:Int))])
  (λz p n' w=>n'=o+1/\w=[]/\J3 g G p/\p (3*g+2)=ξ (.row (u64s (P++(z.1++z.2.1::S))) eR)/\p (3*o+2)=ξ (.row (u64s (CI (O P+1) 0++Q)) eQ)/\O z.1=m+2/\J5 z.1/\z.2.1<18446744073709551616/\z.2.2=wv (Z0++[top])/wv V/\z.2.2<18446744073709551616/\wv (z.1++[z.2.1])=wv (Z0++[top])%wv V) ?_ ?_
 .by_cases hlt2:top<c;case neg=>
   obtain⟨ay,ai⟩:=g1 Z;rw[za eS];apply(zN);have ag:Z1=top-c:=Z;exact zA (u,Z1,d) ⟨rfl,rfl,rfl,rfl,rfl,dG,rfl,Cx⟩ ⟨rfl,rfl,bk,bd,bb,a8,af,co,ay,bv,by simp only;rw[ag];exact ai⟩
  obtain⟨ay,ai⟩:=g2 hlt2;have dw:1<=d:=by grind
  rw[ze eU];apply(Zi);apply ym (a:=d) (b:=1) R6 Z;apply(Zn);apply(kG);refine ye (α:=List Nat×Nat) (λz=>[(8,υ ((m+2:Nat):Int)),(9,ι (s:Int)),(10,Y aV (m+2) cV),(11,Y (ξ ⟨3*g+2,0,θ⟩) (O A+1) (O A+1)),(12,Y (ξ ⟨3*o+2,0,θ⟩) (M+1) (M+1)),(13,υ (O P:Int)),(14,ι ((d-1:Nat):Int)),(17,ι (z.2:Int)),(113,Y aV (m+2) cV),(114,υ ((m+2:Nat):Int)),(115,υ (O z.1:Int))])
   (λz p n' w=>n'=o+1/\w=[]/\J3 g G p/\p (3*g+2)=ξ (.row (u64s (P++((z.1++u.drop (O z.1))++Z1::S))) eR)/\p (3*o+2)=ξ (.row (u64s (CI (O P+1) 0++Q)) eQ)/\O z.1<=m+2/\J5 z.1/\z.2<=1/\wv z.1+z.2*18446744073709551616^O z.1=wv (u.take (O z.1))+wv (V.take (O z.1))) (λz=>m+2-O z.1)
   ([],0) ⟨rfl,rfl,rfl,rfl,rfl,dG,rfl,rfl,rfl,rfl,rfl,Cx⟩ ⟨rfl,rfl,bk,bd,bb,Cz,HO,Bp,oo⟩ (by show m+2-0<LL;unfold LL;omega) ?_
  clear bd bb bk;rintro⟨D,cc⟩ t h9 _ _ ⟨rfl,rfl,ac,B,ar,cs,aj,b8,a6⟩;simp only at B cs aj b8 a6;apply(zN);by_cases hDm:O D=m+2
  .have cj:u.drop (O D)=[]:=by grind
   rw[cj,Dm]at B;rw[hDm,<-a8,C3,a8,<-al,C3,al]at a6;apply(Zj);have ce:=wW aj;rw[hDm]at ce;have dx:=Dz (wv (Z0++[top])) b4;have dn:c-top=1/\cc=1:=by
    obtain⟨y,L⟩:∃y,c-top=y+1:=⟨c-top-1,Z⟩;rw[L]at ai⊢;rw[<-ai]at a6;generalize 18446744073709551616^(m+2)=PP at*
    have e1:(y+1)*PP=y*PP+PP:=by rw[Dq,EM]
    rcases Fr y with bl|bl
    .subst bl;rcases Fr cc with bu|bu
     .subst bu;rw[DU]at a6;omega
     exact⟨rfl,Z⟩
    have e2:1*PP<=y*PP:=CM _ bl;have e3:cc*PP<=1*PP:=CM _ b8;omega
   obtain⟨dy,rfl⟩:=dn;have ct:wv D=wv (Z0++[top])%wv V:=by grind
   have ag:Z1=18446744073709551615:=Z;subst ag;repeat apply(zR)
   refine yE (f:=λd:Nat=>ι (d:Int)) (j:=O P+(m+2)) R7 (xr (n:=o+1) (l:=O A+1) Z B Bc) ⟨rfl,Z⟩ (show(P++(D++18446744073709551615::S))[O P+(m+2)]?=ξ 18446744073709551615 from by rw[Dn Z,show (O P)+(m+2)-O P=O D from Z,Dn Cy,DY];rfl) (λ_=>rfl) R4 λ_=>?_;apply(zM);apply uo (a:=18446744073709551615) (b:=1) R6;rw[show(18446744073709551615+1)%18446744073709551616=0 from rfl];refine uH (j:=O P+(m+2)) (v:=ι ((0:Nat):Int)) R8 Z ⟨Z,by rw[zL];simp only[CJ,DJ];omega⟩ B AI (λ_=>rfl) R3 (λ_=>rfl) rfl λ_=>?_;rw[yk,bf D _ 0 hDm];apply(kG);exact zA (D,0,d-1) ⟨rfl,rfl,rfl,rfl,rfl,rfl,rfl,Cx⟩ ⟨rfl,rfl,λb hb=>(zm Z).trans (ac b hb),zg _ _ _,(zm Z).trans ar,hDm,aj,sa,by show d-1=_;rw[ay];exact FI _ _,by show d-1<_;omega,by show wv (D++[0])=_;rw[yO,Eo,DE,ct]⟩
  obtain⟨y,L⟩:∃x,V[O D]?=ξ x:=⟨V[O D]'Z,CD Z⟩;obtain⟨x,H⟩:∃x,u[O D]?=ξ x:=⟨u[O D]'Z,CD Z⟩;have e7:=nV.1.get L;have e6:=af.get H;have ao:(P++((D++u.drop (O D))++Z1::S)).length=O A+1:=by grind
  apply(Zs);refine yE (f:=λd:Nat=>ι (d:Int)) (j:=O D) R7 (W.ext ac (show g<=o+1 by omega)) R2 L (λ_=>rfl) R4 λ_=>?_;apply(Zl);refine yE (f:=λd:Nat=>ι (d:Int)) (j:=O P+O D) R7 (xr (n:=o+1) Z B ao) ⟨rfl,Z⟩ (show(P++((D++u.drop (O D))++Z1::S))[O P+O D]?=ξ x from by rw[Dn Z,show (O P)+O D-O P=O D from Z,DW Al];exact uy H) (λ_=>rfl) R4 λ_=>?_;repeat apply(zR)
  apply vt (x:=x) (y:=y) (c:=cc) R5 b8;obtain⟨s1,J⟩:∃z,z=(x+y+cc)%18446744073709551616:=⟨_,rfl⟩;obtain⟨c1,b7⟩:∃z,z=(x+y+cc)/18446744073709551616:=⟨_,rfl⟩;rw[<-J,<-b7];repeat apply(zR)
  refine uH (j:=O P+O D) (v:=ι (s1:Int)) R8 Z ⟨Z,by rw[zL,ao];omega⟩ B AI (λ_=>rfl) R3 (λ_=>rfl) rfl λ_=>?_;rw[yk,kg _ H];apply(Zn);have de:s1<18446744073709551616:=Z;have ck:c1<=1:=by rw[b7];omega
  have dd:18446744073709551616*c1+s1=x+y+cc:=by rw[J,b7];omega
  refine goOn (D++[s1],c1) (by show m+2-O (D++[s1])<m+2-O D;rw[CJ,C0];omega) ⟨rfl,rfl,rfl,rfl,rfl,rfl,rfl,rfl,rfl,rfl,eN,Cx⟩ ⟨rfl,rfl,λb hb=>(zm Z).trans (ac b hb),zg _ _ _,(zm Z).trans ar,by show(D++[s1]).length<=_;rw[CJ,C0];omega,Gc aj de,ck,?_⟩;simp only;rw[CJ,C0,yO,zQ H,zQ L,C5];have:=nK a6 dd;omega
 rintro⟨Zf,F,q⟩ t h9 _ _ ⟨rfl,rfl,ac,B,ar,bt,b6,c8,dc,bx,ba⟩;simp only at B bt b6 c8 dc bx ba;apply(Zg);refine uH (j:=O P) (v:=ι (q:Int)) R8 rfl ⟨Z,by rw[zL,CJ,Dk];omega⟩ ar (by show 3*n<=3*o+2;omega) (λ_=>rfl) R3 (λ_=>rfl) rfl λ_=>?_;rw[yk,cH];apply(Zn);have d2:wv (Zf++[F])+wv V*q=wv (Z0++[top]):=by grind [D6,DN]
 have bq:=Y2 (P:=P) (S:=S) (V:=V) (Q:=Q) (bt.trans hZ.symm) d2 hE;refine goOn (O P,P++(Zf++F::S),q::Q) (by show O P<O P+1;omega) ⟨rfl,rfl,rfl,rfl,rfl,rfl,Cx⟩ ⟨rfl,rfl,λb hb=>(zm Z).trans (ac b hb),(zm Z).trans B,zg _ _ _,Bc,cy.append (b6.append (λx H=>by
  rcases De.1 H with rfl|H
  .exact c8
  .exact d1 x H)),by show O P<=_;omega,by show(q::Q).length=_;rw[DJ];omega,λx H=>by
  rcases De.1 H with rfl|H
  .exact bx
  .exact b0 x H,bq,?_⟩
 simp only;rw[Ju rfl,show Zf++F::S=(Zf++[F])++S from by simp,wZ,d0,Eo,DE,ba];exact Dz _ b4
end
section
variable{B m r0 r1 u u0 u1 u2 v1 v2:Nat}{odd:Bool}
def sg(odd:Bool):Int:=if odd then -1 else 1
def mJ(o:Bool):sg (!o)= - sg o:=by cases o<;>rfl
theorem RY(o:Bool):sg o*sg o=1:=by cases o<;>rfl
def lp(A B:Nat)(s:Int)(u v:Nat):Int:=s*((u:Int)*A-(v:Int)*B)
structure LehS (A B r0 r1 E:Nat):Prop where
 a:E*r0<=A/\A<E*r0+E
 b:E*r1<=B/\B<E*r1+E
 le:B<=A
 pos:1<=B
structure Leh (A B r0 r1:Nat)(x y u0 u1 u2 v0 v1 v2:Nat)(odd:Bool):Prop where
 hx:(x:Int)=lp r0 r1 (sg odd) u1 v1
 hy:(y:Int)=lp r0 r1 (- sg odd) u2 v2
 Kf:(u1:Int)*v2-u2*v1=sg odd
 le:u2<=v2/\u1+u2<=v1+v2/\1<=v2
 yx:y<=x
 gcd:JM (lp A B (sg odd) u1 v1) (lp A B (- sg odd) u2 v2)=CZ A B
 sum:(v1=0/\u1=1/\u2=0/\v2=1/\odd=χ)\/(1<=v1/\lp A B (sg odd) u1 v1+lp A B (- sg odd) u2 v2<=A/\lp A B (sg odd) u1 v1<=B)
 out:v0=0\/(0<=lp A B (sg odd) u1 v1/\lp A B (sg odd) u1 v1<=lp A B (- sg odd) u0 v0/\JM (lp A B (- sg odd) u0 v0) (lp A B (sg odd) u1 v1)=CZ A B/\lp A B (- sg odd) u0 v0+lp A B (sg odd) u1 v1<=A/\lp A B (- sg odd) u0 v0<=B)
def Leh.init{A:Nat}(h:r1<=r0):Leh A B r0 r1 r0 r1 0 1 0 0 0 1 χ:=by refine⟨by simp[lp,sg],by simp[lp,sg],by simp[sg],Z,h,by simp[lp,sg],.inl R5,.inl ω⟩
theorem RZ{A E:Nat}(c:LehS A B r0 r1 E){s:Int}(d:s=1\/s= -1){v z:Nat}(i:(z:Int)=lp r0 r1 s u v)(D:u<=m)(hv:v<=m)(hm:m<=z):0<=lp A B s u v:=by
 obtain⟨α,j⟩:∃α,A=E*r0+α:=⟨A-E*r0,by have:=c.a;omega⟩;obtain⟨β,l⟩:∃β,B=E*r1+β:=⟨B-E*r1,by have:=c.b;omega⟩;have y:α<E:=by have:=c.a;omega
 have C:β<E:=by have:=c.b;omega
 have f:u*α<=z*E:=C6 Z Z;have g:v*β<=z*E:=C6 Z Z;have o:(u:Int)*α<=z*E:=by exact_mod_cast f
 have p:(v:Int)*β<=z*E:=by exact_mod_cast g
 have q:(0:Int)<=(u:Int)*α:=Z;have w:(0:Int)<=(v:Int)*β:=Z;have e:lp A B s u v=z*E+s*(u*α - v*β):=(by rw[i];unfold lp;rw[j,l];push_cast;grind);rw[e];obtain rfl|rfl:=d<;>omega
def Y8(o:Bool):sg o=1\/sg o= -1:=by cases o<;>simp[sg]
def ZG(o:Bool): - sg o=1\/ - sg o= -1:=by cases o<;>simp[sg]
theorem R0(A B:Nat)(s:Int)(u v a v':Nat):lp A B s u v+lp A B s a v'=lp A B s (u+a) (v+v'):=by unfold lp;push_cast;grind
theorem iE(A B:Nat)(s:Int)(u v:Nat):lp A B (- s) u v= - lp A B s u v:=by unfold lp;grind
theorem Leh.step{A E x y V:Nat}(D:LehS A B r0 r1 E)(h:Leh A B r0 r1 x y u0 u1 u2 V v1 v2 odd)(K:v2<=y)(L:v1+v2<=x-y):
  Leh A B r0 r1 y (x%y) u1 u2 (u1+x/y*u2) v1 v2 (v1+x/y*v2) (!odd)/\u1+x/y*u2<=r0/\v1+x/y*v2<=r0/\x%y<y/\1<=y:=by
 have⟨F,e,l,⟨G,Z4,Z0⟩,J,v,d,T⟩:=h;have a:1<=y:=Z;have b:x%y<y:=Dz _ a;have Z3:1<=x/y:=(aa7 a).2 J;have i:x%y+x/y*y=x:=by rw[CY];exact Nat.mod_add_div x y
 generalize hqq:x/y=q at*;generalize hrr:x%y=r at*;have I:0<=lp A B (- sg odd) u2 v2:=RZ D (ZG odd) e G Cy K;have H:0<=lp A B (sg odd) (u1+u2) (v1+v2):=(by refine RZ D (Y8 odd) ?_ Z4 Cy L;rw[<-R0,Int.natCast_sub J,F,e,iE];omega);rw[<-R0]at H;have W:lp A B (- sg odd) u2 v2= - lp A B (sg odd) u2 v2:=iE ..;have c:lp A B (sg odd) (u1+q*u2) (v1+q*v2)=lp A B (sg odd) u1 v1-q*lp A B (- sg odd) u2 v2:=(by rw[iE];unfold lp;push_cast;grind);have w:lp A B (- sg odd) u2 v2<=q*lp A B (- sg odd) u2 v2:=(by have:=Int.mul_le_mul_of_nonneg_right (show(1:Int)<=q from Z) I;omega);have C:(r0:Int)=v2*x+v1*y:=by grind [iE,lp,RY]
 have j:r0=v2*x+v1*y:=by exact_mod_cast C
 have g:v1+q*v2<=r0:=by
  rw[j,<-i];have M:v1<=v1*y:=EF _ a;have N:q*v2<=q*v2*y:=EF _ a;have Z1:v2*(r+q*y)=v2*r+q*v2*y:=by grind
  omega
 have f:u1+q*u2<=v1+q*v2:=(by obtain⟨p,rfl⟩:∃p,q=p+1:=⟨q-1,Z⟩;have M:p*u2<=p*v2:=C4 _ G;have N:(p+1)*u2=p*u2+u2:=EI _ _;have Z1:(p+1)*v2=p*v2+v2:=EI _ _;omega);refine⟨⟨?_,?_,?_,?_,DZ b,?_,?_,?_⟩,CU f g,g,b,a⟩;rw[mJ];exact e;rw[mJ,Ha];have:(r:Int)=x-q*y:=by(have:(x:Int)=r+q*y:=by exact_mod_cast i.symm);omega
 rw[this,F,e];unfold lp;push_cast;grind;rw[mJ,<-l];push_cast;grind;refine⟨f,Z,Z⟩;rw[mJ,Ha,c,<-v];rw[Int.gcd_comm];simp[Int.mul_comm];right;rw[mJ,Ha,c];obtain⟨rfl,rfl,rfl,rfl,rfl⟩|⟨_,S,s⟩:=d;have P:lp A B (sg χ) 1 0=A:=by simp[lp,sg]
 have o:lp A B (- sg χ) 0 1=B:=by simp[lp,sg]
 rw[o]at w;rw[P,o];exact⟨Z,Z,Z⟩;exact⟨Z,Z,Z⟩;rw[mJ,Ha];obtain⟨R,_⟩|⟨_,S,s⟩:=d;exact .inl R;right;exact⟨I,Z,v,Z,s⟩
theorem Leh.tot{A x y b:Nat}(h:Leh A B r0 r1 x y u0 u1 u2 b v1 v2 odd):r0=v2*x+v1*y:=by
 have⟨d,e,c,_,_,_,_,_⟩:=h;have a:(r0:Int)=v2*x+v1*y:=by grind [iE,lp,RY]
 exact_mod_cast a
def LehS.r_le{A E:Nat}(h:LehS A B r0 r1 E):r1<=r0:=by obtain c|c:=EB r0 r1;have d:=C4 E c;rw[Jn]at d;have:=h.a;have:=h.b;have:=h.le;omega;exact c
theorem Leh.done{A x y c:Nat}(h:Leh A B r0 r1 x y u0 u1 u2 c v1 v2 odd)(hv:c≠0):
  ∃a b:Nat,(odd=χ->c*B=u0*A+a/\u1*A=v1*B+b)/\(odd=φ->u0*A=c*B+a/\v1*B=u1*A+b)/\b<=a/\CZ a b=CZ A B/\a+b<=A/\a<=B:=by
 obtain f|⟨g,j,i,l,o⟩:=h.out;exact Cu f hv;generalize e1:lp A B (sg odd) u1 v1=b at*;generalize e2:lp A B (- sg odd) u0 c=a at*;obtain⟨e,rfl⟩:=Ja g;obtain⟨d,rfl⟩:=Ja (show(0:Int)<=a from Z);refine⟨d,e,?_,?_,Z,by simpa using i,Z,Z⟩;rintro rfl;simp only[lp,sg]at e1 e2;constructor;have:(c:Int)*B=u0*A+d:=by simp at e2;grind
 exact_mod_cast this;have:(u1:Int)*A=v1*B+e:=by simp at e1;grind
 exact_mod_cast this;rintro rfl;simp only[lp,sg]at e1 e2;constructor;have:(u0:Int)*A=c*B+d:=by simp at e2;grind
 exact_mod_cast this;have:(v1:Int)*B=u1*A+e:=by simp at e1;grind
 exact_mod_cast this
end
section
open Go Go.GL
variable{h h' h1 h2:HF}{n m n0 off b i lo n' bt m' sz nt kk cy lx ly bytes c size len Z4 c1 c2 l1 l2 c' cr u0 u1 v1 n1 n2 fx fy gx gy P V d B r g:Nat}{ops:List Oper}{w ms C Z0 A X T:List Nat}{Q:SV->Prop}{args cl cs vs:List ψ}{al ld:List (Nat×Nat)}{ef:List (Nat×HF×List Nat)}{ty ty' eB e' xT:TypeId}{fn:Func}{bx sx sy odd dx dy:Bool}{ax ay a1 a2 ex ey:Option Addr}{v x4 x5 x6:ψ}{f:FuncId}{q:Rat}{E:Env}{α:Type}{y:Operand}
variable{h0:HF}{cq:Nat}
def ng(k:Nat)(j:Sl h n 1 (Y a1 l1 c1) (u64s A))(l:Sl h n 1 (Y a2 l2 c2) (u64s C))(Z1:NW A)(R:NW C)(hb:O A<10000000/\O C<80)(o:0<wv C):
  CF (J4 (k+6)) 138 [Y a1 l1 c1,Y a2 l2 c2] h n λv g i w=>∃d c a b,v=.tuple #[d,c]/\w=[]/\n<=i/\J3 n h g/\Sl g i 1 d (u64s a)/\NW a/\Sl g i 1 c (u64s b)/\NW b/\wv a=wv A/wv C/\wv b=wv A%wv C/\xC n d/\(xC n c\/c=Y a1 l1 c1):=by apply zw R4;have I:=j.lenW;have J:=l.lenW;subst I J;apply(Za);apply(ZE);apply zF _ R5 (Y6 k j l Z1 R Z o);rintro _ S T _⟨d,c,a,b,rfl,rfl,s,B,e,u,f,y,K,L,p,q⟩;obtain⟨D,M,G,rfl,_⟩:=e.len;obtain⟨F,N,H,rfl,_⟩:=f.len;apply(kG);exact retH [Y D M G,Y F N H] R3 ⟨_,_,a,b,ω,ω,s,B,e,u,f,y,K,L,p,q⟩
theorem fc{x0 x1 s:Nat}(g:Z4<P)(c:s<=64):P*2^(64-s)*(x1*2^s+x0/2^(64-s))<=Z4+P*(x0+18446744073709551616*x1)/\Z4+P*(x0+18446744073709551616*x1)<P*2^(64-s)*(x1*2^s+x0/2^(64-s))+P*2^(64-s):=by
 have d:=DN x0 (2^(64-s));have a:=Dz x0 (Ds (n:=64-s) (show 0<2 by decide));have f:=fa c;generalize 2^(64-s)=D at*;generalize 2^s=S at*;have e:x0+18446744073709551616*x1=D*(x1*S+x0/D)+x0%D:=by grind
 generalize x1*S+x0/D=R at*;generalize x0%D=m at*;rw[e,DS,<-Di];have b:=C4 P (show m+1<=D from a);rw[Jn]at b;omega
def lE{x0 x1:Nat}(c:O X=m+2)(a:X[m]?=ξ x0)(b:X[m+1]?=ξ x1):wv X=wv (X.take m)+18446744073709551616^m*(x0+18446744073709551616*x1):=by
 have e:wv X=wv (X.take (m+2)):=by rw[<-c,C3]
 rw[e,zQ b,zQ a,C5,DS,Di,Gs]
def ZI{x0:Nat}(b:O X=m+1)(a:X[m]?=ξ x0):wv X=wv (X.take m)+18446744073709551616^m*x0:=by
 have e:wv X=wv (X.take (m+1)):=by rw[<-b,C3]
 rw[e,zQ a]
def uY(a:J5 X)(hm:m<=O X):wv (X.take m)<18446744073709551616^m:=by have:=wW (a.take m);rw[DA,DR hm]at this;exact this
def ZJ{x0 x1 i a:Nat}(o:O A=m+2)(p:O C=m+2)(c:J5 A)(b:A[m]?=ξ x0)(e:A[m+1]?=ξ x1)(f:C[m]?=ξ i)(g:C[m+1]?=ξ a)(d:wv C<=wv A):a<=x1:=by obtain h|h:=EB x1 a;have q:=uY c (m:=m) Z;have s:=c.get b;rw[lE o b e,lE p f g]at d;generalize 18446744073709551616^m=P at*;have j:x0+18446744073709551616*x1+1<=i+18446744073709551616*a:=Z;have l:=C4 P j;rw[Jn]at l;omega;exact h
def SimR(A B:Nat)(v:ψ):Prop:=∃x y u0 u1 u2 v0 v1 v2 r0 r1:Nat,∃odd:Bool,v=.agg #[ι (u0:Int),ι (u1:Int),ι (v0:Int),ι (v1:Int),U odd]/\Leh A B r0 r1 x y u0 u1 u2 v0 v1 v2 odd/\u0<=18446744073709551615/\u1<=18446744073709551615/\v0<=18446744073709551615/\v1<=18446744073709551615
structure LSt where
 x:Nat
 y:Nat
 u0:Nat
 u1:Nat
 u2:Nat
 v0:Nat
 v1:Nat
 v2:Nat
 odd:Bool
def LSt.row(z:LSt):List ψ:=[ι (z.u0:Int),ι (z.u1:Int),ι (z.v0:Int),ι (z.v1:Int),U z.odd]
def LSt.bd(z:LSt):Prop:=z.x<=18446744073709551615/\z.u0<=18446744073709551615/\z.u1<=18446744073709551615/\z.u2<=18446744073709551615/\z.v0<=18446744073709551615/\z.v1<=18446744073709551615/\z.v2<=18446744073709551615
theorem fC(k:Nat)(hA:Sl h n 1 (Y a1 l1 c1) (u64s A))(hC:Sl h n 1 (Y a2 l2 c2) (u64s C))(nA:NW A)(Z3:NW C)(hb:O A<10000000)(a6:wv C<=wv A)(ba:2<=O A)(ab:0<wv C):
  CF (J4 (k+3)) 140 [Y a1 l1 c1,Y a2 l2 c2] h n λv R n' w=>w=[]/\n<=n'/\J3 n h R/\SimR (wv A) (wv C) v:=by
 apply zw R4;have e1:=hA.lenW;have e2:=hC.lenW;subst e1 e2;have bb:O C<=O A:=(by obtain hl|hl:=EB (O A) (O C);have:=nA.len_lt Z3 hl;omega;exact hl);obtain⟨m,T⟩:∃m,O A=m+2:=⟨O A-2,Z⟩;obtain⟨I,G⟩:∃x,A[m+1]?=ξ x:=⟨A[m+1]'Z,CD Z⟩;obtain⟨L,a9⟩:∃x,A[m]?=ξ x:=⟨A[m]'Z,CD Z⟩;have aq:=nA.1.get G;have V:=nA.1.get a9;have ap:I≠0:=by
  have⟨i,d,ad⟩:=Go.Proofs.YtdeaddceicfanaaGreatDoor.snoc (l:=A) (by intro e;rw[e]at T;simp at T);have av:O i=m+1:=by rw[ad]at T;simp at T;omega
  rw[ad,<-av,Dn Cy,DY]at G;have:d=I:=by simpa using G
  rw[<-this];exact as4 (by rw[<-ad];exact nA)
 rw[T]at hA⊢;apply(zN);apply xV R5;generalize hh:upd h (3*n+2) _=h1;have a4:J3 n h h1:=by grind [E9]
 have J:∃e,h1 (3*n+2)=ξ (.row [ι 0,ι 0,ι 0,ι 0,U χ] e):=⟨_,gQ⟩;have a0:=hA.ext a4 (C8 n);have a3:=hC.ext a4 (C8 n);apply(Zu);refine yE (f:=λd:Nat=>ι (d:Int)) (j:=m+1) R7 a0 ⟨ω,Z⟩ G (λ_=>rfl) R4 λ_=>?_;apply yi _ R5 (fX k h1 (n+1) aq ap);rintro _⟨s,rfl,az,bc,a8⟩;apply se (c:=s) R7 Z;apply(kG);have a7:∀x,x<18446744073709551616->x/2^(64-s)<2^s:=λx hx=>RU Z hx;obtain⟨K,ae⟩:∃r,r=I*2^s+L/2^(64-s):=⟨_,ω⟩;have an:K<=18446744073709551615:=(by have:=RT (w:=I) (s:=s) Z (a7 L V);rw[C1 a8]at this;omega);obtain⟨E,hE⟩:∃E,E=18446744073709551616^m*2^(64-s):=⟨_,ω⟩;have B:=fc (Z4:=wv (A.take m)) (x0:=L) (x1:=I) (s:=s) (uY nA.1 Z) Z;rw[<-lE T a9 G,<-hE,<-ae]at B;rw[wb rfl];repeat apply(zR)
 refine yE (f:=λd:Nat=>ι (d:Int)) (j:=m+1) R7 a0 ⟨ω,Z⟩ G (λ_=>rfl) R4 λ_=>?_;apply(zM);apply xK (a:=I) (s:=s) R6 Z;rw[C1 a8];repeat apply(zR)
 refine yE (f:=λd:Nat=>ι (d:Int)) (j:=m) R7 a0 ⟨ω,Z⟩ a9 (λ_=>rfl) R4 λ_=>?_;apply(zM);refine ym (a:=64) (b:=s) R6 Z<|yn (a:=L) (s:=64-s) R6 Z<|wG (a:=I*2^s) (b:=L/2^(64-s)) R6 ⟨a8,C7 (Ei _ _) V⟩ ?_;rw[jZ (a7 L V),<-ae];apply(kG);apply(Zl);simp only[yu,xg,zK,yY];refine yj (α:=Nat) (λz=>[(4,ε (3*n+2)),(7,ι (K:Int)),(8,ι (z:Int))])
  (λz R n' w=>h1=R/\n+1=n'/\w=[]/\LehS (wv A) (wv C) K z E) ?_ ?_
 .apply(zN);by_cases hl2:O C=m+2;obtain⟨y1,N⟩:∃x,C[m+1]?=ξ x:=⟨C[m+1]'Z,CD Z⟩;obtain⟨M,F⟩:∃x,C[m]?=ξ x:=⟨C[m]'Z,CD Z⟩;have b9:=Z3.1.get N;have W:=Z3.1.get F;have al:=ZJ T hl2 nA.1 a9 G F N a6;have ak:y1*2^s<18446744073709551616:=C7 (CM _ al) a8;have D:=fc (Z4:=wv (C.take m)) (x0:=M) (x1:=y1) (s:=s) (uY Z3.1 Z) Z;rw[<-lE hl2 F N,<-hE]at D;apply(Ze);rw[wb rfl];repeat apply(zR)
  refine yE (f:=λd:Nat=>ι (d:Int)) (j:=m+1) R7 a3 ⟨ω,Z⟩ N (λ_=>rfl) R4 λ_=>?_;apply(zM);apply xK (a:=y1) (s:=s) R6 Z;rw[C1 ak];repeat apply(zR)
  refine yE (f:=λd:Nat=>ι (d:Int)) (j:=m) R7 a3 ⟨ω,Z⟩ F (λ_=>rfl) R4 λ_=>?_;apply(zM);refine ym (a:=64) (b:=s) R6 Z<|yn (a:=M) (s:=64-s) R6 Z<|wG (a:=y1*2^s) (b:=M/2^(64-s)) R6 ⟨ak,C7 (Ei _ _) W⟩ ?_;rw[jZ (a7 M W)];apply(kG);exact zA (y1*2^s+M/2^(64-s)) P3 ⟨ω,ω,ω,⟨B,D,a6,ab⟩⟩;apply(Zj);by_cases hl1:O C=m+1;obtain⟨M,F⟩:∃x,C[m]?=ξ x:=⟨C[m]'Z,CD Z⟩;have W:=Z3.1.get F;have D:=fc (Z4:=wv (C.take m)) (x0:=M) (x1:=0) (s:=s) (uY Z3.1 Z) Z;rw[Eo,DE,DU,C9,<-ZI hl1 F,<-hE]at D;apply(Zs);refine yE (f:=λd:Nat=>ι (d:Int)) (j:=m) R7 a3 ⟨ω,Z⟩ F (λ_=>rfl) R4 λ_=>?_;apply(zM);apply ym (a:=64) (b:=s) R6 Z;apply yn (a:=M) (s:=64-s) R6 Z;apply(kG);exact zA (M/2^(64-s)) P3 ⟨ω,ω,ω,⟨B,D,a6,ab⟩⟩;apply(Zj);refine zA 0 P3 ⟨ω,ω,ω,⟨B,⟨by rw[Eo];exact HA _,?_⟩,a6,ab⟩⟩;have g1:=wW Z3.1;have g2:18446744073709551616^O C<=18446744073709551616^m:=CQ zd Z;have g3:18446744073709551616^m*1<=18446744073709551616^m*2^(64-s):=C4 _ (Ds zd);rw[hE,Eo];omega
 rintro r1 t _ _ _⟨rfl,rfl,rfl,hS⟩;have ao:=hS.r_le;apply(zN);apply xV R5;generalize hh:upd h1 (3*(n+1)+2) _=h2;have ag:J3 n h h2:=λb hb=>by rw[<-hh,zm Z,a4 b hb]
 have aa:∃e,h2 (3*n+2)=ξ (.row [ι 0,ι 0,ι 0,ι 0,U χ] e):=(by have⟨e,J⟩:=J;exact⟨e,by rw[<-hh,zm Z];exact J⟩);have q2:∃e,h2 (3*(n+1)+2)=ξ (.row [ι 0,ι 0,ι 0,ι 0,U χ] e):=⟨_,gQ⟩;have⟨e2,q2⟩:=q2;apply(Zg);apply yF (cs:=[ι 1]) R8 q2 zb gN;generalize hh:upd h2 (3*(n+1)+2) _=h3;have ah:J3 n h h3:=λb hb=>by rw[<-hh,zm Z,ag b hb]
 have af:∃e,h3 (3*n+2)=ξ (.row [ι 0,ι 0,ι 0,ι 0,U χ] e):=(by have⟨e,aa⟩:=aa;exact⟨e,by rw[<-hh,zm Z];exact aa⟩);have q3:∃e,h3 (3*(n+1)+2)=ξ (.row (LSt.row ⟨K,r1,0,1,0,0,0,1,χ⟩) e):=⟨e2,gQ⟩;apply(Za);refine ye (α:=LSt) (λz=>[(4,ε (3*n+2)),(7,ι (z.x:Int)),(8,ι (z.y:Int)),(9,ε (3*(n+1)+2)),(10,ι (z.u2:Int)),(11,ι (z.v2:Int))])
  (λz R n' w=>n'=n+1+1/\w=[]/\J3 n h R/\(∃e,R (3*n+2)=ξ (.row [ι 0,ι 0,ι 0,ι 0,U χ] e))/\(∃e,R (3*(n+1)+2)=ξ (.row z.row e))/\Leh (wv A) (wv C) K r1 z.x z.y z.u0 z.u1 z.u2 z.v0 z.v1 z.v2 z.odd/\z.bd) (λz=>z.y)
  ⟨K,r1,0,1,0,0,0,1,χ⟩ P6 ⟨ω,ω,ah,af,q3,Leh.init ao,an,(show(0:Nat)<=18446744073709551615 by decide),(show(1:Nat)<=18446744073709551615 by decide),(show(0:Nat)<=18446744073709551615 by decide),(show(0:Nat)<=18446744073709551615 by decide),(show(0:Nat)<=18446744073709551615 by decide),(show(1:Nat)<=18446744073709551615 by decide)⟩ (by show r1<LL;unfold LL;omega) ?_
 rintro⟨x,y,u0,p,H,Z0,g,u,o⟩ t h4 _ _ ⟨rfl,rfl,a5,⟨e1,J⟩,⟨e4,Z1⟩,S,au⟩;have⟨b1,b2,b3,b4,b5,b6,b7⟩:=au;simp only[LSt.row]at Z1 S b1 b2 b3 b4 b5 b6 b7;have al:=S.yx;have b8:=S.tot;have hl:=S.le;apply(zN);by_cases g1:u<=y;case neg=>
  exact Bu
 have b0:g+u<=K:=(by have f1:u*1<=u*x:=C4 _ Z;have f2:g*1<=g*y:=C4 _ Z;omega);apply(Zy);apply(Zw);apply ym (a:=x) (b:=y) R6 Z;apply(zM);apply zT R6 Z1 (v:=ι (g:Int)) R2;apply(zM);apply yT (a:=g) (b:=u) R6 Z;by_cases g2:g+u<=x-y;case neg=>
  exact Bu
 have⟨ac,aw,ax,aj,N⟩:=Leh.step hS S g1 g2;apply(Zo);obtain⟨q,hq⟩:∃q,q=x/y:=⟨_,ω⟩;obtain⟨r,hr⟩:∃r,r=x%y:=⟨_,ω⟩;rw[<-hq]at ac aw ax;rw[<-hr]at ac aj;apply(Zb);apply xN (a:=x) (b:=y) R6 ⟨Z,Z⟩;rw[<-hq];apply(kG);rw[wb rfl];apply(Zw);apply vO (a:=x) (b:=y) R6 Z;rw[<-hr];apply(kG);apply(zM);apply zT R6 Z1 (v:=ι (p:Int)) R2;apply(Zb);apply zT R6 Z1 (v:=ι (p:Int)) R2;apply(Zb);apply xt (a:=q) (b:=H) R6 Z;apply yT (a:=p) (b:=q*H) R6 Z;apply(zM);apply yF (cs:=[ι (p:Int)]) R8 Z1 zb gN;apply(zM);apply yF (cs:=[ι (H:Int)]) R8 (zg _ _ _) zb gN;rw[uk];generalize hh:upd h4 (3*(n+1)+2) _=h5;have ai:J3 n h h5:=λb hb=>by rw[<-hh,zm Z,a5 b hb]
 have am:=(show h5 (3*n+2)=h4 (3*n+2)from by rw[<-hh,zm Z]).trans J;have q5:h5 (3*(n+1)+2)=ξ (.row [ι (p:Int),ι (H:Int),ι (Z0:Int),ι (g:Int),U o] e4):=by rw[<-hh,zg];rfl
 apply(kG);apply(zM);apply zT R6 q5 (v:=ι (g:Int)) R2;apply(Zb);apply zT R6 q5 (v:=ι (g:Int)) R2;apply(Zb);apply xt (a:=q) (b:=u) R6 Z;apply yT (a:=g) (b:=q*u) R6 Z;apply(zM);apply yF (cs:=[ι (g:Int)]) R8 q5 zb gN;apply(zM);apply yF (cs:=[ι (u:Int)]) R8 (zg _ _ _) zb gN;rw[uk];generalize hh:upd h5 (3*(n+1)+2) _=h6;have ar:J3 n h h6:=λb hb=>by rw[<-hh,zm Z,ai b hb]
 have ay:=(show h6 (3*n+2)=h5 (3*n+2)from by rw[<-hh,zm Z]).trans am;have q6:h6 (3*(n+1)+2)=ξ (.row [ι (p:Int),ι (H:Int),ι (g:Int),ι (u:Int),U o] e4):=by rw[<-hh,zg];rfl
 apply(kG);apply(zM);apply zT R6 q6 (v:=U o) R2;apply(Zb);apply yF (cs:=[U (!o)]) R8 q6 zb gN;apply(zN);exact goOn ⟨y,r,p,H,p+q*H,g,u,g+q*u,!o⟩ aj P6 ⟨ω,ω,λb hb=>(zm Z).trans (ar b hb),⟨e1,(zm Z).trans ay⟩,⟨e4,(zg _ _ _).trans ω⟩,ac,by show y<=_;omega,b3,b4,by show p+q*H<=_;omega,b6,b7,by show g+q*u<=_;omega⟩
section
variable{a cap l:Nat}{e:TypeId}
theorem kn{x w s:Nat}(f:V+c*P=Z4*w)(g:18446744073709551616*c'+s=x*w+c):V+P*s+c'*(P*18446744073709551616)=(Z4+P*x)*w:=by grind
theorem ZK{s t:Nat}(h:d+s*P=a+t*P)(g:d<P)(f:a<P):d=a:=by grind [only,Ga,C1]
def Ok{D p q j m i f g:Nat}(v:p+j*P=f)(w:q+m*P=g)(h3:D+p=q+i*P)(y:g=f+a)(o:D<P)(u:a<P):D=a:=by refine ZK (s:=m) (t:=i+j) (P:=P) ?_ o u;rw[Dq];omega
def cE{S D:List Nat}{x:Nat}(d:Nat)(hx:Z0[O D]?=ξ x):((D++Z0.drop (O D))++S).set (O D) d=((D++[d])++Z0.drop (O (D++[d])))++S:=by have:=kg (P:=[]) (S:=S) d hx;rw[Dt,Dt,Gg,C9]at this;exact this
def kI{S:List Nat}(hb:b<3*n)(i:h b=ξ (.row (u64s (Z0++S)) e))(g:O Z0=l)(f:l<=cap):Sl h n 1 (Y (ξ ⟨b,0,θ⟩) l cap) (u64s Z0):=by subst g;exact dP (P:=[]) hb i f
structure ASt where
 D:List Nat
 F:List Nat
 cP:Nat
 cQ:Nat
 cR:Nat
 cT:Nat
 b1:Nat
 b2:Nat
 p:Nat
 q:Nat
 r:Nat
 t:Nat
def ASt.ok(A B:List Nat)(u0 u1 v0 v1:Nat)(odd:Bool)(z:ASt):Prop:=
 (O z.D)<=O A/\O z.F=O z.D/\J5 z.D/\J5 z.F/\z.cP<18446744073709551616/\z.cQ<18446744073709551616/\z.cR<18446744073709551616/\z.cT<18446744073709551616/\z.b1<=1/\z.b2<=1/\
 z.p+z.cP*18446744073709551616^O z.D=wv (A.take (O z.D))*u0/\z.q+z.cQ*18446744073709551616^O z.D=wv (B.take (O z.D))*v0/\z.r+z.cR*18446744073709551616^O z.D=wv (B.take (O z.D))*v1/\z.t+z.cT*18446744073709551616^O z.D=wv (A.take (O z.D))*u1/\
 (odd=χ->wv z.D+z.p=z.q+z.b1*18446744073709551616^O z.D/\wv z.F+z.r=z.t+z.b2*18446744073709551616^O z.D)/\
 (odd=φ->wv z.D+z.q=z.p+z.b1*18446744073709551616^O z.D/\wv z.F+z.t=z.r+z.b2*18446744073709551616^O z.D)
def ASt.step{B:List Nat}{J x y:Nat}{z:ASt}(hz:z.ok A B u0 u1 J v1 odd)(hx:A[O z.D]?=ξ x)(hy:B[O z.D]?=ξ y){m o s u v w f i j:Nat}
  (W:18446744073709551616*v+m=x*u0+z.cP)(Z3:18446744073709551616*cq+o=y*J+z.cQ)(h3:18446744073709551616*cr+s=y*v1+z.cR)(h4:18446744073709551616*w+u=x*u1+z.cT)
  (hl:v<18446744073709551616/\cq<18446744073709551616/\cr<18446744073709551616/\w<18446744073709551616/\d<18446744073709551616/\f<18446744073709551616/\i<=1/\j<=1)
  (S:odd=χ->d+m+z.b1=o+18446744073709551616*i/\f+s+z.b2=u+18446744073709551616*j)(T:odd=φ->d+o+z.b1=m+18446744073709551616*i/\f+u+z.b2=s+18446744073709551616*j):
  ASt.ok A B u0 u1 J v1 odd ⟨z.D++[d],z.F++[f],v,cq,cr,w,i,j,z.p+18446744073709551616^O z.D*m,z.q+18446744073709551616^O z.D*o,z.r+18446744073709551616^O z.D*s,z.t+18446744073709551616^O z.D*u⟩:=by have⟨k1,k2,k3,k4,k5,k6,k7,k8,k9,a1,K,L,M,N,Z1,R⟩:=hz;have⟨l1,l2,l3,l4,l5,l6,l7,l8⟩:=hl;have a0:O z.D<O A:=(CK.1 hx).1;unfold ASt.ok;simp only[CJ,C0];rw[zQ hx,zQ hy,yO,yO,k2,C5];refine⟨Z,ω,Gc k3 l5,Gc k4 l6,l1,l2,l3,l4,l7,l8,kn K W,kn L Z3,kn M h3,kn N h4,λg=>?_,λg=>?_⟩;have⟨C,G⟩:=Z1 g;have⟨H,I⟩:=S g;exact⟨vK C H,vK G I⟩;have⟨C,G⟩:=R g;have⟨H,I⟩:=T g;exact⟨vK C H,vK G I⟩
def ASt.fin{B:List Nat}{u:Nat}{z:ASt}(I:z.ok A B u0 u1 u v1 odd)(H:O z.D=O A)(y:O B=O A)(w:a<18446744073709551616^O A)(hb:b<18446744073709551616^O A)(C:odd=χ->u*wv B=u0*wv A+a/\u1*wv A=v1*wv B+b)(G:odd=φ->u0*wv A=u*wv B+a/\v1*wv B=u1*wv A+b):
  wv z.D=a/\wv z.F=b:=by
 have⟨T,J,K,L,W,Z3,k7,k8,k9,S,f,g,i,j,o,p⟩:=I;have v:=wW K;have m:=wW L;rw[J]at m;rw[H]at f g i j o p v m;have Z1:A.take (O A)=A:=C3;have R:B.take (O A)=B:=by rw[<-y,C3]
 rw[Z1]at f j;rw[R]at g i;cases odd with
 |false=>
  have⟨q,s⟩:=o rfl;have⟨M,N⟩:=C rfl;exact⟨Ok f g q aD v w,Ok i j s aD m hb⟩
 |true=>
  have⟨q,s⟩:=p rfl;have⟨M,N⟩:=G rfl;exact⟨Ok g f q aD v w,Ok j i s aD m hb⟩
theorem ZL(k:Nat){g i u cB:Nat}{B TA TB:List Nat}{eA:TypeId}{m:Nat}(a6:g<3*n)(a7:i<3*n)(ai:g≠i)(aj:h g=ξ (.row (u64s (A++TA)) eA))(ak:h i=ξ (.row (u64s (B++TB)) eB))(b6:O A<=u)(b7:O B<=cB)(hB:O B=O A)(bt:1<=O A)(bs:O A<1000000000)(dA:J5 A)(dB:J5 B)
  (hu:u0<18446744073709551616/\u1<18446744073709551616/\m<18446744073709551616/\v1<18446744073709551616)(ha:a<18446744073709551616^O A)(hb:b<18446744073709551616^O A)(hE:odd=χ->m*wv B=u0*wv A+a/\u1*wv A=v1*wv B+b)(hO:odd=φ->u0*wv A=m*wv B+a/\v1*wv B=u1*wv A+b):
  CF (J4 (k+3)) 141 [.agg #[ι (u0:Int),ι (u1:Int),ι (m:Int),ι (v1:Int),U odd],Y (ξ ⟨g,0,θ⟩) (O A) u,Y (ξ ⟨i,0,θ⟩) (O B) cB] h n λ_ o n' w=>∃A' B',(∀c∈w,c=g\/c=i)/\n<=n'/\(∀c,c<3*n->c≠g->c≠i->o c=h c)/\o g=ξ (.row (u64s (A'++TA)) eA)/\o i=ξ (.row (u64s (B'++TB)) eB)/\J5 A'/\J5 B'/\O A'=O A/\O B'=O A/\wv A'=a/\wv B'=b:=by
 apply Lg R4;have⟨ao,ap,aq,ar⟩:=hu;apply(zN);apply Lb (cs:=[ι (u0:Int),ι (u1:Int),ι (m:Int),ι (v1:Int),U odd]) R5;generalize hh:upd h (3*n+2) _=C;have J:∀c,c<3*n->C c=h c:=λc hc=>by rw[<-hh,zm Z]
 have q1:∃e,C (3*n+2)=ξ (.row [ι (u0:Int),ι (u1:Int),ι (m:Int),ι (v1:Int),U odd] e):=⟨_,gZ⟩;apply(Za);apply(Zn);refine ye (α:=ASt) (λz=>[(1,Y (ξ ⟨g,0,θ⟩) (O A) u),(2,Y (ξ ⟨i,0,θ⟩) (O B) cB),(3,ε (3*n+2)),(6,ι (z.cP:Int)),(7,ι (z.cQ:Int)),(8,ι (z.cR:Int)),(9,ι (z.cT:Int)),(10,ι (z.b1:Int)),(11,ι (z.b2:Int)),(19,Y (ξ ⟨g,0,θ⟩) (O A) u),(20,υ (O A:Int)),(21,υ (O z.D:Int))])
  (λz o n' w=>n'=n+1/\(∀c∈w,c=g\/c=i)/\(w=[]->O z.D=0)/\(∀c,c<3*n->c≠g->c≠i->o c=h c)/\(∃e,o (3*n+2)=ξ (.row [ι (u0:Int),ι (u1:Int),ι (m:Int),ι (v1:Int),U odd] e))/\o g=ξ (.row (u64s ((z.D++A.drop (O z.D))++TA)) eA)/\o i=ξ (.row (u64s ((z.F++B.drop (O z.F))++TB)) eB)/\z.ok A B u0 u1 m v1 odd) (λz=>O A-O z.D)
  ⟨[],[],0,0,0,0,0,0,0,0,0,0⟩ Vi ⟨ω,λx M=>Cu M CO,λ_=>rfl,λc hc _ _=>J c hc,q1,(J _ a6).trans aj,(J _ a7).trans ak,Cz,ω,HO,HO,sa,sa,sa,sa,by show(0:Nat)<=_;decide,by show(0:Nat)<=_;decide,oo,oo,oo,oo,λ_=>by simp[wv,dv],λ_=>by simp[wv,dv]⟩ Ad ?_
 rintro⟨D,F,cP,cQ,cR,cT,Z3,b2,p,q,r,t'⟩ t s _ w ⟨rfl,hw,au,a2,⟨e2,G⟩,N,Z1,hz⟩;have b0:ASt.ok A B u0 u1 m v1 odd ⟨D,F,cP,cQ,cR,cT,Z3,b2,p,q,r,t'⟩:=hz;have bp:=hz;have⟨k1,k2,k3,k4,k5,k6,k7,k8,k9,a3,_⟩:=bp;simp only at au N Z1 k1 k2 k3 k4 k5 k6 k7 k8 k9 a3;apply(zN);by_cases hDA:O D=O A;apply(Zj);have⟨f1,f2⟩:=ASt.fin b0 hDA hB ha hb hE hO;rw[hDA,EQ,Dm]at N;rw[k2,hDA,<-hB,EQ,Dm]at Z1;refine⟨ω,[],ω,⟨D,F,hw,C8 n,a2,N,Z1,k3,k4,hDA,Z,f1,f2⟩,λh0=>?_⟩;have:=au h0;omega;obtain⟨x,M⟩:∃x,A[O D]?=ξ x:=⟨A[O D]'Z,CD Z⟩;obtain⟨y,hy⟩:∃y,B[O D]?=ξ y:=⟨B[O D]'Z,CD Z⟩;have K:=dA.get M;have L:=dB.get hy;have a4:Sl s (n+1) 1 (Y (ξ ⟨g,0,θ⟩) (O A) u) (u64s (D++A.drop (O D))):=kI Z N aD b6;have a5:Sl s (n+1) 1 (Y (ξ ⟨i,0,θ⟩) (O B) cB) (u64s (F++B.drop (O F))):=kI Z Z1 aD b7;have av:B[O F]?=ξ y:=by rw[k2];exact hy
 apply(Zs);refine yE (f:=λd:Nat=>ι (d:Int)) (j:=O D) R7 a4 R2 (uy M) (λ_=>rfl) R4 λ_=>?_;apply(Zl);refine yE (f:=λd:Nat=>ι (d:Int)) (j:=O F) R7 a5 ⟨ω,Z⟩ (uy av) (λ_=>rfl) R4 λ_=>?_;apply(kG);have bk:=qW K ao;apply(Zb);apply zT R6 G (v:=ι (u0:Int)) R2;apply(zM);apply yi _ R5 (uN k s (n+1) K ao k5);rintro _ rfl;obtain⟨R,al⟩:∃z,z=(x*u0+cP)%18446744073709551616:=⟨_,ω⟩;obtain⟨cp,a8⟩:∃z,z=(x*u0+cP)/18446744073709551616:=⟨_,ω⟩;rw[<-al,<-a8];have ae:R<18446744073709551616:=Z;have b9:cp<18446744073709551616:=Z;have bd:18446744073709551616*cp+R=x*u0+cP:=Z;apply(kG);have bl:=qW L aq;apply(Zb);apply zT R6 G (v:=ι (m:Int)) R2;apply(zM);apply yi _ R5 (uN k s (n+1) L aq k6);rintro _ rfl;obtain⟨S,am⟩:∃z,z=(y*m+cQ)%18446744073709551616:=⟨_,ω⟩;obtain⟨cq,a9⟩:∃z,z=(y*m+cQ)/18446744073709551616:=⟨_,ω⟩;rw[<-am,<-a9];have af:S<18446744073709551616:=Z;have ba:cq<18446744073709551616:=Z;have be:18446744073709551616*cq+S=y*m+cQ:=Z;apply(kG);have bm:=qW L ar;apply(Zb);apply zT R6 G (v:=ι (v1:Int)) R2;apply(zM);apply yi _ R5 (uN k s (n+1) L ar k7);rintro _ rfl;obtain⟨T,an⟩:∃z,z=(y*v1+cR)%18446744073709551616:=⟨_,ω⟩;obtain⟨cr,aa⟩:∃z,z=(y*v1+cR)/18446744073709551616:=⟨_,ω⟩;rw[<-an,<-aa];have ag:T<18446744073709551616:=Z;have bb:cr<18446744073709551616:=Z;have bf:18446744073709551616*cr+T=y*v1+cR:=Z;apply(kG);have bn:=qW K ap;apply(Zb);apply zT R6 G (v:=ι (u1:Int)) R2;apply(zM);apply yi _ R5 (uN k s (n+1) K ap k8);rintro _ rfl;obtain⟨W,I⟩:∃z,z=(x*u1+cT)%18446744073709551616:=⟨_,ω⟩;obtain⟨ct,ab⟩:∃z,z=(x*u1+cT)/18446744073709551616:=⟨_,ω⟩;rw[<-I,<-ab];have ah:W<18446744073709551616:=Z;have bc:ct<18446744073709551616:=Z;have bg:18446744073709551616*ct+W=x*u1+cT:=Z;apply(kG);apply(zM);apply zT R6 G (v:=U odd) R2;simp only[yu,xg,zK,yY];refine yj (α:=Nat×Nat×Nat×Nat) (λz=>[(1,Y (ξ ⟨g,0,θ⟩) (O A) u),(2,Y (ξ ⟨i,0,θ⟩) (O B) cB),(3,ε (3*n+2)),(6,ι (cp:Int)),(7,ι (cq:Int)),(8,ι (cr:Int)),(9,ι (ct:Int)),(10,ι (Z3:Int)),(11,ι (b2:Int)),(12,ι (z.1:Int)),(13,ι (z.2.1:Int)),(14,ι (z.2.2.1:Int)),(15,ι (z.2.2.2:Int)),(16,υ (O D:Int)),(19,Y (ξ ⟨g,0,θ⟩) (O A) u),(20,υ (O A:Int)),(21,υ (O D:Int))])
  (λz o n' w'=>s=o/\n+1=n'/\w=w'/\z.1<18446744073709551616/\z.2.1<18446744073709551616/\z.2.2.1<18446744073709551616/\z.2.2.2<18446744073709551616/\(odd=χ->z.1=R/\z.2.1=S/\z.2.2.1=T/\z.2.2.2=W)/\(odd=φ->z.1=S/\z.2.1=R/\z.2.2.1=W/\z.2.2.2=T)) ?_ ?_
 cases odd with
 |false=>
  rw[za rfl];apply(zN);exact zA (R,S,T,W) Qx ⟨ω,ω,ω,ae,af,ag,ah,λ_=>R4,λh=>by cases h⟩
 |true=>
  rw[ze rfl];apply(Za);exact zA (S,R,W,T) Qx ⟨ω,ω,ω,af,ae,ah,ag,λh=>Aa,λ_=>R4⟩
 rintro⟨z1,z2,z3,z4⟩ t3 _ _ _ ⟨rfl,rfl,rfl,aw,ax,ay,az,gE,gO⟩;simp only at aw ax ay az gE gO;apply(zN);have bi:(D++A.drop (O D)).length=O A:=by grind
 have bj:(F++B.drop (O F)).length=O B:=by grind
 repeat apply(zR)
 apply rn (x:=z2) (y:=z1) (c:=Z3) R5 k9;have a0:=PA ax aw k9;obtain⟨d,hd⟩:∃d,d=(z2+18446744073709551616-z1-Z3)%18446744073709551616:=⟨_,ω⟩;obtain⟨e1,ac⟩:∃e1,e1=(if z1+Z3<=z2 then 0 else 1):=⟨_,ω⟩;rw[<-hd,<-ac]at a0⊢;have b8:d<18446744073709551616:=Z;have b3:e1<=1:=by rw[ac];split<;>omega
 repeat apply(zR)
 refine yG (j:=O D) (off:=0) (v:=ι (d:Int)) R8 ω ⟨Z,by rw[zL,CJ,bi];omega⟩ N a6 (λ_=>rfl) R3 (λ_=>rfl) ω λ_=>?_;rw[C9,yk,cE _ M];generalize hh:upd s g _=h3;have bq:h3 g=ξ (.row (u64s (((D++[d])++A.drop (O (D++[d])))++TA)) eA):=by rw[<-hh,zg]
 have br:h3 i=ξ (.row (u64s ((F++B.drop (O F))++TB)) eB):=by rw[<-hh,zm (Ne.symm ai)];exact Z1
 have q3:=(show h3 (3*n+2)=s (3*n+2)from by rw[<-hh,zm Z]).trans G;have bo:∀c,c<3*n->c≠g->c≠i->h3 c=h c:=λc hc C H=>by rw[<-hh,zm C];exact a2 c hc C H
 apply(Zl);apply rn (x:=z4) (y:=z3) (c:=b2) R5 a3;have a1:=PA az ay a3;obtain⟨f,hf⟩:∃d,d=(z4+18446744073709551616-z3-b2)%18446744073709551616:=⟨_,ω⟩;obtain⟨b5,ad⟩:∃e1,e1=(if z3+b2<=z4 then 0 else 1):=⟨_,ω⟩;rw[<-hf,<-ad]at a1⊢;have bh:f<18446744073709551616:=Z;have b4:b5<=1:=by rw[ad];split<;>omega
 repeat apply(zR)
 refine yG (j:=O F) (off:=0) (v:=ι (f:Int)) R8 Z ⟨Z,by rw[zL,CJ,bj];omega⟩ br a7 (λ_=>rfl) R3 (λ_=>rfl) ω λ_=>?_;rw[C9,yk,cE _ av];apply(Zn);have I:=ASt.step b0 M hy bd be bf bg ⟨b9,ba,bb,bc,b8,bh,b3,b4⟩ (λh=>by
  have⟨i1,i2,i3,i4⟩:=gE h;rw[<-i1,<-i2,<-i3,<-i4];exact⟨a0,a1⟩) (λh=>by
  have⟨i1,i2,i3,i4⟩:=gO h;rw[<-i1,<-i2,<-i3,<-i4];exact⟨a0,a1⟩)
 refine goOn _ ?_ ⟨ω,ω,ω,ω,ω,ω,ω,ω,ω,ω,ω,?_,Cx⟩ ⟨ω,?_,?_,?_,⟨e2,(zm Z).trans q3⟩,(zm ai).trans bq,zg _ _ _,I⟩;show (O A)-O (D++[d])<O A-O D;exact Bh;exact eN;intro c hc;obtain rfl|hc:=De.1 hc;exact .inr rfl;obtain rfl|hc:=De.1 hc;exact .inl rfl;exact hw c hc;intro h;cases h;intro c hc C H;exact(zm H).trans (bo c hc C H)
end
section
variable{a:Nat}
section
variable{sT e:TypeId}{z x:ψ}
theorem ZM{cap:Nat}{c:List ψ}(y:E.und sT=ξ (.slice e))(hi:E.inf e=ξ (1,bytes,z))(D:O (zn z)=1)(p:1<=bytes)(hx:argS h 1 x 1 [v])(hb:(len+1)*bytes<=1099511627776)(hc:len+1<=cap)(u:h b=ξ (.row c e'))(q:len<O c)(s:ones [v]=φ):
  yW E h n sT (Y (ξ ⟨b,0,θ⟩) len cap) x=ξ (.val (Y (ξ ⟨b,0,θ⟩) (len+1) cap) (upd h b (ξ (.row (c.set len v) e'))) n [b]):=by
 have⟨g,f⟩:=hx;have c1:Dd ((len+1)*bytes) 1099511627776=φ:=CP hb;have c2:DK (O (zn z)) 1=φ:=by simp_all
 have i:Dd 1 1=φ:=rfl;have j:Dd 1 bytes=φ:=CP p;have l:Dd (len+1) cap=φ:=CP hc;have m:LJ h ((⟨b,0,θ⟩:Addr).add (len*1)) [v]=ξ (upd h b (ξ (.row (c.set len v) e'))):=(by rw[wO,C9,DD,uZ u (by rw[C0];omega) s,splice_one c len v q]);simp only[yW,y,hi,g,f,c1,c2,i,j,l,DT,uB,m]
end
structure GRow (h:HF)(lo n b:Nat)(A T:List Nat):Prop where
 g:gro b=φ
 lo:3*lo<=b
 hi:b<3*n
 r:h b=ξ (.row (u64s (A++T)) 152)
def GRow.sl{h:HF}{n:Nat}(g:GRow h lo n b A T):Sl h n 1 (Y (ξ ⟨b,0,θ⟩) (O A) (O A+O T)) (u64s A):=kI g.hi g.r ω Z
def GRow.ext{h:HF}{n:Nat}(g:GRow h lo n b A T)(e:J3 n h h')(c:n<=n'):GRow h' lo n' b A T:=⟨g.g,g.lo,by have:=g.hi;omega,by rw[e b g.hi];exact g.r⟩
theorem GRow.cut{h:HF}{n:Nat}(g:GRow h lo n b A T):GRow h lo n b (yf A) (A.drop (O (yf A))++T):=⟨g.g,g.lo,g.hi,by
 rw[<-Dh];have:yf A++A.drop (O (yf A))=A:=by grind [rV,yf,DP]
 rw[this];exact g.r⟩
theorem GRow.cap:O (yf A)+(A.drop (O (yf A))++T).length=O A+O T:=by grind [xU]
section
variable{X:CtxF}{r:List Oper}{t:TF}{o:Oper}{d:Tmp}
def ZN{sT:TypeId}{s x:Operand}{bytes:Nat}{z:ψ}{d0:Nat}(F:zh ops t o=φ)(hd:o.dst=ξ d)(hn:zv X.nt (ξ d)=φ)(q:o.op=.call {callee:=.builtin .append,args:=#[s,x],argTypes:=#[sT,xT]})(j:(match X.E.und xT with|some (.int _)=>χ|none=>χ|_=>φ)=φ)
  (D:X.E.und sT=ξ (.slice 152))(hi:X.E.inf 152=ξ (1,bytes,z))(G:O (zn z)=1)(m:1<=bytes)(i:J2 t s=Y (ξ ⟨b,0,θ⟩) (O A) (O A+O T))(f:GRow h lo n b A T)(hx:argS h 1 (J2 t x) 1 (u64s [d0]))(hb:(O A+1)*bytes<=1099511627776)(J:X.n0<=lo/\lo<=n)
  (k:∀b' T' h' n',n<=n'->GRow h' lo n' b' (A++[d0]) T'->(∀c,c<3*n->c≠b->h' c=h c)->(b'=b\/3*n<=b')->EO X ops r ⟨upd t d (Y (ξ ⟨b',0,θ⟩) (O A+1) (O A+1+O T')),h',n',w⟩ Q):EO X ops (o::r) ⟨t,h,n,w⟩ Q:=by
 have I:=f.lo;cases T with
 |cons x T=>
  rw[DJ]at i;apply yM (v:=Y (ξ ⟨b,0,θ⟩) (O A+1) (O A+(O T+1))) ⟨F,hd,hn,q,j⟩ (by rw[i];exact ZM D hi G m hx hb Z f.r (by rw[zL,CJ,DJ];omega) ω);rw[my λy l=>by rw[CV.1 l];omega];have:=k b T (upd h b (ξ (.row ((u64s (A++x::T)).set (O A) (ι (d0:Int))) 152))) n Cy ⟨f.g,f.lo,f.hi,by
   rw[zg,yk,D1 _ _ Cy,DY,List.set_cons_zero,Dh];rfl⟩ (λc _ hc=>zm hc) (.inl ω)
  rw[show (O A)+(O T+1)=O A+1+O T from Z];exact this
 |nil=>
  rw[Gg,DE]at i;have u:=f.r;rw[Dm]at u;apply yM (v:=Y (ξ ⟨3*n+1,0,θ⟩) (O A+1) (O A+1)) ⟨F,hd,hn,q,j⟩ (by rw[i];exact ue D hi G Cy m hx Cy hb f.g u (by rw[zL,DD]) (yZ (xW A) ω) ω);rw[my λy l=>by rw[CV.1 l];omega];have H:=f.hi;exact k (3*n+1) [] _ (n+1) (C8 n) ⟨uD n,Z,Z,by rw[zg,Dm,vg]⟩ (λc hc p=>by rw[zm Z,zm p]) (.inr Z)
end
def R1{A f:Nat}(c:2*b<=A)(g:a<=B)(h:A*B<2^f)(j:0<A*B):∃f',f=f'+1/\a*b<2^f':=by
 cases f with
 |zero=>rw[EA]at h;omega
 |succ f=>
  refine⟨f,ω,?_⟩;have i:a*(2*b)<=B*A:=C6 g c;rw[Gm,CY B A]at i;rw[C5]at h;omega
structure GSt where
 A:List Nat
 TA:List Nat
 bA:Nat
 B:List Nat
 aB:Option Addr
 cB:Nat
 f:Nat
structure GOk (h:HF)(lo n g:Nat)(z:GSt):Prop where
 rA:GRow h lo n z.bA z.A z.TA
 sB:Sl h n 1 (Y z.aB (O z.B) z.cB) (u64s z.B)
 rB:1<=O z.B->∃bB TB,z.aB=ξ ⟨bB,0,θ⟩/\z.cB=O z.B+O TB/\GRow h lo n bB z.B TB/\z.bA≠bB
 nA:NW z.A
 nB:NW z.B
 le:wv z.B<=wv z.A
 pos:0<wv z.A
 lA:O z.A<1000000
 lB:O z.B<80
 gcd:CZ (wv z.A) (wv z.B)=g
 fuel:wv z.A*wv z.B<2^z.f
def Sa(h:NW A)(f:1<=O A):0<wv A:=by obtain c|c:=Fr (wv A);have:A=[]:=h.inj aa6 (by rw[c];rfl);rw[this]at f;exact Cu f zd;exact c
def uO{B:List Nat}(f:NW A)(g:NW B)(h:wv B<=wv A):O B<=O A:=by obtain c|c:=EB (O A) (O B);have:=f.len_lt g c;omega;exact c
def ZO(h:gro b=φ):b%3=1:=DC h
theorem eD(k:Nat){h:HF}(hG:GK.G h){n:Nat}(hn:20<=n)(hA:Sl h n 1 (Y a1 l1 c1) (u64s A))(hC:Sl h n 1 (Y a2 l2 c2) (u64s C))(u:NW A)(nC:NW C)(hb:O A<80/\O C<80):
  CF (J4 (k+7)) 107 [Y a1 l1 c1,Y a2 l2 c2] h n λv h' n' w=>∃L,ResW n h v h' n' w L/\wv L=CZ (wv A) (wv C)/\(xC n v\/v=Y a1 l1 c1\/v=Y a2 l2 c2):=by
 refine zw R4<|Za (k:=?_);refine Zb (k:=?_);refine yi _ R5 (uF (k+3) hA hC u nC Z) ?_;rintro _ rfl;refine lW R6 ?_;simp only[yu,xg,zK,yY];refine yj (α:=(Option Addr×Nat×Nat×List Nat)×(Option Addr×Nat×Nat×List Nat)) (λz=>[(0,Y z.1.1 z.1.2.1 z.1.2.2.1),(1,Y z.2.1 z.2.2.1 z.2.2.2.1)]) (λz h' n' w=>h=h'/\n=n'/\w=[]/\Sl h n 1 (Y z.1.1 z.1.2.1 z.1.2.2.1) (u64s z.1.2.2.2)/\Sl h n 1 (Y z.2.1 z.2.2.1 z.2.2.2.1) (u64s z.2.2.2.2)/\NW z.1.2.2.2/\NW z.2.2.2.2/\O z.1.2.2.2<80/\O z.2.2.2.2<80/\wv z.2.2.2.2<=wv z.1.2.2.2/\CZ (wv z.1.2.2.2) (wv z.2.2.2.2)=CZ (wv A) (wv C)/\(Y z.1.1 z.1.2.1 z.1.2.2.1=Y a1 l1 c1\/Y z.1.1 z.1.2.1 z.1.2.2.1=Y a2 l2 c2)) ?_ ?_
 .by_cases hlt:wv A<wv C
  .rw[ze (by show U _=_;rw[Lz hlt];rfl)];refine Za (k:=?_);exact zA ((a2,l2,c2,C),(a1,l1,c1,A)) P2 ⟨ω,ω,ω,hC,hA,nC,u,hb.2,hb.1,DZ hlt,EY _ _,.inr ω⟩
  rw[za (by
   show U _=_;obtain h|h:=EB (wv C) (wv A)
   .rw[sO h];rfl
   .rw[show wv A=wv C from Z,jd];rfl)]
  refine zN (k:=?_);exact zA ((a1,l1,c1,A),(a2,l2,c2,C)) P2 ⟨ω,ω,ω,hA,hC,u,nC,hb.1,hb.2,by show wv C<=wv A;omega,ω,.inl ω⟩
 rintro⟨⟨a,l,c,X⟩,⟨a',l',c',Z3⟩⟩ t _ _ _ ⟨rfl,rfl,rfl,hX,hY,nX,nY,br,aw,a7,H,hv⟩;simp only at hX hY nX nY br aw a7 H hv;generalize hgg:CZ (wv A) (wv C)=g at H⊢;have eX:=hX.lenW;have eY:=hY.lenW;subst eX eY;refine zN (k:=?_);by_cases hY0:Z3=[]
 .subst hY0;refine Zr (k:=?_);exact retH _ ⟨ω,(zi ω),ω⟩ ⟨X,⟨ω,Cy,Fy _ _,hX,nX⟩,Bi,.inr hv⟩
 have bs:1<=O Z3:=by grind
 have ag:1<=O X:=CU bs (uO nX nY a7);have bq:X≠[]:=λe=>by rw[e]at ag;exact Cu ag zd
 refine ZB (k:=?_);refine zF _ R5 (ub (k+5) hX Z) ?_;rintro v5 h2 i _⟨rfl,ak,W,_,a8⟩;obtain⟨b5,rfl,be,bf,bg,ap,_⟩:=(a8 bq).inv2 Z;refine zM (k:=?_);refine zF _ R5 (ub (k+5) (hY.ext W ak) Z) ?_;rintro v6 h3 n3 _⟨rfl,cu,D,_,ay⟩;obtain⟨b6,rfl,bh,ck,bi,au,_⟩:=(ay hY0).inv2 Z;have an:J3 n h h3:=W.trans D ak;have r5:GRow h3 n n3 b5 X []:=⟨be,bf,Z,by rw[Dm,D _ bg];exact ap⟩;have r6:GRow h3 n n3 b6 Z3 []:=⟨bh,Z,bi,by rw[Dm];exact au⟩;refine kG (k:=?_);refine ye (α:=GSt) (λz=>[(5,Y (ξ ⟨z.bA,0,θ⟩) (O z.A) (O z.A+O z.TA)),(6,Y z.aB (O z.B) z.cB)]) (λz h' n' w=>n<=n'/\w=[]/\J3 n h h'/\GOk h' n n' g z) (λz=>z.f)
  ⟨X,[],b5,Z3,ξ ⟨b6,0,θ⟩,O Z3,64*(O X+O Z3)⟩ P2 ⟨Z,ω,an,r5,r6.sl,λ_=>⟨b6,[],ω,ω,r6,by show b5≠b6;omega⟩,nX,nY,a7,Sa nX ag,by show O X<_;omega,aw,H,?_⟩ (by show 64*(O X+O Z3)<LL;unfold LL;omega) ?_
 .show wv X*wv Z3<2^(64*(O X+O Z3));rw[HC,show(2:Nat)^64=18446744073709551616 from ω,DV];exact GH (wW nX.1) (wW nY.1)
 rintro⟨A,TA,F,B,aB,cB,f⟩ t h1 n1 _ ⟨aj,rfl,ac,c7⟩;have⟨rA,sB,rB,u,N,aa,R,lA,lB,H,hf⟩:=c7;simp only at rA sB rB u N aa R lA lB H hf aj;refine zN (k:=?_);by_cases hB2:2<=O B;case neg=>
  refine Zj (k:=?_);cases B with
  |nil=>
   refine Zr (k:=?_);exact retH _ ⟨ω,(zi ω),ω⟩ ⟨A,⟨ω,aj,ac,rA.sl,u⟩,Bi,.inl rA.lo⟩
  |cons y B=>
   have bn:B=[]:=by grind
   subst bn;obtain⟨bB,TB,rfl,rfl,gB,az⟩:=rB eC;have hy:y<18446744073709551616:=N.1 y eC;have cy:y≠0:=as4 (l:=[]) N;rw[pP]at H;have b1:=gB.r;have bo:GK.G h1:=rR hG ac hn;rw[show[y].length=1 from rfl];refine Zj (k:=?_);refine zl (k:=?_);repeat refine zE (k:=?_)
   refine yd R6 (nJ ω b1 (v:=CC .u64 (y:Int)) R2) R2 ?_;repeat refine zE (k:=?_)
   refine yd R6 (nJ ω b1 (v:=CC .u64 (y:Int)) R2) R2<|NA _ R7 (Yz (k+2) (l:=A) (d:=y) Z u.1 ⟨Z,hy⟩ rA.sl) ?_;rintro _ rfl;refine NA _ R7 (XT (k+4) bo n1 hy (Ir (Dz _ Z) hy)) ?_;rintro _ rfl;refine wa _ R7 (sH (k+5) h1 n1 (C7 (Ij _ Z) hy)) ?_;rintro v9 h9 n9 _⟨L9,⟨rfl,c6,ce,b2,bp⟩,cb,cn,c0⟩;obtain⟨a9,l9,c9,rfl,_⟩:=b2.len;refine⟨sj,c6,?_⟩;repeat refine zE (k:=?_)
   refine zN (k:=?_);exact retH _ ⟨ω,(zi ω),ω⟩ ⟨L9,⟨ω,by show n<=n9;omega,ac.trans ce Z,b2,bp⟩,by rw[cb,YJ,H],.inl (c0.mono Z)⟩
 obtain⟨bB,TB,rfl,rfl,gB,az⟩:=rB Z;have K:=Sa N (show 1<=O B from Z);have bm:=uO u N aa;refine Zx (k:=?_);refine zF _ R5 (fC (k+3) rA.sl gB.sl u N Z aa Z K) ?_;rintro _ h2 i _⟨rfl,ak,W,x,y,u0,u1,u2,v0,v1,v2,r0,r1,a3,rfl,hL,d0,d1,d2,d3⟩;refine xV R5<|yc [CC .u64 (u0:Int),CC .u64 (u1:Int),CC .u64 (v0:Int),CC .u64 (v1:Int),U a3] R7 ω (zg _ _ _) ω (by show 3*n<=3*i+2;omega) ?_;rw[uk];generalize hh:upd h2 (3*i+2) _=h3;have q3:∃e,h3 (3*i+2)=ξ (.row [CC .u64 (u0:Int),CC .u64 (u1:Int),CC .u64 (v0:Int),CC .u64 (v1:Int),U a3] e):=⟨_,gZ⟩;have⟨e3,q3⟩:=q3;have a6:J3 n1 h1 h3:=λb hb=>by rw[<-hh,zm Z,W b hb]
 have D:J3 n h h3:=ac.trans a6 aj;have ae:=rA.ext a6 (show n1<=i+1 from Z);have Z4:=gB.ext a6 (show n1<=i+1 from Z);refine Zi (k:=?_);refine zT R6 q3 (v:=CC .u64 (v0:Int)) R2 ?_;by_cases hv0:v0=0
 .refine Zx (k:=?_);refine zF _ R5 (ng k ae.sl Z4.sl u N Z K) ?_;rintro _ h4 n4 _⟨vq,vr,Lq,J,rfl,rfl,ab,P,ca,cw,am,b0,hq,hr,_,_⟩;obtain⟨aq,lq,cq,rfl,_⟩:=ca.len;obtain⟨ar,lr,cr,rfl,_⟩:=am.len;have c3:=Dz (wv A) K;have ct:O J<=O B:=uO N b0 Z;have bd:=am.lenW;subst bd;refine ZC (k:=?_);refine zF _ R5 (ub (k+5) am Z) ?_;rintro v5 h5 n5 _⟨rfl,cv,cd,al,a8⟩;obtain⟨a5,l5,c5,rfl,_⟩:=al.len;have bc:=al.lenW;subst bc;refine kG (k:=?_);have ao:J3 (i+1) h3 h5:=P.trans cd ab;obtain⟨f',rfl,ah⟩:=R1 (a:=wv B) (b:=wv A%wv B) (by
   have h1:=DN (wv A) (wv B);have h2:wv B*1<=wv B*(wv A/wv B):=C4 _ ((aa7 K).2 aa);omega) Cy hf (Et R K)
  refine goOn ⟨B,TB,bB,J,a5,c5,f'⟩ (Fv _) P2 ⟨by show n<=n5;omega,ω,D.trans ao (show n<=i+1 from Z),Z4.ext ao (show i+1<=n5 from Z),al,λhl=>?_,N,b0,by show wv J<=wv B;rw[hr];exact DZ c3,K,by show O B<_;omega,by show O J<_;omega,?_,by show wv B*wv J<_;rw[hr];exact ah⟩
  .obtain⟨b7,e7,bj,cl,bk,bl,_⟩:=(a8 (λe=>by rw[show(GSt.mk B TB bB J a5 c5 f').B=J from ω,e]at hl;exact Cu hl (JH 0))).inv2 (show O J≠0 from λe=>by rw[show(GSt.mk B TB bB J a5 c5 f').B=J from ω,e]at hl;exact Cu hl (JH 0));injection e7 with e1 e2 e3
   subst e1 e3;have:=gB.hi;exact⟨b7,[],ω,ω,⟨bj,Z,bk,by rw[Dm];exact bl⟩,by show bB≠b7;omega⟩
  show CZ (wv B) (wv J)=g;rw[hr,<-H,EY,<-IP,EY]
 have⟨a,b,hE,hO,bw,ai,ci,ax⟩:=hL.done hv0;refine Zc (k:=?_);simp only[yu,xg,zK,yY];refine yj (α:=Nat×List Nat×List Nat×Nat) (λz=>[(5,Y (ξ ⟨F,0,θ⟩) (O A) (O A+O TA)),(6,Y (ξ ⟨z.1,0,θ⟩) (O z.2.1) (O z.2.1+O z.2.2.1)),(7,ε (3*i+2))])
  (λz h' n' w=>n'=z.2.2.2/\i+1<=n'/\w=[]/\J3 n h h'/\GRow h' n n' F A TA/\GRow h' n n' z.1 z.2.1 z.2.2.1/\F≠z.1/\h' (3*i+2)=ξ (.row [CC .u64 (u0:Int),CC .u64 (u1:Int),CC .u64 (v0:Int),CC .u64 (v1:Int),U a3] e3)/\O z.2.1=O A/\J5 z.2.1/\wv z.2.1=wv B) ?_ ?_
 .refine zN (k:=?_);refine ye (α:=Nat×List Nat×List Nat) (λz=>[(5,Y (ξ ⟨F,0,θ⟩) (O A) (O A+O TA)),(6,Y (ξ ⟨z.1,0,θ⟩) (O z.2.1) (O z.2.1+O z.2.2)),(7,ε (3*i+2))])
   (λz h' n' w=>i+1<=n'/\w=[]/\J3 n h h'/\GRow h' n n' F A TA/\GRow h' n n' z.1 z.2.1 z.2.2/\F≠z.1/\h' (3*i+2)=ξ (.row [CC .u64 (u0:Int),CC .u64 (u1:Int),CC .u64 (v0:Int),CC .u64 (v1:Int),U a3] e3)/\O z.2.1<=O A/\J5 z.2.1/\wv z.2.1=wv B) (λz=>O A-O z.2.1)
   (bB,B,TB) P3 ⟨Cy,ω,D,ae,Z4,az,q3,bm,N.1,ω⟩ (by show O A-O B<LL;unfold LL;omega) ?_
  rintro⟨bZ,Z0,T⟩ t h4 n4 _ ⟨ab,rfl,P,j,s,m,q4,V,dZ,M⟩;simp only at s m V dZ M;refine zN (k:=?_);by_cases hZA:O Z0<O A
  .refine ZD (k:=?_);refine pZ (cs:=u64s [0]) R5 ?_;generalize hh:upd h4 (3*n4+2) _=h5;have S:J3 n4 h4 h5:=by grind [E9]
   have q5:∃e,h5 (3*n4+2)=ξ (.row (u64s [0]) e):=⟨_,gZ⟩;have⟨e5,q5⟩:=q5;refine ZN (lo:=n) (d0:=0) ω ω ω ω ω ω ω ω zd ω (s.ext S (C8 n4)) (yp q5 R2) Z ⟨Cy,Z⟩ λb' T' h6 n6 c4 g6 a0 bv=>?_;refine kG (k:=?_);have cm:=ZO s.g;have b9:=s.hi;have a4:=s.lo;have b8:=j.hi;refine goOn (b',Z0++[0],T') aD ⟨ω,by show Y _ _ _=Y _ _ _;rw[CJ];rfl,ω,Cx⟩ ⟨by show i+1<=n6;omega,ω,λb hb=>?_,⟨j.g,j.lo,by show F<3*n6;omega,?_⟩,g6,by show F≠b';obtain e|e:=bv<;>omega,?_,by show(Z0++[0]).length<=_;rw[CJ,C0];omega,Gc dZ zd,by show wv (Z0++[0])=_;rw[yO,Eo,DE,M]⟩
   .exact(a0 b Z Z).trans ((S b Z).trans (P b hb))
   .exact(a0 F Z m).trans ((S F Z).trans j.r)
   exact(a0 (3*i+2) Z Z).trans ((S (3*i+2) Z).trans q4)
  refine Zj (k:=?_);exact zA (bZ,Z0,T,n4) P3 ⟨ω,ab,ω,P,j,s,m,q4,by show O Z0=_;omega,dZ,M⟩
 rintro⟨bZ,Z0,T,n4⟩ t h4 _ _ ⟨rfl,ab,rfl,P,j,s,m,q4,V,dZ,M⟩;simp only at s m V dZ M;refine zN (k:=?_);refine z7 (v:=.agg #[CC .u64 (u0:Int),CC .u64 (u1:Int),CC .u64 (v0:Int),CC .u64 (v1:Int),U a3]) R5 (yw R2 q4 ω zb ω)<|Zb (k:=?_);have cj:=wW u.1;refine zF _ R5 (ZL (k+3) (a:=a) (b:=b) j.hi s.hi m j.r s.r Z Z V Z Z u.1 dZ ⟨Z,Z,Z,Z⟩ Z Z (by rw[M];exact hE) (by rw[M];exact hO)) ?_;rintro _ h6 n6 w6⟨q,I,cc,c4,a0,qA,qB,ba,bb,b3,cf,cg,ch⟩;have af:=j.lo;have a4:=s.lo;have b8:=j.hi;have b9:=s.hi;try simp only[tH]
 rw[my (w:=[]) λy hy=>by
  show 3*n<=y;obtain rfl|rfl:=cc y hy
  .exact af
  .exact a4]
 have b4:GRow h6 n n6 F q TA:=⟨j.g,af,Z,qA⟩;have av:GRow h6 n n6 bZ I T:=⟨s.g,a4,Z,qB⟩;refine kG (k:=?_);refine zM (k:=?_);have tA:=xi (k+5) (l:=q) Z (λad e=>by injection e with e;rw[<-e]) b4.sl;rw[b3]at tA;refine zF _ R5 tA ?_;rintro _ h6 n6 _⟨rfl,rfl,rfl,rfl,cx⟩;refine zM (k:=?_);have tB:=xi (k+5) (l:=I) Z (λad e=>by injection e with e;rw[<-e]) av.sl;rw[cf,<-V]at tB;refine zF _ R5 tB ?_;rintro _ h6 n6 _⟨rfl,rfl,rfl,rfl,c8⟩;refine kG (k:=?_);have p:=xD ba;have Z1:=xD bb;rw[cg]at p;rw[ch]at Z1;have bt:0<a:=by
  obtain h0|h0:=Fr a
  .have bu:b=0:=Z;rw[h0,bu,Nat.gcd_zero_right]at ai;have:=FP (wv B) R;omega
  exact h0
 obtain⟨f',rfl,ah⟩:=R1 (a:=a) (b:=b) Z ax hf (Et R K);have bx:=GRow.cap (A:=q) (T:=TA);have bz:=GRow.cap (A:=I) (T:=T);have co:O (yf q)<=O B:=uO N p.1 (by rw[p.2];exact ax);have cp:O (yf I)<=O (yf q):=uO p.1 Z1.1 Z;exact goOn ⟨yf q,q.drop (O (yf q))++TA,F,yf I,ξ ⟨bZ,0,θ⟩,O Z0+O T,f'⟩ (Fv _) ⟨by show Y _ _ _=Y _ _ _;rw[bx,b3],ω,Cx⟩ ⟨by show n<=n6;omega,ω,λc hc=>(a0 c Z Z Z).trans (P c hc),b4.cut,c8,λ_=>⟨bZ,I.drop (O (yf I))++T,ω,by show O Z0+O T=_;rw[bz];omega,av.cut,m⟩,p.1,Z1.1,by show wv (yf I)<=wv (yf q);rw[p.2,Z1.2];exact bw,by show 0<wv (yf q);rw[p.2];exact bt,by show(yf q).length<_;omega,by show(yf I).length<_;omega,by show CZ (wv (yf q)) (wv (yf I))=g;rw[p.2,Z1.2,ai,H],by show wv (yf q)*wv (yf I)<_;rw[p.2,Z1.2];exact ah⟩
end
def rx(k:Nat)(h:HF)(n:Nat)(b:Bool)(a:Option Addr)(l c:Nat):CF (J4 (k+1)) 120 [U b,Y a l c] h n λv d e w=>v=.agg #[U (b&&decide (0<l)),Y a l c]/\e=n+1/\w=[]/\J3 n h d:=by
 apply zw R4;apply(zN);apply xV R5;apply(zN);cases b;repeat apply(zR)
 apply yc [U χ,Y a l c] R7 ω (zg _ _ _) ω (by show 3*n<=_;omega);apply(zN);exact uq R5 (zg _ _ _) ω ⟨ω,ω,ω,by rw[uk];exact E9 Z⟩;by_cases hl:0<l;repeat apply(zR)
 apply yc [U φ,Y a l c] R7 ω (zg _ _ _) ω (by show 3*n<=_;omega);apply(zN);exact uq R5 (zg _ _ _) ω ⟨by rw[Ct hl];rfl,ω,ω,by rw[uk];exact E9 Z⟩;repeat apply(zR)
 apply yc [U χ,Y a l c] R7 ω (zg _ _ _) ω (by show 3*n<=_;omega);apply(zN);exact uq R5 (zg _ _ _) ω ⟨by rw[BG hl];rfl,ω,ω,by rw[uk];exact E9 Z⟩
def NW.zero_iff{L:List Nat}(h:NW L):wv L=0↔L=[]:=⟨λe=>h.inj aa6 AF,λe=>by rw[e];rfl⟩
section
variable{l:Nat}{e:TypeId}{z:ψ}
def Gw(n:Nat)(h:HF)(P:ψ->HF->Nat->Prop):ψ->HF->Nat->List Nat->Prop:=λv h' n' w=>w=[]/\n<=n'/\J3 n h h'/\P v h' n'
def CX(C:CalF)(f:FuncId)(args:List ψ)(h:HF)(n:Nat)(P:ψ->HF->Nat->Prop):Prop:=CF C f args h n (Gw n h P)
def VF.cx{C:CalF}{h:HF}{n:Nat}{P:ψ->Prop}(c:VF C f args h n P):CX C f args h n λv _ _=>P v:=by apply wc c;rintro v _ _ _⟨rfl,rfl,rfl,a⟩;exact⟨ω,Cy,Fy _ _,a⟩
def CX.mono{C:CalF}{h:HF}{n:Nat}{P a:ψ->HF->Nat->Prop}(c:CX C f args h n P)(j:∀v h' n',P v h' n'->a v h' n'):CX C f args h n a:=by apply wc c;rintro v _ _ _⟨q,g,s,p⟩;exact⟨q,g,s,j _ _ _ p⟩
def Only(b:Nat)(h h':HF):Prop:=∀c,c≠b->h' c=h c
def J3.st{n:Nat}{h a g:HF}(x:J3 n h a)(o:Only b a g)(hb:3*n<=b):J3 n h g:=λc j=>(o c Z).trans (x c j)
section
variable{X:CtxF}{r:List Oper}{t:TF}{o:Oper}{d:Tmp}
def tK(cs:List ψ)(a:qt X ops t o d (Kd o.op=2/\Kl X.E o.op (J2 t)=ξ ⟨cs,e,χ,θ⟩))
  (k:∀h',h' (3*n+2)=ξ (.row cs e)->J3 n h h'->EO X ops r ⟨upd t d (ε (3*n+2)),h',n+1,w⟩ Q):EO X ops (o::r) ⟨t,h,n,w⟩ Q:=by have⟨a,j,q,g,p⟩:=a;exact Lb ⟨a,j,q,g,p⟩ (k _ (zg _ _ _) (E9 Z))
theorem wt(cs:List ψ)(a:qt X ops t o d (o.op=.alloc e/\X.E.inf e=ξ (sz,bt,z)/\zn z=cs))
  (k:∀h',h' (3*n+2)=ξ (.row cs e)->J3 n h h'->EO X ops r ⟨upd t d (ε (3*n+2)),h',n+1,w⟩ Q):EO X ops (o::r) ⟨t,h,n,w⟩ Q:=by
 obtain⟨a,g,p,q,j,s⟩:=a;subst s;exact xV ⟨a,g,p,q,j⟩ (k _ (zg _ _ _) (E9 Z))
def mq{a x:Operand}{c:List ψ}(c':List ψ)(j:zh ops t o=φ/\o.dst=θ/\o.op=.store ty a x/\X.E.inf ty=ξ (sz,bt,z)/\J2 t a=CH (ξ ⟨b,off,θ⟩))(hb:h b=ξ (.row c e))(hx:zn (J2 t x)=cs/\O cs=sz/\ones cs=φ)(C:off+sz<=O c)(p:zu c off cs=c')(g:3*X.n0<=b)
  (k:∀h',h' b=ξ (.row c' e)->Only b h h'->EO X ops r ⟨t,h',n,w⟩ Q):EO X ops (o::r) ⟨t,h,n,w⟩ Q:=by have⟨j,A,D,B,s⟩:=j;have⟨hx,F,q⟩:=hx;subst p;exact yF ⟨j,A,D,B,s,hx,F,q⟩ hb C g (k _ (zg _ _ _) λc u=>zm u)
def gJ{P:ψ->HF->Nat->Prop}(g:qt X ops t o d (Kd o.op=3/\effF X.E o.op (J2 t) h n=ξ (.enter f args)))(a:CX X.C f args h n P)
  (k:∀v h' n',P v h' n'->n<=n'->J3 n h h'->EO X ops r ⟨upd t d v,h',n',w⟩ Q):EO X ops (o::r) ⟨t,h,n,w⟩ Q:=by have⟨g,u,B,s,A⟩:=g;apply zF _ ⟨g,u,B,s,A⟩ a;rintro v h' n' _⟨rfl,j,p,q⟩;exact k v h' n' q j p
end
section
variable{X:CtxF}{r:List Oper}{t:TF}{o:Oper}{d:Tmp}
end
def qP{s:SV}:resF Kc s []=ξ []:=rfl
def yX{s:SV}{a:Tmp}{r:List ResultVar}(h:s.t a=v)(g:resF Kc s r=ξ vs):resF Kc s (.tmp a::r)=ξ (v::vs):=by simp only[resF,g,h]
def we{s:SV}{a:Tmp}{g:Addr}{r:List ResultVar}(j:s.t a=CH (ξ g))(p:yB Kc ty s.h g=ξ v)(q:resF Kc s r=ξ vs):resF Kc s (.cell a ty::r)=ξ (v::vs):=by simp only[resF,j,p,q]
def retX{P:ψ->HF->Nat->Prop}{e:Ex}{t:TF}{h:HF}{n:Nat}(vs:List ψ)(a:rI e=φ/\resF Kc ⟨t,h,n,[]⟩ fn.results.toList=ξ vs/\uQ vs=χ)(j:n0<=n)(hx:J3 n0 h0 h)(p:P (qm vs) h n):RetH fn (Gw n0 h0 P) e ⟨t,h,n,[]⟩:=by have⟨a,q,g⟩:=a;exact retH vs ⟨a,q,g⟩ ⟨ω,j,hx,p⟩
def nu:ψ->Bool
 | CC .u64 _=>χ
 | CC .u32 _=>χ
 |_=>φ
def Sl.onlyG{h:HF}{n:Nat}(s:Sl h n 1 v cl)(g:∀x∈cl,nu x=χ)(B:h b=ξ (.row cs e))(C:cs.all nu=φ)(A:Only b h h'):Sl h' n 1 v cl:=by
 cases s with
 |nil ha=>exact .nil ha
 | @at_ b2 off len cap x cs2 c2 hb hx hc hcap hl he=>
  by_cases h0:len=0;subst h0;have:cl=[]:=by rw[<-he];simp
  subst this;exact .nil (.inr ⟨_,_,_,ω,hb⟩);have j:b2≠b:=by
   intro p;subst p;rw[B]at hx;cases hx;injection hc with hc;subst hc;have q:O cl=len:=by rw[<-he,DA,Ek];omega
   obtain⟨d,a,rfl⟩:∃d a,cl=d::a:=by
    cases cl with
    |nil=>exact Cu q.symm h0
    |cons d a=>exact⟨d,a,ω⟩
   have u:d∈cs:=by
    have:d∈(cs.drop off).take (len*1):=by rw[he];exact D4
    exact List.mem_of_mem_drop (Dp this)
   have:=E3.1 C _ u;rw[g d D4]at this;cases this
  exact .at_ hb (by rw[A _ j];exact hx) hc hcap hl he
def Sl.only{h:HF}{n:Nat}{L:List Nat}(s:Sl h n 1 v (u64s L))(g:h b=ξ (.row cs e))(j:cs.all nu=φ)(a:Only b h h'):Sl h' n 1 v (u64s L):=
 s.onlyG (λx p=>by obtain⟨d,_,rfl⟩:=DL.1 p;rfl) g j a
def Sl.only32{h:HF}{n:Nat}{L:List Nat}(s:Sl h n 1 v (u32s L))(g:h b=ξ (.row cs e))(j:cs.all nu=φ)(a:Only b h h'):Sl h' n 1 v (u32s L):=
 s.onlyG (λx p=>by obtain⟨d,_,rfl⟩:=DL.1 p;rfl) g j a
def WW(h:HF)(n:Nat)(a:Option Addr)(l c m:Nat):Prop:=∃L,Sl h n 1 (Y a l c) (u64s L)/\NW L/\wv L=m
def WW.ext{h:HF}{n:Nat}{a:Option Addr}{m:Nat}(i:WW h n a l c m)(e:J3 n h h')(q:n<=n'):WW h' n' a l c m:=by have⟨L,g,j,p⟩:=i;exact⟨L,g.ext e q,j,p⟩
def WW.only{h:HF}{n g:Nat}{a:Option Addr}{m:Nat}(i:WW h n a l c m)(u:h g=ξ (.row cs e))(A:cs.all nu=φ)(s:Only g h h'):WW h' n a l c m:=by have⟨L,j,p,q⟩:=i;exact⟨L,j.only u A s,p,q⟩
def WW.zero{h:HF}{n:Nat}{a:Option Addr}{m:Nat}(i:WW h n a l c m):l=0↔m=0:=by have⟨L,g,j,p⟩:=i;have e:=g.lenW;rw[<-p,j.zero_iff,<-CT,e]
def WW.as{h:HF}{n:Nat}{a:Option Addr}{m:Nat}(i:WW h n a l c m)(e:m=m'):WW h n a l c m':=e▸i
def WW.nil(h:HF)(n:Nat):WW h n θ 0 0 0:=⟨[],.nil (.inl ω),aa6,ω⟩
def IW(h:HF)(n:Nat)(b:Bool)(a:Option Addr)(l c:Nat)(x:Int):Prop:=b=decide (x<0)/\WW h n a l c x.natAbs
def IW.ext{h:HF}{n:Nat}{b:Bool}{a:Option Addr}{x:Int}(i:IW h n b a l c x)(e:J3 n h h')(g:n<=n'):IW h' n' b a l c x:=⟨i.1,i.2.ext e g⟩
def IW.only{h:HF}{n g:Nat}{b:Bool}{a:Option Addr}{x:Int}(i:IW h n b a l c x)(p:h g=ξ (.row cs e))(q:cs.all nu=φ)(j:Only g h h'):IW h' n b a l c x:=⟨i.1,i.2.only p q j⟩
def IW.as{h:HF}{n:Nat}{b:Bool}{a:Option Addr}{x y:Int}(i:IW h n b a l c x)(e:x=y):IW h n b a l c y:=e▸i
def IW.lt{h:HF}{n:Nat}{a:Option Addr}{x:Int}(i:IW h n φ a l c x):x<0:=of_decide_eq_true i.1.symm
def IW.ge{h:HF}{n:Nat}{a:Option Addr}{x:Int}(i:IW h n χ a l c x):0<=x:=Int.not_lt.1 (of_decide_eq_false i.1.symm)
def IV(x:Int)(v:ψ)(h:HF)(n:Nat):Prop:=∃b a l c,v=.agg #[U b,Y a l c]/\IW h n b a l c x
def WV(m:Nat)(v:ψ)(h:HF)(n:Nat):Prop:=∃a l c,v=Y a l c/\WW h n a l c m
def BV(p:Prop)(v:ψ)(_:HF)(_:Nat):Prop:=∃b:Bool,v=U b/\(b=φ↔p)
def NF(x:Int)(v:ψ)(_:HF)(_:Nat):Prop:=∃s:Int,v=υ s/\(s= -1/\x<0\/s=0/\x=0\/s=1/\0<x)
def IW.zero(h:HF)(n:Nat):IW h n χ θ 0 0 0:=⟨ω,WW.nil h n⟩
def GG(h:HF)(n:Nat):Prop:=GK.G h/\20<=n
def GG.ext{h:HF}{n:Nat}(g:GG h n)(e:J3 n h h')(a:n<=n'):GG h' n':=⟨rR g.1 e g.2,CU g.2 a⟩
def BW:Nat:=18446744073709551616^39
def yU{m e:Nat}(h:m<2^e)(j:e<=2496):m<BW:=by have a:e<=64*39:=j;generalize hk:39=k at a;have g:m<(2^64)^k:=(by rw[<-HC];exact CS h (CQ zd a));subst hk;exact g
def NW.len39{L:List Nat}(h:NW L)(hb:wv L<BW):O L<=39:=h.len_le hb
def KT(b:Bool)(m:Nat):Int:=if b then -(m:Int)else m
def Sb(b:Bool)(m:Nat):(KT b m).natAbs=m:=by unfold KT;split<;>omega
theorem Sc(b:Bool)(m:Nat):decide (KT b m<0)=(b&&decide (0<m)):=by grind [KT]
def yJ(k:Nat){h:HF}{n:Nat}{a:Option Addr}{m:Nat}(i:WW h n a l c m)(g:Bool):CX (J4 (k+1)) 120 [U g,Y a l c] h n (IV (KT g m)):=by apply wc (rx k h n g a l c);rintro _ h' n' _⟨rfl,rfl,rfl,j⟩;refine⟨ω,C8 _,j,_,_,_,_,ω,?_,?_⟩;rw[Sc];have:=i.zero;congr 1;by_cases h0:0<l;rw[Ct h0,Ct Z];rw[BG h0,BG Z];rw[Sb];exact i.ext j Zq
def ResW.ww{n:Nat}{h:HF}{w:List Nat}{L:List Nat}(r:ResW n h v h' n' w L){m:Nat}(e:wv L=m):w=[]/\n<=n'/\J3 n h h'/\WV m v h' n':=by have⟨j,p,q,g,s⟩:=r;obtain⟨a,l,c,rfl,_⟩:=g.len;exact⟨j,p,q,_,_,_,ω,L,g,s,e⟩
section
variable (k:Nat){h:HF}{n:Nat}{a1 a2:Option Addr}{l1 c1 l2 c2 x y:Nat}
def Sd(i:WW h n a1 l1 c1 x)(j:WW h n a2 l2 c2 y)(hb:x<BW/\y<BW):CX (J4 (k+2)) 121 [Y a1 l1 c1,Y a2 l2 c2] h n (WV (x+y)):=by obtain⟨A,p,a,rfl⟩:=i;obtain⟨C,q,g,rfl⟩:=j;have:=a.len39 hb.1;have:=g.len39 hb.2;apply wc (dK k p q a g Z);exact BH
def M7(i:WW h n a1 l1 c1 x)(j:WW h n a2 l2 c2 y)(hb:x<BW/\y<BW)(a:y<=x):CX (J4 (k+2)) 123 [Y a1 l1 c1,Y a2 l2 c2] h n (WV (x-y)):=by obtain⟨A,p,g,rfl⟩:=i;obtain⟨C,q,s,rfl⟩:=j;have:=g.len39 hb.1;apply wc (fe k p q g s Z a);exact BH
def NG(i:WW h n a1 l1 c1 x)(j:WW h n a2 l2 c2 y)(hb:x<BW/\y<BW):CX (J4 (k+3)) 124 [Y a1 l1 c1,Y a2 l2 c2] h n (WV (x*y)):=by obtain⟨A,p,a,rfl⟩:=i;obtain⟨C,q,g,rfl⟩:=j;have:=a.len39 hb.1;have:=g.len39 hb.2;apply wc (fV k p q a g Z Z);exact BH
def Se(i:WW h n a1 l1 c1 x)(j:WW h n a2 l2 c2 y)(hb:x<BW/\y<BW)(h0:0<y):CX (J4 (k+6)) 138 [Y a1 l1 c1,Y a2 l2 c2] h n λv h' n'=>∃a l c g q p,v=.tuple #[Y a l c,Y g q p]/\WW h' n' a l c (x/y)/\WW h' n' g q p (x%y):=by obtain⟨A,Z1,B,rfl⟩:=i;obtain⟨C,P,D,rfl⟩:=j;have:=B.len39 hb.1;have:=D.len39 hb.2;apply wc (ng k Z1 P B D Z h0);rintro v h' n' w⟨R,S,F,G,rfl,H,I,J,s,K,u,L,M,N,_⟩;obtain⟨a,l,c,rfl,_⟩:=s.len;obtain⟨g,q,p,rfl,_⟩:=u.len;exact⟨H,I,J,_,_,_,_,_,_,ω,⟨F,s,K,M⟩,⟨G,u,L,N⟩⟩
def Sf(g:GG h n)(i:WW h n a1 l1 c1 x)(j:WW h n a2 l2 c2 y)(hb:x<BW/\y<BW):CX (J4 (k+7)) 107 [Y a1 l1 c1,Y a2 l2 c2] h n (WV (CZ x y)):=by obtain⟨A,q,a,rfl⟩:=i;obtain⟨C,s,p,rfl⟩:=j;have:=a.len39 hb.1;have:=p.len39 hb.2;apply wc (eD k g.1 g.2 q s a p Z);exact BH
def M8(i:WW h n a1 l1 c1 x)(j:WW h n a2 l2 c2 y)(hb:x<BW/\y<BW):CX (J4 (k+3)) 122 [Y a1 l1 c1,Y a2 l2 c2] h n (NF ((x:Int)-y)):=by obtain⟨A,g,a,rfl⟩:=i;obtain⟨C,p,q,rfl⟩:=j;have:=a.len39 hb.1;refine(uF k g p a q Z).cx.mono ?_;rintro _ _ _ rfl;refine⟨_,ω,?_⟩;obtain h|h|h:=Gk (wv A) (wv C);exact .inl ⟨Lz h,Z⟩;exact .inr (.inl ⟨by rw[h];exact jd _,Z⟩);exact .inr (.inr ⟨sO h,Z⟩)
def ZP(h:HF)(n:Nat){w:Nat}(a:w<18446744073709551616):CX (J4 (k+1)) 95 [ι (w:Int)] h n (WV w):=by apply wc (sH k h n a);exact BH
end
end
section
variable{u:Nat}{h0:HF}{x1 x2 x3 z:ψ}
theorem J7{b:Bool}{p:Prop}(h:b=φ↔p):b=χ/\¬p\/b=φ/\p:=by grind
def KJ{p:Prop}(h:p:=by first|exact⟨hx,hy⟩|exact⟨hy,hx⟩):p:=h
def J8{p:Prop}(h:¬p):∃b:Bool,U χ=U b/\(b=φ↔p):=⟨_,ω,λa=>tp,λa=>Cu a h⟩
def Ki{p:Prop}(h:p):∃b:Bool,U φ=U b/\(b=φ↔p):=⟨_,ω,λ_=>h,λ_=>rfl⟩
def Kp(b:Nat)(h h':HF):Prop:=Only b h h'/\∃cs e,h b=ξ (.row cs e)/\cs.all nu=φ
def ExtB(n:Nat)(B:List Nat)(h h':HF):Prop:=∀b,b<3*n->b∉B->h' b=h b
def ExtB.refl(n:Nat)(B:List Nat)(h:HF):ExtB n B h h:=λ_ _ _=>rfl
def ExtB.ext{n:Nat}{B:List Nat}{a b c:HF}(x:ExtB n B a b)(y:J3 n' b c)(j:n<=n'):ExtB n B a c:=λk g e=>(y k Z).trans (x k g e)
def ExtB.st{n m:Nat}{B:List Nat}{a b c:HF}(x:ExtB n B a b)(o:Only m b c)(hm:3*n<=m\/m∈B):ExtB n B a c:=λk j g=>by
 refine(o k λe=>?_).trans (x k j g);subst e;obtain hm|hm:=hm
 .omega
 exact g hm
def ExtB.trans{n m:Nat}{B C:List Nat}{a b c:HF}(x:ExtB n B a b)(y:ExtB m C b c)(hm:n<=m)(g:∀k∈C,k∈B\/3*n<=k):ExtB n B a c:=λk l e=>(y k Z λj=>by obtain h|h:=g k j;exact e h;omega).trans (x k l e)
def ExtB.to{n m:Nat}{B:List Nat}{a b:HF}(x:ExtB n B a b)(hm:m<=n)(e:∀k∈B,3*m<=k):J3 m a b:=λk j=>x k Z λg=>by have:=e k g;omega
structure Exa (n:Nat)(h h':HF):Prop where
 e:J3 n h h'
def Exa.zz{n b:Nat}{h:HF}{y:Option BF}(x:Exa n h h')(hb:b<3*n)(e:h b=y):h' b=y:=(x.e b hb).trans e
def J3.zz{n b:Nat}{h:HF}{y:Option BF}(x:J3 n h h')(hb:b<3*n)(e:h b=y):h' b=y:=(x b hb).trans e
def Only.zz{b:Nat}{h:HF}{y:Option BF}(x:Only b h h')(hb:c≠b)(e:h c=y):h' c=y:=(x c hb).trans e
def Kp.zz{b:Nat}{h:HF}{y:Option BF}(x:Kp b h h')(hb:c≠b)(e:h c=y):h' c=y:=(x.1 c hb).trans e
def ExtB.zz{n b:Nat}{B:List Nat}{h:HF}{y:Option BF}(x:ExtB n B h h')(hb:b<3*n)(a:b∉B)(e:h b=y):h' b=y:=(x b hb a).trans e
def Ol(o:Option BF):Prop:=∃x,o=ξ x/\((∃cs e,x=.row cs e/\cs.all nu=φ)\/x.cells=θ)
def Ol.row{e:TypeId}{o:Option BF}(h:o=ξ (.row cs e))(a:cs.all nu=φ):Ol o:=⟨_,h,.inl ⟨_,_,ω,a⟩⟩
def LO(b:Nat)(h h':HF):Prop:=Only b h h'/\∃x,h b=ξ x/\x.cells=θ
def LO.zz{b:Nat}{h:HF}{y:Option BF}(x:LO b h h')(hb:c≠b)(e:h c=y):h' c=y:=(x.1 c hb).trans e
def Tr(n:Nat)(h:HF)(n':Nat)(h':HF):Prop:=n<=n'/\∀c,c<3*n->h' c=h c\/Ol (h c)
def Tx(n:Nat)(h:HF)(n':Nat)(h':HF):Prop:=n<=n'/\J3 n h h'
def Ty(n:Nat)(B:List Nat)(h:HF)(n':Nat)(h':HF):Prop:=n<=n'/\ExtB n B h h'
section
variable{B:List Nat}
def Tr.refl(n:Nat)(h:HF):Tr n h n h:=⟨Cy,λ_ _=>.inl ω⟩
def Tr.e(x:J3 n1 h1 h2)(g:n1<=n2)(t:Tr n h n1 h1):Tr n h n2 h2:=⟨CU t.1 g,λc a=>by rw[x c Bm];exact t.2 c a⟩
def Tr.s(x:Kp b h1 h2)(t:Tr n h n1 h1):Tr n h n1 h2:=by refine⟨t.1,λc g=>?_⟩;by_cases e:c=b;subst e;have⟨cs,e,j,l⟩:=x.2;obtain a|a:=t.2 c g;rw[a]at j;exact .inr (.row j l);exact .inr a;rw[x.1 c e];exact t.2 c g
def Tr.l(x:LO b h1 h2)(t:Tr n h n1 h1):Tr n h n1 h2:=by refine⟨t.1,λc g=>?_⟩;by_cases e:c=b;subst e;have⟨y,j,p⟩:=x.2;obtain a|a:=t.2 c g;rw[a]at j;exact .inr ⟨y,j,.inr p⟩;exact .inr a;rw[x.1 c e];exact t.2 c g
def Tr.trans{n1 n2:Nat}{h1 h2:HF}(a:Tr n h n1 h1)(b:Tr n1 h1 n2 h2):Tr n h n2 h2:=by refine⟨CU a.1 b.1,λc j=>?_⟩;rcases b.2 c (by have:=a.1;omega)with e|e;rw[e];exact a.2 c j;obtain g|g:=a.2 c j;rw[g]at e;exact .inr e;exact .inr g
def Tx.lp(x:LO b h1 h2)(hb:3*n<=b)(t:Tx n h n1 h1):Tx n h n1 h2:=⟨t.1,t.2.st x.1 hb⟩
def Ty.lp(x:LO b h1 h2)(hb:3*n<=b\/b∈B)(t:Ty n B h n1 h1):Ty n B h n1 h2:=⟨t.1,t.2.st x.1 hb⟩
def Tx.refl(n:Nat)(h:HF):Tx n h n h:=⟨Cy,Fy _ _⟩
def Tx.e(x:J3 n1 h1 h2)(a:n1<=n2)(t:Tx n h n1 h1):Tx n h n2 h2:=⟨CU t.1 a,t.2.trans x t.1⟩
def Tx.a(x:Exa lo h1 h2)(g:n<=lo)(j:n<=n2)(t:Tx n h n1 h1):Tx n h n2 h2:=⟨j,t.2.trans x.e g⟩
def Tx.o(x:Only b h1 h2)(hb:3*n<=b)(t:Tx n h n1 h1):Tx n h n1 h2:=⟨t.1,t.2.st x hb⟩
def Tx.s(x:Kp b h1 h2)(hb:3*n<=b)(t:Tx n h n1 h1):Tx n h n1 h2:=⟨t.1,t.2.st x.1 hb⟩
def Tx.l(x:ExtB n1 B h1 h2)(e:n1<=n2)(a:∀k∈B,3*n<=k)(t:Tx n h n1 h1):Tx n h n2 h2:=⟨CU t.1 e,t.2.trans (x.to t.1 a) Cy⟩
def Ty.refl(n:Nat)(B:List Nat)(h:HF):Ty n B h n h:=⟨Cy,ExtB.refl _ _ _⟩
def Ty.e(x:J3 n1 h1 h2)(a:n1<=n2)(t:Ty n B h n1 h1):Ty n B h n2 h2:=⟨CU t.1 a,t.2.ext x t.1⟩
def Ty.a(x:Exa lo h1 h2)(g:n<=lo)(j:n<=n2)(t:Ty n B h n1 h1):Ty n B h n2 h2:=⟨j,t.2.ext x.e g⟩
def Ty.o(x:Only b h1 h2)(hb:3*n<=b\/b∈B)(t:Ty n B h n1 h1):Ty n B h n1 h2:=⟨t.1,t.2.st x hb⟩
def Ty.s(x:Kp b h1 h2)(hb:3*n<=b\/b∈B)(t:Ty n B h n1 h1):Ty n B h n1 h2:=⟨t.1,t.2.st x.1 hb⟩
def Ty.l(x:ExtB n1 C h1 h2)(e:n1<=n2)(a:∀k∈C,k∈B\/3*n<=k)(t:Ty n B h n1 h1):Ty n B h n2 h2:=⟨CU t.1 e,t.2.trans x t.1 a⟩
end
theorem Sl.trG{h:HF}{n:Nat}(s:Sl h n 1 v cl)(l:∀x∈cl,nu x=χ)(t:Tr n h n' h'):Sl h' n' 1 v cl:=by
 cases s with
 |nil ha=>exact .nil (uw ha t.1)
 | @at_ b2 off len cap x cs2 c2 hb hx hc hcap hl he=>
  have g:b2<3*n':=by have:=t.1;omega
  obtain e|⟨y,j,⟨cs,e,rfl,D⟩|p⟩:=t.2 b2 hb;exact .at_ g (e.trans hx) hc hcap hl he;by_cases h0:len=0;subst h0;have:cl=[]:=by rw[<-he];simp
  subst this;exact .nil (.inr ⟨_,_,_,ω,g⟩);exfalso;rw[j]at hx;cases hx;injection hc with hc;subst hc;have q:O cl=len:=by grind
  obtain⟨d,a,rfl⟩:∃d a,cl=d::a:=by
   cases cl with
   |nil=>exact Cu q.symm h0
   |cons d a=>exact⟨d,a,ω⟩
  have A:d∈cs:=by grind
  have:=E3.1 D _ A;rw[l d D4]at this;cases this;rw[hx]at j;cases j;rw[hc]at p;cases p
def WW.t{h:HF}{n:Nat}{a:Option Addr}{l m:Nat}(i:WW h n a l c m)(t:Tr n h n' h':=by exact zt):WW h' n' a l c m:=by have⟨L,h1,h2,e⟩:=i;exact⟨L,h1.trG (λx g=>by obtain⟨d,_,rfl⟩:=List.mem_map.1 g;rfl) t,h2,e⟩
def IW.t{h:HF}{n:Nat}{b:Bool}{a:Option Addr}{l:Nat}{x:Int}(i:IW h n b a l c x)(t:Tr n h n' h':=by exact zt):IW h' n' b a l c x:=⟨i.1,i.2.t t⟩
def GG.t{h:HF}{n:Nat}(g:GG h n)(t:Tr n h n' h':=by exact zt):GG h' n':=by have⟨⟨A,D,F⟩,G⟩:=g;have f:∀c x,h c=ξ x->(∀cs e,x=.row cs e->cs.all nu=χ)->c<60->(∀y,x=y->y.cells≠θ)->h' c=ξ x:=(by intro c x l H L I;obtain s|⟨y,a,⟨J,K,rfl,p⟩|j⟩:=t.2 c Z;rw[s,l];rw[l]at a;injection a with a;rw[H _ _ a]at p;cases p;rw[l]at a;injection a with a;subst a;exact absurd j (I _ ω));refine⟨⟨f _ _ A ?_ ?_ ?_,f _ _ D ?_ ?_ ?_,f _ _ F ?_ ?_ ?_⟩,Nat.le_trans G t.1⟩<;>first|decide|(intro cs e q;cases q<;>rfl)|(intro y q;subst q;intro j;cases j)
def GG.x{h:HF}{n:Nat}(g:GG h n)(t:Tx n h n' h':=by exact zx):GG h' n':=g.ext t.2 t.1
def IW.x{h:HF}{n:Nat}{b:Bool}{a:Option Addr}{l:Nat}{x:Int}(i:IW h n b a l c x)(t:Tx n h n' h':=by exact zx):IW h' n' b a l c x:=i.ext t.2 t.1
def Sl.x{h:HF}{n:Nat}{c:List ψ}(s:Sl h n sz v c)(t:Tx n h n' h':=by exact zx):Sl h' n' sz v c:=s.ext t.2 t.1
def zt{n:Nat}{h:HF}(t:Tr n h n' h':=by(repeat (first|exact Tr.refl _ _|(apply Tr.e;assumption;(first|assumption|exact Nat.le_refl _|exact Nat.le_succ _|omega))|(apply Tr.s;assumption)|(apply Tr.l;assumption)))):Tr n h n' h':=t
def zx{n:Nat}{h:HF}(t:Tx n h n' h':=by(repeat (first|exact Tx.refl _ _|(apply Tx.e;assumption;(first|assumption|exact Nat.le_refl _|exact Nat.le_succ _|omega))|(apply Tx.a;assumption;omega;omega)|(apply Tx.s;assumption;omega)|(apply Tx.o;assumption;omega)|(apply Tx.lp;assumption;omega)|(apply Tx.l;assumption;(first|assumption|exact Nat.le_refl _|exact Nat.le_succ _|omega);(intro b g;simp only[List.mem_cons,List.not_mem_nil,or_false]at g<;>omega))))):Tx n h n' h':=t
def zy{n:Nat}{B:List Nat}{h:HF}(t:Ty n B h n' h':=by(repeat (first|exact Ty.refl _ _ _|(apply Ty.e;assumption;(first|assumption|exact Nat.le_refl _|exact Nat.le_succ _|omega))|(apply Ty.a;assumption;omega;omega)|(apply Ty.s;assumption;(first|(left;omega)|(right;simp)))|(apply Ty.o;assumption;(first|(left;omega)|(right;simp)))|(apply Ty.lp;assumption;(first|(left;omega)|(right;simp)))|(apply Ty.l;assumption;(first|assumption|exact Nat.le_refl _|exact Nat.le_succ _|omega);(intro b g;simp only[List.mem_cons,List.not_mem_nil,or_false]at g⊢ <;>omega))))):ExtB n B h h':=t.2
def zp{b:Nat}{h:HF}{x:Option BF}(t:h b=x:=by(repeat (first|assumption|(apply J3.zz;assumption;omega)|(apply Kp.zz;assumption;omega)|(apply Only.zz;assumption;omega)|(apply LO.zz;assumption;omega)|(apply Exa.zz;assumption;omega)|(apply ExtB.zz;assumption;omega;(simp only[List.mem_cons,List.not_mem_nil,or_false,not_false_eq_true]<;>omega))))):h b=x:=t
def Mm{h:HF}{b:Nat}{c:List ψ}{e:TypeId}{r:List ψ}(L:List ψ)(g:GL.isAgg E ty=ξ φ)(hi:E.inf ty=ξ (sz,bt,z))(hb:h b=ξ (.row c e))(a:c.drop off=L++r)(j:L.length=sz)(h1:0<L.length:=by exact Nat.succ_pos _):yB E ty h ⟨b,off,θ⟩=ξ (.agg L.toArray):=by have h2:=congrArg List.length a;rw[List.length_drop,List.length_append]at h2;apply yw (cs:=L) ⟨g,hi⟩ hb ω Z;rw[a,<-j,List.take_left]
def ld1{h:HF}{b:Nat}{c:List ψ}{e:TypeId}{r:List ψ}(a:GL.isAgg E ty=ξ φ)(hi:E.inf ty=ξ (1,bt,z))(hb:h b=ξ (.row c e))(g:c.drop off=x1::r):yB E ty h ⟨b,off,θ⟩=ξ (.agg #[x1]):=Mm [x1] a hi hb g rfl
def Om{h:HF}{b:Nat}{c:List ψ}{e:TypeId}{r:List ψ}(a:GL.isAgg E ty=ξ φ)(hi:E.inf ty=ξ (2,bt,z))(hb:h b=ξ (.row c e))(g:c.drop off=x1::x2::r):yB E ty h ⟨b,off,θ⟩=ξ (.agg #[x1,x2]):=Mm [x1,x2] a hi hb g rfl
def On{h:HF}{b:Nat}{c:List ψ}{e:TypeId}{r:List ψ}(a:GL.isAgg E ty=ξ φ)(hi:E.inf ty=ξ (3,bt,z))(hb:h b=ξ (.row c e))(g:c.drop off=x1::x2::x3::r):yB E ty h ⟨b,off,θ⟩=ξ (.agg #[x1,x2,x3]):=Mm [x1,x2,x3] a hi hb g rfl
def Oo{h:HF}{b:Nat}{c:List ψ}{e:TypeId}{r:List ψ}(a:GL.isAgg E ty=ξ φ)(hi:E.inf ty=ξ (4,bt,z))(hb:h b=ξ (.row c e))(g:c.drop off=x1::x2::x3::x4::r):yB E ty h ⟨b,off,θ⟩=ξ (.agg #[x1,x2,x3,x4]):=Mm [x1,x2,x3,x4] a hi hb g rfl
def Oq{h:HF}{b:Nat}{c:List ψ}{e:TypeId}{r:List ψ}(a:GL.isAgg E ty=ξ φ)(hi:E.inf ty=ξ (5,bt,z))(hb:h b=ξ (.row c e))(g:c.drop off=x1::x2::x3::x4::x5::r):yB E ty h ⟨b,off,θ⟩=ξ (.agg #[x1,x2,x3,x4,x5]):=Mm [x1,x2,x3,x4,x5] a hi hb g rfl
def Ot{h:HF}{b:Nat}{c:List ψ}{e:TypeId}{r:List ψ}(a:GL.isAgg E ty=ξ φ)(hi:E.inf ty=ξ (6,bt,z))(hb:h b=ξ (.row c e))(g:c.drop off=x1::x2::x3::x4::x5::x6::r):yB E ty h ⟨b,off,θ⟩=ξ (.agg #[x1,x2,x3,x4,x5,x6]):=Mm [x1,x2,x3,x4,x5,x6] a hi hb g rfl
def ld10{h:HF}{b:Nat}{c:List ψ}{e:TypeId}{g j l a:ψ}{r:List ψ}(p:GL.isAgg E ty=ξ φ)(hi:E.inf ty=ξ (10,bt,z))(hb:h b=ξ (.row c e))(q:c.drop off=x1::x2::x3::x4::x5::x6::g::j::l::a::r):yB E ty h ⟨b,off,θ⟩=ξ (.agg #[x1,x2,x3,x4,x5,x6,g,j,l,a]):=Mm [x1,x2,x3,x4,x5,x6,g,j,l,a] p hi hb q rfl
def ld11{h:HF}{b:Nat}{c:List ψ}{e:TypeId}{j l p a g:ψ}{r:List ψ}(q:GL.isAgg E ty=ξ φ)(hi:E.inf ty=ξ (11,bt,z))(hb:h b=ξ (.row c e))(s:c.drop off=x1::x2::x3::x4::x5::x6::j::l::p::a::g::r):yB E ty h ⟨b,off,θ⟩=ξ (.agg #[x1,x2,x3,x4,x5,x6,j,l,p,a,g]):=Mm [x1,x2,x3,x4,x5,x6,j,l,p,a,g] q hi hb s rfl
structure Hd (q:Prop):Prop where
 go:q
def ZQ:Op->Bool
 | .move _=>φ
 | .assign _=>φ
 | .pick _ _ _=>φ
 | .nilCheck _=>φ
 | .unOp _ _ _=>φ
 | .fieldAddr _ _ _=>φ
 | .extract _ _=>φ
 |_=>χ
def ZR:Op->Bool
 | .binOp _ _ _ _ _=>φ
 |_=>χ
def litB:ψ->Bool
 | U b=>b|| !b
 |_=>χ
def ZS:Op->Option Operand
 | .call c=>(match c.callee,c.args.toList with| .builtin .len,[x]=>ξ x|_,_=>θ)
 |_=>θ
section
variable{X:CtxF}{r:List Oper}{t:TF}{o:Oper}{d:Tmp}
def ZT(_:ZQ o.op=φ)(k:EO X ops (o::r) ⟨t,h,n,w⟩ Q):EO X ops (o::r) ⟨t,h,n,w⟩ Q:=k
def ZU(_:ZR o.op=φ)(k:EO X ops (o::r) ⟨t,h,n,w⟩ Q):EO X ops (o::r) ⟨t,h,n,w⟩ Q:=k
def ZV{x:Operand}{b:Nat}{y:BF}(_:o.op=.load ty x)(_:J2 t x=CH (ξ ⟨b,off,θ⟩))(hb:h b=ξ y)(k:h b=ξ y->EO X ops (o::r) ⟨t,h,n,w⟩ Q):EO X ops (o::r) ⟨t,h,n,w⟩ Q:=k hb
def ZW{x:Operand}{q:BinOp}(_:o.op=.binOp q ty x y ty')(_:litB (J2 t x)=φ)(_:litB (J2 t y)=φ)(k:EO X ops (o::r) ⟨t,h,n,w⟩ Q):EO X ops (o::r) ⟨t,h,n,w⟩ Q:=k
def ZX{x:Operand}{a:Option Addr}{l:Nat}(_:ZS o.op=ξ x)(_:J2 t x=Y a l c)(k:EO X ops (o::r) ⟨t,h,n,w⟩ Q):EO X ops (o::r) ⟨t,h,n,w⟩ Q:=k
def zP{d:Tmp}(k:EO X ops r ⟨upd t d v,h,n,w⟩ Q)(f:EO X ops r ⟨upd t d v,h,n,w⟩ Q->EO X ops (o::r) ⟨t,h,n,w⟩ Q:=by intro k;first|exact Nw R3 k|(apply ZT ω;first|exact st_I R5 k|exact st_B R5 k|exact st_S R5 k|exact st_P R5 k|exact st_A R5 k|exact st_T R5 k|exact st_U R5 k|exact zZ (v:=.pointer θ) R4 ω k)|(apply ZX ω ω;exact st_I R5 k)|(apply ZW ω ω ω;exact st_B R5 k)|(apply ZU ω;first|exact jC R6 Z k|exact Oa R6 Z k|exact oa R6 Z k|exact mD R6 Z k|exact MC R6 Z k|exact MV R6 Z k|exact jD R6 Z k|exact Nz R6 Z k|exact Ob R6 Z k|exact Oc R6 Z k|exact Od R6 Z k|exact Oe R6 Z k|exact uI R6 Z k|exact qO R6 Z k)):EO X ops (o::r) ⟨t,h,n,w⟩ Q:=f k
end
section
variable{X:CtxF}{r:List Oper}{t:TF}{o:Oper}{d:Tmp}
def ZY{x:Operand}{b:Nat}{y:BF}{g:HF}(_:o.op=.load ty x)(_:J2 t x=CH (ξ ⟨b,off,θ⟩))(_:wn m ef i h=(u,g))(hb:g b=ξ y)(k:g b=ξ y->ED X ops (o::r) (m::ms) i ⟨⟨t,h,n,w⟩,al,ld,ef⟩ Q):ED X ops (o::r) (m::ms) i ⟨⟨t,h,n,w⟩,al,ld,ef⟩ Q:=k hb
end
def zG{p q:Prop}(e:Hd q->p:=by intro k;(repeat (first|refine zP ?_|(refine ZV ω ω (by(repeat (first|assumption|(apply J3.zz;assumption;omega)|(apply Kp.zz;assumption;omega)|(apply Only.zz;assumption;omega)|(apply LO.zz;assumption;omega)|(apply Exa.zz;assumption;omega)|(apply ExtB.zz;assumption;omega;(simp only[List.mem_cons,List.not_mem_nil,or_false,not_false_eq_true]<;>omega))))) (λa=>?_);first|apply z7 R5 (nJ ω a R2)|apply z7 R5 (ld1 ω ω a ω)|apply z7 R5 (Om ω ω a ω)|apply z7 R5 (On ω ω a ω)|apply z7 R5 (Oo ω ω a ω)|apply z7 R5 (Oq ω ω a ω)|apply z7 R5 (Ot ω ω a ω)|apply z7 R5 (ld10 ω ω a ω)|apply z7 R5 (ld11 ω ω a ω))|simp only[NV,Nat.reduceEqDiff,reduceCtorEq]|refine(ze ω).mpr ?_|refine(za ω).mpr ?_));exact k.go)(k:q):p:=e ⟨k⟩
def zH{p q:Prop}(e:Hd q->p:=by intro k;(repeat (first|refine Pk ?_ (zP (xg.2 ω)) rfl|(refine ZY ω ω ω (by(repeat (first|assumption|(apply J3.zz;assumption;omega)|(apply Kp.zz;assumption;omega)|(apply Only.zz;assumption;omega)|(apply LO.zz;assumption;omega)|(apply Exa.zz;assumption;omega)|(apply ExtB.zz;assumption;omega;(simp only[List.mem_cons,List.not_mem_nil,or_false,not_false_eq_true]<;>omega))))) (λa=>?_);first|apply yd R6 (nJ ω a R2) R2|apply yd R6 (ld1 ω ω a ω) R2|apply yd R6 (Om ω ω a ω) R2|apply yd R6 (On ω ω a ω) R2|apply yd R6 (Oo ω ω a ω) R2|apply yd R6 (Oq ω ω a ω) R2|apply yd R6 (Ot ω ω a ω) R2|apply yd R6 (ld10 ω ω a ω) R2|apply yd R6 (ld11 ω ω a ω) R2)|simp only[NV,Nat.reduceEqDiff,reduceCtorEq]|refine(ze ω).mpr ?_|refine(za ω).mpr ?_));exact k.go)(k:q):p:=e ⟨k⟩
def zJ{p q:Prop}(e:Hd q->p:=by intro k;apply(zH);apply(zG);exact k.go)(k:q):p:=e ⟨k⟩
section
variable{X:CtxF}{r:List Oper}{t:TF}{o:Oper}{d:Tmp}
theorem Sg{m b i:Nat}{r:List (Nat×Nat)}(h:c≠b)(k:ya m [b] r=φ):ya m [b] ((i,c)::r)=φ:=by
 have a:memN c [b]=χ:=by grind [memN,DK,DC]
 unfold ya;rw[a,G5,Jj];exact k
def vc_A(h:v=.agg ⟨cs⟩):zn v=cs:=by subst h;rfl
def sA{e:TypeId}(a:zh ops t o=φ:=by rfl)(hd:o.dst=ξ d:=by rfl)(hn:zv X.nt (ξ d)=φ:=by rfl)(ho:o.op=.alloc e:=by rfl)(hi:X.E.inf e=ξ (sz,bt,z):=by rfl)(hz:zn z=cs:=by first|exact vc_A rfl|exact ω)(k:∀h',h' (3*n+2)=ξ (.row cs e)->J3 n h h'->EO X ops r ⟨upd t d (.pointer (ξ ⟨3*n+2,0,θ⟩)),h',n+1,w⟩ Q):EO X ops (o::r) ⟨t,h,n,w⟩ Q:=wt cs ⟨a,hd,hn,ho,hi,hz⟩ k
def sB{e:TypeId}(cs:List ψ)(a:zh ops t o=φ:=by rfl)(hd:o.dst=ξ d:=by rfl)(hn:zv X.nt (ξ d)=φ:=by rfl)(hc:Kd o.op=2:=by rfl)(hm:Kl X.E o.op (J2 t)=ξ ⟨cs,e,χ,θ⟩:=by rfl)(k:∀h',h' (3*n+2)=ξ (.row cs e)->J3 n h h'->EO X ops r ⟨upd t d (.pointer (ξ ⟨3*n+2,0,θ⟩)),h',n+1,w⟩ Q):EO X ops (o::r) ⟨t,h,n,w⟩ Q:=tK cs ⟨a,hd,hn,hc,hm⟩ k
def sC{P:ψ->HF->Nat->Prop}(a:CX X.C f args h n P)(e:zh ops t o=φ:=by rfl)(hd:o.dst=ξ d:=by rfl)(hn:zv X.nt (ξ d)=φ:=by rfl)(hc:Kd o.op=3:=by rfl)(he:effF X.E o.op (J2 t) h n=ξ (.enter f args):=by rfl)(k:∀v h' n',P v h' n'->n<=n'->J3 n h h'->EO X ops r ⟨upd t d v,h',n',w⟩ Q):EO X ops (o::r) ⟨t,h,n,w⟩ Q:=gJ ⟨e,hd,hn,hc,he⟩ a k
def sT(cs:Array ψ)(a:zh ops t o=φ:=by rfl)(hd:o.dst=ξ d:=by rfl)(hn:zv X.nt (ξ d)=φ:=by rfl)(hc:Kd o.op=0:=by rfl)(hv:yy X.E o.op (J2 t)=ξ (.agg cs):=by rfl)(k:EO X ops r ⟨upd t d (.agg cs),h,n,w⟩ Q):EO X ops (o::r) ⟨t,h,n,w⟩ Q:=st_A ⟨a,hd,hn,hc,hv⟩ k
def sS{a x:Operand}{b:Nat}{c:List ψ}{e:TypeId}(c':List ψ)(g:zh ops t o=φ:=by rfl)(hd:o.dst=θ:=by rfl)(ho:o.op=.store ty a x:=by rfl)(hi:Kc.inf ty=ξ (sz,bt,z):=by rfl)(ha:J2 t a=.pointer (ξ ⟨b,off,θ⟩):=by rfl)(hb:h b=ξ (.row c e):=by exact zp)(hu:c.all nu=φ:=by rfl)(hx:zn (J2 t x)=cs:=by rfl)(hs:cs.length=sz:=by rfl)(h1:ones cs=φ:=by rfl)(hl:off+sz<=c.length:=by exact zb)(hsp:zu c off cs=c':=by rfl)(hnew:3*n0<=b:=by omega)(k:∀h',h' b=ξ (.row c' e)->Kp b h h'->EO (KC kk n0 nt) ops r ⟨t,h',n,w⟩ Q):EO (KC kk n0 nt) ops (o::r) ⟨t,h,n,w⟩ Q:=mq c' ⟨g,hd,ho,hi,ha⟩ hb ⟨hx,hs,h1⟩ hl hsp hnew λh' p q=>k h' p ⟨q,_,_,hb,hu⟩
end
section
variable{X:CtxF}{r:List Oper}{t:TF}{o:Oper}{d:Tmp}
def dB{e:TypeId}(cs:List ψ)(a:zh ops t o=φ:=by rfl)(hd:o.dst=ξ d:=by rfl)(hn:zv X.nt (ξ d)=φ:=by rfl)(hc:Kd o.op=2:=by rfl)(hm:Kl X.E o.op (J2 t)=ξ ⟨cs,e,χ,θ⟩:=by rfl)(k:∀h',h' (3*n+2)=ξ (.row cs e)->J3 n h h'->ED X ops r ms (i+1) ⟨⟨upd t d (.pointer (ξ ⟨3*n+2,0,θ⟩)),h',n+1,w⟩,(i,3*n+2)::al,ld,ef⟩ Q):ED X ops (o::r) (m::ms) i ⟨⟨t,h,n,w⟩,al,ld,ef⟩ Q:=Xv a hd hn hc hm (k _ (zg _ _ _) (J3.upd Z))
def dC{P:ψ->HF->Nat->Prop}(a:CX X.C f args h n P)(j:zh ops t o=φ:=by rfl)(hd:o.dst=ξ d:=by rfl)(hn:zv X.nt (ξ d)=φ:=by rfl)(hc:Kd o.op=3:=by rfl)(he:effF X.E o.op (J2 t) h n=ξ (.enter f args):=by rfl)(h1:xq m ef=φ:=by rfl)(h2:xJ m al=φ:=by rfl)(k:∀v h' n',P v h' n'->n<=n'->J3 n h h'->ED X ops r ms (i+1) ⟨⟨upd t d v,h',n',w⟩,al,ld,(i,h,[])::ef⟩ Q):ED X ops (o::r) (m::ms) i ⟨⟨t,h,n,w⟩,al,ld,ef⟩ Q:=by apply wa _ ⟨j,hd,hn,hc,he,h1,h2⟩ a;rintro v h' n' _⟨rfl,h2,e,g⟩;exact⟨sj,h2,k v h' n' g h2 e⟩
def dT(cs:Array ψ)(a:zh ops t o=φ:=by rfl)(hd:o.dst=ξ d:=by rfl)(hn:zv X.nt (ξ d)=φ:=by rfl)(hc:(Kd o.op==0||Kd o.op==4)=φ:=by rfl)(hv:yy X.E o.op (J2 t)=ξ (.agg cs):=by rfl)(k:ED X ops r ms (i+1) ⟨⟨upd t d (.agg cs),h,n,w⟩,al,ld,ef⟩ Q):ED X ops (o::r) (m::ms) i ⟨⟨t,h,n,w⟩,al,ld,ef⟩ Q:=yQ ⟨a,hd,hn,hc,hv⟩ k
def dS{a x:Operand}{b:Nat}{c:List ψ}{e:TypeId}(c':List ψ)(j:zh ops t o=φ:=by rfl)(hd:o.dst=θ:=by rfl)(ho:o.op=.store ty a x:=by rfl)(hi:Kc.inf ty=ξ (sz,bt,z):=by rfl)(ha:J2 t a=.pointer (ξ ⟨b,off,θ⟩):=by rfl)(hb:h b=ξ (.row c e):=by exact zp)(hu:c.all nu=φ:=by rfl)(hx:zn (J2 t x)=cs:=by rfl)(hs:cs.length=sz:=by rfl)(h1:ones cs=φ:=by rfl)(hl:off+sz<=c.length:=by exact zb)(hsp:zu c off cs=c':=by rfl)(hnew:3*n0<=b:=by omega)(g1:xq m ef=φ:=by rfl)(g2:xJ m al=φ:=by rfl)(g3:ya m [b] ld=φ:=by first|exact rfl|(repeat (first|exact rfl|(apply Sg;omega))))(k:∀h',h' b=ξ (.row c' e)->Kp b h h'->ED (KC kk n0 nt) ops r ms (i+1) ⟨⟨t,h',n,w⟩,al,ld,(i,h,[b])::ef⟩ Q):ED (KC kk n0 nt) ops (o::r) (m::ms) i ⟨⟨t,h,n,w⟩,al,ld,ef⟩ Q:=by subst hsp;exact jX ⟨j,hd,ho,hi,ha,hx,hs⟩ h1 hb hl hnew ⟨g1,g2,g3⟩ (k _ (zg _ _ _) ⟨λc g=>zm g,_,_,hb,hu⟩)
end
def Sh{s:SV}{a:Tmp}{b:Nat}{y:BF}{r:List ResultVar}(_:s.t a=CH (ξ ⟨b,off,θ⟩))(hb:s.h b=ξ y)(k:s.h b=ξ y->resF Kc s (.cell a ty::r)=ξ vs):resF Kc s (.cell a ty::r)=ξ vs:=k hb
def zq{p:Prop}{P:ψ->HF->Nat->Prop}{e:Ex}{t:TF}{h:HF}{n0 n:Nat}(go:Hd (RetH fn (Gw n0 h0 P) e ⟨t,h,n,[]⟩)->p:=by intro k;apply(zH);apply(zG);exact k.go)(he:rI e=φ:=by rfl)(hr:resF Kc ⟨t,h,n,[]⟩ fn.results.toList=ξ vs:=by(repeat (first|exact qP|(apply yX (v:=.bool _);exact ω)|(apply yX (v:=.int _ _);exact ω)|(apply yX (v:=.slice _ _ _);exact ω)|(apply yX (v:=.agg #[_,_]);exact ω)|(apply yX (v:=.agg #[_,_,_,_]);exact ω)|(apply yX (v:=.string _);exact ω)|(apply yX;exact ω)|(apply Sh;exact rfl;(focus ((repeat (first|assumption|(apply J3.zz;assumption;omega)|(apply Kp.zz;assumption;omega)|(apply Only.zz;assumption;omega)|(apply LO.zz;assumption;omega)|(apply Exa.zz;assumption;omega)|(apply ExtB.zz;assumption;omega;(simp only[List.mem_cons,List.not_mem_nil,or_false,not_false_eq_true]<;>omega))));done));intro hblk;first|(apply we;exact rfl;exact nJ ω hblk R2)|(apply we;exact rfl;exact ld1 ω ω hblk ω)|(apply we;exact rfl;exact Om ω ω hblk ω)|(apply we;exact rfl;exact On ω ω hblk ω)|(apply we;exact rfl;exact Oo ω ω hblk ω)|(apply we;exact rfl;exact Oq ω ω hblk ω)|(apply we;exact rfl;exact Ot ω ω hblk ω)|(apply we;exact rfl;exact ld10 ω ω hblk ω)|(apply we;exact rfl;exact ld11 ω ω hblk ω)))))(hf:uQ vs=χ:=by rfl)(hx:Tx n0 h0 n h:=by exact zx)(a:P (qm vs) h n):p:=go ⟨retX vs ⟨he,hr,hf⟩ hx.1 hx.2 a⟩
def zf{p:Prop}{P:ψ->Prop}{e:Ex}{s:SV}(go:Hd (RetF fn P e s)->p:=by intro k;apply(zH);apply(zG);exact k.go)(he:rI e=φ:=by rfl)(hr:resF Kc s fn.results.toList=ξ vs:=by(repeat (first|exact qP|(apply yX (v:=.bool _);exact ω)|(apply yX (v:=.int _ _);exact ω)|(apply yX (v:=.slice _ _ _);exact ω)|(apply yX (v:=.agg #[_,_]);exact ω)|(apply yX (v:=.agg #[_,_,_,_]);exact ω)|(apply yX (v:=.string _);exact ω)|(apply yX;exact ω)|(apply Sh;exact rfl;(focus ((repeat (first|assumption|(apply J3.zz;assumption;omega)|(apply Kp.zz;assumption;omega)|(apply Only.zz;assumption;omega)|(apply LO.zz;assumption;omega)|(apply Exa.zz;assumption;omega)|(apply ExtB.zz;assumption;omega;(simp only[List.mem_cons,List.not_mem_nil,or_false,not_false_eq_true]<;>omega))));done));intro hblk;first|(apply we;exact rfl;exact nJ ω hblk R2)|(apply we;exact rfl;exact ld1 ω ω hblk ω)|(apply we;exact rfl;exact Om ω ω hblk ω)|(apply we;exact rfl;exact On ω ω hblk ω)|(apply we;exact rfl;exact Oo ω ω hblk ω)|(apply we;exact rfl;exact Oq ω ω hblk ω)|(apply we;exact rfl;exact Ot ω ω hblk ω)|(apply we;exact rfl;exact ld10 ω ω hblk ω)|(apply we;exact rfl;exact ld11 ω ω hblk ω)))))(hf:uQ vs=φ:=by rfl)(hw:s.w=[]:=by rfl)(a:P (qm vs)):p:=go ⟨retF vs he hr ⟨hf,hw⟩ a⟩
def sF{X:CtxF}{c:Code}{t:TF}{h:HF}{n:Nat}{w:List Nat}{Q:Ex->SV->Prop}(e:α->List (Nat×ψ))(I:α->HF->Nat->List Nat->Prop)(μ:α->Nat)(a:α)(j:I a h n w)(l:tJ t (e a):=by repeat (first|exact trivial|refine⟨ω,?_⟩))(hm:μ a<X.L:=by show _<LL;unfold LL;(try dsimp only);omega)(g:∀a t h n w,I a h n w->EC X c ⟨gk t (e a),h,n,w⟩ (qY e I μ a Q)):EC X (.loop c) ⟨t,h,n,w⟩ Q:=ye e I μ a l j hm g
def sK{e:α->List (Nat×ψ)}{I:α->HF->Nat->List Nat->Prop}{μ:α->Nat}{a:α}{Q:Ex->SV->Prop}{t:TF}{h:HF}{n:Nat}{w:List Nat}(g:α)(h3:I g h n w)(h1:μ g<μ a:=by(try dsimp only);omega)(h2:tJ t (e g):=by repeat (first|exact trivial|refine⟨ω,?_⟩)):qY e I μ a Q .normal ⟨t,h,n,w⟩:=goOn g h1 h2 h3
def Zd{p q:Prop}(e:ZH q->p:=by intro k;apply(zG);apply(zl);exact k.go)(k:q):p:=e ⟨k⟩
def Zh{p q:Prop}(e:ZH q->p:=by intro k;apply(Zd);apply(zH);exact k.go)(k:q):p:=e ⟨k⟩
def Zk{p q:Prop}(e:ZH q->p:=by intro k;apply(zG);apply(sA);exact k.go)(k:q):p:=e ⟨k⟩
end
section
variable{cx:Nat}
def bj(k:Nat){x:Int}(a:IW h n sx ax lx cx x):VF (J4 (k+1)) 57 [.agg #[U sx,Y ax lx cx]] h n λv=>∃b:Bool,v=U b/\(b=φ↔x=0):=by apply zO R4;apply(zG);apply sB [U sx,Y ax lx cx];intro c d e;apply(zG);by_cases q12:(lx:Int)=0;apply(zf);exact⟨_,ω,AN⟩;apply(zf);exact⟨_,ω,AN⟩
def yK(k:Nat){x:Int}(a:IW h n bx ax lx cx x):CX (J4 (k+1)) 57 [.agg #[U bx,Y ax lx cx]] h n (BV (x=0)):=(bj k a).cx
def ZZ(k:Nat){x:Int}(a:IW h n sx ax lx cx x):VF (J4 (k+1)) 46 [.agg #[U sx,Y ax lx cx]] h n λv=>∃s:Int,v=υ s/\(s= -1/\x<0\/s=0/\x=0\/s=1/\0<x):=by apply zO R4;apply(zG);apply sB [U sx,Y ax lx cx];intro b c d;apply(zG);by_cases q12:(lx:Int)=0;apply(zf);exact⟨_,ω,by have:=a.2.zero;omega⟩;apply(zG);cases sx;apply(zf);exact⟨_,ω,by have:=a.ge;have:=a.2.zero;omega⟩;apply(zf);exact⟨_,ω,by have:=a.lt;have:=a.2.zero;omega⟩
def M9(k:Nat){x:Int}(a:IW h n bx ax lx cx x):CX (J4 (k+1)) 46 [.agg #[U bx,Y ax lx cx]] h n (NF x):=(ZZ k a).cx
def tU(k:Nat){x:Int}(d:IW h n bx ax lx cx x):CX (J4 (k+1)) 77 [.agg #[U bx,Y ax lx cx]] h n (BV (x=1)):=by have⟨e,L,b,a,c⟩:=d;refine(YK k b a).cx.mono ?_;rintro _ _ _ rfl;refine⟨_,ω,?_⟩;rw[c,e,Bool.and_eq_true,Bool.not_eq_true',decide_eq_false_iff_not,decide_eq_true_iff];omega
def negX(k:Nat){x:Int}(a:IW h n sx ax lx cx x):CX (J4 (k+2)) 102 [.agg #[U sx,Y ax lx cx]] h n (IV (-x)):=by apply zw R4;apply(zG);apply sB [U sx,Y ax lx cx];intro o C H;apply(sA);intro p D I;apply(zG);cases sx;apply(zG);apply sC (yJ _ a.t.2 φ);rintro _ q w⟨d,b,l,f,rfl,i⟩ L J;apply sS [U d,Y b l f];intro s F A;apply(zq);exact⟨_,_,_,_,ω,i.t.as (by have:=a.ge;unfold KT;(try simp only[H3,G5,if_true,if_false,Ew]);omega)⟩;apply(zG);apply sC (yJ _ a.t.2 χ);rintro _ u y⟨e,c,m,g,rfl,j⟩ M K;apply sS [U e,Y c m g];intro v G B;apply(zq);exact⟨_,_,_,_,ω,j.t.as (by have:=a.lt;unfold KT;(try simp only[H3,G5,if_true,if_false,Ew]);omega)⟩
def addX(k:Nat){x:Int}{y:Int}(a:IW h n sx ax lx cx x)(b:IW h n sy ay ly cy y)(hx:x.natAbs<BW)(hy:y.natAbs<BW):CX (J4 (k+4)) 75 [.agg #[U sx,Y ax lx cx],.agg #[U sy,Y ay ly cy]] h n (IV (x+y)):=by apply zw R4;apply(zG);apply sB [U sx,Y ax lx cx];intro ar co d3;apply sB [U sy,Y ay ly cy];intro au cp d4;apply(sA);intro av cq d5;apply(zG);cases sx;apply(zG);cases sy;apply(Zh);apply dC (Sd _ a.t.2 b.t.2 KJ);rintro _ aw bw⟨ab,bo,aj,rfl,L⟩ dp d6;apply dC (yJ _ L χ);rintro _ az bz⟨p,e,a3,C,rfl,M⟩ dq d7;apply dS [U p,Y e a3 C];intro b0 cr cg;apply(zq);exact⟨_,_,_,_,ω,M.t.as (by have:=a.ge;have:=b.ge;unfold KT;(try simp only[if_true,if_false,Ew]);omega)⟩;apply(zG);apply sC (M8 _ a.t.2 b.t.2 KJ);rintro _ b1 c0⟨d1,rfl,c⟩ dr d8;obtain⟨rfl,c⟩|⟨rfl,c⟩|⟨rfl,c⟩:=c;apply(Zh);apply dC (M7 _ b.t.2 a.t.2 KJ Z);rintro _ b2 c1⟨ac,bp,ak,rfl,N⟩ ds d9;apply dC (yJ _ N φ);rintro _ b3 c2⟨q,f,a4,D,rfl,Z1⟩ dt da;apply dS [U q,Y f a4 D];intro b4 cs ch;apply(zq);exact⟨_,_,_,_,ω,Z1.t.as mo⟩;apply(Zh);apply dC (M7 _ a.t.2 b.t.2 KJ Z);rintro _ b5 c3⟨ad,bq,al,rfl,P⟩ du db;apply dC (yJ _ P χ);rintro _ b6 c4⟨s,g,a5,F,rfl,R⟩ dv dc;apply dS [U s,Y g a5 F];intro b7 ct ci;apply(zq);exact⟨_,_,_,_,ω,R.t.as mo⟩;apply(Zh);apply dC (M7 _ a.t.2 b.t.2 KJ Z);rintro _ b8 c5⟨ae,br,am,rfl,S⟩ dw dd;apply dC (yJ _ S χ);rintro _ b9 c6⟨u,i,a6,G,rfl,T⟩ dx de;apply dS [U u,Y i a6 G];intro ba cu cj;apply(zq);exact⟨_,_,_,_,ω,T.t.as mo⟩;apply(zG);cases sy;apply(zG);apply sC (M8 _ a.t.2 b.t.2 KJ);rintro _ bb c7⟨d2,rfl,d⟩ dy df;obtain⟨rfl,d⟩|⟨rfl,d⟩|⟨rfl,d⟩:=d;apply(Zh);apply dC (M7 _ b.t.2 a.t.2 KJ Z);rintro _ bc c8⟨af,bs,an,rfl,Z4⟩ dz dg;apply dC (yJ _ Z4 χ);rintro _ bd c9⟨v,j,a7,H,rfl,V⟩ e0 dh;apply dS [U v,Y j a7 H];intro be cv ck;apply(zq);exact⟨_,_,_,_,ω,V.t.as mp⟩;apply(Zh);apply dC (M7 _ a.t.2 b.t.2 KJ Z);rintro _ bf ca⟨ag,bt,ao,rfl,W⟩ e1 di;apply dC (yJ _ W φ);rintro _ bg cb⟨w,l,a8,I,rfl,Z3⟩ e2 dj;apply dS [U w,Y l a8 I];intro bh cw cl;apply(zq);exact⟨_,_,_,_,ω,Z3.t.as mp⟩;apply(Zh);apply dC (M7 _ a.t.2 b.t.2 KJ Z);rintro _ bi cc⟨ah,bu,ap,rfl,Z0⟩ e3 dk;apply dC (yJ _ Z0 φ);rintro _ bj cd⟨A,m,a9,J,rfl,a0⟩ e4 dl;apply dS [U A,Y m a9 J];intro bk cz cm;apply(zq);exact⟨_,_,_,_,ω,a0.t.as mp⟩;apply(Zh);apply dC (Sd _ a.t.2 b.t.2 KJ);rintro _ bl ce⟨ai,bv,aq,rfl,a1⟩ e5 dm;apply dC (yJ _ a1 φ);rintro _ bm cf⟨B,o,aa,K,rfl,a2⟩ e6 dn;apply dS [U B,Y o aa K];intro bn d0 cn;apply(zq);exact⟨_,_,_,_,ω,a2.t.as (by have:=a.lt;have:=b.lt;unfold KT;(try simp only[if_true,if_false,Ew]);omega)⟩
def ke{b:Bool}{x y:Int}(h:b=(decide (x<0) != decide (y<0))):KT b (x.natAbs*y.natAbs)=x*y:=by subst h;by_cases hx:x<0<;>by_cases hy:y<0;rw[Ct hx,Ct hy];show((x.natAbs*y.natAbs:Nat):Int)=_;rw[EH,Gb Z,Gb Z,Int.neg_mul_neg];rw[Ct hx,BG hy];show -((x.natAbs*y.natAbs:Nat):Int)=_;rw[EH,Gb Z,Hb Z,Int.neg_mul,Ha];rw[BG hx,Ct hy];show -((x.natAbs*y.natAbs:Nat):Int)=_;rw[EH,Hb Z,Gb Z,Int.mul_neg,Ha];rw[BG hx,BG hy];show((x.natAbs*y.natAbs:Nat):Int)=_;rw[EH,Hb Z,Hb Z]
def kd{b:Bool}{x y:Int}(h:b=(decide (x<0) != decide (y<0))):KT b (x.natAbs/y.natAbs)=x.tdiv y:=by subst h;by_cases hx:x<0<;>by_cases hy:y<0;obtain⟨a,rfl⟩:∃a:Nat,x= -(a:Int):=⟨x.natAbs,Z⟩;obtain⟨c,rfl⟩:∃c:Nat,y= -(c:Int):=⟨y.natAbs,Z⟩;rw[Ct hx,Ct hy,ac0,ac1,Ha,E2,E2];rfl;obtain⟨a,rfl⟩:∃a:Nat,x= -(a:Int):=⟨x.natAbs,Z⟩;obtain⟨c,rfl⟩:∃c:Nat,y=(c:Int):=⟨y.natAbs,Z⟩;rw[Ct hx,BG hy,ac0,E2];rfl;obtain⟨a,rfl⟩:∃a:Nat,x=(a:Int):=⟨x.natAbs,Z⟩;obtain⟨c,rfl⟩:∃c:Nat,y= -(c:Int):=⟨y.natAbs,Z⟩;rw[BG hx,Ct hy,ac1,E2];rfl;obtain⟨a,rfl⟩:∃a:Nat,x=(a:Int):=⟨x.natAbs,Z⟩;obtain⟨c,rfl⟩:∃c:Nat,y=(c:Int):=⟨y.natAbs,Z⟩;rw[BG hx,BG hy];rfl
def mulX(k:Nat){x:Int}{y:Int}(a:IW h n sx ax lx cx x)(b:IW h n sy ay ly cy y)(hx:x.natAbs<BW)(hy:y.natAbs<BW):CX (J4 (k+5)) 76 [.agg #[U sx,Y ax lx cx],.agg #[U sy,Y ay ly cy]] h n (IV (x*y)):=by apply zw R4;apply(zG);apply sB [U sx,Y ax lx cx];intro S ao az;apply sB [U sy,Y ay ly cy];intro T ap b0;apply(sA);intro Z4 aq b1;apply(Zh);cases sx;apply(zH);cases sy;apply(zH);apply dC (NG _ a.t.2 b.t.2 KJ);rintro _ V ac⟨J,a8,N,rfl,s⟩ ba b2;apply dC (yJ _ s χ);rintro _ W ad⟨g,c,F,m,rfl,u⟩ bb b3;apply dS [U g,Y c F m];intro Z3 ar ak;apply(zq);exact⟨_,_,_,_,ω,u.t.as (by have:=a.ge;have:=b.ge;exact ke pq)⟩;apply(zH);apply dC (NG _ a.t.2 b.t.2 KJ);rintro _ Z0 ae⟨K,a9,Z1,rfl,v⟩ bc b4;apply dC (yJ _ v φ);rintro _ a0 af⟨i,d,G,o,rfl,w⟩ bd b5;apply dS [U i,Y d G o];intro a1 au al;apply(zq);exact⟨_,_,_,_,ω,w.t.as (by have:=a.ge;have:=b.lt;exact ke pq)⟩;apply(zH);cases sy;apply(zH);apply dC (NG _ a.t.2 b.t.2 KJ);rintro _ a2 ag⟨L,aa,P,rfl,A⟩ be b6;apply dC (yJ _ A φ);rintro _ a3 ah⟨j,e,H,p,rfl,B⟩ bf b7;apply dS [U j,Y e H p];intro a4 av am;apply(zq);exact⟨_,_,_,_,ω,B.t.as (by have:=a.lt;have:=b.ge;exact ke pq)⟩;apply(zH);apply dC (NG _ a.t.2 b.t.2 KJ);rintro _ a5 ai⟨M,ab,R,rfl,C⟩ bg b8;apply dC (yJ _ C χ);rintro _ a6 aj⟨l,f,I,q,rfl,D⟩ bh b9;apply dS [U l,Y f I q];intro a7 aw an;apply(zq);exact⟨_,_,_,_,ω,D.t.as (by have:=a.lt;have:=b.lt;exact ke pq)⟩
def Z5(k:Nat){x:Int}{y:Int}(o:IW h n sx ax lx cx x)(m:IW h n sy ay ly cy y)(hx:x.natAbs<BW)(hy:y.natAbs<BW)(b9:y≠0):CX (J4 (k+7)) 108 [.agg #[U sx,Y ax lx cx],.agg #[U sy,Y ay ly cy]] h n λv V n'=>∃b a l c g d e f,v=.tuple #[.agg #[U b,Y a l c],.agg #[U g,Y d e f]]/\IW V n' b a l c (x.tdiv y)/\∃r,IW V n' g d e f r:=by apply zw R4;apply(zG);apply sB [U sx,Y ax lx cx];intro ai bu ca;apply sB [U sy,Y ay ly cy];intro aj bv cb;apply(sA);intro ak bw cc;apply(sA);intro al bz cd;apply(zG);by_cases q15:(ly:Int)=0;apply(zG);apply sT #[U χ,η];apply sT #[U χ,η];apply sS [U χ,η];intro am c0 bk;apply sS [U χ,η];intro an c1 bl;apply(zG);exact Cu (m.2.zero.1 Z) Z;apply(zG);apply sC (Se _ o.t.2 m.t.2 KJ Z);rintro _ ao bb⟨ad,ba,ae,af,ag,ah,rfl,i,j⟩ cn ce;apply(Zh);cases sx;apply(zH);cases sy;apply(zH);apply dC (yJ _ i χ);rintro _ ap bc⟨D,p,a5,M,rfl,W⟩ co cf;apply(zH);apply dC (yJ _ j.t χ);rintro _ aq bd⟨F,q,a6,N,rfl,Z3⟩ cp cg;apply dS [U D,Y p a5 M];intro ar c2 bm;apply dS [U F,Y q a6 N];intro au c3 bn;apply(zq);exact⟨_,_,_,_,_,_,_,_,ω,W.t.as (by have:=o.ge;have:=m.ge;exact kd pq),_,Z3.t⟩;apply(zH);apply dC (yJ _ i φ);rintro _ av be⟨G,s,a7,Z1,rfl,Z0⟩ cq ch;apply(zH);apply dC (yJ _ j.t χ);rintro _ aw bf⟨H,u,a8,P,rfl,a0⟩ cr ci;apply dS [U G,Y s a7 Z1];intro az c4 bo;apply dS [U H,Y u a8 P];intro b0 c5 bp;apply(zq);exact⟨_,_,_,_,_,_,_,_,ω,Z0.t.as (by have:=o.ge;have:=m.lt;exact kd pq),_,a0.t⟩;apply(zH);cases sy;apply(zH);apply dC (yJ _ i φ);rintro _ b1 bg⟨I,w,a9,R,rfl,a1⟩ cs cj;apply(zH);apply dC (yJ _ j.t φ);rintro _ b2 bh⟨J,A,aa,S,rfl,a2⟩ ct ck;apply dS [U I,Y w a9 R];intro b3 c6 bq;apply dS [U J,Y A aa S];intro b4 c7 br;apply(zq);exact⟨_,_,_,_,_,_,_,_,ω,a1.t.as (by have:=o.lt;have:=m.ge;exact kd pq),_,a2.t⟩;apply(zH);apply dC (yJ _ i χ);rintro _ b5 bi⟨K,B,ab,T,rfl,a3⟩ cu cl;apply(zH);apply dC (yJ _ j.t φ);rintro _ b6 bj⟨L,C,ac,Z4,rfl,a4⟩ cv cm;apply dS [U K,Y B ab T];intro b7 c8 bs;apply dS [U L,Y C ac Z4];intro b8 c9 bt;apply(zq);exact⟨_,_,_,_,_,_,_,_,ω,a3.t.as (by have:=o.lt;have:=m.lt;exact kd pq),_,a4.t⟩
def quoX(k:Nat){x:Int}{y:Int}(p:IW h n sx ax lx cx x)(q:IW h n sy ay ly cy y)(hx:x.natAbs<BW)(s:y.natAbs<BW)(m:y≠0):CX (J4 (k+8)) 58 [.agg #[U sx,Y ax lx cx],.agg #[U sy,Y ay ly cy]] h n (IV (x.tdiv y)):=by apply zw R4;apply(zG);apply sB [U sx,Y ax lx cx];intro v S a3;apply sB [U sy,Y ay ly cy];intro w T a4;apply(sA);intro A Z4 a5;apply(zG);apply sC (tU _ q.t);rintro _ B L⟨u,rfl,f⟩ aa a6;obtain⟨rfl,e⟩|⟨rfl,e⟩:=J7 f;apply(zG);apply sC (Z5 _ p.t q.t hx s m);rintro _ C M⟨b,a,d,c,l,g,i,j,rfl,o,a2,K⟩ ab a7;apply(Zk);intro D V a8;apply(sA);intro F W a9;apply sS [U b,Y a d c];intro G Z3 N;apply sS [U l,Y g i j];intro H Z0 Z1;apply(zG);apply sS [U b,Y a d c];intro I a0 P;apply(zq);exact⟨_,_,_,_,ω,o.t⟩;apply(zG);apply sS [U sx,Y ax lx cx];intro J a1 R;apply(zq);exact⟨_,_,_,_,ω,p.t.as (by rw[e,Jo])⟩
def gcdX(k:Nat){x:Int}{y:Int}(g:GG h n)(e:IW h n sx ax lx cx x)(f:IW h n sy ay ly cy y)(hx:x.natAbs<BW)(hy:y.natAbs<BW):CX (J4 (k+8)) 56 [.agg #[U sx,Y ax lx cx],.agg #[U sy,Y ay ly cy]] h n (IV ((CZ x.natAbs y.natAbs:Nat):Int)):=by apply zw R4;apply(zG);apply sB [U sx,Y ax lx cx];intro i s A;apply sB [U sy,Y ay ly cy];intro j u B;apply(sA);intro l v C;apply(zG);apply sC (Sf _ g.t e.t.2 f.t.2 KJ);rintro _ m p⟨a,c,b,rfl,d⟩ F D;apply sT #[U χ,Y a c b];apply sS [U χ,Y a c b];intro o w q;apply(zq);exact⟨_,_,_,_,ω,AR,d.t⟩
def Z6(k:Nat){x:Int}{y:Int}(a:IW h n sx ax lx cx x)(b:IW h n sy ay ly cy y)(hx:x.natAbs<BW)(hy:y.natAbs<BW):VF (J4 (k+4)) 132 [.agg #[U sx,Y ax lx cx],.agg #[U sy,Y ay ly cy]] h n λv=>∃s:Int,v=υ s/\(s= -1/\x<y\/s=0/\x=y\/s=1/\y<x):=by apply zO R4;apply(zG);apply sB [U sx,Y ax lx cx];intro e m u;apply sB [U sy,Y ay ly cy];intro f o w;apply(zG);cases sx;apply(zG);cases sy;apply(zG);apply sC (M8 _ a.t.2 b.t.2 KJ);rintro _ g j⟨p,rfl,c⟩ C A;obtain⟨rfl,c⟩|⟨rfl,c⟩|⟨rfl,c⟩:=c;apply(zf);exact⟨_,ω,A4⟩;apply(zf);exact⟨_,ω,A4⟩;apply(zf);exact⟨_,ω,A4⟩;apply(zf);exact⟨_,ω,by have:=a.ge;have:=b.lt;omega⟩;apply(zG);cases sy;apply(zf);exact⟨_,ω,by have:=a.lt;have:=b.ge;omega⟩;apply(zG);apply sC (M8 _ b.t.2 a.t.2 KJ);rintro _ i l⟨q,rfl,d⟩ D B;obtain⟨rfl,d⟩|⟨rfl,d⟩|⟨rfl,d⟩:=d;apply(zf);exact⟨_,ω,A6⟩;apply(zf);exact⟨_,ω,A6⟩;apply(zf);exact⟨_,ω,A6⟩
def Si(k:Nat){x:Int}{y:Int}(a:IW h n sx ax lx cx x)(c:IW h n sy ay ly cy y)(hx:x.natAbs<BW)(hy:y.natAbs<BW):VF (J4 (k+4)) 105 [.agg #[U sx,Y ax lx cx],.agg #[U sy,Y ay ly cy]] h n λv=>∃b:Bool,v=U b/\(b=φ↔x=y):=by apply zO R4;apply(zG);apply sB [U sx,Y ax lx cx];intro f o u;apply sB [U sy,Y ay ly cy];intro g p w;apply(zG);cases sx;apply(zG);cases sy;apply(zG);apply sC (M8 _ a.t.2 c.t.2 KJ);rintro _ i l⟨q,rfl,d⟩ C A;obtain⟨rfl,d⟩|⟨rfl,d⟩|⟨rfl,d⟩:=d;apply(zf);exact⟨_,ω,qe⟩;apply(zf);exact⟨_,ω,qe⟩;apply(zf);exact⟨_,ω,qe⟩;apply(zf);exact⟨_,ω,by have:=a.ge;have:=c.lt;simp only[reduceCtorEq,true_iff,false_iff];omega⟩;apply(zG);cases sy;apply(zf);exact⟨_,ω,by have:=a.lt;have:=c.ge;simp only[reduceCtorEq,true_iff,false_iff];omega⟩;apply(zG);apply sC (M8 _ a.t.2 c.t.2 KJ);rintro _ j m⟨s,rfl,e⟩ D B;obtain⟨rfl,e⟩|⟨rfl,e⟩|⟨rfl,e⟩:=e;apply(zf);exact⟨_,ω,qq⟩;apply(zf);exact⟨_,ω,qq⟩;apply(zf);exact⟨_,ω,qq⟩
end
section
variable{l:Nat}
def denZ(q:Rat):Int:=if q.den=1 then 0 else(q.den:Int)
theorem yr:denZ q=0↔q.den=1:=by unfold denZ;have:=q.den_pos;split<;>omega
theorem wq(h:¬denZ q=0):denZ q=(q.den:Int):=by grind [denZ]
def ur(x y:Rat):(x+y).num=(x.num*y.den+y.num*x.den)/((CZ (x.num*y.den+y.num*x.den).natAbs (x.den*y.den):Nat):Int):=by rw[af3,Hk]
def ut(x y:Rat):(x+y).den=(x.den*y.den)/CZ (x.num*y.den+y.num*x.den).natAbs (x.den*y.den):=by rw[af3,Hk]
def sf(x y:Rat):(x*y).num=(x.num*y.num)/((CZ (x.num*y.num).natAbs (x.den*y.den):Nat):Int):=by rw[af4,Hk]
def si(x y:Rat):(x*y).den=(x.den*y.den)/CZ (x.num*y.num).natAbs (x.den*y.den):=by rw[af4,Hk]
theorem sG(a b:Int)(m:Nat):CZ (a*m+b).natAbs m=CZ b.natAbs m:=by
 have c:(JM (a*m+b) m)=JM b m:=by simp_all
 simpa [JM]using c
theorem Ou{x y:Rat}(hx:denZ x=0)(a:denZ y=0):(x+y).num=x.num+y.num/\denZ (x+y)=0:=by simp_all [yr,ur,ut]
def PD{x y:Rat}(hx:denZ x=0)(c:¬denZ y=0):(x+y).num=x.num*denZ y+y.num/\denZ (x+y)=denZ y:=by have g:=wq c;rw[yr]at hx c;have a:=ur x y;have b:=ut x y;have f:CZ (x.num*(y.den:Int)+y.num).natAbs y.den=1:=(sG x.num y.num y.den).trans y.reduced;rw[hx]at a b;simp only[EM]at a b;have e:((1:Nat):Int)=1:=rfl;rw[e,af5,f]at a;rw[e,af5,f,HD]at b;rw[a,g];refine⟨by rw[e,an0],?_⟩;unfold denZ;rw[b,Cv c]
def Sj{x y:Rat}(hx:¬denZ x=0)(a:denZ y=0):(x+y).num=y.num*denZ x+x.num/\denZ (x+y)=denZ x:=by rw[Rat.add_comm];exact PD a hx
structure AddS (x y:Rat)(d l r:Nat)(N:Int)(s:Nat):Prop where
 hd:d=CZ x.den y.den
 hl:y.den=d*l
 hr:x.den=d*r
 hN:N=x.num*l+y.num*r
 hs:s=CZ N.natAbs d
def AddS.cop{x y:Rat}{N:Int}{s:Nat}(a:AddS x y d l r N s):CZ N.natAbs (r*l)=1:=by
 have e:0<d:=by rw[a.hd];exact FP _ x.den_pos
 have b:Gl l r:=by
  have c:CZ x.den y.den=d*CZ r l:=by rw[a.hr,a.hl,HZ]
  rw[<-a.hd]at c;have:d*1=d*CZ r l:=Z;have:=Nat.eq_of_mul_eq_mul_left e this;rw[Nat.coprime_iff_gcd_eq_one,EY];exact this.symm
 have f:Gl x.num.natAbs r:=FM ⟨d,by rw[a.hr,CY]⟩ x.reduced;have g:Gl y.num.natAbs l:=FM ⟨d,by rw[a.hl,CY]⟩ y.reduced;have c:CZ N.natAbs r=1:=(by have:CZ (y.num*(r:Int)+x.num*(l:Int)).natAbs r=1:=(by rw[sG,Dl,CR];exact Ib f b);rw[a.hN,Int.add_comm];exact this);have i:CZ N.natAbs l=1:=(by have:CZ (x.num*(l:Int)+y.num*(r:Int)).natAbs l=1:=(by rw[sG,Dl,CR];exact Ib g b.symm);rw[a.hN];exact this);exact HW c i
theorem AddS.res{x y:Rat}{N:Int}{s:Nat}(a:AddS x y d l r N s):(x+y).num=N.tdiv (s:Int)/\(x+y).den=r*(y.den/s):=by
 have b:0<d:=by rw[a.hd];exact FP _ x.den_pos
 have c:0<s:=by rw[a.hs];exact D7 _ b
 have u:=a.cop;have j:=ur x y;have m:=ut x y;have f:x.num*(y.den:Int)+y.num*(x.den:Int)=(d:Int)*N:=(by rw[a.hl,a.hr,a.hN];simp only[EH];grind);have g:x.den*y.den=d*(r*l*d):=by rw[a.hl,a.hr];grind
 have i:CZ ((d:Int)*N).natAbs (d*(r*l*d))=d*s:=(by rw[Dl,CR,HZ,Hj d (au9 u),<-a.hs]);rw[f,g,i]at j;rw[f,g,i]at m;have o:(s:Int)∣N:=by
  have:s∣N.natAbs:=by rw[a.hs];exact E6 _ _
  exact Fq.2 this
 have p:s∣d:=by rw[a.hs];exact Fc _ _
 refine⟨?_,?_⟩;rw[j,EH,Int.mul_ediv_mul_of_pos _ _ Z,GF o];rw[m,Nat.mul_div_mul_left _ _ b];have⟨e,v⟩:=p;rw[a.hl,v];rw[show r*l*(s*e)=s*(r*(l*e))from by grind,Fg _ c,show s*e*l=s*(l*e)from by grind,Fg _ c]
theorem lK(a b:Nat):(a:Int).tdiv (b:Int)=((a/b:Nat):Int):=rfl
def AddS.mk'{x y:Rat}(hx:¬denZ x=0)(b:¬denZ y=0):∃d l r N s,AddS x y d l r N s/\((CZ (denZ x).natAbs (denZ y).natAbs:Nat):Int)=d/\(denZ y).tdiv ((CZ (denZ x).natAbs (denZ y).natAbs:Nat):Int)=l/\(denZ x).tdiv ((CZ (denZ x).natAbs (denZ y).natAbs:Nat):Int)=r/\x.num*((denZ y).tdiv ((CZ (denZ x).natAbs (denZ y).natAbs:Nat):Int))+y.num*((denZ x).tdiv ((CZ (denZ x).natAbs (denZ y).natAbs:Nat):Int))=N/\∀M:Int,M=N->((CZ M.natAbs (((CZ (denZ x).natAbs (denZ y).natAbs:Nat):Int)).natAbs:Nat):Int)=(s:Nat):=by rw[wq hx,wq b];simp only[CR,lK];have c:0<CZ x.den y.den:=FP _ x.den_pos;refine⟨CZ x.den y.den,y.den/CZ x.den y.den,x.den/CZ x.den y.den,_,CZ (x.num*((y.den/CZ x.den y.den:Nat):Int)+y.num*((x.den/CZ x.den y.den:Nat):Int)).natAbs (CZ x.den y.den),⟨ω,?_,?_,ω,ω⟩,ω,ω,ω,ω,?_⟩;rw[FS (Fc _ _)];rw[FS (E6 _ _)];intro M a;rw[a]
theorem Z7(x y:Rat):(x*y).num=(x.num/((CZ x.num.natAbs y.den:Nat):Int))*(y.num/((CZ y.num.natAbs x.den:Nat):Int))/\(x*y).den=(x.den/CZ y.num.natAbs x.den)*(y.den/CZ x.num.natAbs y.den):=by
 have w:=sf x y;have A:=si x y;have Z1:CZ (x.num*y.num).natAbs (x.den*y.den)=CZ x.num.natAbs y.den*CZ y.num.natAbs x.den:=by
  rw[Dl];by_cases hx:x.num=0;have B:x.den=1:=by have:=x.reduced;rw[hx]at this;simpa using this
  rw[hx,B];simp;by_cases hy:y.num=0;have C:y.den=1:=by have:=y.reduced;rw[hy]at this;simpa using this
  rw[hy,C];simp;have f:0<CZ x.num.natAbs y.den:=D7 _ y.den_pos;have g:0<CZ y.num.natAbs x.den:=D7 _ x.den_pos;have I:=Is f;have J:=Is g;have D:=FS (E6 x.num.natAbs y.den);have F:=FS (Fc x.num.natAbs y.den);have G:=FS (E6 y.num.natAbs x.den);have H:=FS (Fc y.num.natAbs x.den);have i:=x.reduced;have j:=y.reduced;generalize CZ x.num.natAbs y.den=g1 at*;generalize CZ y.num.natAbs x.den=g2 at*;generalize x.num.natAbs/g1=a at*;generalize y.den/g1=b at*;generalize y.num.natAbs/g2=c at*;generalize x.den/g2=e at*;rw[<-D,<-F,<-G,<-H];rw[<-D,<-H]at i;rw[<-G,<-F]at j;have p:Gl a e:=Ik ⟨g1,CY _ _⟩ (FM ⟨g2,CY _ _⟩ i);have s:Gl c b:=Ik ⟨g2,CY _ _⟩ (FM ⟨g1,CY _ _⟩ j);have:Gl (a*c) (e*b):=Ib (HW p I) (HW J s);rw[show g1*a*(g2*c)=(g1*g2)*(a*c)from by grind,show g2*e*(g1*b)=(g1*g2)*(e*b)from by grind,HZ,this,DD]
 rw[Z1]at w A;have K:((CZ x.num.natAbs y.den:Nat):Int)∣x.num:=Fq.2 (E6 _ _);have L:((CZ y.num.natAbs x.den:Nat):Int)∣y.num:=Fq.2 (E6 _ _);have M:CZ y.num.natAbs x.den∣x.den:=Fc _ _;have N:CZ x.num.natAbs y.den∣y.den:=Fc _ _;refine⟨?_,?_⟩;rw[w,EH];have⟨u,m⟩:=K;have⟨v,o⟩:=L;have f:0<CZ x.num.natAbs y.den:=D7 _ y.den_pos;have g:0<CZ y.num.natAbs x.den:=D7 _ x.den_pos;generalize CZ x.num.natAbs y.den=g1 at*;generalize CZ y.num.natAbs x.den=g2 at*;rw[m,o,Gt _ Z,Gt _ Z,show(g1:Int)*u*(g2*v)=(g1*g2)*(u*v)from by grind,Gt];exact Int.mul_ne_zero Z Z;rw[A];have⟨u,m⟩:=M;have⟨v,o⟩:=N;have f:0<CZ x.num.natAbs y.den:=D7 _ y.den_pos;have g:0<CZ y.num.natAbs x.den:=D7 _ x.den_pos;generalize CZ x.num.natAbs y.den=g1 at*;generalize CZ y.num.natAbs x.den=g2 at*;rw[m,o,Fg _ g,Fg _ f,show g2*u*(g1*v)=(g1*g2)*(u*v)from by grind,Fg _ (Et f g)]
theorem jc(x y:Rat):(x<y↔x.num*y.den<y.num*x.den)/\(x=y↔x.num*y.den=y.num*x.den)/\(y<x↔y.num*x.den<x.num*y.den):=by grind [Rat.lt_iff,Rat.le_antisymm,Rat.not_lt.1]
end
section
variable{a cx:Nat}
def vh{x y:Int}(h:x.natAbs<m):(x.tdiv y).natAbs<m:=by rw[Gh];exact C7 (Ei _ _) h
def sw{x y:Int}(hx:x.natAbs<2^a)(c:y.natAbs<2^b):(x*y).natAbs<2^(a+b):=by rw[Dl,DV];exact GH hx c
def PE{x y:Int}(hx:x.natAbs<2^a)(c:y.natAbs<2^b)(h:a+b<=2496):(x*y).natAbs<BW:=yU (sw hx c) h
def dJ{x y:Int}(hx:x.natAbs<2^m)(c:y.natAbs<2^m):(x+y).natAbs<2^(m+1):=by rw[C5];omega
def PF{x y u v:Int}(hx:x.natAbs<2^a)(d:y.natAbs<2^b)(c:u.natAbs<2^b)(hv:v.natAbs<2^a)(h:a+b+1<=2496):(x*y+u*v).natAbs<BW:=
 yU (dJ (sw hx d) (by rw[D6 a b];exact sw c hv)) h
def Z8{x y u:Int}(hx:x.natAbs<2^a)(d:y.natAbs<2^b)(c:u.natAbs<2^b)(h:a+b+1<=2496):(x*y+u).natAbs<BW:=
 yU (dJ (sw hx d) (CS c (CQ zd Z))) h
def Sk{x y:Int}(hx:x.natAbs<m)(c:¬x=0):((CZ x.natAbs y.natAbs:Nat):Int).natAbs<m:=by rw[CR];exact C7 (Ij _ Z) hx
def PG{x y:Int}(c:y.natAbs<m)(d:¬y=0):((CZ x.natAbs y.natAbs:Nat):Int).natAbs<m:=by rw[CR];exact C7 (Nat.gcd_le_right _ Z) c
theorem Z9{x y:Int}(h:¬x=0):((CZ x.natAbs y.natAbs:Nat):Int)≠0:=by grind [FP]
theorem PH{x y:Int}(h:¬y=0):((CZ x.natAbs y.natAbs:Nat):Int)≠0:=by grind [D7]
def zo:(1:Int).natAbs<BW:=yU (e:=1) zd zd
def J9{x:Int}(h:x.natAbs<BW:=by first|assumption|exact vh ‹_› |exact PE ‹_› ‹_› Z|exact PE ‹_› (vh ‹_›) Z|exact PE (vh ‹_›) (vh ‹_›) Z|exact PF ‹_› (vh ‹_›) ‹_› (vh ‹_›) Z|exact PF ‹_› ‹_› ‹_› ‹_› Z|exact Z8 ‹_› ‹_› ‹_› Z|exact Sk ‹_› ‹_› |exact Sk (PF ‹_› (vh ‹_›) ‹_› (vh ‹_›) Z) ‹_› |exact PG ‹_› ‹_› |exact zo):x.natAbs<BW:=h
def LB{x:Int}(h:x≠0:=by first|assumption|exact Z9 ‹_› |exact PH ‹_› |omega):x≠0:=h
def Sz(m:Nat)(q:Rat):Prop:=q.num.natAbs<2^m/\q.den<2^m
def Sz.z(h:Sz m q):(denZ q).natAbs<2^m:=by unfold denZ;split;exact GY m;rw[CR];exact h.2
def Sz.mono(h:Sz m q)(hm:m<=m'):Sz m' q:=⟨CS h.1 (CQ zd hm),CS h.2 (CQ zd hm)⟩
def na{x:Int}(h:x.natAbs<m):(x/(g:Int)).natAbs<m:=by refine C7 ?_ h;exact Int.natAbs_ediv_le_natAbs _ _
def Sz.add{x y:Rat}(hx:Sz a x)(c:Sz b y):Sz (a+b+1) (x+y):=by refine⟨?_,?_⟩;rw[ur];refine na (dJ (sw hx.1 (by rw[CR];exact c.2)) ?_);rw[D6 a b];exact sw c.1 (by rw[CR];exact hx.2);rw[ut];refine C7 (Ei _ _) (CS (GH hx.2 c.2) ?_);rw[<-DV];exact CQ zd Z
def Sz.mul{x y:Rat}(hx:Sz a x)(c:Sz b y):Sz (a+b) (x*y):=by refine⟨?_,?_⟩;rw[sf];exact na (sw hx.1 c.1);rw[si];refine C7 (Ei _ _) ?_;rw[DV];exact GH hx.2 c.2
def Sz.neg{x:Rat}(hx:Sz a x):Sz a (-x):=⟨by rw[Rat.neg_num,E2];exact hx.1,by rw[Rat.neg_den];exact hx.2⟩
def Sz.zero(a:Nat)(h:1<=a):Sz a 0:=⟨GY a,CS (by decide:(1:Nat)<2^1) (CQ zd h)⟩
def QV(q:Rat)(v:ψ)(h:HF)(n:Nat):Prop:=∃b a l c d e f g,v=.agg #[U b,Y a l c,U d,Y e f g]/\IW h n b a l c q.num/\IW h n d e f g (denZ q)
def QV.zero(h:HF)(n:Nat):QV 0 (.agg #[U χ,η,U χ,η]) h n:=⟨_,_,_,_,_,_,_,_,ω,IW.zero h n,IW.zero h n⟩
def rO(k:Nat){x:Int}{c:Bool}{y:Int}(e:IW h n bx ax lx cx x)(f:IW h n c ay ly cy y)(hx:x.natAbs<BW)(d:y.natAbs<BW):CX (J4 (k+4)) 132 [.agg #[U bx,Y ax lx cx],.agg #[U c,Y ay ly cy]] h n λv _ _=>∃s:Int,v=υ s/\(s= -1/\x<y\/s=0/\x=y\/s=1/\y<x):=(Z6 k e f hx d).cx
def Sm(k:Nat){x:Int}{c:Bool}{y:Int}(e:IW h n bx ax lx cx x)(f:IW h n c ay ly cy y)(hx:x.natAbs<BW)(d:y.natAbs<BW):CX (J4 (k+4)) 105 [.agg #[U bx,Y ax lx cx],.agg #[U c,Y ay ly cy]] h n (BV (x=y)):=(Si k e f hx d).cx
def Sn(k:Nat)(h:HF)(n:Nat):CX (J4 (k+1)) 95 [ι 1] h n (WV 1):=ZP k h n (w:=1) zd
def NH(k:Nat)(h:HF)(n:Nat):CX (J4 (k+2)) 41 [υ 1] h n (IV 1):=by apply zw R4;apply(Zk);intro i s v;apply(zG);apply wm R6 (ik:=.u64) (a:=1) rfl;apply sC (Sn _ _ _);rintro _ j o⟨c,e,d,rfl,f⟩ y w;apply sT #[U χ,Y c e d];apply sS [U χ,Y c e d];intro l u p;apply(zq);exact⟨_,_,_,_,ω,ω,f.t⟩
def zic(k:Nat){x:Rat}(f:IW h n sx ax lx cx x.num)(y:IW h n dx ex fx gx (denZ x)):VF (J4 (k+2)) 61 [.agg #[U sx,Y ax lx cx,U dx,Y ex fx gx]] h n λv=>∃b:Bool,v=U b/\(b=φ↔x=0):=by apply zO R4;apply(zG);apply sB [U sx,Y ax lx cx,U dx,Y ex fx gx];intro j p s;apply(zG);apply sC (yK _ f.t);rintro _ l o⟨i,rfl,d⟩ w u;obtain⟨rfl,c⟩|⟨rfl,c⟩:=J7 d;apply(zf);exact J8 λe=>Cu (Fk.2 e) c;apply(zf);exact Ki (Fk.1 c)
def zpb(k:Nat){x:Rat}(d:IW h n sx ax lx cx x.num)(w:IW h n dx ex fx gx (denZ x)):VF (J4 (k+2)) 47 [.agg #[U sx,Y ax lx cx,U dx,Y ex fx gx]] h n λv=>∃s:Int,v=υ s/\(s= -1/\x.num<0\/s=0/\x.num=0\/s=1/\0<x.num):=by apply zO R4;apply(zG);apply sB [U sx,Y ax lx cx,U dx,Y ex fx gx];intro e j o;apply(zG);apply sC (M9 _ d.t);rintro _ f i⟨l,rfl,c⟩ u p;obtain⟨rfl,c⟩|⟨rfl,c⟩|⟨rfl,c⟩:=c;apply(zf);exact⟨_,ω,Z⟩;apply(zf);exact⟨_,ω,Z⟩;apply(zf);exact⟨_,ω,Z⟩
def kD(k:Nat){x:Rat}(c:IW h n sx ax lx cx x.num)(d:IW h n dx ex fx gx (denZ x)):CX (J4 (k+2)) 61 [.agg #[U sx,Y ax lx cx,U dx,Y ex fx gx]] h n (BV (x=0)):=(zic k c d).cx
def fD(k:Nat){x:Rat}(c:IW h n sx ax lx cx x.num)(d:IW h n dx ex fx gx (denZ x)):CX (J4 (k+2)) 47 [.agg #[U sx,Y ax lx cx,U dx,Y ex fx gx]] h n (NF x.num):=(zpb k c d).cx
def denQ(k:Nat){x:Rat}(R:IW h n sx ax lx cx x.num)(l:IW h n dx ex fx gx (denZ x)):CX (J4 (k+3)) 97 [.agg #[U sx,Y ax lx cx,U dx,Y ex fx gx]] h n (IV (x.den:Int)):=by apply zw R4;apply(zG);apply sB [U sx,Y ax lx cx,U dx,Y ex fx gx];intro s G K;apply(sA);intro u H L;apply(zG);apply sC (yK _ l.t);rintro _ v B⟨p,rfl,d⟩ Z1 M;obtain⟨rfl,c⟩|⟨rfl,c⟩:=J7 d;apply(zG);apply sS [U dx,Y ex fx gx];intro w I D;apply(zq);exact⟨_,_,_,_,ω,l.t.as (wq c)⟩;apply(zG);apply sC (NH _ _ _);rintro _ y C⟨f,e,o,i,rfl,j⟩ P N;apply sS [U f,Y e o i];intro A J F;apply(zq);exact⟨_,_,_,_,ω,j.t.as (by rw[yr.1 c];rfl)⟩
def vE(k:Nat){x:Int}{y:Int}(f:IW h n sx ax lx cx x)(i:IW h n sy ay ly cy y)(e:q.num=x)(d:(q.den:Int)=y):CX (J4 (k+2)) 78 [.agg #[U sx,Y ax lx cx],.agg #[U sy,Y ay ly cy]] h n (QV q):=by apply zw R4;apply(zG);apply sB [U sx,Y ax lx cx];intro o D J;apply sB [U sy,Y ay ly cy];intro p F K;apply(sA);intro s G L;apply(zG);apply sC (tU _ i.t);rintro _ u A⟨l,rfl,c⟩ N M;obtain⟨rfl,j⟩|⟨rfl,j⟩:=J7 c;apply(zG);apply sT #[U sx,Y ax lx cx,U sy,Y ay ly cy];apply sS [U sx,Y ax lx cx,U sy,Y ay ly cy];intro v H B;apply(zq);exact⟨_,_,_,_,_,_,_,_,ω,f.t.as (e.symm),i.t.as (((wq (mt yr.1 (by have:=d;omega))).trans d).symm)⟩;apply(zG);apply sT #[U sx,Y ax lx cx,U χ,η];apply sS [U sx,Y ax lx cx,U χ,η];intro w I C;apply(zq);exact⟨_,_,_,_,_,_,_,_,ω,f.t.as (e.symm),(IW.zero _ _).as ((yr.2 (by have:=d;omega)).symm)⟩
def je(k:Nat){x:Int}{y:Int}(g:GG h n)(s:IW h n sx ax lx cx x)(j:IW h n sy ay ly cy y)(hx:x.natAbs<BW)(hy:y.natAbs<BW)(a6:¬y=0):CX (J4 (k+9)) 96 [.agg #[U sx,Y ax lx cx],.agg #[U sy,Y ay ly cy]] h n λv I Z1=>∃b a l c g d e f,v=.tuple #[.agg #[U b,Y a l c],.agg #[U g,Y d e f]]/\IW I Z1 b a l c (x.tdiv ((CZ x.natAbs y.natAbs:Nat):Int))/\IW I Z1 g d e f (y.tdiv ((CZ x.natAbs y.natAbs:Nat):Int)):=by apply zw R4;apply(zG);apply sB [U sx,Y ax lx cx];intro R ag aq;apply sB [U sy,Y ay ly cy];intro S ah ar;apply(sA);intro T ai au;apply(sA);intro Z4 aj av;apply(zG);apply sC (tU _ j.t);rintro _ V a7⟨P,rfl,p⟩ b3 aw;obtain⟨rfl,i⟩|⟨rfl,i⟩:=J7 p;apply(zG);apply sC (gcdX _ g.t s.t j.t J9 J9);rintro _ W a8⟨B,u,L,F,rfl,o⟩ b4 az;apply(sA);intro Z3 ak b0;apply sS [U B,Y u L F];intro Z0 al ab;apply(Zh);apply dC (quoX _ s.t o.t J9 J9 LB);rintro _ a0 a9⟨C,w,M,G,rfl,J⟩ b5 b1;apply(zH);apply dC (quoX _ j.t o.t J9 J9 LB);rintro _ a1 aa⟨D,A,N,H,rfl,K⟩ b6 b2;apply dS [U C,Y w M G];intro a2 am ac;apply dS [U D,Y A N H];intro a3 an ad;apply(zq);exact⟨_,_,_,_,_,_,_,_,ω,J.t,K.t⟩;apply(Zh);apply dS [U sx,Y ax lx cx];intro a4 ao ae;apply dS [U sy,Y ay ly cy];intro a5 ap af;apply(zq);exact⟨_,_,_,_,_,_,_,_,ω,s.t.as (by rw[i];simp),j.t.as (by rw[i];simp)⟩
def zgo{x y:Rat}(hx:¬denZ x=0)(e:¬denZ y=0)(h:x.num*((denZ y).tdiv ((CZ (denZ x).natAbs (denZ y).natAbs:Nat):Int))+y.num*((denZ x).tdiv ((CZ (denZ x).natAbs (denZ y).natAbs:Nat):Int))=0):x+y=0:=by have⟨d,l,r,N,s,a,f,i,j,c,o⟩:=AddS.mk' hx e;rw[c]at h;rw[<-Fk,a.res.1,h,Int.zero_tdiv]
def jk{x y:Rat}(hx:¬denZ x=0)(c:¬denZ y=0):(x+y).num=(x.num*((denZ y).tdiv ((CZ (denZ x).natAbs (denZ y).natAbs:Nat):Int))+y.num*((denZ x).tdiv ((CZ (denZ x).natAbs (denZ y).natAbs:Nat):Int))).tdiv ((CZ (x.num*((denZ y).tdiv ((CZ (denZ x).natAbs (denZ y).natAbs:Nat):Int))+y.num*((denZ x).tdiv ((CZ (denZ x).natAbs (denZ y).natAbs:Nat):Int))).natAbs (((CZ (denZ x).natAbs (denZ y).natAbs:Nat):Int)).natAbs:Nat):Int)/\((x+y).den:Int)=((denZ x).tdiv ((CZ (denZ x).natAbs (denZ y).natAbs:Nat):Int))*((denZ y).tdiv ((CZ (x.num*((denZ y).tdiv ((CZ (denZ x).natAbs (denZ y).natAbs:Nat):Int))+y.num*((denZ x).tdiv ((CZ (denZ x).natAbs (denZ y).natAbs:Nat):Int))).natAbs (((CZ (denZ x).natAbs (denZ y).natAbs:Nat):Int)).natAbs:Nat):Int)):=by have⟨d,l,r,N,s,a,j,o,e,f,i⟩:=AddS.mk' hx c;rw[f,i N ω,e];refine⟨a.res.1,?_⟩;rw[a.res.2,EH,wq c,lK]
theorem So{x y:Rat}(hx:¬denZ x=0)(c:¬denZ y=0)(h:((CZ (denZ x).natAbs (denZ y).natAbs:Nat):Int)=1):(x+y).num=x.num*((denZ y).tdiv ((CZ (denZ x).natAbs (denZ y).natAbs:Nat):Int))+y.num*((denZ x).tdiv ((CZ (denZ x).natAbs (denZ y).natAbs:Nat):Int))/\((x+y).den:Int)=denZ x*denZ y:=by simp_all [jk,Nat.gcd_one_right,Jo]
def addQ(k:Nat){x:Rat}{y:Rat}(g:GG h n)(s:IW h n sx ax lx cx x.num)(f:IW h n dx ex fx gx (denZ x))(u:IW h n sy ay ly cy y.num)(i:IW h n dy ey fy gy (denZ y))(hx:Sz a x)(hy:Sz b y)(e0:a+b+1<=2496):CX (J4 (k+9)) 36 [.agg #[U sx,Y ax lx cx,U dx,Y ex fx gx],.agg #[U sy,Y ay ly cy,U dy,Y ey fy gy]] h n (QV (x+y)):=by obtain⟨au,ar⟩:x.num.natAbs<2^a/\(denZ x).natAbs<2^a:=⟨hx.1,hx.z⟩;obtain⟨aw,av⟩:y.num.natAbs<2^b/\(denZ y).natAbs<2^b:=⟨hy.1,hy.z⟩;have bn:=yU au Z;have bm:=yU ar Z;have bp:=yU aw Z;have bo:=yU av Z;apply zw R4;apply(zG);apply sB [U sx,Y ax lx cx,U dx,Y ex fx gx];intro cn fb fu;apply sB [U sy,Y ay ly cy,U dy,Y ey fy gy];intro co fc fv;apply(sA);intro cp fd fw;apply(zG);apply sC (yK _ f.t);rintro _ cq e9⟨c0,rfl,P⟩ gt fz;obtain⟨rfl,c⟩|⟨rfl,c⟩:=J7 P;apply(zG);apply sC (yK _ f.t);rintro _ cr ea⟨c1,rfl,R⟩ gu g0;obtain⟨rfl,d⟩|⟨rfl,d⟩:=J7 R;apply(zG);apply sC (yK _ i.t);rintro _ cs eb⟨c2,rfl,S⟩ gv g1;obtain⟨rfl,e⟩|⟨rfl,e⟩:=J7 S;apply(zG);apply sC (gcdX _ g.t f.t i.t J9 J9);rintro _ ct ec⟨a5,Z3,bf,ac,rfl,l⟩ gw g2;apply(sA);intro cu fe g3;apply sS [U a5,Y Z3 bf ac];intro cv ff f0;apply(Zh);apply dC (quoX _ i.t l.t J9 J9 LB);rintro _ cw ed⟨a6,Z0,bg,ad,rfl,az⟩ gz g4;apply(zH);apply dC (quoX _ f.t l.t J9 J9 LB);rintro _ cz ee⟨a7,a0,bh,ae,rfl,I⟩ i0 g5;apply dB [U χ,η];intro d0 fg g6;apply dB [U χ,η];intro d1 fh g7;apply dS [U a6,Y Z0 bg ad];intro d2 fi f1;apply dS [U a7,Y a0 bh ae];intro d3 fj f2;apply(Zh);apply dC (mulX _ s.t az.t J9 J9);rintro _ d4 ef⟨c3,bq,e1,cf,rfl,b0⟩ i1 g8;apply(zH);apply dC (mulX _ u.t I.t J9 J9);rintro _ d5 eg⟨c4,br,e2,cg,rfl,b1⟩ i2 g9;apply dC (addX _ b0.t b1 J9 J9);rintro _ d6 eh⟨a8,a1,bi,af,rfl,o⟩ i3 ga;apply dB [U χ,η];intro d7 fk gb;apply dS [U a8,Y a1 bi af];intro d8 fl f3;apply(zG);apply sC (yK _ o.t);rintro _ d9 ei⟨c5,rfl,T⟩ i4 gc;obtain⟨rfl,N⟩|⟨rfl,N⟩:=J7 T;apply(zG);apply sC (tU _ l.t);rintro _ da ej⟨c6,rfl,Z4⟩ i5 gd;obtain⟨rfl,p⟩|⟨rfl,p⟩:=J7 Z4;apply(zG);apply sC (gcdX _ g.t o.t l.t J9 J9);rintro _ db ek⟨a9,a2,bj,ag,rfl,J⟩ i6 ge;apply(sA);intro dc fm gf;apply sS [U a9,Y a2 bj ag];intro dd fn f4;apply(Zh);apply dC (quoX _ o.t J.t J9 J9 LB);rintro _ de el⟨c7,bs,e3,ch,rfl,b2⟩ i7 gg;apply(zH);apply dC (quoX _ i.t J.t J9 J9 LB);rintro _ df em⟨c8,bt,e4,ci,rfl,b3⟩ i8 gh;apply dC (mulX _ I.t b3 J9 J9);rintro _ dg en⟨c9,bu,e5,cj,rfl,b4⟩ i9 gi;apply dC (vE _ b2.t b4 (jk d e).1 (jk d e).2);rintro _ dh eo⟨aa,a3,bk,ah,aj,al,an,ap,rfl,b5,bd⟩ ia gj;apply dS [U aa,Y a3 bk ah,U aj,Y al an ap];intro di fo f5;apply(zq);exact⟨_,_,_,_,_,_,_,_,ω,b5.t,bd.t⟩;apply(Zh);apply dC (mulX _ f.t i.t J9 J9);rintro _ dj ep⟨ca,bv,e6,ck,rfl,b6⟩ ib gk;apply dC (vE _ o.t b6 (So d e p).1 (So d e p).2);rintro _ dk eq⟨ab,a4,bl,ai,ak,am,ao,aq,rfl,b7,be⟩ ic gl;apply dS [U ab,Y a4 bl ai,U ak,Y am ao aq];intro dl fp f6;apply(zq);exact⟨_,_,_,_,_,_,_,_,ω,b7.t,be.t⟩;apply(zG);apply sT #[U χ,η,U χ,η];apply sS [U χ,η,U χ,η];intro dm fq f7;apply(zq);exact(show x+y=0 from zgo (c) (e) N)▸QV.zero _ _;apply(Zh);apply dC (mulX _ u.t f.t J9 J9);rintro _ dn er⟨cb,bw,e7,cl,rfl,b8⟩ id gm;apply(zH);apply dC (addX _ b8 s.t J9 J9);rintro _ dp es⟨B,v,K,F,rfl,b9⟩ ie gn;apply(zH);apply dT #[U B,Y v K F,U dx,Y ex fx gx];apply dS [U B,Y v K F,U dx,Y ex fx gx];intro dq fr f8;apply(zq);exact⟨_,_,_,_,_,_,_,_,ω,b9.t.as ((Sj d e).1.symm),f.t.as ((Sj d e).2.symm)⟩;exact Cu d c;apply(zG);apply sC (yK _ i.t);rintro _ dr et⟨cc,rfl,V⟩ ig go;obtain⟨rfl,j⟩|⟨rfl,j⟩:=J7 V;apply(zG);apply sC (yK _ f.t);rintro _ ds eu⟨cd,rfl,W⟩ ii gp;obtain⟨rfl,Z1⟩|⟨rfl,Z1⟩:=J7 W;exact Cu c Z1;apply(Zh);apply dC (mulX _ s.t i.t J9 J9);rintro _ dt ev⟨ce,bz,e8,cm,rfl,ba⟩ ij gq;apply(zH);apply dC (addX _ ba u.t J9 J9);rintro _ du ew⟨C,w,L,G,rfl,bb⟩ ik gr;apply(zH);apply dT #[U C,Y w L G,U dy,Y ey fy gy];apply dS [U C,Y w L G,U dy,Y ey fy gy];intro dv fs f9;apply(zq);exact⟨_,_,_,_,_,_,_,_,ω,bb.t.as ((PD c j).1.symm),i.t.as ((PD c j).2.symm)⟩;apply(zG);apply sC (addX _ s.t u.t J9 J9);rintro _ dw ez⟨D,A,M,H,rfl,bc⟩ il gs;apply sT #[U D,Y A M H,U χ,η];apply sS [U D,Y A M H,U χ,η];intro dz ft fa;apply(zq);exact⟨_,_,_,_,_,_,_,_,ω,bc.t.as ((Ou c j).1.symm),(IW.zero _ _).as ((Ou c j).2.symm)⟩
theorem Ov{x y:Rat}(hx:denZ x=0)(c:denZ y=0):(x*y).num=x.num*y.num/\denZ (x*y)=0:=by simp_all [yr,sf,si]
theorem km(x y:Rat):(x*y).num=(x.num.tdiv ((CZ x.num.natAbs ((y.den:Int)).natAbs:Nat):Int))*(y.num.tdiv ((CZ y.num.natAbs ((x.den:Int)).natAbs:Nat):Int))/\((x*y).den:Int)=((x.den:Int).tdiv ((CZ y.num.natAbs ((x.den:Int)).natAbs:Nat):Int))*((y.den:Int).tdiv ((CZ x.num.natAbs ((y.den:Int)).natAbs:Nat):Int)):=by grind [only,lK,Z7,CR,GF,Fq.2,E6,EH]
def mulQ(k:Nat){x:Rat}{y:Rat}(g:GG h n)(c:IW h n sx ax lx cx x.num)(C:IW h n dx ex fx gx (denZ x))(d:IW h n sy ay ly cy y.num)(D:IW h n dy ey fy gy (denZ y))(hx:Sz a x)(B:Sz b y)(e0:a+b<=2496):CX (J4 (k+10)) 44 [.agg #[U sx,Y ax lx cx,U dx,Y ex fx gx],.agg #[U sy,Y ay ly cy,U dy,Y ey fy gy]] h n (QV (x*y)):=by obtain⟨ap,an⟩:x.num.natAbs<2^a/\(denZ x).natAbs<2^a:=⟨hx.1,hx.z⟩;obtain⟨au,aq⟩:y.num.natAbs<2^b/\(denZ y).natAbs<2^b:=⟨B.1,B.z⟩;have bq:=yU ap Z;have bo:=yU an Z;have bt:=yU au Z;have br:=yU aq Z;have e1:=x.den_pos;have e2:=y.den_pos;have ao:((x.den:Int)).natAbs<2^a:=hx.2;have ar:((y.den:Int)).natAbs<2^b:=B.2;have bp:=yU ao Z;have bs:=yU ar Z;apply zw R4;apply(zG);apply sB [U sx,Y ax lx cx,U dx,Y ex fx gx];intro co f9 fz;apply sB [U sy,Y ay ly cy,U dy,Y ey fy gy];intro cp fa g0;apply(sA);intro cq fb g1;apply(zG);apply sC (yK _ c.t);rintro _ cr eb⟨c4,rfl,u⟩ gt g2;obtain⟨rfl,p⟩|⟨rfl,p⟩:=J7 u;apply(zG);apply sC (yK _ d.t);rintro _ cs ec⟨c5,rfl,v⟩ gu g3;obtain⟨rfl,s⟩|⟨rfl,s⟩:=J7 v;apply(zG);apply sC (yK _ C.t);rintro _ ct ed⟨c6,rfl,w⟩ gv g4;obtain⟨rfl,e⟩|⟨rfl,e⟩:=J7 w;apply(Zh);apply dC (denQ _ d.t D.t);rintro _ cu ee⟨c7,bu,e3,cg,rfl,av⟩ gw g5;apply dC (je _ g.t c.t av J9 J9 Z);rintro _ cv ef⟨L,F,bi,S,ah,Z0,a5,ab,rfl,aw,bc⟩ gz g6;apply(zH);apply dB [U χ,η];intro cw fc g7;apply dB [U χ,η];intro cz fd g8;apply dS [U L,Y F bi S];intro d0 fe eu;apply dS [U ah,Y Z0 a5 ab];intro d1 ff ev;apply(Zh);apply dC (denQ _ c.t C.t);rintro _ d2 eg⟨c8,bv,e4,ch,rfl,az⟩ i0 g9;apply dC (je _ g.t d.t az J9 J9 Z);rintro _ d3 eh⟨M,G,bj,T,ai,a0,a6,ac,rfl,b0,bd⟩ i1 ga;apply(zH);apply dB [U χ,η];intro d4 fg gb;apply dB [U χ,η];intro d5 fh gc;apply dS [U M,Y G bj T];intro d6 fi ew;apply dS [U ai,Y a0 a6 ac];intro d7 fj ez;apply(Zh);apply dC (mulX _ aw.t b0.t J9 J9);rintro _ d8 ei⟨c9,bw,e5,ci,rfl,b1⟩ i2 gd;apply(zH);apply dC (mulX _ bd.t bc.t J9 J9);rintro _ d9 ej⟨ca,bz,e6,cj,rfl,b2⟩ i3 ge;apply dC (vE _ b1.t b2 (km x y).1 (km x y).2);rintro _ da ek⟨N,H,bk,Z4,a1,a7,ad,aj,rfl,b3,be⟩ i4 gf;apply dS [U N,Y H bk Z4,U a1,Y a7 ad aj];intro db fk f0;apply(zq);exact⟨_,_,_,_,_,_,_,_,ω,b3.t,be.t⟩;apply(zG);apply sC (yK _ D.t);rintro _ dc el⟨cb,rfl,A⟩ i5 gg;obtain⟨rfl,f⟩|⟨rfl,f⟩:=J7 A;apply(Zh);apply dC (denQ _ d.t D.t);rintro _ dd em⟨cc,c0,e7,ck,rfl,b4⟩ i6 gh;apply dC (je _ g.t c.t b4 J9 J9 Z);rintro _ de en⟨Z1,I,bl,V,ak,a2,a8,ae,rfl,b5,bf⟩ i7 gi;apply(zH);apply dB [U χ,η];intro df fl gj;apply dB [U χ,η];intro dg fm gk;apply dS [U Z1,Y I bl V];intro dh fn f1;apply dS [U ak,Y a2 a8 ae];intro di fo f2;apply(Zh);apply dC (denQ _ c.t C.t);rintro _ dj eo⟨cd,c1,e8,cl,rfl,b6⟩ i8 gl;apply dC (je _ g.t d.t b6 J9 J9 Z);rintro _ dk ep⟨P,J,bm,W,al,a3,a9,af,rfl,b7,bg⟩ i9 gm;apply(zH);apply dB [U χ,η];intro dl fp gn;apply dB [U χ,η];intro dm fq go;apply dS [U P,Y J bm W];intro dn fr f3;apply dS [U al,Y a3 a9 af];intro dp fs f4;apply(Zh);apply dC (mulX _ b5.t b7.t J9 J9);rintro _ dq eq⟨ce,c2,e9,cm,rfl,b8⟩ ia gp;apply(zH);apply dC (mulX _ bg.t bf.t J9 J9);rintro _ dr er⟨cf,c3,ea,cn,rfl,b9⟩ ib gq;apply dC (vE _ b8.t b9 (km x y).1 (km x y).2);rintro _ ds es⟨R,K,bn,Z3,a4,aa,ag,am,rfl,ba,bh⟩ ic gr;apply dS [U R,Y K bn Z3,U a4,Y aa ag am];intro dt ft f5;apply(zq);exact⟨_,_,_,_,_,_,_,_,ω,ba.t,bh.t⟩;apply(zG);apply sC (mulX _ c.t d.t J9 J9);rintro _ du et⟨j,i,o,l,rfl,bb⟩ id gs;apply sT #[U j,Y i o l,U χ,η];apply sS [U j,Y i o l,U χ,η];intro dv fu f6;apply(zq);exact⟨_,_,_,_,_,_,_,_,ω,bb.t.as ((Ov e f).1.symm),(IW.zero _ _).as ((Ov e f).2.symm)⟩;apply(zG);apply sT #[U χ,η,U χ,η];apply sS [U χ,η,U χ,η];intro dw fv f7;apply(zq);exact(show x*y=0 from by rw[Fk.1 s,Rat.mul_zero])▸QV.zero _ _;apply(zG);apply sT #[U χ,η,U χ,η];apply sS [U χ,η,U χ,η];intro dz fw f8;apply(zq);exact(show x*y=0 from by rw[Fk.1 p,Rat.zero_mul])▸QV.zero _ _
theorem ny{s:Int}{a b c A B C:Prop}(e:(a->A)/\(b->B)/\(c->C))(q:s= -1/\a\/s=0/\b\/s=1/\c):s= -1/\A\/s=0/\B\/s=1/\C:=by grind
def pK{x y:Rat}:(x.num*(y.den:Int)<y.num*(x.den:Int)->x<y)/\(x.num*(y.den:Int)=y.num*(x.den:Int)->x=y)/\(y.num*(x.den:Int)<x.num*(y.den:Int)->y<x):=⟨(jc x y).1.2,(jc x y).2.1.2,(jc x y).2.2.2⟩
def zf6{x y:Rat}(hx:denZ x=0)(c:denZ y=0):(x.num<y.num->x<y)/\(x.num=y.num->x=y)/\(y.num<x.num->y<x):=by have:=pK (x:=x) (y:=y);rw[yr.1 hx,yr.1 c]at this;simpa using this
def Sp{x y:Rat}(h:x.num<0/\0<=y.num\/x.num<=0/\0<y.num\/y.num<0/\0<=x.num\/y.num<=0/\0<x.num):(x.num<y.num->x<y)/\(x.num=y.num->x=y)/\(y.num<x.num->y<x):=by have d:=pK (x:=x) (y:=y);have j:=x.den_pos;have l:=y.den_pos;refine⟨λe=>d.1 ?_,λe=>Z,λe=>d.2.2 ?_⟩;obtain c|c:=an2 x.num 0;have f:=IH c (show(0:Int)<y.den from Z);have i:=aj1 (show 0<=y.num from Z) (show(0:Int)<=x.den from Z);omega;have:x.num=0:=Z;rw[this,Gn];exact Hf Z Z;obtain c|c:=an2 y.num 0;have f:=IH c (show(0:Int)<x.den from Z);have i:=aj1 (show 0<=x.num from Z) (show(0:Int)<=y.den from Z);omega;have:y.num=0:=Z;rw[this,Gn];exact Hf Z Z
def xp(k:Nat){x:Rat}{y:Rat}(c:IW h n sx ax lx cx x.num)(e:IW h n dx ex fx gx (denZ x))(d:IW h n sy ay ly cy y.num)(f:IW h n dy ey fy gy (denZ y))(hx:Sz a x)(p:Sz b y)(bj:a+b<=2496):VF (J4 (k+6)) 94 [.agg #[U sx,Y ax lx cx,U dx,Y ex fx gx],.agg #[U sy,Y ay ly cy,U dy,Y ey fy gy]] h n λv=>∃s:Int,v=υ s/\(s= -1/\x<y\/s=0/\x=y\/s=1/\y<x):=by obtain⟨A,u⟩:x.num.natAbs<2^a/\(denZ x).natAbs<2^a:=⟨hx.1,hx.z⟩;obtain⟨D,B⟩:y.num.natAbs<2^b/\(denZ y).natAbs<2^b:=⟨p.1,p.z⟩;have a0:=yU A Z;have Z3:=yU u Z;have a3:=yU D Z;have a1:=yU B Z;have bk:=x.den_pos;have bl:=y.den_pos;have w:((x.den:Int)).natAbs<2^a:=hx.2;have C:((y.den:Int)).natAbs<2^b:=p.2;have Z0:=yU w Z;have a2:=yU C Z;apply zO R4;apply(zG);apply sB [U sx,Y ax lx cx,U dx,Y ex fx gx];intro aw cf cq;apply sB [U sy,Y ay ly cy,U dy,Y ey fy gy];intro az cg cr;apply(Zh);apply dC (yK _ e.t);rintro _ b0 bu⟨ac,rfl,l⟩ dd cs;obtain⟨rfl,i⟩|⟨rfl,i⟩:=J7 l;apply(zH);apply dC (fD _ c.t e.t);rintro _ b1 bv⟨T,rfl,ch⟩ de ct;apply(zH);apply dC (fD _ d.t f.t);rintro _ b2 bw⟨Z4,rfl,ci⟩ df cu;by_cases q16:T=Z4;apply(zJ);apply(zl);apply(zH);apply dC (denQ _ d.t f.t);rintro _ b3 bz⟨ad,a4,bm,am,rfl,F⟩ dg cv;apply dC (mulX _ c.t F J9 J9);rintro _ b4 c0⟨ae,a5,bn,an,rfl,G⟩ dh cw;apply(zH);apply dC (denQ _ c.t e.t);rintro _ b5 c1⟨af,a6,bo,ao,rfl,H⟩ di cz;apply dC (mulX _ d.t H J9 J9);rintro _ b6 c2⟨ag,a7,bp,ap,rfl,I⟩ dj d0;apply dC (rO _ G.t I J9 J9);rintro _ b7 c3⟨cl,rfl,N⟩ dk d1;apply(zf);exact⟨_,ω,ny (pK) N⟩;apply(zJ);apply sC (rO _ c.t d.t J9 J9);rintro _ b8 c4⟨cm,rfl,Z1⟩ dl d2;apply(zf);exact⟨_,ω,ny (Sp Z) Z1⟩;apply(zH);apply dC (yK _ f.t);rintro _ b9 c5⟨ah,rfl,o⟩ dm d3;obtain⟨rfl,j⟩|⟨rfl,j⟩:=J7 o;apply(zH);apply dC (fD _ c.t e.t);rintro _ ba c6⟨V,rfl,cj⟩ dn d4;apply(zH);apply dC (fD _ d.t f.t);rintro _ bb c7⟨W,rfl,ck⟩ dp d5;by_cases q26:V=W;apply(zJ);apply(zl);apply(zH);apply dC (denQ _ d.t f.t);rintro _ bc c8⟨ai,a8,bq,aq,rfl,J⟩ dq d6;apply dC (mulX _ c.t J J9 J9);rintro _ bd c9⟨aj,a9,br,ar,rfl,K⟩ dr d7;apply(zH);apply dC (denQ _ c.t e.t);rintro _ be ca⟨ak,aa,bs,au,rfl,L⟩ ds d8;apply dC (mulX _ d.t L J9 J9);rintro _ bf cb⟨al,ab,bt,av,rfl,M⟩ dt d9;apply dC (rO _ K.t M J9 J9);rintro _ bg cc⟨cn,rfl,P⟩ du da;apply(zf);exact⟨_,ω,ny (pK) P⟩;apply(zJ);apply sC (rO _ c.t d.t J9 J9);rintro _ bh cd⟨co,rfl,R⟩ dv db;apply(zf);exact⟨_,ω,ny (Sp Z) R⟩;apply(zJ);apply sC (rO _ c.t d.t J9 J9);rintro _ bi ce⟨cp,rfl,S⟩ dw dc;apply(zf);exact⟨_,ω,ny (zf6 i j) S⟩
def zyw{x y:Rat}(d:x.num=y.num)(c:denZ x=denZ y):x=y:=by refine Rat.ext d ?_;have e:=x.den_pos;have f:=y.den_pos;unfold denZ at c;split at c<;>split at c<;>omega
def zy2(k:Nat){x:Rat}{y:Rat}(C:IW h n sx ax lx cx x.num)(F:IW h n dx ex fx gx (denZ x))(D:IW h n sy ay ly cy y.num)(G:IW h n dy ey fy gy (denZ y))(hx:Sz a x)(o:Sz b y)(N:a+b<=2496):VF (J4 (k+5)) 126 [.agg #[U sx,Y ax lx cx,U dx,Y ex fx gx],.agg #[U sy,Y ay ly cy,U dy,Y ey fy gy]] h n λv=>∃b:Bool,v=U b/\(b=φ↔x=y):=by obtain⟨l,j⟩:x.num.natAbs<2^a/\(denZ x).natAbs<2^a:=⟨hx.1,hx.z⟩;obtain⟨s,p⟩:y.num.natAbs<2^b/\(denZ y).natAbs<2^b:=⟨o.1,o.z⟩;have w:=yU l Z;have u:=yU j Z;have B:=yU s Z;have A:=yU p Z;apply zO R4;apply(zG);apply sB [U sx,Y ax lx cx,U dx,Y ex fx gx];intro J R T;apply sB [U sy,Y ay ly cy,U dy,Y ey fy gy];intro K S Z4;apply(zG);apply sC (Sm _ C.t D.t J9 J9);rintro _ L Z1⟨H,rfl,e⟩ Z3 V;obtain⟨rfl,c⟩|⟨rfl,c⟩:=J7 e;apply(zf);exact J8 λi=>Cu (congrArg Rat.num i) c;apply(zG);apply sC (Sm _ F.t G.t J9 J9);rintro _ M P⟨I,rfl,f⟩ Z0 W;obtain⟨rfl,d⟩|⟨rfl,d⟩:=J7 f;apply(zf);exact J8 λi=>Cu (congrArg denZ i) d;apply(zf);exact Ki (zyw c d)
end
theorem z8{S:List (List UInt8)}{h:HF}{n:Nat}{a:Option Addr}{len cap:Nat}(c:Sl h n 1 (Y a len cap) (strs S)):len=O S:=by have⟨f,d,b,e,g⟩:=c.len;grind [YL]
theorem zmo(m:Nat)(l:List ψ):O (rep m l)=m*O l:=by induction m<;>grind [rep]
end
end Go.Proofs.YtdeaddceicfanaaGreatDoor
