import Derived.Test.YtpcpimjejdegcaaGreatDoorSlvC
open Option renaming some→ξ,none→θ
open Bool renaming true→φ,false→χ
open Go renaming Value→ψ
set_option linter.defProp false
open Bool renaming and_eq_true→DM,and_self→DZ,false_eq_true→ET,not_eq_true'→Fk,or_self→ac2
open Classical renaming byContradiction→C1,not_not→Hb
open Go.IntKind renaming bits→Ew,wrap→Dn
open Go.Proofs.YtpcpimjejdegcaaGreatDoor.ExtB renaming refl→El
open Go.Proofs.YtpcpimjejdegcaaGreatDoor.IW renaming zero→EB
open Go.Proofs.YtpcpimjejdegcaaGreatDoor.J9 renaming refl→FH,upd→Fe
open Go.Value renaming bool→U,int→CJ,pointer→CM,slice→Y,string→CN
open Int renaming lt_or_le→am5,lt_trichotomy→HR,mul_neg_of_neg_of_pos→IM,mul_nonneg→ai2,mul_pos→HL,mul_tdiv_cancel_left→I2,natAbs_eq_zero→Fq,natAbs_natCast→C4,natAbs_neg→Ff,natCast_mul→EW,not_lt→Jj,ofNat_dvd_left→FD,ofNat_le→am7,sign_eq_neg_one_of_neg→Hg,sign_eq_one_of_pos→Ga,tdiv_eq_ediv_of_dvd→GO,tdiv_one→Jr,toNat_natCast→En,zero_mul→Gv
open List renaming all_append→Is,all_eq_true→Fu,append_assoc→Dp,append_nil→Do,cons_append→Gh,dropWhile_cons→JV,drop_append→Je,drop_drop→EQ,drop_eq_getElem_cons→EL,drop_eq_nil_of_le→Fa,drop_length→EZ,drop_nil→ak2,drop_one→ak0,drop_succ_cons→Iu,drop_take→JF,drop_zero→DH,getElem?_eq_getElem→CK,getElem?_eq_none→Dl,getElem?_eq_some_iff→CQ,getElem?_map→DC,getElem?_set_ne→JN,isEmpty_iff→ad2,length→O,length_append→CP,length_cons→DN,length_eq_zero_iff→CY,length_map→CU,length_nil→Gq,length_replicate→Du,length_set→DT,length_take→DD,map_append→Ev,map_cons→Gy,map_nil→Jo,mem_append→DW,mem_cons→Dk,mem_cons_of_mem→E7,mem_cons_self→Eb,mem_map→DU,mem_of_getElem?→CL,mem_singleton→C0,nil_append→DP,not_mem_nil→CT,replicate→CO,replicate_succ'→FG,set_cons_zero→HG,tail_cons→ai3,takeWhile_append_dropWhile→GD,takeWhile_cons→Iv,take_add_one→ac1,take_append→Jf,take_append_of_le_length→E6,take_length→Da,take_nil→ak3,take_of_length_le→CR,take_succ_cons→JW,take_take→Hf,take_zero→EP
open Nat renaming Coprime→Gt,add_comm→Ee,add_sub_cancel→FV,add_sub_cancel_left→E1,beq→DO,ble→Dj,ble_eq_true_of_le→CV,div_div_eq_div_mul→Fv,div_le_self→Ef,div_lt_of_lt_mul→Ik,div_one→HK,dvd_trans→I0,eq_of_beq_eq_true→DE,gcd→C6,gcd_dvd_left→Fh,gcd_dvd_right→Fx,gcd_le_left→Iq,gcd_le_right→ad1,gcd_one_right→ab9,gcd_pos_of_pos_right→Er,lcm→IX,le_mul_of_pos_right→EK,le_of_ble_eq_true→De,le_succ→Dc,le_trans→C5,lt_of_le_of_lt→Dh,lt_of_lt_of_le→CZ,lt_or_ge→EH,min_eq_left→DX,mod_eq_of_lt→C7,mul_comm→C3,mul_le_mul_right→CS,mul_lt_mul''→GP,mul_one→DL,mul_pos→EJ,mul_right_comm→GW,mul_zero→Ey,not_lt_zero→DR,pos_of_ne_zero→GX,pow_add→D4,pow_le_pow_right→CW,pow_pos→Dw,pow_succ→Db,pow_zero→EG,strongRecOn→Gp,sub_self→D7,sub_zero→GV,succ_mul→EM,two_pow_pos→G6,zero_add→Dd,zero_mul→D2
open Option renaming isSome_none→IJ
open Option.some renaming injEq→HP
open Prod.mk renaming injEq→Fg
open Rat renaming den_inv→af0,divInt→DK,divInt_eq_div→EE,div_def→Ge,intCast_mul→DA,intCast_natCast→Ds,mul_assoc→HC,mul_comm→Fm,neg_den→Ij,neg_num→Hm,normalize_eq_mkRat→HV,num→ac0,num_eq_zero→Fs,num_inv→ao6,sub_eq_add_neg→GY,zero_divInt→ag1
open UInt8 renaming ofNat→Ek,toNat→ao5,toNat_inj→G4
set_option maxHeartbeats 8000000
set_option linter.unusedVariables false
set_option linter.unusedSimpArgs false
noncomputable section
namespace Go.Proofs.YtpcpimjejdegcaaGreatDoor
section
open Go Go.GL
variable {a b m cx cy fx fy gx gy lx ly m' n' n c d l:Nat}{q:Rat}{bx dx dy sx sy b1 b2:Bool}{ax ay ex ey:Option Addr}{h' h:HF}{cs:List ψ}{d1 d2 n1 n2 v:ψ}{ld ln w:List Nat}{e:TypeId}
def vh{x y:Int}(h:x.natAbs<m):(x.tdiv y).natAbs<m:=by rw[Int.natAbs_tdiv];exact Dh (Ef _ _) h
def sw{x y:Int}(hx:x.natAbs<2^a)(c:y.natAbs<2^b):(x*y).natAbs<2^(a+b):=by rw[Int.natAbs_mul,D4];exact GP hx c
def PR{x y:Int}(hx:x.natAbs<2^a)(c:y.natAbs<2^b)(h:a+b<=2496):(x*y).natAbs<BW:=yU (sw hx c) h
def dJ{x y:Int}(hx:x.natAbs<2^m)(c:y.natAbs<2^m):(x+y).natAbs<2^(m+1):=by rw[Db];omega
def PU{x y u v:Int}(hx:x.natAbs<2^a)(d:y.natAbs<2^b)(c:u.natAbs<2^b)(hv:v.natAbs<2^a)(h:a+b+1<=2496):(x*y+u*v).natAbs<BW:=
 yU (dJ (sw hx d) (by rw[Ee a b];exact sw c hv)) h
def zl3{x y u:Int}(hx:x.natAbs<2^a)(d:y.natAbs<2^b)(c:u.natAbs<2^b)(h:a+b+1<=2496):(x*y+u).natAbs<BW:=
 yU (dJ (sw hx d) (CZ c (CW zd Z))) h
def Ta{x y:Int}(hx:x.natAbs<m)(c:¬x=0):((C6 x.natAbs y.natAbs:Nat):Int).natAbs<m:=by rw[C4];exact Dh (Iq _ Z) hx
def PV{x y:Int}(c:y.natAbs<m)(d:¬y=0):((C6 x.natAbs y.natAbs:Nat):Int).natAbs<m:=by rw[C4];exact Dh (ad1 _ Z) c
theorem zqd{x y:Int}(h:¬x=0):((C6 x.natAbs y.natAbs:Nat):Int)≠0:=by grind [Nat.gcd_pos_of_pos_left]
theorem PW{x y:Int}(h:¬y=0):((C6 x.natAbs y.natAbs:Nat):Int)≠0:=by grind [Er]
def zpz:(1:Int).natAbs<BW:=yU (e:=1) zd zd
def Ki{x:Int}(h:x.natAbs<BW:=by first|assumption|exact vh ‹_› |exact PR ‹_› ‹_› Z|exact PR ‹_› (vh ‹_›) Z|exact PR (vh ‹_›) (vh ‹_›) Z|exact PU ‹_› (vh ‹_›) ‹_› (vh ‹_›) Z|exact PU ‹_› ‹_› ‹_› ‹_› Z|exact zl3 ‹_› ‹_› ‹_› Z|exact Ta ‹_› ‹_› |exact Ta (PU ‹_› (vh ‹_›) ‹_› (vh ‹_›) Z) ‹_› |exact PV ‹_› ‹_› |exact zpz):x.natAbs<BW:=h
def LH{x:Int}(h:x≠0:=by first|assumption|exact zqd ‹_› |exact PW ‹_› |omega):x≠0:=h
def Sz(m:Nat)(q:Rat):Prop:=q.num.natAbs<2^m/\q.den<2^m
def Sz.z(h:Sz m q):(denZ q).natAbs<2^m:=by unfold denZ;split;exact G6 m;rw[C4];exact h.2
def Sz.mono(h:Sz m q)(hm:m<=m'):Sz m' q:=⟨CZ h.1 (CW zd hm),CZ h.2 (CW zd hm)⟩
def na{x:Int}{g:Nat}(h:x.natAbs<m):(x/(g:Int)).natAbs<m:=by refine Dh ?_ h;exact Int.natAbs_ediv_le_natAbs _ _
def Sz.add{x y:Rat}(hx:Sz a x)(c:Sz b y):Sz (a+b+1) (x+y):=by refine⟨?_,?_⟩;rw[ur];refine na (dJ (sw hx.1 (by rw[C4];exact c.2)) ?_);rw[Ee a b];exact sw c.1 (by rw[C4];exact hx.2);rw[ut];refine Dh (Ef _ _) (CZ (GP hx.2 c.2) ?_);rw[<-D4];exact CW zd Z
def Sz.mul{x y:Rat}(hx:Sz a x)(c:Sz b y):Sz (a+b) (x*y):=by refine⟨?_,?_⟩;rw[sf];exact na (sw hx.1 c.1);rw[si];refine Dh (Ef _ _) ?_;rw[D4];exact GP hx.2 c.2
def Sz.neg{x:Rat}(hx:Sz a x):Sz a (-x):=⟨by rw[Hm,Ff];exact hx.1,by rw[Ij];exact hx.2⟩
def Sz.zero(a:Nat)(h:1<=a):Sz a 0:=⟨G6 a,CZ (by decide:(1:Nat)<2^1) (CW zd h)⟩
def QV(q:Rat)(v:ψ)(h:HF)(n:Nat):Prop:=∃b a l c d e f g,v=.agg #[U b,Y a l c,U d,Y e f g]/\IW h n b a l c q.num/\IW h n d e f g (denZ q)
def QV.zero(h:HF)(n:Nat):QV 0 (.agg #[U χ,η,U χ,η]) h n:=⟨_,_,_,_,_,_,_,_,ω,EB h n,EB h n⟩
def rO(k:Nat){x:Int}{c:Bool}{y:Int}(e:IW h n bx ax lx cx x)(f:IW h n c ay ly cy y)(hx:x.natAbs<BW)(d:y.natAbs<BW):CX (Ka (k+4)) 118 [.agg #[U bx,Y ax lx cx],.agg #[U c,Y ay ly cy]] h n λv _ _=>∃s:Int,v=CJ .i64 s/\(s= -1/\x<y\/s=0/\x=y\/s=1/\y<x):=(zf3 k e f hx d).cx
def Tc(k:Nat){x:Int}{c:Bool}{y:Int}(e:IW h n bx ax lx cx x)(f:IW h n c ay ly cy y)(hx:x.natAbs<BW)(d:y.natAbs<BW):CX (Ka (k+4)) 98 [.agg #[U bx,Y ax lx cx],.agg #[U c,Y ay ly cy]] h n (BV (x=y)):=(SY k e f hx d).cx
def Td(k:Nat)(h:HF)(n:Nat):CX (Ka (k+1)) 86 [CJ .u64 1] h n (WV 1):=Z7 k h n (w:=1) zd
def NK(k:Nat)(h:HF)(n:Nat):CX (Ka (k+2)) 41 [CJ .i64 1] h n (IV 1):=by refine zw R4<|Za λg p u=>?_;refine zG ?_;refine wm R6 (ik:=.u64) (a:=1) rfl<|sC (Td _ _ _) ?_;rintro _ i l⟨c,e,d,rfl,f⟩ w v;refine sT #[U χ,Y c e d] ?_;refine sS [U χ,Y c e d] λj s o=>?_;refine zq ?_;exact⟨_,_,_,_,ω,ω,f.t⟩
def zic(k:Nat){x:Rat}(f:IW h n sx ax lx cx x.num)(w:IW h n dx ex fx gx (denZ x)):VF (Ka (k+2)) 61 [.agg #[U sx,Y ax lx cx,U dx,Y ex fx gx]] h n λv=>∃b:Bool,v=U b/\(b=φ↔x=0):=by refine zO R4<|zG ?_;refine sB [U sx,Y ax lx cx,U dx,Y ex fx gx] λi o p=>?_;refine zG ?_;refine sC (yK _ f.t) ?_;rintro _ j l⟨g,rfl,d⟩ u s;obtain⟨rfl,c⟩|⟨rfl,c⟩:=Kg d;refine zf ?_;exact Kf λe=>BO (Fs.2 e) c;refine zf ?_;exact Kp (Fs.1 c)
def zpb(k:Nat){x:Rat}(d:IW h n sx ax lx cx x.num)(u:IW h n dx ex fx gx (denZ x)):VF (Ka (k+2)) 47 [.agg #[U sx,Y ax lx cx,U dx,Y ex fx gx]] h n λv=>∃s:Int,v=CJ .i64 s/\(s= -1/\x.num<0\/s=0/\x.num=0\/s=1/\0<x.num):=by refine zO R4<|zG ?_;refine sB [U sx,Y ax lx cx,U dx,Y ex fx gx] λe i l=>?_;refine zG ?_;refine sC (Nf _ d.t) ?_;rintro _ f g⟨j,rfl,c⟩ p o;obtain⟨rfl,c⟩|⟨rfl,c⟩|⟨rfl,c⟩:=c;refine zf ?_;exact⟨_,ω,Z⟩;refine zf ?_;exact⟨_,ω,Z⟩;refine zf ?_;exact⟨_,ω,Z⟩
def kD(k:Nat){x:Rat}(c:IW h n sx ax lx cx x.num)(d:IW h n dx ex fx gx (denZ x)):CX (Ka (k+2)) 61 [.agg #[U sx,Y ax lx cx,U dx,Y ex fx gx]] h n (BV (x=0)):=(zic k c d).cx
def fD(k:Nat){x:Rat}(c:IW h n sx ax lx cx x.num)(d:IW h n dx ex fx gx (denZ x)):CX (Ka (k+2)) 47 [.agg #[U sx,Y ax lx cx,U dx,Y ex fx gx]] h n (NI x.num):=(zpb k c d).cx
def denQ(k:Nat){x:Rat}(P:IW h n sx ax lx cx x.num)(j:IW h n dx ex fx gx (denZ x)):CX (Ka (k+3)) 89 [.agg #[U sx,Y ax lx cx,U dx,Y ex fx gx]] h n (IV (x.den:Int)):=by refine zw R4<|zG ?_;refine sB [U sx,Y ax lx cx,U dx,Y ex fx gx] λp F J=>?_;refine sA λs G K=>?_;refine zG ?_;refine sC (yK _ j.t) ?_;rintro _ u A⟨o,rfl,d⟩ N L;obtain⟨rfl,c⟩|⟨rfl,c⟩:=Kg d;refine zG ?_;refine sS [U dx,Y ex fx gx] λv H C=>?_;refine zq ?_;exact⟨_,_,_,_,ω,j.t.as (wq c)⟩;refine zG ?_;refine sC (NK _ _ _) ?_;rintro _ w B⟨f,e,l,g,rfl,i⟩ Z1 M;refine sS [U f,Y e l g] λy I D=>?_;refine zq ?_;exact⟨_,_,_,_,ω,i.t.as (by rw[yr.1 c];rfl)⟩
def vE(k:Nat){x:Int}{y:Int}(f:IW h n sx ax lx cx x)(g:IW h n sy ay ly cy y)(e:q.num=x)(d:(q.den:Int)=y):CX (Ka (k+2)) 90 [.agg #[U sx,Y ax lx cx],.agg #[U sy,Y ay ly cy]] h n (QV q):=by refine zw R4<|zG ?_;refine sB [U sx,Y ax lx cx] λl C I=>?_;refine sB [U sy,Y ay ly cy] λo D J=>?_;refine sA λp F K=>?_;refine zG ?_;refine sC (tU _ g.t) ?_;rintro _ s w⟨j,rfl,c⟩ M L;obtain⟨rfl,i⟩|⟨rfl,i⟩:=Kg c;refine zG ?_;refine sT #[U sx,Y ax lx cx,U sy,Y ay ly cy] ?_;refine sS [U sx,Y ax lx cx,U sy,Y ay ly cy] λu G A=>?_;refine zq ?_;exact⟨_,_,_,_,_,_,_,_,ω,f.t.as (e.symm),g.t.as (((wq (mt yr.1 (by have:=d;omega))).trans d).symm)⟩;refine zG ?_;refine sT #[U sx,Y ax lx cx,U χ,η] ?_;refine sS [U sx,Y ax lx cx,U χ,η] λv H B=>?_;refine zq ?_;exact⟨_,_,_,_,_,_,_,_,ω,f.t.as (e.symm),(EB _ _).as ((yr.2 (by have:=d;omega)).symm)⟩
def je(k:Nat){x:Int}{y:Int}(g:GG h n)(s:IW h n sx ax lx cx x)(j:IW h n sy ay ly cy y)(hx:x.natAbs<BW)(hy:y.natAbs<BW)(a6:¬y=0):CX (Ka (k+9)) 88 [.agg #[U sx,Y ax lx cx],.agg #[U sy,Y ay ly cy]] h n λv I Z1=>∃b a l c g d e f,v=.tuple #[.agg #[U b,Y a l c],.agg #[U g,Y d e f]]/\IW I Z1 b a l c (x.tdiv ((C6 x.natAbs y.natAbs:Nat):Int))/\IW I Z1 g d e f (y.tdiv ((C6 x.natAbs y.natAbs:Nat):Int)):=by refine zw R4<|zG ?_;refine sB [U sx,Y ax lx cx] λR ag aq=>?_;refine sB [U sy,Y ay ly cy] λS ah ar=>?_;refine sA λT ai au=>?_;refine sA λZ4 aj av=>?_;refine zG ?_;refine sC (tU _ j.t) ?_;rintro _ V a7⟨P,rfl,p⟩ b3 aw;obtain⟨rfl,i⟩|⟨rfl,i⟩:=Kg p;refine zG ?_;refine sC (gcdX _ g.t s.t j.t Ki Ki) ?_;rintro _ W a8⟨B,u,L,F,rfl,o⟩ b4 az;refine sA λZ3 ak b0=>?_;refine sS [U B,Y u L F] λZ0 al ab=>?_;refine kh ?_;refine dC (quoX _ s.t o.t Ki Ki LH) ?_;rintro _ a0 a9⟨C,w,M,G,rfl,J⟩ b5 b1;refine zH ?_;refine dC (quoX _ j.t o.t Ki Ki LH) ?_;rintro _ a1 aa⟨D,A,N,H,rfl,K⟩ b6 b2;refine dS [U C,Y w M G] λa2 am ac=>?_;refine dS [U D,Y A N H] λa3 an ad=>?_;refine zq ?_;exact⟨_,_,_,_,_,_,_,_,ω,J.t,K.t⟩;refine kh ?_;refine dS [U sx,Y ax lx cx] λa4 ao ae=>?_;refine dS [U sy,Y ay ly cy] λa5 ap af=>?_;refine zq ?_;exact⟨_,_,_,_,_,_,_,_,ω,s.t.as (by rw[i];simp),j.t.as (by rw[i];simp)⟩
def zgo{x y:Rat}(hx:¬denZ x=0)(e:¬denZ y=0)(h:x.num*((denZ y).tdiv ((C6 (denZ x).natAbs (denZ y).natAbs:Nat):Int))+y.num*((denZ x).tdiv ((C6 (denZ x).natAbs (denZ y).natAbs:Nat):Int))=0):x+y=0:=by have⟨d,l,r,N,s,a,f,g,i,c,j⟩:=AddS.mk' hx e;rw[c]at h;rw[<-Fs,a.res.1,h,Int.zero_tdiv]
def jk{x y:Rat}(hx:¬denZ x=0)(c:¬denZ y=0):(x+y).num=(x.num*((denZ y).tdiv ((C6 (denZ x).natAbs (denZ y).natAbs:Nat):Int))+y.num*((denZ x).tdiv ((C6 (denZ x).natAbs (denZ y).natAbs:Nat):Int))).tdiv ((C6 (x.num*((denZ y).tdiv ((C6 (denZ x).natAbs (denZ y).natAbs:Nat):Int))+y.num*((denZ x).tdiv ((C6 (denZ x).natAbs (denZ y).natAbs:Nat):Int))).natAbs (((C6 (denZ x).natAbs (denZ y).natAbs:Nat):Int)).natAbs:Nat):Int)/\((x+y).den:Int)=((denZ x).tdiv ((C6 (denZ x).natAbs (denZ y).natAbs:Nat):Int))*((denZ y).tdiv ((C6 (x.num*((denZ y).tdiv ((C6 (denZ x).natAbs (denZ y).natAbs:Nat):Int))+y.num*((denZ x).tdiv ((C6 (denZ x).natAbs (denZ y).natAbs:Nat):Int))).natAbs (((C6 (denZ x).natAbs (denZ y).natAbs:Nat):Int)).natAbs:Nat):Int)):=by have⟨d,l,r,N,s,a,i,j,e,f,g⟩:=AddS.mk' hx c;rw[f,g N ω,e];refine⟨a.res.1,?_⟩;rw[a.res.2,EW,wq c,lK]
theorem Te{x y:Rat}(hx:¬denZ x=0)(c:¬denZ y=0)(h:((C6 (denZ x).natAbs (denZ y).natAbs:Nat):Int)=1):(x+y).num=x.num*((denZ y).tdiv ((C6 (denZ x).natAbs (denZ y).natAbs:Nat):Int))+y.num*((denZ x).tdiv ((C6 (denZ x).natAbs (denZ y).natAbs:Nat):Int))/\((x+y).den:Int)=denZ x*denZ y:=by simp_all [jk,ab9,Jr]
def addQ(k:Nat){x:Rat}{y:Rat}(g:GG h n)(s:IW h n sx ax lx cx x.num)(f:IW h n dx ex fx gx (denZ x))(u:IW h n sy ay ly cy y.num)(i:IW h n dy ey fy gy (denZ y))(hx:Sz a x)(hy:Sz b y)(e0:a+b+1<=2496):CX (Ka (k+9)) 62 [.agg #[U sx,Y ax lx cx,U dx,Y ex fx gx],.agg #[U sy,Y ay ly cy,U dy,Y ey fy gy]] h n (QV (x+y)):=by obtain⟨au,ar⟩:x.num.natAbs<2^a/\(denZ x).natAbs<2^a:=⟨hx.1,hx.z⟩;obtain⟨aw,av⟩:y.num.natAbs<2^b/\(denZ y).natAbs<2^b:=⟨hy.1,hy.z⟩;have bn:=yU au Z;have bm:=yU ar Z;have bp:=yU aw Z;have bo:=yU av Z;refine zw R4<|zG ?_;refine sB [U sx,Y ax lx cx,U dx,Y ex fx gx] λcn fb fu=>?_;refine sB [U sy,Y ay ly cy,U dy,Y ey fy gy] λco fc fv=>?_;refine sA λcp fd fw=>?_;refine zG ?_;refine sC (yK _ f.t) ?_;rintro _ cq e9⟨c0,rfl,P⟩ gt fz;obtain⟨rfl,c⟩|⟨rfl,c⟩:=Kg P;refine zG ?_;refine sC (yK _ f.t) ?_;rintro _ cr ea⟨c1,rfl,R⟩ gu g0;obtain⟨rfl,d⟩|⟨rfl,d⟩:=Kg R;refine zG ?_;refine sC (yK _ i.t) ?_;rintro _ cs eb⟨c2,rfl,S⟩ gv g1;obtain⟨rfl,e⟩|⟨rfl,e⟩:=Kg S;refine zG ?_;refine sC (gcdX _ g.t f.t i.t Ki Ki) ?_;rintro _ ct ec⟨a5,Z3,bf,ac,rfl,l⟩ gw g2;refine sA λcu fe g3=>?_;refine sS [U a5,Y Z3 bf ac] λcv ff f0=>?_;refine kh ?_;refine dC (quoX _ i.t l.t Ki Ki LH) ?_;rintro _ cw ed⟨a6,Z0,bg,ad,rfl,az⟩ gz g4;refine zH ?_;refine dC (quoX _ f.t l.t Ki Ki LH) ?_;rintro _ cz ee⟨a7,a0,bh,ae,rfl,I⟩ i0 g5;refine dB [U χ,η] λd0 fg g6=>?_;refine dB [U χ,η] λd1 fh g7=>?_;refine dS [U a6,Y Z0 bg ad] λd2 fi f1=>?_;refine dS [U a7,Y a0 bh ae] λd3 fj f2=>?_;refine kh ?_;refine dC (mulX _ s.t az.t Ki Ki) ?_;rintro _ d4 ef⟨c3,bq,e1,cf,rfl,b0⟩ i1 g8;refine zH ?_;refine dC (mulX _ u.t I.t Ki Ki) ?_;rintro _ d5 eg⟨c4,br,e2,cg,rfl,b1⟩ i2 g9;refine dC (addX _ b0.t b1 Ki Ki) ?_;rintro _ d6 eh⟨a8,a1,bi,af,rfl,o⟩ i3 ga;refine dB [U χ,η] λd7 fk gb=>?_;refine dS [U a8,Y a1 bi af] λd8 fl f3=>?_;refine zG ?_;refine sC (yK _ o.t) ?_;rintro _ d9 ei⟨c5,rfl,T⟩ i4 gc;obtain⟨rfl,N⟩|⟨rfl,N⟩:=Kg T;refine zG ?_;refine sC (tU _ l.t) ?_;rintro _ da ej⟨c6,rfl,Z4⟩ i5 gd;obtain⟨rfl,p⟩|⟨rfl,p⟩:=Kg Z4;refine zG ?_;refine sC (gcdX _ g.t o.t l.t Ki Ki) ?_;rintro _ db ek⟨a9,a2,bj,ag,rfl,J⟩ i6 ge;refine sA λdc fm gf=>?_;refine sS [U a9,Y a2 bj ag] λdd fn f4=>?_;refine kh ?_;refine dC (quoX _ o.t J.t Ki Ki LH) ?_;rintro _ de el⟨c7,bs,e3,ch,rfl,b2⟩ i7 gg;refine zH ?_;refine dC (quoX _ i.t J.t Ki Ki LH) ?_;rintro _ df em⟨c8,bt,e4,ci,rfl,b3⟩ i8 gh;refine dC (mulX _ I.t b3 Ki Ki) ?_;rintro _ dg en⟨c9,bu,e5,cj,rfl,b4⟩ i9 gi;refine dC (vE _ b2.t b4 (jk d e).1 (jk d e).2) ?_;rintro _ dh eo⟨aa,a3,bk,ah,aj,al,an,ap,rfl,b5,bd⟩ ia gj;refine dS [U aa,Y a3 bk ah,U aj,Y al an ap] λdi fo f5=>?_;refine zq ?_;exact⟨_,_,_,_,_,_,_,_,ω,b5.t,bd.t⟩;refine kh ?_;refine dC (mulX _ f.t i.t Ki Ki) ?_;rintro _ dj ep⟨ca,bv,e6,ck,rfl,b6⟩ ib gk;refine dC (vE _ o.t b6 (Te d e p).1 (Te d e p).2) ?_;rintro _ dk eq⟨ab,a4,bl,ai,ak,am,ao,aq,rfl,b7,be⟩ ic gl;refine dS [U ab,Y a4 bl ai,U ak,Y am ao aq] λdl fp f6=>?_;refine zq ?_;exact⟨_,_,_,_,_,_,_,_,ω,b7.t,be.t⟩;refine zG ?_;refine sT #[U χ,η,U χ,η] ?_;refine sS [U χ,η,U χ,η] λdm fq f7=>?_;refine zq ?_;exact(show x+y=0 from zgo (c) (e) N)▸QV.zero _ _;refine kh ?_;refine dC (mulX _ u.t f.t Ki Ki) ?_;rintro _ dn er⟨cb,bw,e7,cl,rfl,b8⟩ id gm;refine zH ?_;refine dC (addX _ b8 s.t Ki Ki) ?_;rintro _ dp es⟨B,v,K,F,rfl,b9⟩ ie gn;refine zH ?_;refine dT #[U B,Y v K F,U dx,Y ex fx gx] ?_;refine dS [U B,Y v K F,U dx,Y ex fx gx] λdq fr f8=>?_;refine zq ?_;exact⟨_,_,_,_,_,_,_,_,ω,b9.t.as ((S3 d e).1.symm),f.t.as ((S3 d e).2.symm)⟩;exact BO d c;refine zG ?_;refine sC (yK _ i.t) ?_;rintro _ dr et⟨cc,rfl,V⟩ ig go;obtain⟨rfl,j⟩|⟨rfl,j⟩:=Kg V;refine zG ?_;refine sC (yK _ f.t) ?_;rintro _ ds eu⟨cd,rfl,W⟩ ii gp;obtain⟨rfl,Z1⟩|⟨rfl,Z1⟩:=Kg W;exact BO c Z1;refine kh ?_;refine dC (mulX _ s.t i.t Ki Ki) ?_;rintro _ dt ev⟨ce,bz,e8,cm,rfl,ba⟩ ij gq;refine zH ?_;refine dC (addX _ ba u.t Ki Ki) ?_;rintro _ du ew⟨C,w,L,G,rfl,bb⟩ ik gr;refine zH ?_;refine dT #[U C,Y w L G,U dy,Y ey fy gy] ?_;refine dS [U C,Y w L G,U dy,Y ey fy gy] λdv fs f9=>?_;refine zq ?_;exact⟨_,_,_,_,_,_,_,_,ω,bb.t.as ((PQ c j).1.symm),i.t.as ((PQ c j).2.symm)⟩;refine zG ?_;refine sC (addX _ s.t u.t Ki Ki) ?_;rintro _ dw ez⟨D,A,M,H,rfl,bc⟩ il gs;refine sT #[U D,Y A M H,U χ,η] ?_;refine sS [U D,Y A M H,U χ,η] λdz ft fa=>?_;refine zq ?_;exact⟨_,_,_,_,_,_,_,_,ω,bc.t.as ((Ox c j).1.symm),(EB _ _).as ((Ox c j).2.symm)⟩
theorem Oy{x y:Rat}(hx:denZ x=0)(c:denZ y=0):(x*y).num=x.num*y.num/\denZ (x*y)=0:=by simp_all [yr,sf,si]
theorem km(x y:Rat):(x*y).num=(x.num.tdiv ((C6 x.num.natAbs ((y.den:Int)).natAbs:Nat):Int))*(y.num.tdiv ((C6 y.num.natAbs ((x.den:Int)).natAbs:Nat):Int))/\((x*y).den:Int)=((x.den:Int).tdiv ((C6 y.num.natAbs ((x.den:Int)).natAbs:Nat):Int))*((y.den:Int).tdiv ((C6 x.num.natAbs ((y.den:Int)).natAbs:Nat):Int)):=by grind [only,lK,zm2,C4,GO,FD.2,Fh,EW]
def mulQ(k:Nat){x:Rat}{y:Rat}(g:GG h n)(c:IW h n sx ax lx cx x.num)(C:IW h n dx ex fx gx (denZ x))(d:IW h n sy ay ly cy y.num)(D:IW h n dy ey fy gy (denZ y))(hx:Sz a x)(B:Sz b y)(e0:a+b<=2496):CX (Ka (k+10)) 44 [.agg #[U sx,Y ax lx cx,U dx,Y ex fx gx],.agg #[U sy,Y ay ly cy,U dy,Y ey fy gy]] h n (QV (x*y)):=by obtain⟨ap,an⟩:x.num.natAbs<2^a/\(denZ x).natAbs<2^a:=⟨hx.1,hx.z⟩;obtain⟨au,aq⟩:y.num.natAbs<2^b/\(denZ y).natAbs<2^b:=⟨B.1,B.z⟩;have bq:=yU ap Z;have bo:=yU an Z;have bt:=yU au Z;have br:=yU aq Z;have e1:=x.den_pos;have e2:=y.den_pos;have ao:((x.den:Int)).natAbs<2^a:=hx.2;have ar:((y.den:Int)).natAbs<2^b:=B.2;have bp:=yU ao Z;have bs:=yU ar Z;refine zw R4<|zG ?_;refine sB [U sx,Y ax lx cx,U dx,Y ex fx gx] λco f9 fz=>?_;refine sB [U sy,Y ay ly cy,U dy,Y ey fy gy] λcp fa g0=>?_;refine sA λcq fb g1=>?_;refine zG ?_;refine sC (yK _ c.t) ?_;rintro _ cr eb⟨c4,rfl,u⟩ gt g2;obtain⟨rfl,p⟩|⟨rfl,p⟩:=Kg u;refine zG ?_;refine sC (yK _ d.t) ?_;rintro _ cs ec⟨c5,rfl,v⟩ gu g3;obtain⟨rfl,s⟩|⟨rfl,s⟩:=Kg v;refine zG ?_;refine sC (yK _ C.t) ?_;rintro _ ct ed⟨c6,rfl,w⟩ gv g4;obtain⟨rfl,e⟩|⟨rfl,e⟩:=Kg w;refine kh ?_;refine dC (denQ _ d.t D.t) ?_;rintro _ cu ee⟨c7,bu,e3,cg,rfl,av⟩ gw g5;refine dC (je _ g.t c.t av Ki Ki Z) ?_;rintro _ cv ef⟨L,F,bi,S,ah,Z0,a5,ab,rfl,aw,bc⟩ gz g6;refine zH ?_;refine dB [U χ,η] λcw fc g7=>?_;refine dB [U χ,η] λcz fd g8=>?_;refine dS [U L,Y F bi S] λd0 fe eu=>?_;refine dS [U ah,Y Z0 a5 ab] λd1 ff ev=>?_;refine kh ?_;refine dC (denQ _ c.t C.t) ?_;rintro _ d2 eg⟨c8,bv,e4,ch,rfl,az⟩ i0 g9;refine dC (je _ g.t d.t az Ki Ki Z) ?_;rintro _ d3 eh⟨M,G,bj,T,ai,a0,a6,ac,rfl,b0,bd⟩ i1 ga;refine zH ?_;refine dB [U χ,η] λd4 fg gb=>?_;refine dB [U χ,η] λd5 fh gc=>?_;refine dS [U M,Y G bj T] λd6 fi ew=>?_;refine dS [U ai,Y a0 a6 ac] λd7 fj ez=>?_;refine kh ?_;refine dC (mulX _ aw.t b0.t Ki Ki) ?_;rintro _ d8 ei⟨c9,bw,e5,ci,rfl,b1⟩ i2 gd;refine zH ?_;refine dC (mulX _ bd.t bc.t Ki Ki) ?_;rintro _ d9 ej⟨ca,bz,e6,cj,rfl,b2⟩ i3 ge;refine dC (vE _ b1.t b2 (km x y).1 (km x y).2) ?_;rintro _ da ek⟨N,H,bk,Z4,a1,a7,ad,aj,rfl,b3,be⟩ i4 gf;refine dS [U N,Y H bk Z4,U a1,Y a7 ad aj] λdb fk f0=>?_;refine zq ?_;exact⟨_,_,_,_,_,_,_,_,ω,b3.t,be.t⟩;refine zG ?_;refine sC (yK _ D.t) ?_;rintro _ dc el⟨cb,rfl,A⟩ i5 gg;obtain⟨rfl,f⟩|⟨rfl,f⟩:=Kg A;refine kh ?_;refine dC (denQ _ d.t D.t) ?_;rintro _ dd em⟨cc,c0,e7,ck,rfl,b4⟩ i6 gh;refine dC (je _ g.t c.t b4 Ki Ki Z) ?_;rintro _ de en⟨Z1,I,bl,V,ak,a2,a8,ae,rfl,b5,bf⟩ i7 gi;refine zH ?_;refine dB [U χ,η] λdf fl gj=>?_;refine dB [U χ,η] λdg fm gk=>?_;refine dS [U Z1,Y I bl V] λdh fn f1=>?_;refine dS [U ak,Y a2 a8 ae] λdi fo f2=>?_;refine kh ?_;refine dC (denQ _ c.t C.t) ?_;rintro _ dj eo⟨cd,c1,e8,cl,rfl,b6⟩ i8 gl;refine dC (je _ g.t d.t b6 Ki Ki Z) ?_;rintro _ dk ep⟨P,J,bm,W,al,a3,a9,af,rfl,b7,bg⟩ i9 gm;refine zH ?_;refine dB [U χ,η] λdl fp gn=>?_;refine dB [U χ,η] λdm fq go=>?_;refine dS [U P,Y J bm W] λdn fr f3=>?_;refine dS [U al,Y a3 a9 af] λdp fs f4=>?_;refine kh ?_;refine dC (mulX _ b5.t b7.t Ki Ki) ?_;rintro _ dq eq⟨ce,c2,e9,cm,rfl,b8⟩ ia gp;refine zH ?_;refine dC (mulX _ bg.t bf.t Ki Ki) ?_;rintro _ dr er⟨cf,c3,ea,cn,rfl,b9⟩ ib gq;refine dC (vE _ b8.t b9 (km x y).1 (km x y).2) ?_;rintro _ ds es⟨R,K,bn,Z3,a4,aa,ag,am,rfl,ba,bh⟩ ic gr;refine dS [U R,Y K bn Z3,U a4,Y aa ag am] λdt ft f5=>?_;refine zq ?_;exact⟨_,_,_,_,_,_,_,_,ω,ba.t,bh.t⟩;refine zG ?_;refine sC (mulX _ c.t d.t Ki Ki) ?_;rintro _ du et⟨j,i,o,l,rfl,bb⟩ id gs;refine sT #[U j,Y i o l,U χ,η] ?_;refine sS [U j,Y i o l,U χ,η] λdv fu f6=>?_;refine zq ?_;exact⟨_,_,_,_,_,_,_,_,ω,bb.t.as ((Oy e f).1.symm),(EB _ _).as ((Oy e f).2.symm)⟩;refine zG ?_;refine sT #[U χ,η,U χ,η] ?_;refine sS [U χ,η,U χ,η] λdw fv f7=>?_;refine zq ?_;exact(show x*y=0 from by rw[Fs.1 s,Rat.mul_zero])▸QV.zero _ _;refine zG ?_;refine sT #[U χ,η,U χ,η] ?_;refine sS [U χ,η,U χ,η] λdz fw f8=>?_;refine zq ?_;exact(show x*y=0 from by rw[Fs.1 p,Rat.zero_mul])▸QV.zero _ _
theorem ny{s:Int}{a b c A B C:Prop}(e:(a->A)/\(b->B)/\(c->C))(q:s= -1/\a\/s=0/\b\/s=1/\c):s= -1/\A\/s=0/\B\/s=1/\C:=by grind
def pK{x y:Rat}:(x.num*(y.den:Int)<y.num*(x.den:Int)->x<y)/\(x.num*(y.den:Int)=y.num*(x.den:Int)->x=y)/\(y.num*(x.den:Int)<x.num*(y.den:Int)->y<x):=⟨(jc x y).1.2,(jc x y).2.1.2,(jc x y).2.2.2⟩
def zf6{x y:Rat}(hx:denZ x=0)(c:denZ y=0):(x.num<y.num->x<y)/\(x.num=y.num->x=y)/\(y.num<x.num->y<x):=by have:=pK (x:=x) (y:=y);rw[yr.1 hx,yr.1 c]at this;simpa using this
def Tf{x y:Rat}(h:x.num<0/\0<=y.num\/x.num<=0/\0<y.num\/y.num<0/\0<=x.num\/y.num<=0/\0<x.num):(x.num<y.num->x<y)/\(x.num=y.num->x=y)/\(y.num<x.num->y<x):=by have d:=pK (x:=x) (y:=y);have i:=x.den_pos;have j:=y.den_pos;refine⟨λe=>d.1 ?_,λe=>Z,λe=>d.2.2 ?_⟩;obtain c|c:=am5 x.num 0;have f:=IM c (show(0:Int)<y.den from Z);have g:=ai2 (show 0<=y.num from Z) (show(0:Int)<=x.den from Z);omega;have:x.num=0:=Z;rw[this,Gv];exact HL Z Z;obtain c|c:=am5 y.num 0;have f:=IM c (show(0:Int)<x.den from Z);have g:=ai2 (show 0<=x.num from Z) (show(0:Int)<=y.den from Z);omega;have:y.num=0:=Z;rw[this,Gv];exact HL Z Z
def xp(k:Nat){x:Rat}{y:Rat}(c:IW h n sx ax lx cx x.num)(e:IW h n dx ex fx gx (denZ x))(d:IW h n sy ay ly cy y.num)(f:IW h n dy ey fy gy (denZ y))(hx:Sz a x)(o:Sz b y)(bi:a+b<=2496):VF (Ka (k+6)) 85 [.agg #[U sx,Y ax lx cx,U dx,Y ex fx gx],.agg #[U sy,Y ay ly cy,U dy,Y ey fy gy]] h n λv=>∃s:Int,v=CJ .i64 s/\(s= -1/\x<y\/s=0/\x=y\/s=1/\y<x):=by obtain⟨w,p⟩:x.num.natAbs<2^a/\(denZ x).natAbs<2^a:=⟨hx.1,hx.z⟩;obtain⟨C,A⟩:y.num.natAbs<2^b/\(denZ y).natAbs<2^b:=⟨o.1,o.z⟩;have Z0:=yU w Z;have W:=yU p Z;have a2:=yU C Z;have a0:=yU A Z;have bj:=x.den_pos;have bk:=y.den_pos;have u:((x.den:Int)).natAbs<2^a:=hx.2;have B:((y.den:Int)).natAbs<2^b:=o.2;have Z3:=yU u Z;have a1:=yU B Z;refine zO R4<|zG ?_;refine sB [U sx,Y ax lx cx,U dx,Y ex fx gx] λav ce cp=>?_;refine sB [U sy,Y ay ly cy,U dy,Y ey fy gy] λaw cf cq=>?_;refine kh ?_;refine dC (yK _ e.t) ?_;rintro _ az bt⟨ab,rfl,j⟩ dc cr;obtain⟨rfl,g⟩|⟨rfl,g⟩:=Kg j;refine zH ?_;refine dC (fD _ c.t e.t) ?_;rintro _ b0 bu⟨S,rfl,cg⟩ dd cs;refine zH ?_;refine dC (fD _ d.t f.t) ?_;rintro _ b1 bv⟨T,rfl,ch⟩ de ct;by_cases q16:S=T;refine zJ ?_;refine zl ?_;refine zH ?_;refine dC (denQ _ d.t f.t) ?_;rintro _ b2 bw⟨ac,a3,bl,al,rfl,D⟩ df cu;refine dC (mulX _ c.t D Ki Ki) ?_;rintro _ b3 bz⟨ad,a4,bm,am,rfl,F⟩ dg cv;refine zH ?_;refine dC (denQ _ c.t e.t) ?_;rintro _ b4 c0⟨ae,a5,bn,an,rfl,G⟩ dh cw;refine dC (mulX _ d.t G Ki Ki) ?_;rintro _ b5 c1⟨af,a6,bo,ao,rfl,H⟩ di cz;refine dC (rO _ F.t H Ki Ki) ?_;rintro _ b6 c2⟨ck,rfl,M⟩ dj d0;refine zf ?_;exact⟨_,ω,ny (pK) M⟩;refine zJ ?_;refine sC (rO _ c.t d.t Ki Ki) ?_;rintro _ b7 c3⟨cl,rfl,N⟩ dk d1;refine zf ?_;exact⟨_,ω,ny (Tf Z) N⟩;refine zH ?_;refine dC (yK _ f.t) ?_;rintro _ b8 c4⟨ag,rfl,l⟩ dl d2;obtain⟨rfl,i⟩|⟨rfl,i⟩:=Kg l;refine zH ?_;refine dC (fD _ c.t e.t) ?_;rintro _ b9 c5⟨Z4,rfl,ci⟩ dm d3;refine zH ?_;refine dC (fD _ d.t f.t) ?_;rintro _ ba c6⟨V,rfl,cj⟩ dn d4;by_cases q26:Z4=V;refine zJ ?_;refine zl ?_;refine zH ?_;refine dC (denQ _ d.t f.t) ?_;rintro _ bb c7⟨ah,a7,bp,ap,rfl,I⟩ dp d5;refine dC (mulX _ c.t I Ki Ki) ?_;rintro _ bc c8⟨ai,a8,bq,aq,rfl,J⟩ dq d6;refine zH ?_;refine dC (denQ _ c.t e.t) ?_;rintro _ bd c9⟨aj,a9,br,ar,rfl,K⟩ dr d7;refine dC (mulX _ d.t K Ki Ki) ?_;rintro _ be ca⟨ak,aa,bs,au,rfl,L⟩ ds d8;refine dC (rO _ J.t L Ki Ki) ?_;rintro _ bf cb⟨cm,rfl,Z1⟩ dt d9;refine zf ?_;exact⟨_,ω,ny (pK) Z1⟩;refine zJ ?_;refine sC (rO _ c.t d.t Ki Ki) ?_;rintro _ bg cc⟨cn,rfl,P⟩ du da;refine zf ?_;exact⟨_,ω,ny (Tf Z) P⟩;refine zJ ?_;refine sC (rO _ c.t d.t Ki Ki) ?_;rintro _ bh cd⟨co,rfl,R⟩ dv db;refine zf ?_;exact⟨_,ω,ny (zf6 g i) R⟩
def zyw{x y:Rat}(d:x.num=y.num)(c:denZ x=denZ y):x=y:=by refine Rat.ext d ?_;have e:=x.den_pos;have f:=y.den_pos;unfold denZ at c;split at c<;>split at c<;>omega
def zy2(k:Nat){x:Rat}{y:Rat}(B:IW h n sx ax lx cx x.num)(D:IW h n dx ex fx gx (denZ x))(C:IW h n sy ay ly cy y.num)(F:IW h n dy ey fy gy (denZ y))(hx:Sz a x)(l:Sz b y)(M:a+b<=2496):VF (Ka (k+5)) 115 [.agg #[U sx,Y ax lx cx,U dx,Y ex fx gx],.agg #[U sy,Y ay ly cy,U dy,Y ey fy gy]] h n λv=>∃b:Bool,v=U b/\(b=φ↔x=y):=by obtain⟨j,i⟩:x.num.natAbs<2^a/\(denZ x).natAbs<2^a:=⟨hx.1,hx.z⟩;obtain⟨p,o⟩:y.num.natAbs<2^b/\(denZ y).natAbs<2^b:=⟨l.1,l.z⟩;have u:=yU j Z;have s:=yU i Z;have A:=yU p Z;have w:=yU o Z;refine zO R4<|zG ?_;refine sB [U sx,Y ax lx cx,U dx,Y ex fx gx] λI P S=>?_;refine sB [U sy,Y ay ly cy,U dy,Y ey fy gy] λJ R T=>?_;refine zG ?_;refine sC (Tc _ B.t C.t Ki Ki) ?_;rintro _ K N⟨G,rfl,e⟩ W Z4;obtain⟨rfl,c⟩|⟨rfl,c⟩:=Kg e;refine zf ?_;exact Kf λg=>BO (congrArg ac0 g) c;refine zG ?_;refine sC (Tc _ D.t F.t Ki Ki) ?_;rintro _ L Z1⟨H,rfl,f⟩ Z3 V;obtain⟨rfl,d⟩|⟨rfl,d⟩:=Kg f;refine zf ?_;exact Kf λg=>BO (congrArg denZ g) d;refine zf ?_;exact Kp (zyw c d)
theorem z8{S:List (List UInt8)}{h:HF}{n:Nat}{a:Option Addr}{len cap:Nat}(c:Sl h n 1 (Y a len cap) (strs S)):len=O S:=by have⟨f,d,b,e,g⟩:=c.len;grind [Zw]
theorem zmo(m:Nat)(l:List ψ):O (rep m l)=m*O l:=by induction m<;>grind [rep]
def BX:Nat:=18446744073709551616^60
def KT{e:Nat}(h:m<2^e)(i:e<=3840):m<BX:=by have f:e<=64*60:=i;generalize hk:60=k at f;have g:m<(2^64)^k:=(by rw[<-Nat.pow_mul];exact CZ h (CW zd f));subst hk;exact g
def zzk{x y:Int}(hx:x.natAbs<2^a)(f:y.natAbs<2^b)(h:a+b<=3840):(x*y).natAbs<BX:=KT (sw hx f) h
def zzc{x y u v:Int}(hx:x.natAbs<2^a)(g:y.natAbs<2^b)(f:u.natAbs<2^b)(hv:v.natAbs<2^a)(h:a+b+1<=3840):(x*y+u*v).natAbs<BX:=
 KT (dJ (sw hx g) (by rw[Ee a b];exact sw f hv)) h
def zym{x y u v:Int}(hx:x.natAbs<2^a)(o:y.natAbs<2^d)(j:u.natAbs<2^b)(hv:v.natAbs<2^c)(f:a+d<=3839)(g:b+c<=3839):(x*y+u*v).natAbs<BX:=by obtain⟨e,i⟩:∃e,e=3839:=⟨_,ω⟩;rw[<-i]at f g;exact KT (dJ (CZ (sw hx o) (CW zd f)) (CZ (sw j hv) (CW zd g))) Z
def KB{x:Int}(h:x.natAbs<BX:=by first|assumption|exact zzk ‹_› ‹_› Z|exact zzc ‹_› ‹_› ‹_› ‹_› Z|exact zym ‹_› ‹_› ‹_› ‹_› Z Z|exact KT (e:=1) zd zd):x.natAbs<BX:=h
def BD:Nat:=BX
def Tg{e:Nat}(h:m<2^e)(f:e<=3840):m<BD:=KT h f
def zzl{x y:Int}(hx:x.natAbs<2^a)(f:y.natAbs<2^b)(h:a+b<=3840):(x*y).natAbs<BD:=Tg (sw hx f) h
def Oz{x:Int}(h:x.natAbs<BD:=by first|assumption|exact zzl ‹_› ‹_› Z|exact Tg (e:=1) zd zd):x.natAbs<BD:=h
def UW(h:HF)(n:Nat)(a:Option Addr)(l c m:Nat):Prop:=∃L,Sl h n 1 (Y a l c) (u32s L)/\Norm L/\val L=m
def UW.ext{h:HF}{n:Nat}{a:Option Addr}(i:UW h n a l c m)(e:J9 n h h')(o:n<=n'):UW h' n' a l c m:=by have⟨L,f,g,j⟩:=i;exact⟨L,f.ext e o,g,j⟩
def UW.only{h:HF}{n f:Nat}{a:Option Addr}(i:UW h n a l c m)(s:h f=ξ (.row cs e))(u:cs.all nu=φ)(p:Only f h h'):UW h' n a l c m:=by have⟨L,g,j,o⟩:=i;exact⟨L,g.only32 s u p,j,o⟩
def UW.t{h:HF}{n:Nat}{a:Option Addr}(i:UW h n a l c m)(t:Tr n h n' h':=by exact zt):UW h' n' a l c m:=by have⟨L,f,g,j⟩:=i;exact⟨L,f.trG (λx o=>by obtain⟨d,_,rfl⟩:=List.mem_map.1 o;rfl) t,g,j⟩
def UW.zero{h:HF}{n:Nat}{a:Option Addr}(i:UW h n a l c m):l=0↔m=0:=by have⟨L,f,g,j⟩:=i;have e:=f.lenU;rw[<-j,g.zero,<-CY,e]
def UW.nil(h:HF)(n:Nat):UW h n θ 0 0 0:=⟨[],.nil (.inl ω),Norm.nil,ω⟩
def UI(h:HF)(n:Nat)(b:Bool)(a:Option Addr)(l c:Nat)(x:Int):Prop:=b=decide (x<0)/\UW h n a l c x.natAbs
def UI.ext{h:HF}{n:Nat}{b:Bool}{a:Option Addr}{x:Int}(i:UI h n b a l c x)(e:J9 n h h')(f:n<=n'):UI h' n' b a l c x:=⟨i.1,i.2.ext e f⟩
def UI.only{h:HF}{n f:Nat}{b:Bool}{a:Option Addr}{x:Int}(i:UI h n b a l c x)(j:h f=ξ (.row cs e))(o:cs.all nu=φ)(g:Only f h h'):UI h' n b a l c x:=⟨i.1,i.2.only j o g⟩
def UI.t{h:HF}{n:Nat}{b:Bool}{a:Option Addr}{x:Int}(i:UI h n b a l c x)(t:Tr n h n' h':=by exact zt):UI h' n' b a l c x:=⟨i.1,i.2.t t⟩
def UI.x{h:HF}{n:Nat}{b:Bool}{a:Option Addr}{x:Int}(i:UI h n b a l c x)(t:Tx n h n' h':=by exact zx):UI h' n' b a l c x:=i.ext t.2 t.1
def UI.as{h:HF}{n:Nat}{b:Bool}{a:Option Addr}{x y:Int}(i:UI h n b a l c x)(e:x=y):UI h n b a l c y:=e▸i
def UI.lt{h:HF}{n:Nat}{a:Option Addr}{x:Int}(i:UI h n φ a l c x):x<0:=of_decide_eq_true i.1.symm
def UI.ge{h:HF}{n:Nat}{a:Option Addr}{x:Int}(i:UI h n χ a l c x):0<=x:=Jj.1 (of_decide_eq_false i.1.symm)
def UI.zero(h:HF)(n:Nat):UI h n χ θ 0 0 0:=⟨ω,UW.nil h n⟩
def UV(m:Nat)(v:ψ)(h:HF)(n:Nat):Prop:=∃a l c,v=Y a l c/\UW h n a l c m
def Ng(x:Int)(v:ψ)(h:HF)(n:Nat):Prop:=∃b a l c,v=.agg #[U b,Y a l c]/\UI h n b a l c x
def NQ(q:Rat)(v:ψ)(h:HF)(n:Nat):Prop:=∃b a l c d e f g,v=.agg #[U b,Y a l c,U d,Y e f g]/\UI h n b a l c q.num/\UI h n d e f g (denZ q)
def NQ.zero(h:HF)(n:Nat):NQ 0 (.agg #[U χ,η,U χ,η]) h n:=⟨_,_,_,_,_,_,_,_,ω,UI.zero h n,UI.zero h n⟩
def Norm.len800{L:List Nat}(h:Norm L)(hb:val L<BX):O L<=1200:=by refine h.len_pow (CZ hb ?_);unfold BX;decide+kernel
def UI.r{h:HF}{n:Nat}{b:Bool}{a:Option Addr}{x:Int}(i:UI h n b a l c x):∃L,IntR h n (U b) (Y a l c) x L:=by have⟨e,L,f,g,j⟩:=i;exact⟨L,by rw[e],f,g,j⟩
def IntR.ui{h:HF}{n:Nat}{c1 c2:ψ}{x:Int}{L:List Nat}(i:IntR h n c1 c2 x L):∃b a l c,c1=U b/\c2=Y a l c/\UI h n b a l c x:=by obtain⟨rfl,f,g,j⟩:=i;obtain⟨a,l,c,rfl,_⟩:=f.len;exact⟨_,_,_,_,ω,ω,ω,L,f,g,j⟩
def RatR.nq{h:HF}{n:Nat}(r:RatR h n n1 n2 d1 d2 q ln ld):NQ q (.agg #[n1,n2,d1,d2]) h n:=by obtain⟨b,a,l,c,rfl,rfl,i⟩:=r.num.ui;obtain⟨_,rfl,f,g,j⟩:=r;obtain⟨o,s,p,rfl,_⟩:=f.len;refine⟨_,_,_,_,_,_,_,_,ω,i,?_,ld,f,g,?_⟩;unfold denZ;split<;>simp;rw[j];unfold denZ;split<;>simp
theorem NQ.r{h:HF}{n:Nat}{b d:Bool}{a e:Option Addr}{f g:Nat}(i:UI h n b a l c q.num)(j:UI h n d e f g (denZ q)):∃ln ld,RatR h n (U b) (Y a l c) (U d) (Y e f g) q ln ld/\(∀m,Sz m q->m<=3840->O ln<=1200/\O ld<=1200):=by have⟨ln,o⟩:=i.r;have⟨B,ld,C,p,s⟩:=j;refine⟨ln,ld,⟨o,?_,C,p,?_⟩,λm A u=>⟨o.norm.len800 (by rw[o.val];exact KT A.1 u),p.len800 (by rw[s];exact KT A.z u)⟩⟩;rw[B];unfold denZ;split<;>simp;rw[s];unfold denZ;split<;>simp
def NewU.uv{n:Nat}{h:HF}{L:List Nat}(r:NewU n h v h' n' w L)(e:val L=m):Gw n h (UV m) v h' n' w:=by obtain⟨f,g,i,a,c,rfl,j,o,_⟩:=r;exact⟨f,g,i,_,_,_,ω,L,j,o,e⟩
def LA(k:Nat){h:HF}{n:Nat}{a:Option Addr}(i:UW h n a l c m)(f:Bool):CX (Ka (k+1)) 107 [U f,Y a l c] h n (Ng (KW f m)):=by refine wc (Mn k h n f a l c) ?_;rintro _ h' n' _⟨rfl,rfl,rfl,g⟩;refine⟨ω,Dc _,g,_,_,_,_,ω,?_,?_⟩;rw[SL];have:=i.zero;congr 1;by_cases h0:0<l;rw[BJ h0,BJ Z];rw[Ae h0,Ae Z];rw[SK];exact i.ext g Zq
section
variable (k:Nat){h:HF}{n:Nat}{a1 a2:Option Addr}{l1 c1 l2 c2 x y:Nat}
def Th(i:UW h n a1 l1 c1 x)(j:UW h n a2 l2 c2 y)(hb:x<BX/\y<BX):CX (Ka (k+2)) 138 [Y a1 l1 c1,Y a2 l2 c2] h n (UV (x+y)):=by obtain⟨A,o,f,rfl⟩:=i;obtain⟨C,p,g,rfl⟩:=j;have:=f.len800 hb.1;have:=g.len800 hb.2;refine wc (R0 k o p f.1 g.1 Z) ?_;exact Cj
def Nh(i:UW h n a1 l1 c1 x)(j:UW h n a2 l2 c2 y)(hb:x<BX/\y<BX)(f:y<=x):CX (Ka (k+2)) 147 [Y a1 l1 c1,Y a2 l2 c2] h n (UV (x-y)):=by obtain⟨A,p,g,rfl⟩:=i;obtain⟨C,s,o,rfl⟩:=j;have:=g.len800 hb.1;refine wc (Yl k p s g.1 o.1 Z (g.len_le o f) f) ?_;exact Cj
def OA(i:UW h n a1 l1 c1 x)(j:UW h n a2 l2 c2 y)(hb:x<BX/\y<BX):CX (Ka (k+2)) 139 [Y a1 l1 c1,Y a2 l2 c2] h n (UV (x*y)):=by obtain⟨A,o,f,rfl⟩:=i;obtain⟨C,p,g,rfl⟩:=j;have:=f.len800 hb.1;have:=g.len800 hb.2;refine wc (Sa k o p f.1 g.1 Z) ?_;exact Cj
def Ti(i:UW h n a1 l1 c1 x)(j:UW h n a2 l2 c2 y)(hb:x<BX/\y<BX):CX (Ka (k+1)) 146 [Y a1 l1 c1,Y a2 l2 c2] h n (NI ((x:Int)-y)):=by obtain⟨A,g,f,rfl⟩:=i;obtain⟨C,o,p,rfl⟩:=j;have:=f.len800 hb.1;refine(RX k g o f p Z).cx.mono ?_;rintro _ _ _ rfl;refine⟨_,ω,?_⟩;obtain h|h|h:=Nat.lt_trichotomy (val A) (val C);exact .inl ⟨LF h,Z⟩;exact .inr (.inl ⟨by rw[h];exact jd _,Z⟩);exact .inr (.inr ⟨sO h,Z⟩)
def zxa(h:HF)(n:Nat):CX (Ka (k+2)) 148 [CJ .i64 1] h n (Ng 1):=by refine wc (XT k h n 1 zd) ?_;rintro _ h' n' w⟨f,g,j,c1,c2,L,rfl,r,_⟩;obtain⟨b,a,l,c,rfl,rfl,i⟩:=r.ui;exact⟨f,g,j,_,_,_,_,ω,i⟩
end
def zz2(k:Nat){h:HF}{n:Nat}{b:Bool}{a:Option Addr}{x:Int}(i:UI h n b a l c x):CX (Ka (k+2)) 141 [.agg #[U b,Y a l c]] h n (Ng (-x)):=by have⟨L,r⟩:=i.r;refine wc (PM k r) ?_;rintro _ h' n' w⟨f,g,j,c1,rfl,r⟩;obtain⟨b,a,l,c,rfl,e,i⟩:=r.ui;cases e;exact⟨f,g,j,_,_,_,_,ω,i⟩
def OB(k:Nat){h:HF}{n:Nat}{a1 a2:Option Addr}{l1 c1 l2 c2:Nat}{x y:Int}(i:UI h n b1 a1 l1 c1 x)(j:UI h n b2 a2 l2 c2 y)(hx:x.natAbs<BX)(B:y.natAbs<BD)(f:y≠0)(u:DK x y=q):CX (Ka (k+5)) 108 [.agg #[U b1,Y a1 l1 c1],.agg #[U b2,Y a2 l2 c2]] h n (NQ q):=by have⟨A,r⟩:=i.r;have⟨C,s⟩:=j.r;have:=r.norm.len800 (by rw[r.val];exact hx);have:=s.norm.len800 (by rw[s.val];exact B);refine wc (Su k r s f Z) ?_;rintro _ h' n' w⟨g,o,p,G,H,D,F,ln,ld,rfl,r,_⟩;rw[u]at r;exact⟨g,o,p,r.nq⟩
def LI(k:Nat){h:HF}{n:Nat}{b d:Bool}{a e:Option Addr}{f g:Nat}(i:UI h n b a l c q.num)(j:UI h n d e f g (denZ q)):CX (Ka (k+2)) 36 [.agg #[U b,Y a l c,U d,Y e f g]] h n (NI q.num):=by have⟨ln,ld,r,_⟩:=NQ.r i j;refine(XU k r).cx.mono ?_;rintro _ _ _ rfl;refine⟨_,ω,?_⟩;obtain h|h|h:=HR q.num 0;exact .inl ⟨Hg h,h⟩;exact .inr (.inl ⟨by rw[h];rfl,h⟩);exact .inr (.inr ⟨Ga h,h⟩)
theorem Tj(k:Nat){h:HF}{n:Nat}{b d:Bool}{a e:Option Addr}{f g:Nat}(i:UI h n b a l c q.num)(j:UI h n d e f g (denZ q))(hm:Sz m q)(hb:m<=3840):VF (Ka (k+4)) 33 [.agg #[U b,Y a l c,U d,Y e f g]] h n λv=>v=CN ⟨⟨ratT q⟩⟩:=by grind [NQ.r,RV]
def PX(k:Nat)(h:HF)(n:Nat)(s:List UInt8)(F:O s<1000000):CX (Ka (k+6)) 67 [CN ⟨⟨s⟩⟩] h n λv h' n'=>∃b a l c d e f g p,∃q:Rat,v=.tuple #[.agg #[U b,Y a l c,U d,Y e f g],U p]/\UI h' n' b a l c q.num/\UI h' n' d e f g (denZ q)/\(p=φ->ratT q=s)/\(vF s->p=φ):=by refine wc (YZ k h n s F) ?_;rintro _ h' n' w⟨u,A,B,n1,n2,d1,d2,q,ln,ld,p,rfl,r,_,_,_,_,C,D⟩;have⟨b,a,l,c,d,e,f,g,o,i,j⟩:=r.nq;injection o with o;injection o with o;injection o with e2 o;injection o with e3 o;injection o with e4 o;injection o with e5 _;subst e2 e3 e4 e5;exact⟨u,A,B,_,_,_,_,_,_,_,_,p,q,ω,i,j,C,D⟩
end
section
variable {s:List UInt8}{V a b:Nat}
def Ks(b:UInt8):Bool:=decide (48<=b.toNat/\b.toNat<=57)
theorem nh{b:UInt8}:Ks b=φ↔48<=b.toNat/\b.toNat<=57:=by unfold Ks;simp
theorem AllD.all:AllD s↔∀b∈s,Ks b=φ:=by grind [AllD,nh]
def um{p:UInt8->Bool}:∀b∈s.takeWhile p,p b=φ:=by
 induction s with
 |nil=>intro b c;simp at c
 |cons x s ih=>
  intro b c;rw[Iv]at c;split at c;rename_i h;obtain rfl|c:=Dk.1 c;exact h;exact ih b c;simp at c
def rk{a r:List UInt8}(d:AllD a)(i:r=[]\/∃x e,r=x::e/\Ks x=χ):(a++r).takeWhile Ks=a/\(a++r).dropWhile Ks=r:=by
 induction a with
 |nil=>
  obtain rfl|⟨x,e,rfl,j⟩:=i;exact⟨ω,ω⟩;simp[Iv,JV,j]
 |cons b a ih=>
  have f:Ks b=φ:=nh.2 (d b eF);have:=ih λc g=>d c (by simp[g]);simp only[Gh,Iv,JV,f,if_true];exact⟨by rw[this.1],this.2⟩
def Tk{a b:UInt8}(h:a.toNat=b.toNat):a=b:=G4.1 h
def bQ{b:UInt8}(h:48<=b.toNat/\b.toNat<=57):Ek (48+(b.toNat-48))=b:=by apply Tk;rw[Ol Z];omega
def PY{d:List UInt8}(l:AllD d)(f:d≠[])(g:d.head?≠ξ 48):dval d≠0/\(decB (dval d)).map Ek=d:=by
 induction hl:O d generalizing d with
 |zero=>exact BO (CY.1 hl) f
 |succ m ih=>
  obtain⟨i,b,rfl⟩:∃i b,d=i++[b]:=⟨d.dropLast,d.getLast f,(List.dropLast_concat_getLast f).symm⟩;have j:=l b eF;rw[rK];by_cases hi:i=[];subst hi;have v:b.toNat≠48:=λe=>g (by show ξ b=ξ 48;rw[Tk (b:=48) e]);have o:dval []=0:=rfl;rw[o];refine⟨Z,?_⟩;rw[gi Z (.inr Z)];have:decB 0=[]:=by unfold decB;rw[xo];rfl
  rw[this,DP,Gy,Jo,bQ j];rfl;have⟨p,q⟩:=ih (d:=i) (λc u=>l c (by simp[u])) hi (by
   cases i with
   |nil=>exact BO ω hi
   |cons x i=>simpa using g) (by simpa using hl)
  refine⟨Z,?_⟩;rw[gi Z (.inl p),Ev,q,Gy,Jo,bQ j]
theorem qC{d:List UInt8}(f:AllD d)(c:d≠[])(e:d.head?≠ξ 48):decT (dval d)=d:=by simp_all [PY,c,decT]
theorem ag:decT 1=[49]:=qC (d:=[49]) (λb c=>by rw[C0.1 c];decide) eF eF
def zfw(h:V≠0):((decB V).map Ek).head?≠ξ 48:=by
 induction V using Gp with
 |ind V ih=>
  have e:decB V=decB (V/10)++[48+V%10]:=(by unfold decB;rw[wy h];simp);rw[e];by_cases h2:V/10=0;have:decB (V/10)=[]:=by unfold decB;rw[h2,xo];rfl
  rw[this];intro f;simp only[DP,Gy,Jo,List.head?_cons,HP]at f;have:=Ol (c:=V%10) Z;rw[f]at this;have g:(48:UInt8).toNat=48:=rfl;omega;have:=ih (V/10) Z h2;cases hd:(decB (V/10)).map Ek with
  |nil=>
   have d:=(pI (V/10)).2;rw[hd]at d;exact BO d.symm h2
  |cons x l=>
   rw[Ev,hd];rw[hd]at this;simpa using this
theorem ga(h:V≠0):(decT V).head?≠ξ 48:=by unfold decT;rw[Cs h];exact zfw h
theorem ai(h:decT a=decT b):a=b:=by rw[<-(wx a).2.1,h,(wx b).2.1]
def KX(s:List UInt8):List UInt8×List UInt8×Bool:=
 let b:=xB s
 let m:=b.takeWhile Ks
 let r:=b.dropWhile Ks
 if m=[48]then(m,[],!z6 s&&r.isEmpty)
 else if m=[]\/m.head?=ξ 48 then(m,[],χ)
 else if r=[]then(m,[],φ)
 else if r.head?≠ξ 47 then(m,[],χ)
 else
  let d:=(r.drop 1).takeWhile Ks
  let r2:=(r.drop 1).dropWhile Ks
  (m,d,r2.isEmpty&& !d.isEmpty&&d.head? != ξ 48&&d != [49])
def zb9(s:List UInt8):(xB s).takeWhile Ks++(xB s).dropWhile Ks=xB s:=GD
theorem zmw:s=(if z6 s then[45]else[])++xB s:=by cases s<;>grind [xB,z6]
structure Frm (s:List UInt8)(m d:List UInt8):Prop where
 dm:AllD m
 m0:m≠[]
 dd:AllD d
 lead:m=[48]/\z6 s=χ/\d=[]\/m.head?≠ξ 48
 den:d=[]\/d.head?≠ξ 48/\d≠[49]
 eq:s=(if z6 s then[45]else[])++(m++(if d=[]then[]else 47::d))
def rZ{m d:List UInt8}(h:KX s=(m,d,φ)):Frm s m d:=by
 have g:=zb9 s;have y:=zmw (s:=s);have w:AllD ((xB s).takeWhile Ks):=AllD.all.2 um;unfold KX at h;simp only at h;generalize (xB s).takeWhile Ks=m0 at*;generalize (xB s).dropWhile Ks=r at*;split at h;rename_i h48;simp only[Fg]at h;obtain⟨rfl,rfl,c⟩:=h;simp only[DM,Fk,ad2]at c;obtain⟨c,rfl⟩:=c;refine⟨w,by rw[h48];simp,λb g=>BO g eF,.inl ⟨h48,c,ω⟩,.inl ω,?_⟩;rw[Cx ω,g];exact y;split at h;simp at h;rename_i h48 j;have l:¬m0=[]:=λe=>j (.inl e);have o:¬m0.head?=ξ 48:=λe=>j (.inr e);split at h;rename_i hr;simp only[Fg]at h;obtain⟨rfl,rfl,_⟩:=h;refine⟨w,l,λb g=>BO g eF,.inr o,.inl ω,?_⟩;subst hr;rw[Cx ω,g];exact y;split at h;simp at h;rename_i hr f;have f:r.head?=ξ 47:=Hb.1 f;simp only[Fg]at h;obtain⟨rfl,rfl,c⟩:=h;simp only[DM,Fk,ad2,bne_iff_ne,ne_eq]at c;have⟨⟨⟨c,p⟩,u⟩,v⟩:=c;obtain⟨i,rfl⟩:∃i,r=47::i:=by
  cases r with
  |nil=>simp at f
  |cons x r=>exact⟨r,by simp at f;rw[f]⟩
 simp only[ak0,ai3]at c p u v⊢;have A:AllD (i.takeWhile Ks):=AllD.all.2 um;have q:i.takeWhile Ks++i.dropWhile Ks=i:=GD;rw[c,Do]at q;rw[q]at A p u v⊢;have j:¬i=[]:=λe=>by rw[e]at p;simp at p
 refine⟨w,l,A,.inr o,.inr ⟨u,v⟩,?_⟩;rw[Cs j,g];exact y
theorem px(q:Rat):KX (ratT q)=(decT q.num.natAbs,(if q.den=1 then[]else decT q.den),φ):=by
 have⟨y,A⟩:=qj q;have⟨B,F,D⟩:=wx q.num.natAbs;have⟨p,i,g⟩:=wx q.den;have f:=rk (a:=decT q.num.natAbs) (r:=if q.den=1 then[]else 47::decT q.den) B (by
  by_cases h:q.den=1;left;rw[Cx h];right;rw[Cs h];exact⟨47,_,ω,ω⟩)
 have d:=rk p (.inl ω);rw[Do]at d;unfold KX;simp only;rw[A,f.1,f.2,y];by_cases h0:q.num=0;have c:q.den=1:=by simp_all
 rw[h0,Cx c,Cx c];rfl;have o:q.num.natAbs≠0:=Z;have m:=ga o;have j:¬decT q.num.natAbs=[48]:=λe=>m AL;rw[Cs j,Cs aD];by_cases c:q.den=1;rw[Cx c,Cx ω,Cx c];rw[Cs c,Cs eF,Cs eF,Cs c];simp only[ak0,ai3];rw[d.1,d.2];have C:q.den≠0:=q.den_nz;have u:(decT q.den).isEmpty=χ:=by cases h:decT q.den with
  |nil=>exact BO h g
  |cons x l=>rfl
 have v:((decT q.den).head? != ξ 48)=φ:=by grind [ga]
 have w:(decT q.den != [49])=φ:=by
  rw[bne_iff_ne];intro e;have:dval (decT q.den)=1:=by rw[e];rfl
  rw[i]at this;exact c this
 rw[u,v,w];rfl
def Frm.rat{m d:List UInt8}(h:Frm s m d)(F:d=[]\/C6 (dval m) (dval d)=1):∃q:Rat,ratT q=s/\q.num=(if z6 s then -(dval m:Int)else dval m)/\q.den=(if d=[]then 1 else dval d):=by have⟨o,w,j,c,l,A⟩:=h;have v:∃D:Nat,D≠0/\D=(if d=[]then 1 else dval d)/\C6 (dval m) D=1/\(if D=1 then[]else 47::decT D)=(if d=[]then[]else 47::d):=(by by_cases hd:d=[];refine⟨1,by decide,by rw[Cx hd],ab9 _,by rw[Cx ω,Cx hd]⟩;obtain h|⟨p,B⟩:=l;exact BO h hd;have e:=qC j hd p;refine⟨dval d,(PY j hd p).1,by rw[Cs hd],F.resolve_left hd,?_⟩;rw[e,Cs hd,Cs];intro h;rw[h]at e;exact B (by rw[<-e];exact ag));have⟨D,y,C,g,u⟩:=v;refine⟨⟨if z6 s then -(dval m:Int)else dval m,D,y,?_⟩,?_,ω,C⟩;show Gt _ _;unfold Gt;split;rw[Ff];exact g;exact g;have i:(if z6 s then -(dval m:Int)else dval m).natAbs=dval m:=(by split;rw[Ff];rfl;rfl);have G:decT (dval m)=m:=(by obtain⟨h,_,_⟩|h:=c;rw[h];rfl;exact qC o w h);have f:(if(if z6 s then -(dval m:Int)else dval m)<0 then[45]else[])=(if z6 s then[45]else([]:List UInt8)):=(by by_cases hh:z6 s=φ;rw[Cx hh,Cx hh];obtain⟨_,h,_⟩|h:=c;rw[h]at hh;cases hh;have:=(PY o w h).1;rw[Cx Z];rw[Cs hh,Cs hh,Cs Z]);show(if(if z6 s then -(dval m:Int)else dval m)<0 then[45]else[])++(decT (if z6 s then -(dval m:Int)else dval m).natAbs++(if D=1 then[]else 47::decT D))=s;rw[f,i,G,u];exact A.symm
theorem oP(s:List UInt8):vF s↔(KX s).2.2=φ/\((KX s).2.1=[]\/C6 (dval (KX s).1) (dval (KX s).2.1)=1):=by constructor;rintro⟨q,rfl⟩;rw[px];refine⟨ω,?_⟩;by_cases c:q.den=1;left;show(if q.den=1 then[]else _)=_;rw[Cx c];right;show C6 (dval (decT _)) (dval (if q.den=1 then[]else _))=1;rw[Cs c,(wx _).2.1,(wx _).2.1];exact q.reduced;rintro⟨d,e⟩;have f:=rZ (by rw[<-d]);have⟨q,c,_⟩:=f.rat e;exact⟨q,c⟩
end
section
open Go Go.GL
variable {ops r:List Oper}{w ms T W C:List Nat}{X:CtxF}{t:TF}{Q:SV->Prop}{o:Oper}{cap sz m b i j n0 bt cx lx l bytes a cy ly B L fx gx bs k fy gy Z4 lo' V sz' nt g1 co cr cu cw lr lu lw l' N:Nat}{e xT e' ty' e2 e3 eB:TypeId}{v z v0 x4 x5 x6 z2:ψ}{ax ay ex ey aq ao ar au aw:Option Addr}{al:List (Nat×Nat)}{ef:List (Nat×HF×List Nat)}{D α D':Type}{cs cl new:List ψ}{ik ik':IntKind}{sx sy dx dy:Bool}{hi s:List UInt8}{ji bf f:Int}{q:Rat}{y:Operand}{xs ys va:List Rat}{S ss:List (List UInt8)}{E:Env}{fn:Func}{a0:Nat->Nat->Rat}{zs:List Int}
variable {u n' c:Nat}{x1 x2 x3:ψ}{h0 h':HF}
theorem zhx{p:Rat}(h:ratT p=ratT q):p=q:=by grind [px,decT,qj,ai,wx,Rat.ext]
def zj(s:List UInt8):Rat:=open Classical in if h:vF s then h.choose else 0
def xX(h:¬vF s):zj s=0:=by unfold zj;rw[dif_neg h]
def qr(h:vF s):ratT (zj s)=s:=by unfold zj;rw[dif_pos h];exact h.choose_spec
def pA(h:ratT q=s):zj s=q:=zhx ((qr ⟨q,h⟩).trans h.symm)
def P0(x y:Rat):((x-y).num<0->x<y)/\((x-y).num=0->x=y)/\(0<(x-y).num->y<x):=by have a:=ur x (-y);rw[<-GY,Hm,Ij]at a;have e:0<C6 (x.num*(y.den:Int)+ -y.num*(x.den:Int)).natAbs (x.den*y.den):=Er _ (EJ x.den_pos y.den_pos);have d:((C6 (x.num*(y.den:Int)+ -y.num*(x.den:Int)).natAbs (x.den*y.den):Nat):Int)∣x.num*(y.den:Int)+ -y.num*(x.den:Int):=FD.2 (Fh _ _);have b:=jc x y;rw[Int.neg_mul]at*;generalize C6 (x.num*(y.den:Int)+ -(y.num*(x.den:Int))).natAbs (x.den*y.den)=g at*;have⟨u,c⟩:=d;rw[c,Int.mul_ediv_cancel_left _ Z]at a;rw[a];refine⟨λh=>b.1.2 ?_,λh=>b.2.1.2 ?_,λh=>b.2.2.2 ?_⟩;have:=Int.mul_neg_of_pos_of_neg (show(0:Int)<g from Z) h;omega;rw[h,Int.mul_zero]at c;omega;have:=HL (show(0:Int)<g from Z) h;omega
section
variable {h:HF}{c d n:Nat}
def addU(k:Nat){x:Int}{y:Int}(e:UI h n sx ax lx cx x)(f:UI h n sy ay ly cy y)(hx:x.natAbs<BX)(hy:y.natAbs<BX):CX (Ka (k+3)) 110 [.agg #[U sx,Y ax lx cx],.agg #[U sy,Y ay ly cy]] h n (Ng (x+y)):=by refine zw R4<|zG ?_;refine sB [U sx,Y ax lx cx] λaz cr d6=>?_;refine sB [U sy,Y ay ly cy] λb0 cs d7=>?_;refine sA λb1 ct d8=>?_;refine zG ?_;cases sx;refine zG ?_;cases sy;refine kh ?_;refine dC (Th _ e.t.2 f.t.2 Z) ?_;rintro _ b2 c1⟨af,bs,an,rfl,P⟩ ds d9;refine dC (LA _ P χ) ?_;rintro _ b3 c2⟨v,j,a7,H,rfl,R⟩ dt da;refine dS [U v,Y j a7 H] λb4 cu cj=>?_;refine zq ?_;exact⟨_,_,_,_,ω,R.t.as (by have:=e.ge;have:=f.ge;unfold KW;(try simp only[if_true,if_false,ET]);omega)⟩;refine zG ?_;refine sC (Ti _ e.t.2 f.t.2 Z) ?_;rintro _ b5 c3⟨d4,rfl,g⟩ du db;obtain⟨rfl,g⟩|⟨rfl,g⟩|⟨rfl,g⟩:=g;refine kh ?_;refine dC (Nh _ f.t.2 e.t.2 Z Z) ?_;rintro _ b6 c4⟨ag,bt,ao,rfl,S⟩ dv dc;refine dC (LA _ S φ) ?_;rintro _ b7 c5⟨w,l,a8,I,rfl,T⟩ dw dd;refine dS [U w,Y l a8 I] λb8 cv ck=>?_;refine zq ?_;exact⟨_,_,_,_,ω,T.t.as nP⟩;refine kh ?_;refine dC (Nh _ e.t.2 f.t.2 Z Z) ?_;rintro _ b9 c6⟨ah,bu,ap,rfl,Z4⟩ dz de;refine dC (LA _ Z4 χ) ?_;rintro _ ba c7⟨A,m,a9,J,rfl,V⟩ e0 df;refine dS [U A,Y m a9 J] λbb cw cl=>?_;refine zq ?_;exact⟨_,_,_,_,ω,V.t.as nP⟩;refine kh ?_;refine dC (Nh _ e.t.2 f.t.2 Z Z) ?_;rintro _ bc c8⟨ai,bv,aq,rfl,W⟩ e1 dg;refine dC (LA _ W χ) ?_;rintro _ bd c9⟨B,o,aa,K,rfl,Z3⟩ e2 dh;refine dS [U B,Y o aa K] λbe cz cm=>?_;refine zq ?_;exact⟨_,_,_,_,ω,Z3.t.as nP⟩;refine zG ?_;cases sy;refine zG ?_;refine sC (Ti _ e.t.2 f.t.2 Z) ?_;rintro _ bf ca⟨d5,rfl,i⟩ e3 di;obtain⟨rfl,i⟩|⟨rfl,i⟩|⟨rfl,i⟩:=i;refine kh ?_;refine dC (Nh _ f.t.2 e.t.2 Z Z) ?_;rintro _ bg cb⟨aj,bw,ar,rfl,Z0⟩ e4 dj;refine dC (LA _ Z0 χ) ?_;rintro _ bh cc⟨C,p,ab,L,rfl,a0⟩ e5 dk;refine dS [U C,Y p ab L] λbi d0 cn=>?_;refine zq ?_;exact⟨_,_,_,_,ω,a0.t.as oo⟩;refine kh ?_;refine dC (Nh _ e.t.2 f.t.2 Z Z) ?_;rintro _ bj cd⟨ak,bx,au,rfl,a1⟩ e6 dl;refine dC (LA _ a1 φ) ?_;rintro _ bk ce⟨D,q,ac,M,rfl,a2⟩ e7 dm;refine dS [U D,Y q ac M] λbl d1 co=>?_;refine zq ?_;exact⟨_,_,_,_,ω,a2.t.as oo⟩;refine kh ?_;refine dC (Nh _ e.t.2 f.t.2 Z Z) ?_;rintro _ bm cf⟨al,bz,av,rfl,a3⟩ e8 dn;refine dC (LA _ a3 φ) ?_;rintro _ bn cg⟨F,s,ad,N,rfl,a4⟩ e9 dp;refine dS [U F,Y s ad N] λbo d2 cp=>?_;refine zq ?_;exact⟨_,_,_,_,ω,a4.t.as oo⟩;refine kh ?_;refine dC (Th _ e.t.2 f.t.2 Z) ?_;rintro _ bp ch⟨am,c0,aw,rfl,a5⟩ ea dq;refine dC (LA _ a5 φ) ?_;rintro _ bq ci⟨G,u,ae,Z1,rfl,a6⟩ eb dr;refine dS [U G,Y u ae Z1] λbr d3 cq=>?_;refine zq ?_;exact⟨_,_,_,_,ω,a6.t.as (by have:=e.lt;have:=f.lt;unfold KW;(try simp only[if_true,if_false,ET]);omega)⟩
def mulU(k:Nat){x:Int}{y:Int}(e:UI h n sx ax lx cx x)(f:UI h n sy ay ly cy y)(hx:x.natAbs<BX)(hy:y.natAbs<BX):CX (Ka (k+3)) 111 [.agg #[U sx,Y ax lx cx],.agg #[U sy,Y ay ly cy]] h n (Ng (x*y)):=by refine zw R4<|zG ?_;refine sB [U sx,Y ax lx cx] λW au b3=>?_;refine sB [U sy,Y ay ly cy] λZ3 av b4=>?_;refine sA λZ0 aw b5=>?_;refine kh ?_;cases sx;refine zH ?_;cases sy;refine zH ?_;refine dC (OA _ e.t.2 f.t.2 Z) ?_;rintro _ a0 ag⟨N,ac,S,rfl,A⟩ be b6;refine dC (LA _ A χ) ?_;rintro _ a1 ah⟨m,g,J,s,rfl,B⟩ bf b7;refine dS [U m,Y g J s] λa2 az ao=>?_;refine zq ?_;exact⟨_,_,_,_,ω,B.t.as (by have:=e.ge;have:=f.ge;exact ke rp)⟩;refine zH ?_;refine dC (OA _ e.t.2 f.t.2 Z) ?_;rintro _ a3 ai⟨Z1,ad,T,rfl,C⟩ bg b8;refine dC (LA _ C φ) ?_;rintro _ a4 aj⟨o,i,K,u,rfl,D⟩ bh b9;refine dS [U o,Y i K u] λa5 b0 ap=>?_;refine zq ?_;exact⟨_,_,_,_,ω,D.t.as (by have:=e.ge;have:=f.lt;exact ke rp)⟩;refine zH ?_;cases sy;refine zH ?_;refine dC (OA _ e.t.2 f.t.2 Z) ?_;rintro _ a6 ak⟨P,ae,Z4,rfl,F⟩ bi ba;refine dC (LA _ F φ) ?_;rintro _ a7 al⟨p,j,L,v,rfl,G⟩ bj bb;refine dS [U p,Y j L v] λa8 b1 aq=>?_;refine zq ?_;exact⟨_,_,_,_,ω,G.t.as (by have:=e.lt;have:=f.ge;exact ke rp)⟩;refine zH ?_;refine dC (OA _ e.t.2 f.t.2 Z) ?_;rintro _ a9 am⟨R,af,V,rfl,H⟩ bk bc;refine dC (LA _ H χ) ?_;rintro _ aa an⟨q,l,M,w,rfl,I⟩ bl bd;refine dS [U q,Y l M w] λab b2 ar=>?_;refine zq ?_;exact⟨_,_,_,_,ω,I.t.as (by have:=e.lt;have:=f.lt;exact ke rp)⟩
def denU(k:Nat){x:Rat}(J:UI h n sx ax lx cx x.num)(f:UI h n dx ex fx gx (denZ x)):CX (Ka (k+3)) 112 [.agg #[U sx,Y ax lx cx,U dx,Y ex fx gx]] h n (Ng (x.den:Int)):=by refine zw R4<|zG ?_;refine sB [U sx,Y ax lx cx,U dx,Y ex fx gx] λo A F=>?_;refine sA λp B G=>?_;refine zG ?_;by_cases q13:(fx:Int)=0;refine zG ?_;refine sC (zxa _ _ _) ?_;rintro _ q v⟨i,g,m,j,rfl,l⟩ I H;refine sS [U i,Y g m j] λs C w=>?_;refine zq ?_;exact⟨_,_,_,_,ω,l.t.as (by rw[yr.1 (Fq.1 (f.2.zero.1 Z))];rfl)⟩;refine zG ?_;refine sS [U dx,Y ex fx gx] λu D y=>?_;refine zq ?_;exact⟨_,_,_,_,ω,f.t.as (wq (λe=>q13 (by have:=f.2.zero;rw[e]at this;simp at this;omega)))⟩
def Tl(x y:Rat):DK (x.num*(y.den:Int)+y.num*(x.den:Int)) ((x.den:Int)*(y.den:Int))=x+y:=by rw[Rat.add_def,HV,<-EW];rfl
def Tm(x y:Rat):DK (x.num*y.num) ((x.den:Int)*(y.den:Int))=x*y:=by rw[Rat.mul_def,HV,<-EW];rfl
def OC(x y:Rat):(x.den:Int)*(y.den:Int)≠0:=Int.mul_ne_zero (by have:=x.den_pos;omega) (by have:=y.den_pos;omega)
theorem Tn{x:Rat}(h:x.den<2^c):(denZ x).natAbs<2^c:=by
 unfold denZ;split
 .exact G6 c
 exact h
def Tp(k:Nat){x:Rat}{y:Rat}(e:UI h n sx ax lx cx x.num)(g:UI h n dx ex fx gx (denZ x))(f:UI h n sy ay ly cy y.num)(i:UI h n dy ey fy gy (denZ y))(hx:x.num.natAbs<2^a/\x.den<2^c)(p:y.num.natAbs<2^b/\y.den<2^d)(h1:a+d+1<=3840)(h2:b+c+1<=3840)(h3:c+d<=3840):CX (Ka (k+6)) 73 [.agg #[U sx,Y ax lx cx,U dx,Y ex fx gx],.agg #[U sy,Y ay ly cy,U dy,Y ey fy gy]] h n (NQ (x+y)):=by obtain⟨M,K⟩:x.num.natAbs<2^a/\(denZ x).natAbs<2^c:=⟨hx.1,Tn hx.2⟩;obtain⟨P,N⟩:y.num.natAbs<2^b/\(denZ y).natAbs<2^d:=⟨p.1,Tn p.2⟩;have ah:=KT M Z;have af:=KT K Z;have ak:=KT P Z;have ai:=KT N Z;have cr:=x.den_pos;have cs:=y.den_pos;have L:((x.den:Int)).natAbs<2^c:=hx.2;have Z1:((y.den:Int)).natAbs<2^d:=p.2;have ag:=KT L Z;have aj:=KT Z1 Z;refine zw R4<|zG ?_;refine sB [U sx,Y ax lx cx,U dx,Y ex fx gx] λc2 e0 e6=>?_;refine sB [U sy,Y ay ly cy,U dy,Y ey fy gy] λc3 e1 e7=>?_;refine sA λc4 e2 e8=>?_;refine zG ?_;by_cases q14:(fx:Int)=0;refine zG ?_;by_cases q15:(fy:Int)=0;refine zG ?_;refine sC (addU _ e.t f.t KB KB) ?_;rintro _ c5 db⟨l,j,o,m,rfl,R⟩ es e9;refine sT #[U l,Y j o m,U χ,η] ?_;refine sS [U l,Y j o m,U χ,η] λc6 e3 dv=>?_;refine zq ?_;exact⟨_,_,_,_,_,_,_,_,ω,R.t.as ((Ox (Fq.1 (g.2.zero.1 Z)) (Fq.1 (i.2.zero.1 Z))).1.symm),(UI.zero _ _).as ((Ox (Fq.1 (g.2.zero.1 Z)) (Fq.1 (i.2.zero.1 Z))).2.symm)⟩;refine kh ?_;refine dC (denU _ f.t i.t) ?_;rintro _ c7 dc⟨b5,al,ct,bl,rfl,S⟩ et ea;refine dC (mulU _ e.t S KB KB) ?_;rintro _ c8 dd⟨b6,am,cu,bm,rfl,T⟩ eu eb;refine zH ?_;refine dC (denU _ e.t g.t) ?_;rintro _ c9 de⟨b7,an,cv,bn,rfl,Z4⟩ ev ec;refine dC (mulU _ f.t Z4 KB KB) ?_;rintro _ ca df⟨b8,ao,cw,bo,rfl,V⟩ ew ed;refine dC (addU _ T.t V KB KB) ?_;rintro _ cb dg⟨b9,ap,cz,bp,rfl,W⟩ ez ee;refine zH ?_;refine dC (denU _ e.t g.t) ?_;rintro _ cc dh⟨ba,aq,d0,bq,rfl,Z3⟩ f0 ef;refine zH ?_;refine dC (denU _ f.t i.t) ?_;rintro _ cd di⟨bb,ar,d1,br,rfl,Z0⟩ f1 eg;refine dC (mulU _ Z3.t Z0 KB KB) ?_;rintro _ ce dj⟨bc,au,d2,bs,rfl,a0⟩ f2 eh;refine dC (OB _ W.t a0 KB Oz (OC x y) (Tl x y)) ?_;rintro _ cf dk⟨u,q,ad,w,B,D,G,I,rfl,a1,ab⟩ f3 ei;refine dS [U u,Y q ad w,U B,Y D G I] λcg e4 dw=>?_;refine zq ?_;exact⟨_,_,_,_,_,_,_,_,ω,a1.t,ab.t⟩;refine kh ?_;refine dC (denU _ f.t i.t) ?_;rintro _ ch dl⟨bd,av,d3,bt,rfl,a2⟩ f4 ej;refine dC (mulU _ e.t a2 KB KB) ?_;rintro _ ci dm⟨be,aw,d4,bu,rfl,a3⟩ f5 ek;refine zH ?_;refine dC (denU _ e.t g.t) ?_;rintro _ cj dn⟨bf,az,d5,bv,rfl,a4⟩ f6 el;refine dC (mulU _ f.t a4 KB KB) ?_;rintro _ ck dp⟨bg,b0,d6,bw,rfl,a5⟩ f7 em;refine dC (addU _ a3.t a5 KB KB) ?_;rintro _ cl dq⟨bh,b1,d7,bx,rfl,a6⟩ f8 en;refine zH ?_;refine dC (denU _ e.t g.t) ?_;rintro _ cm dr⟨bi,b2,d8,bz,rfl,a7⟩ f9 eo;refine zH ?_;refine dC (denU _ f.t i.t) ?_;rintro _ cn ds⟨bj,b3,d9,c0,rfl,a8⟩ fa ep;refine dC (mulU _ a7.t a8 KB KB) ?_;rintro _ co dt⟨bk,b4,da,c1,rfl,a9⟩ fb eq;refine dC (OB _ a6.t a9 KB Oz (OC x y) (Tl x y)) ?_;rintro _ cp du⟨v,s,ae,A,C,F,H,J,rfl,aa,ac⟩ fc er;refine dS [U v,Y s ae A,U C,Y F H J] λcq e5 dz=>?_;refine zq ?_;exact⟨_,_,_,_,_,_,_,_,ω,aa.t,ac.t⟩
def OE(k:Nat){x:Rat}{y:Rat}(f:UI h n sx ax lx cx x.num)(i:UI h n dx ex fx gx (denZ x))(g:UI h n sy ay ly cy y.num)(j:UI h n dy ey fy gy (denZ y))(hx:Sz a x)(e:Sz b y)(l:a+b+1<=3840):CX (Ka (k+6)) 73 [.agg #[U sx,Y ax lx cx,U dx,Y ex fx gx],.agg #[U sy,Y ay ly cy,U dy,Y ey fy gy]] h n (NQ (x+y)):=
 Tp k f i g j ⟨hx.1,hx.2⟩ ⟨e.1,e.2⟩ Z Z Z
def OF(k:Nat){x:Rat}{y:Rat}(e:UI h n sx ax lx cx x.num)(g:UI h n dx ex fx gx (denZ x))(f:UI h n sy ay ly cy y.num)(i:UI h n dy ey fy gy (denZ y))(hx:Sz a x)(p:Sz b y)(bm:a+b+1<=3840):CX (Ka (k+6)) 75 [.agg #[U sx,Y ax lx cx,U dx,Y ex fx gx],.agg #[U sy,Y ay ly cy,U dy,Y ey fy gy]] h n (NQ (x*y)):=by obtain⟨M,K⟩:x.num.natAbs<2^a/\(denZ x).natAbs<2^a:=⟨hx.1,hx.z⟩;obtain⟨P,N⟩:y.num.natAbs<2^b/\(denZ y).natAbs<2^b:=⟨p.1,p.z⟩;have a9:=KT M Z;have a7:=KT K Z;have ac:=KT P Z;have aa:=KT N Z;have bn:=x.den_pos;have bo:=y.den_pos;have L:((x.den:Int)).natAbs<2^a:=hx.2;have Z1:((y.den:Int)).natAbs<2^b:=p.2;have a8:=KT L Z;have ab:=KT Z1 Z;refine zw R4<|zG ?_;refine sB [U sx,Y ax lx cx,U dx,Y ex fx gx] λb5 cc ci=>?_;refine sB [U sy,Y ay ly cy,U dy,Y ey fy gy] λb6 cd cj=>?_;refine sA λb7 ce ck=>?_;refine zG ?_;by_cases q14:(fx:Int)=0;refine zG ?_;by_cases q15:(fy:Int)=0;refine zG ?_;refine sC (mulU _ e.t f.t KB KB) ?_;rintro _ b8 bx⟨l,j,o,m,rfl,R⟩ cw cl;refine sT #[U l,Y j o m,U χ,η] ?_;refine sS [U l,Y j o m,U χ,η] λb9 cf c9=>?_;refine zq ?_;exact⟨_,_,_,_,_,_,_,_,ω,R.t.as ((Oy (Fq.1 (g.2.zero.1 Z)) (Fq.1 (i.2.zero.1 Z))).1.symm),(UI.zero _ _).as ((Oy (Fq.1 (g.2.zero.1 Z)) (Fq.1 (i.2.zero.1 Z))).2.symm)⟩;refine kh ?_;refine dC (mulU _ e.t f.t KB KB) ?_;rintro _ ba bz⟨al,ad,bp,av,rfl,S⟩ cz cm;refine zH ?_;refine dC (denU _ e.t g.t) ?_;rintro _ bb c0⟨am,ae,bq,aw,rfl,T⟩ d0 cn;refine zH ?_;refine dC (denU _ f.t i.t) ?_;rintro _ bc c1⟨an,af,br,az,rfl,Z4⟩ d1 co;refine dC (mulU _ T.t Z4 KB KB) ?_;rintro _ bd c2⟨ao,ag,bs,b0,rfl,V⟩ d2 cp;refine dC (OB _ S.t V KB Oz (OC x y) (Tm x y)) ?_;rintro _ be c3⟨u,q,a5,w,B,D,G,I,rfl,W,a3⟩ d3 cq;refine dS [U u,Y q a5 w,U B,Y D G I] λbf cg ca=>?_;refine zq ?_;exact⟨_,_,_,_,_,_,_,_,ω,W.t,a3.t⟩;refine kh ?_;refine dC (mulU _ e.t f.t KB KB) ?_;rintro _ bg c4⟨ap,ah,bt,b1,rfl,Z3⟩ d4 cr;refine zH ?_;refine dC (denU _ e.t g.t) ?_;rintro _ bh c5⟨aq,ai,bu,b2,rfl,Z0⟩ d5 cs;refine zH ?_;refine dC (denU _ f.t i.t) ?_;rintro _ bi c6⟨ar,aj,bv,b3,rfl,a0⟩ d6 ct;refine dC (mulU _ Z0.t a0 KB KB) ?_;rintro _ bj c7⟨au,ak,bw,b4,rfl,a1⟩ d7 cu;refine dC (OB _ Z3.t a1 KB Oz (OC x y) (Tm x y)) ?_;rintro _ bk c8⟨v,s,a6,A,C,F,H,J,rfl,a2,a4⟩ d8 cv;refine dS [U v,Y s a6 A,U C,Y F H J] λbl ch cb=>?_;refine zq ?_;exact⟨_,_,_,_,_,_,_,_,ω,a2.t,a4.t⟩
def zz0(k:Nat){x:Rat}(l:UI h n sx ax lx cx x.num)(m:UI h n dx ex fx gx (denZ x)):CX (Ka (k+3)) 145 [.agg #[U sx,Y ax lx cx,U dx,Y ex fx gx]] h n (NQ (-x)):=by refine zw R4<|zG ?_;refine sB [U sx,Y ax lx cx,U dx,Y ex fx gx] λo w B=>?_;refine sA λp y C=>?_;refine kh ?_;refine dC (zz2 _ l.t) ?_;rintro _ q u⟨f,e,i,g,rfl,j⟩ F D;refine zH ?_;refine dT #[U f,Y e i g,U dx,Y ex fx gx] ?_;refine dS [U f,Y e i g,U dx,Y ex fx gx] λs A v=>?_;refine zq ?_;exact⟨_,_,_,_,_,_,_,_,ω,j.t.as ((Hm x).symm),m.t.as (by unfold denZ;rw[Ij])⟩
def zze(k:Nat){x:Rat}{y:Rat}(w:UI h n sx ax lx cx x.num)(B:UI h n dx ex fx gx (denZ x))(A:UI h n sy ay ly cy y.num)(C:UI h n dy ey fy gy (denZ y))(hx:x.num.natAbs<2^a/\x.den<2^c)(v:y.num.natAbs<2^b/\y.den<2^d)(h1:a+d+1<=3840)(h2:b+c+1<=3840)(h3:c+d<=3840):CX (Ka (k+7)) 109 [.agg #[U sx,Y ax lx cx,U dx,Y ex fx gx],.agg #[U sy,Y ay ly cy,U dy,Y ey fy gy]] h n (NQ (x-y)):=by refine zw R4<|zG ?_;refine sB [U sx,Y ax lx cx,U dx,Y ex fx gx] λL W a1=>?_;refine sB [U sy,Y ay ly cy,U dy,Y ey fy gy] λM Z3 a2=>?_;refine sA λN Z0 a3=>?_;refine kh ?_;refine dC (zz0 _ A.t C.t) ?_;rintro _ Z1 T⟨F,D,S,G,H,I,J,K,rfl,o,q⟩ a6 a4;refine dC (Tp _ w.t B.t o q hx (by rw[Hm,Ij,Ff];exact v) h1 h2 h3) ?_;rintro _ P Z4⟨f,e,u,g,i,j,l,m,rfl,p,s⟩ a7 a5;refine dS [U f,Y e u g,U i,Y j l m] λR a0 V=>?_;refine zq ?_;exact⟨_,_,_,_,_,_,_,_,ω,p.t.as (by rw[GY]),s.t.as (by rw[GY])⟩
def zzz(k:Nat){x:Rat}{y:Rat}(f:UI h n sx ax lx cx x.num)(i:UI h n dx ex fx gx (denZ x))(g:UI h n sy ay ly cy y.num)(j:UI h n dy ey fy gy (denZ y))(hx:Sz a x)(e:Sz b y)(l:a+b+1<=3840):CX (Ka (k+7)) 109 [.agg #[U sx,Y ax lx cx,U dx,Y ex fx gx],.agg #[U sy,Y ay ly cy,U dy,Y ey fy gy]] h n (NQ (x-y)):=
 zze k f i g j ⟨hx.1,hx.2⟩ ⟨e.1,e.2⟩ Z Z Z
def Ni(k:Nat){x:Rat}{y:Rat}(l:UI h n sx ax lx cx x.num)(o:UI h n dx ex fx gx (denZ x))(m:UI h n sy ay ly cy y.num)(p:UI h n dy ey fy gy (denZ y))(hx:Sz a x)(j:Sz b y)(f:a+b+1<=3840):VF (Ka (k+8)) 69 [.agg #[U sx,Y ax lx cx,U dx,Y ex fx gx],.agg #[U sy,Y ay ly cy,U dy,Y ey fy gy]] h n λv=>∃s:Int,v=CJ .i64 s/\(s= -1/\x<y\/s=0/\x=y\/s=1/\y<x):=by refine zO R4<|zG ?_;refine sB [U sx,Y ax lx cx,U dx,Y ex fx gx] λF M P=>?_;refine sB [U sy,Y ay ly cy,U dy,Y ey fy gy] λG N R=>?_;refine zG ?_;refine sC (zzz _ l.t o.t m.t p.t hx j f) ?_;rintro _ H K⟨u,q,J,w,A,B,C,D,rfl,g,i⟩ Z4 S;refine sC (LI _ g i) ?_;rintro _ I L⟨Z1,rfl,e⟩ V T;obtain⟨rfl,e⟩|⟨rfl,e⟩|⟨rfl,e⟩:=e;refine zf ?_;exact⟨_,ω,.inl ⟨ω,(P0 x y).1 e⟩⟩;refine zf ?_;exact⟨_,ω,.inr (.inl ⟨ω,(P0 x y).2.1 e⟩)⟩;refine zf ?_;exact⟨_,ω,.inr (.inr ⟨ω,(P0 x y).2.2 e⟩)⟩
def zz1(k:Nat)(h:HF)(n:Nat)(s:List UInt8)(hs:O s<1000000):CX (Ka (k+7)) 70 [CN ⟨⟨s⟩⟩] h n (NQ (zj s)):=by refine zw R4<|Za λy N W=>?_;refine zG ?_;refine sC (PX _ _ _ s hs) ?_;rintro _ A I⟨f,e,o,g,i,j,l,m,p,V,rfl,q,u,v,z12⟩ a1 Z3;cases p;refine Za λB Z1 Z0=>?_;refine sS [U f,Y e o g,U i,Y j l m] λC P J=>?_;refine zG ?_;refine sT #[U χ,η,U χ,η] ?_;refine sS [U χ,η,U χ,η] λD R K=>?_;refine zq ?_;exact(xX (λw=>by cases z12 w)).symm▸NQ.zero _ _;refine Za λF S a0=>?_;refine sS [U f,Y e o g,U i,Y j l m] λG T L=>?_;refine zG ?_;refine sS [U f,Y e o g,U i,Y j l m] λH Z4 M=>?_;refine zq ?_;exact(pA (v ω)).symm▸⟨_,_,_,_,_,_,_,_,ω,q.t,u.t⟩
def numU(k:Nat)(h:HF)(n:Nat)(s:List UInt8)(e:O s<1000000):CX (Ka (k+7)) 70 [CN ⟨⟨s⟩⟩] h n (NQ (zj s)):=zz1 k h n s e
end
section
variable {off:Nat}{ty:TypeId}
structure At (h:HF)(b o:Nat)(c:List ψ):Prop where
 ex:∃x cs,h b=ξ x/\x.cells=ξ cs/\o+O c<=O cs/\(cs.drop o).take (O c)=c
def At.ext{h h':HF}{n o:Nat}{c:List ψ}(a:At h b o c)(x:J9 n h h')(hb:b<3*n):At h' b o c:=by have⟨y,cs,f,g,l,p⟩:=a.ex;exact⟨y,cs,(x b hb).trans f,g,l,p⟩
def At.ld{h:HF}{o:Nat}{c c':List ψ}{sz:Nat}(a:At h b o c)(k:Nat)(p:GL.isAgg Kj ty=ξ φ)(hi:Kj.inf ty=ξ (sz,bt,z))(C:k+sz<=O c)(A:(c.drop k).take sz=c'):yB Kj ty h ⟨b,o+k,θ⟩=ξ (.agg c'.toArray):=by have⟨y,cs,f,g,B,l⟩:=a.ex;refine yw ⟨p,hi⟩ f g Z ?_;rw[<-A,<-l,JF,Hf,EQ];congr 1;omega
def At.ld1{h:HF}{o:Nat}{c:List ψ}(a:At h b o c)(k:Nat)(p:GL.isAgg Kj ty=ξ χ)(A:c[k]?=ξ v):yB Kj ty h ⟨b,o+k,θ⟩=ξ v:=by have⟨y,cs,f,g,B,l⟩:=a.ex;exact wf p f ⟨g,(qG l A)⟩
inductive Rec {D:Type} (sz:Nat) (P:List ψ->D->Prop):List ψ->List D->Prop
 |nil:Rec sz P [] []
 |cons {c cs:List ψ} {d:D} {ds:List D} (hl:O c=sz) (hp:P c d) (hr:Rec sz P cs ds):Rec sz P (c++cs) (d::ds)
section
variable {P P':List ψ->D->Prop}
theorem Rec.len{a:List D}(r:Rec sz P cs a):O cs=O a*sz:=by induction r<;>grind
def Rec.mono{a:List D}(r:Rec sz P cs a)(f:∀c d,P c d->P' c d):Rec sz P' cs a:=by
 induction r with
 |nil=>exact .nil
 |cons hl hp hr ih=>exact .cons hl (f _ _ hp) ih
def Rec.snoc{c:List ψ}{a:List D}{d:D}(r:Rec sz P cs a)(f:O c=sz)(g:P c d):Rec sz P (cs++c) (a++[d]):=by
 induction r with
 |nil=>
  have:=Rec.cons f g (Rec.nil);rw[Do]at this;exact this
 |cons hl2 hp2 hr ih=>rw[Dp];exact .cons hl2 hp2 ih
def Rec.get{f:List D}{d:D}(r:Rec sz P cs f):∀{j:Nat},f[j]?=ξ d->∃c,O c=sz/\P c d/\(cs.drop (j*sz)).take sz=c/\j*sz+sz<=O cs:=by
 induction r with
 |nil=>intro j a;simp at a
 | @cons c cs d2 f hl hp hr ih=>
  intro j a;cases j with
  |zero=>
   simp at a;subst a;refine⟨c,hl,hp,?_,by rw[CP];omega⟩;rw[D2,DH,<-hl,List.take_left]
  |succ j=>
   rw[List.getElem?_cons_succ]at a;have⟨g,l,p,A,B⟩:=ih a;refine⟨g,l,p,?_,by rw[CP,EM];omega⟩;rw[<-A,Je,Fa aD,DP,EM,hl,FV]
end
def RS{D:Type}(sz:Nat)(P:List ψ->D->HF->Nat->Prop)(h:HF)(n:Nat)(v:ψ)(l:List D):Prop:=∃cells,Sl h n sz v cells/\Rec sz (λc d=>P c d h n) cells l
structure Stay {D:Type}(P:List ψ->D->HF->Nat->Prop):Prop where
 go:∀c d h h' n n',P c d h n->J9 n h h'->n<=n'->P c d h' n'
section
variable {P:List ψ->D->HF->Nat->Prop}{h h':HF}{n n':Nat}
def RS.ext'(A:Stay P){l:List D}(r:RS sz P h n v l)(x:J9 n h h')(f:n<=n'):RS sz P h' n' v l:=by have⟨a,g,p⟩:=r;exact⟨a,g.ext x f,p.mono λc d B=>A.go c d _ _ _ _ B x f⟩
def RS.len'(f:0<sz){a:Option Addr}{len:Nat}{l:List D}(r:RS sz P h n (Y a len cap) l):len=O l:=by have⟨g,p,A⟩:=r;have⟨B,F,C,e,c⟩:=p.len;injection e with e1 e2 e3;subst e2;rw[A.len]at c;exact(Nat.eq_of_mul_eq_mul_right f c).symm
def RS.at'(A:0<sz){a:Option Addr}{len:Nat}{l:List D}{d:D}(r:RS sz P h n (Y a len cap) l)(hj:l[j]?=ξ d):∃b off c,a=ξ ⟨b,off,θ⟩/\b<3*n/\j<len/\At h b (off+j*sz) c/\O c=sz/\P c d h n:=by have f:=r.len' A;have⟨B,G,g⟩:=r;have M:=(CQ.1 hj).1;obtain⟨b,off,x,cs,rfl,H,L,I,J,N,K⟩:=G.inv Z;have⟨c,p,C,F,Z1⟩:=g.get hj;refine⟨b,off,c,ω,H,Z,⟨x,cs,L,I,?_,?_⟩,p,C⟩;have:=g.len;rw[<-f]at this;omega;rw[p,<-F,<-K,JF,Hf,EQ];have:=g.len;rw[<-f]at this;congr 1;omega
end
def vM{h:HF}{n:Nat}{a:Option Addr}{len:Nat}(r:Sl h n 1 (Y a len cap) (strs S))(hj:S[j]?=ξ s):∃b off,a=ξ ⟨b,off,θ⟩/\b<3*n/\j<len/\At h b (off+j*1) [CN ⟨⟨s⟩⟩]:=by
 have G:=(CQ.1 hj).1;have C:=z8 r;obtain⟨b,off,x,cs,rfl,l,F,p,A,H,B⟩:=r.inv Z;refine⟨b,off,ω,l,Z,⟨x,cs,F,p,by show off+j*1+1<=_;omega,?_⟩⟩;show(cs.drop (off+j*1)).take 1=_;have g:(strs S)[j]?=ξ (CN ⟨⟨s⟩⟩):=by rw[strs,DC,hj];rfl
 have c:=qG B g;rw[DL];have f:off+j<O cs:=Z;rw[EL f];rw[CK f]at c;injection c with c;rw[c];rfl
def ratP(c:List ψ)(q:Rat)(h:HF)(n:Nat):Prop:=∃b a l k d e f g,c=[U b,Y a l k,U d,Y e f g]/\IW h n b a l k q.num/\IW h n d e f g (denZ q)
def ratP.stay:Stay ratP:=⟨λ_ _ _ _ _ _ ⟨b,a,l,k,d,e,f,g,p,i,j⟩ x c=>⟨b,a,l,k,d,e,f,g,p,i.ext x c,j.ext x c⟩⟩
def numP(c:List ψ)(q:Rat)(h:HF)(n:Nat):Prop:=∃b a l k d e f g,c=[U b,Y a l k,U d,Y e f g]/\UI h n b a l k q.num/\UI h n d e f g (denZ q)
def numP.stay:Stay numP:=⟨λ_ _ _ _ _ _ ⟨b,a,l,k,d,e,f,g,p,i,j⟩ x c=>⟨b,a,l,k,d,e,f,g,p,i.ext x c,j.ext x c⟩⟩
def QS(h:HF)(n:Nat)(v:ψ)(l:List Rat):Prop:=RS 4 ratP h n v l
def NS(h:HF)(n:Nat)(v:ψ)(l:List Rat):Prop:=RS 4 numP h n v l
section
variable {h h':HF}{n n':Nat}
def QS.ext{l:List Rat}(r:QS h n v l)(x:J9 n h h')(a:n<=n'):QS h' n' v l:=RS.ext' ratP.stay r x a
def NS.ext{l:List Rat}(r:NS h n v l)(x:J9 n h h')(a:n<=n'):NS h' n' v l:=RS.ext' numP.stay r x a
def QS.len{a:Option Addr}{len:Nat}{l:List Rat}(r:QS h n (Y a len cap) l):len=O l:=RS.len' zd r
def NS.len{a:Option Addr}{len:Nat}{l:List Rat}(r:NS h n (Y a len cap) l):len=O l:=RS.len' zd r
def QS.at{a:Option Addr}{len:Nat}{l:List Rat}(r:QS h n (Y a len cap) l)(hj:l[j]?=ξ q):∃p off b A B k d e f g,a=ξ ⟨p,off,θ⟩/\p<3*n/\j<len/\At h p (off+j*4) [U b,Y A B k,U d,Y e f g]/\IW h n b A B k q.num/\IW h n d e f g (denZ q):=by exact BZ
def NS.at{a:Option Addr}{len:Nat}{l:List Rat}(r:NS h n (Y a len cap) l)(hj:l[j]?=ξ q):∃p off b A B k d e f g,a=ξ ⟨p,off,θ⟩/\p<3*n/\j<len/\At h p (off+j*4) [U b,Y A B k,U d,Y e f g]/\UI h n b A B k q.num/\UI h n d e f g (denZ q):=by exact BZ
end
section
variable {h:HF}{n:Nat}{d:Tmp}
theorem P1{x i:Operand}{len sz:Nat}(a:nJ X ops t o d (o.op=.indexAddr ty x i/\X.E.und ty=ξ (.slice e)/\X.E.inf e=ξ (sz,bt,z)/\J8 t x=Y aq len cap/\J8 t i=CJ ik (j:Int)/\aq=ξ ⟨b,off,θ⟩))(F:j<len)(k:EO X ops r ⟨upd t d (CM (ξ ⟨b,off+j*sz,θ⟩)),h,n,w⟩ Q):EO X ops (o::r) ⟨t,h,n,w⟩ Q:=by
 obtain⟨a,f,p,A,B,g,C,l,c⟩:=a;subst c;exact LC ⟨a,f,p,A,B,g,C,l⟩ Z k
end
section
variable {h:HF}{n:Nat}{ld:List (Nat×Nat)}{d:Tmp}
def Tq{x:Operand}{len sz:Nat}(A:zh ops t o=φ)(g:o.dst=ξ d)(l:zv X.nt (ξ d)=φ)(a:o.op=.indexAddr ty x y)(p:X.E.und ty=ξ (.slice e))(hi:X.E.inf e=ξ (sz,bt,z))
  (hx:J8 t x=Y aq len cap)(hj:J8 t y=CJ ik (j:Int))(f:aq=ξ ⟨b,off,θ⟩)(B:j<len)(k:ED X ops r ms (i+1) ⟨⟨upd t d (CM (ξ ⟨b,off+j*sz,θ⟩)),h,n,w⟩,al,ld,ef⟩ Q):ED X ops (o::r) (m::ms) i ⟨⟨t,h,n,w⟩,al,ld,ef⟩ Q:=by subst f;refine yQ A g l (by rw[a];rfl) ?_ k;have c:(0:Int)<=(j:Int)/\(j:Int)<(len:Int):=Z;rw[a];show yV X.E ty (J8 t x) (J8 t y)=_;rw[hx,hj];simp only[yV,p,hi,Cx c,wO,En]
end
def QS.x{h h':HF}{n n':Nat}{l:List Rat}(r:QS h n v l)(t:Tx n h n' h':=by exact zx):QS h' n' v l:=r.ext t.2 t.1
def NS.x{h h':HF}{n n':Nat}{l:List Rat}(r:NS h n v l)(t:Tx n h n' h':=by exact zx):NS h' n' v l:=r.ext t.2 t.1
def At.x{h h':HF}{n n' o:Nat}{c:List ψ}(a:At h b o c)(t:Tx n h n' h')(hb:b<3*n):At h' b o c:=a.ext t.2 hb
theorem At.lG{h:HF}{o sz:Nat}{c:List ψ}{r:List ψ}(L:List ψ)(a:At h b o c)(g:GL.isAgg Kj ty=ξ φ)(hi:Kj.inf ty=ξ (sz,bt,z))(l:c.drop k=L++r)(A:L.length=sz)(p:0<L.length:=by exact Nat.succ_pos _):yB Kj ty h ⟨b,o+k,θ⟩=ξ (.agg L.toArray):=by have f:=congrArg List.length l;rw[List.length_drop,List.length_append]at f;exact a.ld k g hi Z (c':=L) (by grind)
def At.l2{h:HF}{o:Nat}{c:List ψ}{r:List ψ}(a:At h b o c)(f:GL.isAgg Kj ty=ξ φ)(hi:Kj.inf ty=ξ (2,bt,z))(g:c.drop k=x1::x2::r):yB Kj ty h ⟨b,o+k,θ⟩=ξ (.agg #[x1,x2]):=a.lG [x1,x2] f hi g rfl
def At.l3{h:HF}{o:Nat}{c:List ψ}{r:List ψ}(a:At h b o c)(f:GL.isAgg Kj ty=ξ φ)(hi:Kj.inf ty=ξ (3,bt,z))(g:c.drop k=x1::x2::x3::r):yB Kj ty h ⟨b,o+k,θ⟩=ξ (.agg #[x1,x2,x3]):=a.lG [x1,x2,x3] f hi g rfl
def At.l4{h:HF}{o:Nat}{c:List ψ}{r:List ψ}(a:At h b o c)(f:GL.isAgg Kj ty=ξ φ)(hi:Kj.inf ty=ξ (4,bt,z))(g:c.drop k=x1::x2::x3::x4::r):yB Kj ty h ⟨b,o+k,θ⟩=ξ (.agg #[x1,x2,x3,x4]):=a.lG [x1,x2,x3,x4] f hi g rfl
def At.l11{h:HF}{o:Nat}{c:List ψ}{l p A f g:ψ}{r:List ψ}(a:At h b o c)(B:GL.isAgg Kj ty=ξ φ)(hi:Kj.inf ty=ξ (11,bt,z))(C:c.drop k=x1::x2::x3::x4::x5::x6::l::p::A::f::g::r):yB Kj ty h ⟨b,o+k,θ⟩=ξ (.agg #[x1,x2,x3,x4,x5,x6,l,p,A,f,g]):=a.lG [x1,x2,x3,x4,x5,x6,l,p,A,f,g] B hi C rfl
section
variable {h:HF}{n:Nat}{d:Tmp}
def sI{x0 a:Operand}{len sz:Nat}(c:aq=ξ ⟨b,off,θ⟩)(f:j<len)(k:EO X ops r ⟨upd t d (.pointer (ξ ⟨b,off+j*sz,θ⟩)),h,n,w⟩ Q)(g:zh ops t o=φ:=by rfl)(hd:o.dst=ξ d:=by rfl)(hn:zv X.nt (ξ d)=φ:=by rfl)(ho:o.op=.indexAddr ty x0 a:=by rfl)(hu:X.E.und ty=ξ (.slice e):=by rfl)(hi:X.E.inf e=ξ (sz,bt,z):=by rfl)(hx:J8 t x0=.slice aq len cap:=by rfl)(hj:J8 t a=.int ik (j:Int):=by rfl):EO X ops (o::r) ⟨t,h,n,w⟩ Q:=P1 ⟨g,hd,hn,ho,hu,hi,hx,hj,c⟩ f k
def sL{x0:Operand}{f:Nat}{c:List ψ}(a:At h0 b f c)(hb:b<3*n0)(g:Nat)(k:EO X ops r ⟨upd t d v,h,n,w⟩ Q)(l:zh ops t o=φ:=by rfl)(hd:o.dst=ξ d:=by rfl)(hn:zv X.nt (ξ d)=φ:=by rfl)(ho:o.op=.load ty x0:=by rfl)(hx:J8 t x0=.pointer (ξ ⟨b,f+g,θ⟩):=by rfl)(tx:Tx n0 h0 n h:=by exact zx)(hv:At h b f c->yB X.E ty h ⟨b,f+g,θ⟩=ξ v:=by intro a;first|exact a.ld1 _ ω rfl|exact a.l1 ω ω rfl|exact a.l2 ω ω rfl|exact a.l3 ω ω rfl|exact a.l4 ω ω rfl|exact a.l5 ω ω rfl|exact a.l10 ω ω rfl|exact a.l11 ω ω ω):EO X ops (o::r) ⟨t,h,n,w⟩ Q:=z7 ⟨l,hd,hn,ho,hx⟩ (hv (a.x tx hb)) k
end
section
variable {h:HF}{n:Nat}{ld:List (Nat×Nat)}{d:Tmp}
def dI{x0 a:Operand}{len sz:Nat}(c:aq=ξ ⟨b,off,θ⟩)(f:j<len)(k:ED X ops r ms (i+1) ⟨⟨upd t d (.pointer (ξ ⟨b,off+j*sz,θ⟩)),h,n,w⟩,al,ld,ef⟩ Q)(g:zh ops t o=φ:=by rfl)(hd:o.dst=ξ d:=by rfl)(hn:zv X.nt (ξ d)=φ:=by rfl)(ho:o.op=.indexAddr ty x0 a:=by rfl)(hu:X.E.und ty=ξ (.slice e):=by rfl)(hi:X.E.inf e=ξ (sz,bt,z):=by rfl)(hx:J8 t x0=.slice aq len cap:=by rfl)(hj:J8 t a=.int ik (j:Int):=by rfl):ED X ops (o::r) (m::ms) i ⟨⟨t,h,n,w⟩,al,ld,ef⟩ Q:=Tq g hd hn ho hu hi hx hj c f k
def dL{x0:Operand}{A f:Nat}{c:List ψ}(a:At h0 b f c)(hb:b<3*n0)(l:Nat)(k:ED X ops r ms (i+1) ⟨⟨upd t d v,h,n,w⟩,al,(i,b)::ld,ef⟩ Q)(p:zh ops t o=φ:=by rfl)(hd:o.dst=ξ d:=by rfl)(hn:zv X.nt (ξ d)=φ:=by rfl)(ho:o.op=.load ty x0:=by rfl)(hx:J8 t x0=.pointer (ξ ⟨b,f+l,θ⟩):=by rfl){g:HF}(hr:wn m ef i h=(u,g):=by rfl)(tx:Tx n0 h0 A g:=by exact zx)(hv:At g b f c->yB X.E ty g ⟨b,f+l,θ⟩=ξ v:=by intro a;first|exact a.ld1 _ ω rfl|exact a.l1 ω ω rfl|exact a.l2 ω ω rfl|exact a.l3 ω ω rfl|exact a.l4 ω ω rfl|exact a.l5 ω ω rfl|exact a.l10 ω ω rfl|exact a.l11 ω ω ω)(h1:Lz u b ef=φ:=by rfl)(h2:qn m b al=φ:=by rfl):ED X ops (o::r) (m::ms) i ⟨⟨t,h,n,w⟩,al,ld,ef⟩ Q:=yd ⟨p,hd,hn,ho,hx,hr⟩ (hv (a.x tx hb)) ⟨h1,h2⟩ k
end
end
section
variable {ty:TypeId}{x:Operand}
section
variable {h:HF}{n:Nat}{d:Tmp}
def un{a b:List UInt8}(c:Bool)(e:nJ X ops t o d (o.op=.binOp .eql ty x y ty'/\J8 t x=CN ⟨⟨a⟩⟩/\J8 t y=CN ⟨⟨b⟩⟩))(j:(a==b)=c)
  (k:EO X ops r ⟨upd t d (U c),h,n,w⟩ Q):EO X ops (o::r) ⟨t,h,n,w⟩ Q:=by have⟨e,g,i,f,l,m⟩:=e;refine zZ ⟨e,g,i,sP⟩ ?_ k;rw[f];show binE X.E .eql ty (J8 t x) (J8 t y)=_;rw[l,m,<-j];rfl
def OG{a b:List UInt8}(c:Bool)(e:nJ X ops t o d (o.op=.binOp .neq ty x y ty'/\J8 t x=CN ⟨⟨a⟩⟩/\J8 t y=CN ⟨⟨b⟩⟩))(j:(!(a==b))=c)
  (k:EO X ops r ⟨upd t d (U c),h,n,w⟩ Q):EO X ops (o::r) ⟨t,h,n,w⟩ Q:=by have⟨e,g,i,f,l,m⟩:=e;refine zZ ⟨e,g,i,sP⟩ ?_ k;rw[f];show binE X.E .neq ty (J8 t x) (J8 t y)=_;rw[l,m,<-j];rfl
end
def VX(C:CalF)(f:FuncId)(args:List ψ)(h:HF)(n:Nat)(P:ψ->Prop):Prop:=CF C f args h n λv h' n' w=>w=[]/\n<=n'/\J9 n h h'/\P v
def yR{P:ψ->Prop}{e:Ex}{t:TF}{h:HF}{n:Nat}{a f:Tmp}{i:TypeId}(u:ψ)(c:rI e=φ/\fn.results.toList=[.cell a ty,.tmp f]/\t a=ι b/\t f=u/\GL.isAgg Kj ty=ξ φ/\Kj.inf ty=ξ (sz,bt,z))(hb:h' b=ξ (.row cs i))(C:O cs=sz)(p:n<=n')(hx:J9 n h h')(q:P (.tuple #[.agg cs.toArray,u])):RetH fn (λv h' n' w=>w=[]/\n<=n'/\J9 n h h'/\P v) e ⟨t,h',n',[]⟩:=by have⟨c,A,j,g,l,m⟩:=c;refine retH [.agg cs.toArray,u] ⟨c,?_,ω⟩ ⟨ω,p,hx,q⟩;rw[A];have B:=yw ⟨l,m⟩ hb ω (show 0+sz<=O cs from Z) (show(cs.drop 0).take sz=cs by rw[DH,CR Z]);simp only[resF,j,g,B]
def zev(k:Nat)(h:HF)(n:Nat)(s:List UInt8):VF (Ka (k+1)) 193 [CN ⟨⟨s⟩⟩,CN ⟨⟨[45]⟩⟩] h n λv=>v=U (z6 s):=by
 refine zO R4<|mL ?_;cases s with
 |nil=>
  refine zM ?_;refine st_I (ik:=.i64) (a:=0) R5<|zM ?_;refine st_I (ik:=.i64) (a:=1) R5<|my ?_;exact BC
 |cons x s=>
  refine zM ?_;refine st_I (ik:=.i64) (a:=(O (x::s):Int)) R5<|zM ?_;refine st_I (ik:=.i64) (a:=1) R5<|jD R6 aD ?_;refine Zs ?_;refine st_I (ik:=.i64) (a:=1) R5<|NH (s:=x::s) (j:=1) R8 eF ?_;refine zM ?_;refine un (a:=[x]) (b:=[45]) (x==45) R6 eF ?_;refine my ?_;exact retF _ ω (zi ω) R2 (by show U _=U _;simp[z6])
theorem zeg(h:z6 s=φ):1<=O s:=by grind [z6]
def zbv(k:Nat)(h:HF)(n:Nat)(s:List UInt8):VF (Ka (k+2)) 173 [CN ⟨⟨s⟩⟩,CN ⟨⟨[45]⟩⟩] h n λv=>v=.tuple #[CN ⟨⟨xB s⟩⟩,U (z6 s)]:=by refine zO R4<|mL ?_;refine mM ?_;refine yi _ R5 (zev k h n s) ?_;rintro _ rfl;by_cases hm:z6 s=φ;rw[hm];refine Zt ?_;refine st_I (ik:=.i64) (a:=1) R5<|u4 (s:=s) (j:=1) R8 (zeg hm)<|my ?_;refine retF [CN ⟨⟨s.drop 1⟩⟩,U φ] ω ω R2 ?_;unfold xB;rw[Cx hm];rfl;rw[Bool.eq_false_iff.2 hm];refine Zg ?_;refine retF [CN ⟨⟨s⟩⟩,U χ] ω ω R2 ?_;unfold xB;rw[Cs hm];rfl
def zfz(k:Nat)(h:HF)(n:Nat)(s:List UInt8):VF (Ka (k+3)) 149 [CN ⟨⟨s⟩⟩,CN ⟨⟨[45]⟩⟩] h n λv=>v=.tuple #[CN ⟨⟨xB s⟩⟩,U (z6 s)]:=by refine zO R4<|mL ?_;refine mM ?_;refine yi _ R5 (zbv k h n s) ?_;rintro _ rfl;refine my ?_;exact retF [CN ⟨⟨xB s⟩⟩,U (z6 s)] ω ω R2 rfl
def zfy(s:List UInt8):∃T D,s.takeWhile Ks=T/\s.dropWhile Ks=D/\s=T++D/\(∀b∈T,Ks b=φ)/\(D=[]\/∃x D',D=x::D'/\Ks x=χ):=by
 refine⟨_,_,ω,ω,GD.symm,um,?_⟩;cases hd:s.dropWhile Ks with
 |nil=>exact .inl rfl
 |cons x D'=>exact .inr ⟨x,D',ω,by
  have:=List.head?_dropWhile_not Ks s;rw[hd]at this;simpa using this⟩
theorem pf(k:Nat)(h:HF)(n:Nat)(s:List UInt8)(I:O s<1000000):VF (Ka (k+1)) 150 [CN ⟨⟨s⟩⟩] h n λv=>v=.tuple #[CN ⟨⟨s.takeWhile Ks⟩⟩,CN ⟨⟨s.dropWhile Ks⟩⟩]:=by
 refine zO R4 ?_;have⟨T,D,u,q,F,l,A⟩:=zfy s;rw[u,q];have g:O s=O T+O D:=by grind
 refine Zp ?_;refine ye (α:=Nat) (λm=>[(0,CN ⟨⟨s⟩⟩),(4,CJ .i64 (m:Int))]) (λm h' n' w=>h=h'/\n=n'/\w=[]/\m<=O T) (λm=>O T-m) 0 P2 ⟨ω,ω,ω,CH⟩ (by show O T-0<LL;unfold LL;omega) ?_;rintro m t _ _ _⟨rfl,rfl,rfl,H⟩;refine Zi ?_;refine st_I (ik:=.i64) (a:=(O s:Int)) R5 ?_;have C:∀t':TF,t' 0=CN ⟨⟨s⟩⟩->m=O T->True:=λ_ _ _=>trivial;by_cases hmT:m=O T;have e:s.take m=T:=by grind
 have c:s.drop m=D:=by grind
 obtain rfl|⟨x,p,rfl,i⟩:=A;rw[Gq]at g;refine iU ?_;rw[wb rfl];refine mM ?_;refine NH (s:=s) (j:=m) R8 Z<|mM ?_;refine u4 (s:=s) (j:=m) R8 Z ?_;rw[e,c];refine my ?_;exact retF [CN ⟨⟨T⟩⟩,CN ⟨⟨[]⟩⟩] ω ω R2 rfl;rw[DN]at g;have f:s[m]?=ξ x:=by grind
 have G:¬(48<=x.toNat/\x.toNat<=57):=λh=>by rw[nh.2 h]at i;cases i
 refine jC R6 Z<|Zs ?_;refine yH (j:=m) R8 f ?_;by_cases B:48<=x.toNat;refine oa R6 Z ?_;repeat refine zR ?_
 refine yH (j:=m) R8 f<|iU ?_;exact BK;refine mD R6 Z<|iU ?_;exact BK;obtain⟨x,i⟩:∃x,T[m]?=ξ x:=⟨T[m]'Z,CK Z⟩;have f:s[m]?=ξ x:=by grind
 have B:=nh.1 (l x (CL i));refine jC R6 Z<|Zs ?_;refine yH (j:=m) R8 f<|oa R6 Z ?_;repeat refine zR ?_
 refine yH (j:=m) R8 f<|Zg ?_;exact goOn (m+1) Z P2 ⟨ω,ω,ω,by show m+1<=_;omega⟩
def LJ(mi:Bool)(m r:List UInt8):List UInt8×List UInt8×Bool:=
 if m=[48]then(m,[],!mi&&r.isEmpty)
 else if m=[]\/m.head?=ξ 48 then(m,[],χ)
 else if r=[]then(m,[],φ)
 else if r.head?≠ξ 47 then(m,[],χ)
 else(m,(r.drop 1).takeWhile Ks,((r.drop 1).dropWhile Ks).isEmpty&& !((r.drop 1).takeWhile Ks).isEmpty&&((r.drop 1).takeWhile Ks).head? != ξ 48&&(r.drop 1).takeWhile Ks != [49])
def zl9(s:List UInt8):KX s=LJ (z6 s) ((xB s).takeWhile Ks) ((xB s).dropWhile Ks):=rfl
theorem eo{x:UInt8}{l:List UInt8}{c:UInt8}(h:x.toNat≠c.toNat):(x::l).head?≠ξ c:=λe=>h (by
 have:x=c:=by simpa using e
 rw[this])
theorem cn(k:Nat)(h:HF)(n:Nat)(s:List UInt8)(J:O s<1000000):VX (Ka (k+4)) 116 [CN ⟨⟨s⟩⟩] h n λv=>v=.tuple #[.agg #[U (z6 s),CN ⟨⟨(KX s).1⟩⟩,CN ⟨⟨(KX s).2.1⟩⟩],U (KX s).2.2]:=by
 refine zw R4 ?_;rw[zl9];have A:=Sx s;refine zN ?_;refine xV R5<|my ?_;refine xV R5<|zN ?_;generalize hh:upd (upd h (3*n+2) _) (3*(n+1)+2) _=h1;have a:∃e,h1 (3*n+2)=ξ (.row [U χ,CN ⟨⟨[]⟩⟩,CN ⟨⟨[]⟩⟩] e):=⟨_,by rw[<-hh,zm Z,zg];rfl⟩;have f:∃e,h1 (3*(n+1)+2)=ξ (.row [U χ,CN ⟨⟨[]⟩⟩,CN ⟨⟨[]⟩⟩] e):=⟨_,kF⟩;have⟨p,a⟩:=a;have⟨q,f⟩:=f;have g:J9 n h h1:=λb c=>by rw[<-hh,zm Z,zm Z]
 refine zM ?_;refine yi _ R5 (zfz k h1 (n+1+1) s) ?_;rintro _ rfl;generalize xB s=B at A⊢;generalize z6 s=mi;refine hH ?_;refine yF (cs:=[U mi]) R8 f zb gQ ?_;refine zN ?_;generalize hh:upd h1 (3*(n+1)+2) _=h2;replace a:h2 (3*n+2)=ξ (.row [U χ,CN ⟨⟨[]⟩⟩,CN ⟨⟨[]⟩⟩] p):=by rw[<-hh,zm Z];exact a
 replace f:h2 (3*(n+1)+2)=ξ (.row [U mi,CN ⟨⟨[]⟩⟩,CN ⟨⟨[]⟩⟩] q):=by rw[<-hh,zg];rfl
 replace g:J9 n h h2:=λb c=>by rw[<-hh,zm Z,g b c]
 refine zM ?_;refine yi _ R5 (pf (k+2) h2 (n+1+1) B Z) ?_;rintro _ rfl;have m:O (B.dropWhile Ks)<=O B:=(List.dropWhile_sublist Ks).length_le;generalize B.takeWhile Ks=M;generalize B.dropWhile Ks=R at m⊢;repeat refine zR ?_
 refine yF (cs:=[CN ⟨⟨M⟩⟩]) R8 f zb gQ ?_;generalize hh:upd h2 (3*(n+1)+2) _=h3;replace a:h3 (3*n+2)=ξ (.row [U χ,CN ⟨⟨[]⟩⟩,CN ⟨⟨[]⟩⟩] p):=by rw[<-hh,zm Z];exact a
 replace f:h3 (3*(n+1)+2)=ξ (.row [U mi,CN ⟨⟨M⟩⟩,CN ⟨⟨[]⟩⟩] q):=by rw[<-hh,zg];rfl
 replace g:J9 n h h3:=λb c=>by rw[<-hh,zm Z,g b c]
 refine hH ?_;refine zT R6 f (v:=CN ⟨⟨M⟩⟩) R2 ?_;have i:yB Kj 165 h3 ⟨3*(n+1)+2,0,θ⟩=ξ (.agg #[U mi,CN ⟨⟨M⟩⟩,CN ⟨⟨[]⟩⟩]):=yw R2 f ω zb rfl;by_cases h48:M=[48]
 .refine un φ R6 (by rw[h48];rfl) ?_;refine Zd ?_;refine z7 (v:=.agg #[U mi,CN ⟨⟨M⟩⟩,CN ⟨⟨[]⟩⟩]) R5 i ?_;cases mi with
  |true=>
   repeat refine zR ?_
   refine yc [U φ,CN ⟨⟨M⟩⟩,CN ⟨⟨[]⟩⟩] R7 ω a ω eC ?_;refine my ?_;refine yR (U χ) R6 (zg _ _ _) ω Z (λb c=>(zm Z).trans (g b c)) ?_
   grind [LJ]
  |false=>
   cases R with
   |nil=>
    repeat refine zR ?_
    refine yc [U χ,CN ⟨⟨M⟩⟩,CN ⟨⟨[]⟩⟩] R7 ω a ω eC ?_;refine my ?_;refine yR (U φ) R6 (zg _ _ _) ω Z (λb c=>(zm Z).trans (g b c)) ?_
    grind [LJ]
   |cons z R=>
    repeat refine zR ?_
    refine yc [U χ,CN ⟨⟨M⟩⟩,CN ⟨⟨[]⟩⟩] R7 ω a ω eC ?_;refine my ?_;refine yR (U χ) R6 (zg _ _ _) ω Z (λb c=>(zm Z).trans (g b c)) ?_
    grind [LJ]
 refine un χ R6 (by simpa using h48) ?_;refine Zo ?_;refine zT R6 f (v:=CN ⟨⟨M⟩⟩) R2 ?_;have F:∀t':TF,LJ mi M R=(M,[],χ)->True:=λ_ _=>trivial;cases M with
 |nil=>
  refine Zd ?_;refine z7 (v:=.agg #[U mi,CN ⟨⟨[]⟩⟩,CN ⟨⟨[]⟩⟩]) R5 i ?_;refine yc [U mi,CN ⟨⟨[]⟩⟩,CN ⟨⟨[]⟩⟩] R7 ω a ω eC ?_;refine my ?_;refine yR (U χ) R6 (zg _ _ _) ω Z (λb c=>(zm Z).trans (g b c)) ?_
  grind [LJ]
 |cons y M=>
 repeat refine zR ?_
 refine zT R6 f (v:=CN ⟨⟨y::M⟩⟩) R2 ?_;refine yH (s:=y::M) (j:=0) R8 ω ?_;by_cases hy:y.toNat=48
 .have G:y=48:=G4.1 hy;refine Zd ?_;refine z7 (v:=.agg #[U mi,CN ⟨⟨y::M⟩⟩,CN ⟨⟨[]⟩⟩]) R5 i ?_;refine yc [U mi,CN ⟨⟨y::M⟩⟩,CN ⟨⟨[]⟩⟩] R7 ω a ω eC ?_;refine my ?_;refine yR (U χ) R6 (zg _ _ _) ω Z (λb c=>(zm Z).trans (g b c)) ?_
  grind [LJ]
 have H:¬(y::M=[]\/(y::M).head?=ξ 48):=by grind [eo]
 refine iU ?_;cases R with
 |nil=>
  refine Zd ?_;refine z7 (v:=.agg #[U mi,CN ⟨⟨y::M⟩⟩,CN ⟨⟨[]⟩⟩]) R5 i ?_;refine yc [U mi,CN ⟨⟨y::M⟩⟩,CN ⟨⟨[]⟩⟩] R7 ω a ω eC ?_;refine my ?_;refine yR (U φ) R6 (zg _ _ _) ω Z (λb c=>(zm Z).trans (g b c)) ?_
  grind [LJ]
 |cons z R=>
 refine Zr ?_;refine yH (s:=z::R) (j:=0) R8 ω ?_;by_cases hz:z.toNat=47;case neg=>
  refine Zd ?_;refine z7 (v:=.agg #[U mi,CN ⟨⟨y::M⟩⟩,CN ⟨⟨[]⟩⟩]) R5 i ?_;refine yc [U mi,CN ⟨⟨y::M⟩⟩,CN ⟨⟨[]⟩⟩] R7 ω a ω eC ?_;refine my ?_;refine yR (U χ) R6 (zg _ _ _) ω Z (λb c=>(zm Z).trans (g b c)) ?_
  grind [LJ,eo]
 have C:LJ mi (y::M) (z::R)=(y::M,R.takeWhile Ks,(R.dropWhile Ks).isEmpty&& !(R.takeWhile Ks).isEmpty&&(R.takeWhile Ks).head? != ξ 48&&R.takeWhile Ks != [49]):=by
  have I:z=47:=G4.1 hz
  grind [LJ]
 rw[C];rw[DN]at m;refine Zr ?_;refine u4 (s:=z::R) (j:=1) R8 eF ?_;rw[show(z::R).drop 1=R from rfl];refine yi _ R5 (pf (k+2) h3 (n+1+1) R Z) ?_;rintro _ rfl;generalize R.takeWhile Ks=D;generalize R.dropWhile Ks=E;repeat refine zR ?_
 refine yF (cs:=[CN ⟨⟨D⟩⟩]) R8 f zb gQ ?_;generalize hh:upd h3 (3*(n+1)+2) _=h4;replace a:h4 (3*n+2)=ξ (.row [U χ,CN ⟨⟨[]⟩⟩,CN ⟨⟨[]⟩⟩] p):=by rw[<-hh,zm Z];exact a
 replace f:h4 (3*(n+1)+2)=ξ (.row [U mi,CN ⟨⟨y::M⟩⟩,CN ⟨⟨D⟩⟩] q):=by rw[<-hh,zg];rfl
 replace g:J9 n h h4:=λb c=>by rw[<-hh,zm Z,g b c]
 refine my ?_;refine zl ?_;refine yd (v:=.agg #[U mi,CN ⟨⟨y::M⟩⟩,CN ⟨⟨D⟩⟩]) R6 (yw R2 f ω zb ω) R2 ?_;cases E with
 |cons x E=>
  repeat (first|refine yd R6 (wf ω f R2) R2 ?_|refine zD ?_)
  refine jX (cs:=[U mi,CN ⟨⟨y::M⟩⟩,CN ⟨⟨D⟩⟩]) R7 ω a zb eC R3 ?_;repeat refine zD ?_
  refine zN ?_;exact yR (U χ) (cs:=[U mi,CN ⟨⟨y::M⟩⟩,CN ⟨⟨D⟩⟩]) R6 (zg _ _ _) ω Z (λb c=>(zm Z).trans (g b c)) rfl
 |nil=>
 cases D with
 |nil=>
  repeat (first|refine yd R6 (wf ω f R2) R2 ?_|refine zD ?_)
  refine jX (cs:=[U mi,CN ⟨⟨y::M⟩⟩,CN ⟨⟨[]⟩⟩]) R7 ω a zb eC R3 ?_;repeat refine zD ?_
  refine zN ?_;exact yR (U χ) (cs:=[U mi,CN ⟨⟨y::M⟩⟩,CN ⟨⟨[]⟩⟩]) R6 (zg _ _ _) ω Z (λb c=>(zm Z).trans (g b c)) rfl
 |cons u D=>
 by_cases hu:u.toNat=48
 .have l:u=48:=G4.1 hu;repeat (first|refine yd R6 (wf ω f R2) R2 ?_|refine zD ?_)
  refine jX (cs:=[U mi,CN ⟨⟨y::M⟩⟩,CN ⟨⟨u::D⟩⟩]) R7 ω a zb eC R3 ?_;repeat refine zD ?_
  refine zN ?_;refine yR (U χ) (cs:=[U mi,CN ⟨⟨y::M⟩⟩,CN ⟨⟨u::D⟩⟩]) R6 (zg _ _ _) ω Z (λb c=>(zm Z).trans (g b c)) ?_;rw[l];rfl
 have l:((u::D).head? != ξ 48)=φ:=by grind [eo]
 repeat (first|refine yd R6 (wf ω f R2) R2 ?_|refine zD ?_)
 refine jX (cs:=[U mi,CN ⟨⟨y::M⟩⟩,CN ⟨⟨u::D⟩⟩]) R7 ω a zb eC ⟨ω,ω,(fR aD)⟩ ?_;repeat refine zD ?_
 refine zN ?_;refine yR (U (u::D != [49])) (cs:=[U mi,CN ⟨⟨y::M⟩⟩,CN ⟨⟨u::D⟩⟩]) R6 (zg _ _ _) ω Z (λb c=>(zm Z).trans (g b c)) ?_;rw[l];rfl
end
def dotR:List Rat->List Rat->Rat
 |x::xs,y::ys=>x*y+dotR xs ys
 |_,_=>0
def kV(ys:List Rat):dotR [] ys=0:=by cases ys<;>rfl
def zfp:∀{xs ys:List Rat} {x y:Rat},O xs=O ys->dotR (xs++[x]) (ys++[y])=dotR xs ys+x*y:=by
 intro xs;induction xs with
 |nil=>
  intro ys x y h;cases ys with
  |nil=>show x*y+0=0+x*y;rw[Rat.add_zero,Rat.zero_add]
  |cons _ _=>cases h
 |cons a xs ih=>
  intro ys x y h;cases ys with
  |nil=>cases h
  |cons b ys=>
   show a*b+dotR (xs++[x]) (ys++[y])=a*b+dotR xs ys+x*y;rw[ih (by simpa using h),Rat.add_assoc]
def xa{l:List α}{d:α}(h:l[j]?=ξ d):l.take (j+1)=l.take j++[d]:=by rw[ac1,h];rfl
def wK{x y:Rat}(hx:xs[j]?=ξ x)(c:ys[j]?=ξ y):dotR (xs.take (j+1)) (ys.take (j+1))=dotR (xs.take j) (ys.take j)+x*y:=by rw[xa hx,xa c];have d:=(CQ.1 hx).1;have e:=(CQ.1 c).1;exact zfp aD
def nf(hx:∀q∈xs,Sz a q)(e:∀q∈ys,Sz b q):∀j,j<=O xs->j<=O ys->Sz (1+j*(a+b+1)) (dotR (xs.take j) (ys.take j)):=by
 intro j;induction j with
 |zero=>intro _ _;rw[EP,kV];exact Sz.zero _ Z
 |succ j ih=>
  intro f g;have c:=CK (l:=xs) (i:=j) Z;have d:=CK (l:=ys) (i:=j) Z;rw[wK c d];refine((ih Z Z).add ((hx _ (CL c)).mul (e _ (CL d)))).mono ?_;rw[EM];omega
def zo5(k:Nat)(h:HF)(n:Nat)(s:List UInt8)(e:O s<1000000):CX (Ka (k+4)) 116 [CN ⟨⟨s⟩⟩] h n λv _ _=>∃neg m d ok,v=.tuple #[.agg #[U neg,CN ⟨⟨m⟩⟩,CN ⟨⟨d⟩⟩],U ok]/\neg=z6 s/\KX s=(m,d,ok):=by refine wc (cn k h n s e) ?_;rintro v f g w⟨a,b,c,rfl⟩;exact⟨a,b,c,_,_,_,_,ω,ω,ω⟩
def Qa(k:Nat)(h:HF)(n:Nat)(m:AllD s)(j:O s<=570):CX (Ka (k+6)) 117 [CN ⟨⟨s⟩⟩] h n (IV ((dval s:Nat):Int)):=by refine wc (Y6 k h n m j) ?_;rintro v o p w⟨a,l,c,L,rfl,⟨b,d,e,f,g⟩,i⟩;refine⟨b,d,e,_,_,_,_,ω,?_,L,f,g,?_⟩;rw[Ae];omega;rw[i];omega
theorem Frm.len{m d:List UInt8}(h:Frm s m d):O m<=O s/\O d<=O s:=by have:=congrArg O h.eq;grind
def kQ{m:List UInt8}(h:AllD m)(a:O m<=600):((dval m:Nat):Int).natAbs<BW:=by rw[C4];refine CZ (qy h) (C5 (CW zd a) ?_);unfold BW;decide+kernel
theorem Qc{m d:List UInt8}(h:KX s=(m,d,χ)):¬vF s:=by grind [oP]
def vR{m d:List UInt8}(h:KX s=(m,d,φ))(c:d=[]):vF s/\(zj s).num=(if z6 s then -(dval m:Int)else dval m)/\denZ (zj s)=0:=by have⟨q,a,e,b⟩:=(rZ h).rat (.inl c);rw[pA a];rw[Cx c]at b;exact⟨⟨q,a⟩,e,yr.2 b⟩
theorem tk{m d:List UInt8}(h:KX s=(m,d,φ))(b:¬d=[])(j:C6 (dval m) (dval d)=1):vF s/\(zj s).num=(if z6 s then -(dval m:Int)else dval m)/\denZ (zj s)=((dval d:Nat):Int):=by have c:=rZ h;have⟨q,f,i,g⟩:=c.rat (.inr j);rw[pA f];rw[Cs b]at g;refine⟨⟨q,f⟩,i,?_⟩;rw[<-g];refine wq (mt yr.1 λe=>?_);obtain a|⟨a,l⟩:=c.den;exact b a;have:=qC c.dd b a;grind [ag]
theorem qp{m d:List UInt8}(h:KX s=(m,d,φ))(a:¬d=[])(b:¬C6 (dval m) (dval d)=1):¬vF s:=by grind [oP]
section
variable {h:HF}{n:Nat}
def TL(s:List UInt8):Prop:=O s<1000000/\∀m d,KX s=(m,d,φ)->O m<=570/\O d<=570
def TL.of(h:O s<500):TL s:=⟨Z,λm d e=>by have:=(rZ e).len;omega⟩
def zpj(k:Nat)(g:GG h n)(hs:TL s):CX (Ka (k+9)) 83 [CN ⟨⟨s⟩⟩] h n λv Z0 n'=>∃b a l c d e f g ok,v=.tuple #[.agg #[U b,Y a l c,U d,Y e f g],U ok]/\IW Z0 n' b a l c (zj s).num/\IW Z0 n' d e f g (denZ (zj s))/\(ok=φ↔vF s):=by refine zw R4<|Za λab br c9=>?_;refine zG ?_;refine sC (zo5 _ _ _ s hs.1) ?_;rintro _ ac b5⟨o,Z4,C,Z3,rfl,z12,i⟩ cm ca;cases Z3;refine Za λad bs cb=>?_;refine sS [U o,CN ⟨⟨Z4⟩⟩,CN ⟨⟨C⟩⟩] λae bt be=>?_;refine zG ?_;refine sT #[U χ,η,U χ,η] ?_;refine sS [U χ,η,U χ,η] λaf bu bf=>?_;refine zq ?_;exact⟨_,_,_,_,_,_,_,_,_,ω,(EB _ _).as (by rw[xX (Qc i)];rfl),(EB _ _).as (by rw[xX (Qc i)];rfl),⟨λm=>(by cases m),λm=>BO m (Qc i)⟩⟩;have j:=rZ i;have a2:=hs.2 _ _ i;refine Za λag bv cc=>?_;refine sS [U o,CN ⟨⟨Z4⟩⟩,CN ⟨⟨C⟩⟩] λah bw bg=>?_;refine zG ?_;refine sC (Qa _ _ _ j.dm Z) ?_;rintro _ ai b6⟨q,p,w,u,rfl,D⟩ cn cd;refine sT #[U q,Y p w u,U χ,η] ?_;refine sA λaj bx ce=>?_;refine sS [U q,Y p w u,U χ,η] λak bz bh=>?_;refine zG ?_;cases o;refine zG ?_;by_cases q21:C=[];refine un φ R6 (by simp[q21]) ?_;refine zG ?_;refine sS [U q,Y p w u,U χ,η] λal c0 bi=>?_;refine zq ?_;exact⟨_,_,_,_,_,_,_,_,_,ω,D.t.as (by rw[(vR i q21).2.1,<-z12];rfl),(EB _ _).as (vR i q21).2.2.symm,⟨λ_=>(vR i q21).1,λ_=>rfl⟩⟩;refine un χ R6 (by simp[q21]) ?_;refine zG ?_;refine sC (Qa _ _ _ j.dd Z) ?_;rintro _ am b7⟨L,J,S,N,rfl,P⟩ co cf;refine zG ?_;refine sS [U q,Y p w u,U L,Y J S N] λan c1 bj=>?_;refine zG ?_;refine sC (gcdX _ g.x D.t P.t (kQ j.dm Z) (kQ j.dd Z)) ?_;rintro _ ao b8⟨a5,a3,b3,a9,rfl,a0⟩ cp cg;refine sC (tU _ a0) ?_;rintro _ ap b9⟨a6,rfl,V⟩ cq ch;obtain⟨rfl,G⟩|⟨rfl,G⟩:=Kg V;refine zG ?_;refine sT #[U χ,η,U χ,η] ?_;refine sS [U χ,η,U χ,η] λaq c2 bk=>?_;refine zq ?_;exact⟨_,_,_,_,_,_,_,_,_,ω,(EB _ _).as (by rw[xX (qp i q21 aD)];rfl),(EB _ _).as (by rw[xX (qp i q21 aD)];rfl),⟨λm=>(by cases m),λm=>BO m (qp i q21 aD)⟩⟩;refine zG ?_;refine sS [U q,Y p w u,U L,Y J S N] λar c3 bl=>?_;refine zq ?_;exact⟨_,_,_,_,_,_,_,_,_,ω,D.t.as (by rw[(tk i q21 ux).2.1,<-z12];rfl),P.t.as (tk i q21 ux).2.2.symm,⟨λ_=>(tk i q21 ux).1,λ_=>rfl⟩⟩;refine zG ?_;refine sC (negX _ D.t) ?_;rintro _ au ba⟨A,y,F,B,rfl,I⟩ cr ci;refine zG ?_;refine sS [U A,Y y F B,U χ,η] λav c4 bm=>?_;refine zG ?_;by_cases q31:C=[];refine un φ R6 (by simp[q31]) ?_;refine zG ?_;refine sS [U A,Y y F B,U χ,η] λaw c5 bn=>?_;refine zq ?_;exact⟨_,_,_,_,_,_,_,_,_,ω,I.t.as (by rw[(vR i q31).2.1,<-z12];rfl),(EB _ _).as (vR i q31).2.2.symm,⟨λ_=>(vR i q31).1,λ_=>rfl⟩⟩;refine un χ R6 (by simp[q31]) ?_;refine zG ?_;refine sC (Qa _ _ _ j.dd Z) ?_;rintro _ ax bb⟨M,K,T,Z1,rfl,R⟩ cs cj;refine zG ?_;refine sS [U A,Y y F B,U M,Y K T Z1] λay c6 bo=>?_;refine zG ?_;refine sC (gcdX _ g.x I.t R.t (by rw[Ff];exact(kQ j.dm Z)) (kQ j.dd Z)) ?_;rintro _ az bc⟨a7,a4,b4,aa,rfl,a1⟩ ct ck;refine sC (tU _ a1) ?_;rintro _ b0 bd⟨a8,rfl,W⟩ cu cl;obtain⟨rfl,H⟩|⟨rfl,H⟩:=Kg W;refine zG ?_;refine sT #[U χ,η,U χ,η] ?_;refine sS [U χ,η,U χ,η] λb1 c7 bp=>?_;refine zq ?_;exact⟨_,_,_,_,_,_,_,_,_,ω,(EB _ _).as (by rw[xX (qp i q31 aD)];rfl),(EB _ _).as (by rw[xX (qp i q31 aD)];rfl),⟨λm=>(by cases m),λm=>BO m (qp i q31 aD)⟩⟩;refine zG ?_;refine sS [U A,Y y F B,U M,Y K T Z1] λb2 c8 bq=>?_;refine zq ?_;exact⟨_,_,_,_,_,_,_,_,_,ω,I.t.as (by rw[(tk i q31 xd).2.1,<-z12];rfl),R.t.as (tk i q31 xd).2.2.symm,⟨λ_=>(tk i q31 xd).1,λ_=>rfl⟩⟩
def Ts(k:Nat)(g:GG h n)(m:O s<500):CX (Ka (k+9)) 83 [CN ⟨⟨s⟩⟩] h n λv i j=>∃b a l c d e f g ok,v=.tuple #[.agg #[U b,Y a l c,U d,Y e f g],U ok]/\IW i j b a l c (zj s).num/\IW i j d e f g (denZ (zj s))/\(ok=φ↔vF s):=zpj k g (.of m)
def bdOk(s:List UInt8):Prop:=s=[]\/vF s
def so:¬vF []:=by rw[oP];rintro⟨h,_⟩;revert h;decide
def pairOk(lo hi:List UInt8):Prop:=bdOk lo/\bdOk hi/\(lo=[]\/hi=[]\/zj lo<=zj hi)
def qi(k:Nat)(g:GG h n)(hs:O s<500):CX (Ka (k+10)) 84 [CN ⟨⟨s⟩⟩] h n λv F G=>∃x b a l c d e f g ok,v=.tuple #[.agg #[U x,U b,Y a l c,U d,Y e f g],U ok]/\(x=φ↔s≠[])/\IW F G b a l c (zj s).num/\IW F G d e f g (denZ (zj s))/\(ok=φ↔bdOk s):=by refine zw R4<|Za λI Z0 a7=>?_;refine zG ?_;by_cases q12:s=[];refine un φ R6 A7 ?_;refine zG ?_;refine sT #[U χ,U χ,η,U χ,η] ?_;refine sS [U χ,U χ,η,U χ,η] λJ a0 T=>?_;refine zq ?_;exact⟨_,_,_,_,_,_,_,_,_,_,ω,⟨λi=>(by cases i),λi=>BO q12 i⟩,(EB _ _).as (by rw[q12,xX so];rfl),(EB _ _).as (by rw[q12,xX so];rfl),⟨λ_=>.inl q12,λ_=>rfl⟩⟩;refine un χ R6 A7 ?_;refine zG ?_;refine sC (Ts _ g.x hs) ?_;rintro _ K S⟨m,j,y,o,p,q,u,w,H,rfl,B,C,D⟩ ab a8;obtain⟨rfl,A⟩|⟨rfl,A⟩:=Kg D;refine Za λL a1 a9=>?_;refine sS [U m,Y j y o,U p,Y q u w] λM a2 Z4=>?_;refine zG ?_;refine sT #[U φ,U m,Y j y o,U p,Y q u w] ?_;refine zG ?_;refine sS [U φ,U m,Y j y o,U p,Y q u w] λN a3 V=>?_;refine zq ?_;exact⟨_,_,_,_,_,_,_,_,_,_,ω,⟨λ_=>q12,λ_=>rfl⟩,B.t,C.t,⟨λi=>(by cases i),λi=>by obtain i|i:=i;exact BO i q12;exact BO i A⟩⟩;refine Za λZ1 a4 aa=>?_;refine sS [U m,Y j y o,U p,Y q u w] λP a5 W=>?_;refine zG ?_;refine sT #[U φ,U m,Y j y o,U p,Y q u w] ?_;refine zG ?_;refine sS [U φ,U m,Y j y o,U p,Y q u w] λR a6 Z3=>?_;refine zq ?_;exact⟨_,_,_,_,_,_,_,_,_,_,ω,⟨λ_=>q12,λ_=>rfl⟩,B.t,C.t,⟨λ_=>.inr A,λ_=>rfl⟩⟩
def jP(k:Nat)(g:GG h n){lo:List UInt8}(a8:O lo<500)(a3:O hi<500)(ab:Sz a (zj lo))(aa:Sz b (zj hi))(b8:a+b<=2496):CX (Ka (k+11)) 40 [CN ⟨⟨lo⟩⟩,CN ⟨⟨hi⟩⟩] h n λv R S=>∃x1 b1 a1 l1 c1 d1 e1 f1 g1 x2 b2 a2 l2 c2 d2 e2 f2 g2 ok,v=.tuple #[.agg #[η,U x1,U b1,Y a1 l1 c1,U d1,Y e1 f1 g1,U x2,U b2,Y a2 l2 c2,U d2,Y e2 f2 g2],U ok]/\(ok=φ↔pairOk lo hi)/\(ok=φ->(x1=φ↔lo≠[])/\IW R S b1 a1 l1 c1 (zj lo).num/\IW R S d1 e1 f1 g1 (denZ (zj lo))/\(x2=φ↔hi≠[])/\IW R S b2 a2 l2 c2 (zj hi).num/\IW R S d2 e2 f2 g2 (denZ (zj hi))):=by refine zw R4<|Za λaf bt cj=>?_;refine zG ?_;refine sC (qi _ g.x a8) ?_;rintro _ ag bb⟨Z1,f,d,B,j,m,p,u,y,ac,rfl,I,K,M,a5⟩ cu ck;obtain⟨rfl,F⟩|⟨rfl,F⟩:=Kg a5;refine Za λah bu cl=>?_;refine sS [U Z1,U f,Y d B j,U m,Y p u y] λai bv bf=>?_;refine zG ?_;refine sC (qi _ g.x a3) ?_;rintro _ aj bc⟨P,Z4,T,a4,V,W,Z3,Z0,a0,ad,rfl,ci,b9,ba,a6⟩ cv cm;obtain⟨rfl,a9⟩|⟨rfl,a9⟩:=Kg a6;refine Za λak bw cn=>?_;refine sS [U P,U Z4,Y T a4 V,U W,Y Z3 Z0 a0] λal bx bg=>?_;refine zG ?_;refine sT #[η,U χ,U χ,η,U χ,η,U χ,U χ,η,U χ,η] ?_;refine sS [η,U χ,U χ,η,U χ,η,U χ,U χ,η,U χ,η] λam bz bh=>?_;exact B0;refine Za λan c0 co=>?_;refine sS [U P,U Z4,Y T a4 V,U W,Y Z3 Z0 a0] λao c3 bi=>?_;refine zG ?_;refine sT #[η,U χ,U χ,η,U χ,η,U χ,U χ,η,U χ,η] ?_;refine sS [η,U χ,U χ,η,U χ,η,U χ,U χ,η,U χ,η] λap c4 bj=>?_;exact B0;refine Za λaq c5 cp=>?_;refine sS [U Z1,U f,Y d B j,U m,Y p u y] λar c6 bk=>?_;refine zG ?_;refine sC (qi _ g.x a3) ?_;rintro _ au bd⟨D,i,e,C,l,o,q,w,A,ae,rfl,J,L,N,a7⟩ cw cq;obtain⟨rfl,H⟩|⟨rfl,H⟩:=Kg a7;refine Za λav c7 cr=>?_;refine sS [U D,U i,Y e C l,U o,Y q w A] λaw c8 bl=>?_;refine zG ?_;refine sT #[η,U χ,U χ,η,U χ,η,U χ,U χ,η,U χ,η] ?_;refine sS [η,U χ,U χ,η,U χ,η,U χ,U χ,η,U χ,η] λax c9 bm=>?_;refine zq ?_;exact⟨_,_,_,_,_,_,_,_,_,_,_,_,_,_,_,_,_,_,_,ω,⟨λc=>A3,λc=>BO c.2.1 H⟩,λc=>A3⟩;refine Za λay ca cs=>?_;refine sS [U D,U i,Y e C l,U o,Y q w A] λaz cb bn=>?_;refine zG ?_;cases Z1;refine zG ?_;refine sT #[η,U χ,U f,Y d B j,U m,Y p u y,U D,U i,Y e C l,U o,Y q w A] ?_;refine sS [η,U χ,U f,Y d B j,U m,Y p u y,U D,U i,Y e C l,U o,Y q w A] λb0 cc bo=>?_;refine zq ?_;exact⟨_,_,_,_,_,_,_,_,_,_,_,_,_,_,_,_,_,_,_,ω,⟨λ_=>⟨F,H,.inl (C1 λc=>by cases I.2 c)⟩,λ_=>rfl⟩,λ_=>⟨I,K.t,M.t,J,L.t,N.t⟩⟩;refine zG ?_;cases D;refine zG ?_;refine sT #[η,U φ,U f,Y d B j,U m,Y p u y,U χ,U i,Y e C l,U o,Y q w A] ?_;refine sS [η,U φ,U f,Y d B j,U m,Y p u y,U χ,U i,Y e C l,U o,Y q w A] λb3 cd bp=>?_;refine zq ?_;exact⟨_,_,_,_,_,_,_,_,_,_,_,_,_,_,_,_,_,_,_,ω,⟨λ_=>⟨F,H,.inr (.inl (C1 λc=>by cases J.2 c))⟩,λ_=>rfl⟩,λ_=>⟨I,K.t,M.t,J,L.t,N.t⟩⟩;refine zG ?_;refine sC ((xp _ K.t M.t L.t N.t ab aa Z).cx) ?_;rintro _ b4 be⟨ch,rfl,G⟩ cy ct;obtain⟨rfl,G⟩|⟨rfl,G⟩|⟨rfl,G⟩:=G;refine zG ?_;refine sT #[η,U φ,U f,Y d B j,U m,Y p u y,U φ,U i,Y e C l,U o,Y q w A] ?_;refine sS [η,U φ,U f,Y d B j,U m,Y p u y,U φ,U i,Y e C l,U o,Y q w A] λb5 ce bq=>?_;refine zq ?_;exact⟨_,_,_,_,_,_,_,_,_,_,_,_,_,_,_,_,_,_,_,ω,⟨λ_=>⟨F,H,.inr (.inr (Rat.le_of_lt G))⟩,λ_=>rfl⟩,λ_=>⟨I,K.t,M.t,J,L.t,N.t⟩⟩;refine zG ?_;refine sT #[η,U φ,U f,Y d B j,U m,Y p u y,U φ,U i,Y e C l,U o,Y q w A] ?_;refine sS [η,U φ,U f,Y d B j,U m,Y p u y,U φ,U i,Y e C l,U o,Y q w A] λb6 cf br=>?_;refine zq ?_;exact⟨_,_,_,_,_,_,_,_,_,_,_,_,_,_,_,_,_,_,_,ω,⟨λ_=>⟨F,H,.inr (.inr (by rw[G];exact Rat.le_refl))⟩,λ_=>rfl⟩,λ_=>⟨I,K.t,M.t,J,L.t,N.t⟩⟩;refine zG ?_;refine sT #[η,U χ,U χ,η,U χ,η,U χ,U χ,η,U χ,η] ?_;refine sS [η,U χ,U χ,η,U χ,η,U χ,U χ,η,U χ,η] λb7 cg bs=>?_;refine zq ?_;exact⟨_,_,_,_,_,_,_,_,_,_,_,_,_,_,_,_,_,_,_,ω,⟨λc=>A3,λc=>by obtain c|c|c:=c.2.2;exact BO c (I.1 ω);exact BO c (J.1 ω);exact BO c (Rat.not_le.2 G)⟩,λc=>A3⟩
end
section
variable {h h':HF}{len lo n n':Nat}
structure StayO {D:Type}(P:List ψ->D->HF->Nat->Prop):Prop where
 go:∀c d h h' n b cs e,P c d h n->h b=ξ (.row cs e)->cs.all nu=φ->Only b h h'->P c d h' n
def ratP.stayO:StayO ratP:=⟨λ_ _ _ _ _ _ _ _ ⟨b,a,l,k,d,e,f,g,q,i,j⟩ o p c=>⟨b,a,l,k,d,e,f,g,q,i.only o p c,j.only o p c⟩⟩
def numP.stayO:StayO numP:=⟨λ_ _ _ _ _ _ _ _ ⟨b,a,l,k,d,e,f,g,q,i,j⟩ o p c=>⟨b,a,l,k,d,e,f,g,q,i.only o p c,j.only o p c⟩⟩
structure Fil {D:Type}(P:List ψ->D->HF->Nat->Prop)(h:HF)(n B:Nat)(cs:List ψ)(e:TypeId)(S:List D)(j:Nat):Prop where
 row:h B=ξ (.row cs e)
 len:O cs=O S*4
 nus:cs.all nu=φ
 rcs:Rec 4 (λc d=>P c d h n) (cs.take (j*4)) (S.take j)
theorem pU{c:List ψ}{o:Nat}(h:o+O c<=O cs):(zu cs o c).take (o+O c)=cs.take o++c/\O (zu cs o c)=O cs:=by grind [zu,only]
theorem za5{c:List ψ}{o:Nat}(a:cs.all nu=φ)(b:c.all nu=φ):(zu cs o c).all nu=φ:=by grind [zu,only]
section
variable {P:List ψ->D->HF->Nat->Prop}
def Fil.ext(b:Stay P){S:List D}(f:Fil P h n B cs e S j)(x:J9 n h h')(g:n<=n')(a:B<3*n):Fil P h' n' B cs e S j:=
 ⟨(x B a).trans f.row,f.len,f.nus,f.rcs.mono λc d i=>b.go c d _ _ _ _ i x g⟩
def Fil.step(l:StayO P){c:List ψ}{S:List D}{d:D}(f:Fil P h n B cs e S j)(hj:S[j]?=ξ d)(a:O c=4)(s:c.all nu=φ)(i:P c d h n):Fil P (upd h B (ξ (.row (zu cs (j*4) c) e))) n B (zu cs (j*4) c) e S (j+1):=by
 have w:=(CQ.1 hj).1;have g:j*4+O c<=O cs:=by rw[f.len,a];omega
 have⟨p,u⟩:=pU g;have o:Only B h (upd h B (ξ (.row (zu cs (j*4) c) e))):=λb q=>zm q;refine⟨zg _ _ _,u.trans f.len,za5 f.nus s,?_⟩;rw[a]at p;rw[EM,p,xa hj];exact(f.rcs.mono λc d i=>l.go c d _ _ _ _ _ _ i f.row f.nus o).snoc a (l.go c d _ _ _ _ _ _ i f.row f.nus o)
theorem Fil.start{z:List ψ}{S:List D}(a:h B=ξ (.row (rep m z) e))(c:O z=4)(b:z.all nu=φ)(hm:m=O S):Fil P h n B (rep m z) e S 0:=by
 refine⟨a,by rw[zmo,c,hm],?_,by rw[D2,EP,EP];exact .nil⟩;clear a hm;induction m with
 |zero=>rfl
 |succ m ih=>rw[rep,Is,b,ih];rfl
def Fil.rs{S:List D}(f:Fil P h n B cs e S (O S))(b:B<3*n):RS 4 P h n (Y (ξ ⟨B,0,θ⟩) (O S) (O S)) S:=by have c:=f.len;have a:=f.rcs;rw[Da,<-c,Da]at a;exact⟨cs,.at_ b f.row ω CG Z aD,a⟩
end
def KM(lo:Nat)(h:HF)(n:Nat)(v:ψ)(l:List Rat):Prop:=QS h n v l/\∀ad len cap,v=Y (ξ ad) len cap->3*lo<=ad.block/\gro ad.block=χ
def KM.ext{l:List Rat}(r:KM lo h n v l)(x:J9 n h h')(a:n<=n'):KM lo h' n' v l:=⟨r.1.ext x a,r.2⟩
def KM.x{l:List Rat}(r:KM lo h n v l)(t:Tx n h n' h':=by exact zx):KM lo h' n' v l:=r.ext t.2 t.1
theorem rC(k:Nat)(g:GG h n){a:Option Addr}(F:Sl h n 1 (Y a len cap) (strs S))(hl:∀s∈S,O s<500)(hb:O S<1000000):
  CX (Ka (k+10)) 39 [Y a len cap] h n λv h' n'=>∃a' l' c' C,v=.tuple #[Y a' l' c',U C]/\(C=φ↔∀s∈S,vF s)/\(C=φ->KM n h' n' (Y a' l' c') (S.map zj)):=by
 refine zw R4 ?_;have e1:=z8 F;subst e1;refine Zj ?_;refine vB R9 Z<|Zb ?_;generalize hh:upd h (3*n+2) _=h1;have Z0:∃cs,Fil ratP h1 (n+1) (3*n+2) cs 66 (S.map zj) 0:=⟨_,.start oB ω ω (by rw[CU])⟩;have a0:J9 n h h1:=by grind [Fe]
 refine ye (α:=Nat) (λz=>[(4,Y (ξ ⟨3*n+2,0,θ⟩) (O S) (O S)),(12,Y a (O S) cap),(13,CJ .i64 (O S:Int)),(14,CJ .i64 (z:Int))])
  (λz h' n' w'=>w'=[]/\n+1<=n'/\J9 n h h'/\(∃cs,Fil ratP h' n' (3*n+2) cs 66 (S.map zj) z)/\z<=O S/\∀s∈S.take z,vF s) (λz=>O S-z)
  0 P4 ⟨ω,CG,a0,Z0,CH,λs F=>BO F eF⟩ (by show O S-0<LL;unfold LL;omega) ?_
 rintro z t h2 G _⟨rfl,a2,p,⟨cs,Z4⟩,hz,i⟩;refine zN ?_;by_cases hze:z=O S;refine Ze ?_;rw[hze,Da]at i;have K:=Z4;rw[hze,<-CU]at K;have Z3:=K.rs (show 3*n+2<3*G from Z);rw[CU]at Z3;exact retX [Y (ξ ⟨3*n+2,0,θ⟩) (O S) (O S),U φ] R3 (show n<=G from Z) p ⟨_,_,_,_,ω,⟨λ_=>i,λ_=>rfl⟩,λ_=>⟨Z3,λad l c e=>by cases e;exact⟨eC,zB n⟩⟩⟩;obtain⟨s,w⟩:∃s,S[z]?=ξ s:=⟨S[z]'Z,CK Z⟩;have u:s∈S:=CL w;refine lI ?_;refine jQ ?_;refine yE R7 (F.ext p (show n<=G from Z)) R2 w (λ_=>rfl) R4 λ_=>?_;refine my ?_;refine zM ?_;refine gJ R5 (Ts k (g.ext p (show n<=G from Z)) (hl s u)) ?_;rintro _ h3 H⟨b,R,l,c,d,e,f,T,C,rfl,i3,j3,L⟩ W N;repeat refine zR ?_
 refine wt [U χ,η,U χ,η] R6 λh4 I J=>?_;refine mq [U b,Y R l c,U d,Y e f T] R5 I R3 zb ω eN λZ1 p5 A=>?_;have o:=(Z4.ext ratP.stay N W Z).ext ratP.stay J Zq Z;have x5:J9 H h4 Z1:=λb hb=>A b Z;have i5:=(i3.ext J Zq).only I ω A;have j5:=(j3.ext J Zq).only I ω A;have q:Fil ratP Z1 (H+1) (3*n+2) cs 66 (S.map zj) z:=⟨(A _ Z).trans o.row,o.len,o.nus,o.rcs.mono λc d hp=>ratP.stayO.go c d _ _ _ _ _ _ hp I ω A⟩;have y:J9 n h Z1:=λb hb=>(x5 b Z).trans ((J b Z).trans ((N b Z).trans (p b hb)));refine my ?_;cases C with
 |false=>
  refine Zg ?_;exact retX [η,U χ] R3 (show n<=H+1 from Z) y ⟨_,_,_,_,ω,⟨λh=>BO h eF,λh=>L.2 (h s u)⟩,λh=>BO h eF⟩
 |true=>
 refine Zt ?_;refine z7 R5 (yw R2 p5 ω zb ω)<|P1 R9 Z<|yF ⟨ω,ω,ω,ω,AQ,ω,ω,ω⟩ q.row (by rw[q.len,CU];omega) eN ?_;have V:=q.step ratP.stayO (j:=z) (c:=[U b,Y R l c,U d,Y e f T]) aD ω ω ⟨_,_,_,_,_,_,_,_,ω,i5,j5⟩;refine mL ?_;refine goOn (z+1) Z P4 ⟨ω,by show n+1<=H+1;omega,λb hb=>(zm Z).trans (y b hb),⟨_,V⟩,by show z+1<=O S;omega,?_⟩;intro s' M;rw[xa w]at M;obtain h'|h':=DW.1 M;exact i s' h';rw[C0.1 h'];exact L.1 rfl
theorem OH(k:Nat){a:Option Addr}(G:Sl h n 1 (Y a len cap) (strs S))(hl:∀s∈S,O s<500)(hb:O S<1000000):
  CX (Ka (k+7)) 28 [Y a len cap] h n λv h' n'=>∃a' l' c' C,v=.tuple #[Y a' l' c',U C]/\(C=φ↔∀s∈S,vF s)/\(C=φ->NS h' n' (Y a' l' c') (S.map zj)):=by
 refine zw R4 ?_;have e1:=z8 G;subst e1;refine Zj ?_;refine vB R9 Z<|Zb ?_;generalize hh:upd h (3*n+2) _=h1;have a0:∃cs,Fil numP h1 (n+1) (3*n+2) cs 85 (S.map zj) 0:=⟨_,.start oB ω ω (by rw[CU])⟩;have a2:J9 n h h1:=by grind [Fe]
 refine ye (α:=Nat) (λz=>[(0,Y a (O S) cap),(4,Y (ξ ⟨3*n+2,0,θ⟩) (O S) (O S)),(5,CJ .i64 (z:Int))])
  (λz h' n' w'=>w'=[]/\n+1<=n'/\J9 n h h'/\(∃cs,Fil numP h' n' (3*n+2) cs 85 (S.map zj) z)/\z<=O S/\∀s∈S.take z,vF s) (λz=>O S-z)
  0 P3 ⟨ω,CG,a2,a0,CH,λs G=>BO G eF⟩ (by show O S-0<LL;unfold LL;omega) ?_
 rintro z t h2 R _⟨rfl,a3,y,⟨cs,V⟩,hz,g⟩;refine zN ?_;by_cases hze:z=O S;refine Ze ?_;rw[hze,Da]at g;have K:=V;rw[hze,<-CU]at K;have F:=K.rs (show 3*n+2<3*R from Z);rw[CU]at F;exact retX [Y (ξ ⟨3*n+2,0,θ⟩) (O S) (O S),U φ] R3 (show n<=R from Z) y ⟨_,_,_,_,ω,⟨λ_=>g,λ_=>rfl⟩,λ_=>F⟩;obtain⟨s,u⟩:∃s,S[z]?=ξ s:=⟨S[z]'Z,CK Z⟩;have p:s∈S:=CL u;refine Zm ?_;refine yE R7 (G.ext y (show n<=R from Z)) R2 u (λ_=>rfl) R4 λ_=>?_;refine gJ R5 (PX k _ _ s (by have:=hl s p;omega)) ?_;rintro _ h3 H⟨b,T,l,c,d,e,f,Z4,C,q,rfl,i3,j3,L,Z3⟩ Z0 N;repeat refine zR ?_
 refine wt [U χ,η,U χ,η] R6 λh4 I J=>?_;refine mq [U b,Y T l c,U d,Y e f Z4] R5 I R3 zb ω eN λZ1 p5 A=>?_;have i:=(V.ext numP.stay N Z0 Z).ext numP.stay J Zq Z;have x5:J9 H h4 Z1:=λb hb=>A b Z;have i5:=(i3.ext J Zq).only I ω A;have j5:=(j3.ext J Zq).only I ω A;have o:Fil numP Z1 (H+1) (3*n+2) cs 85 (S.map zj) z:=⟨(A _ Z).trans i.row,i.len,i.nus,i.rcs.mono λc d hp=>numP.stayO.go c d _ _ _ _ _ _ hp I ω A⟩;have w:J9 n h Z1:=λb hb=>(x5 b Z).trans ((J b Z).trans ((N b Z).trans (y b hb)));refine my ?_;cases C with
 |false=>
  refine Zg ?_;exact retX [η,U χ] R3 (show n<=H+1 from Z) w ⟨_,_,_,_,ω,⟨λh=>BO h eF,λh=>Z3 (h s p)⟩,λh=>BO h eF⟩
 |true=>
 have F:=pA (L ω);subst F;refine Zt ?_;refine z7 R5 (yw R2 p5 ω zb ω)<|P1 R9 Z<|yF ⟨ω,ω,ω,ω,AQ,ω,ω,ω⟩ o.row (by rw[o.len,CU];omega) eN ?_;have W:=o.step numP.stayO (j:=z) (c:=[U b,Y T l c,U d,Y e f Z4]) aD ω ω ⟨_,_,_,_,_,_,_,_,ω,i5,j5⟩;refine mL ?_;refine goOn (z+1) Z P3 ⟨ω,by show n+1<=H+1;omega,λb hb=>(zm Z).trans (w b hb),⟨_,W⟩,by show z+1<=O S;omega,?_⟩;intro s' M;rw[xa u]at M;obtain h'|h':=DW.1 M;exact g s' h';rw[C0.1 h'];exact⟨_,L ω⟩
end
theorem Tt{x:Int}:((x:Rat)=0)↔x=0:=by simp_all [Rat.intCast_inj.1]
section
variable {n:Nat}{T0 T:Nat->Nat->Int}{s:Nat->Rat}{a:Nat->Nat->Rat}
end
section
variable {h:HF}{n:Nat}{d:Tmp}
end
theorem tI:∀(l w:List Nat),∀c∈addW n0 l w,(c∈l/\c<3*n0)\/c∈w:=by
 intro l;induction l with
 |nil=>intro w c a;exact Or.inr a
 |cons b l ih=>
  intro w c a;unfold addW at a;cases hb:Dj (3*n0) b with
  |true=>
   grind
  |false=>
   grind [only,EH,CV,E7,Dk.1,Eb]
theorem nM:∀(l w:List Nat),∀c∈w,c∈addW n0 l w:=by
 intro l;induction l with
 |nil=>intro w c a;exact a
 |cons b l ih=>
  grind [addW,Dj,E7]
theorem wQ(a:c<3*n0):∀{l w:List Nat},c∈l->c∈addW n0 l w:=by
 intro l;induction l with
 |nil=>intro w h;exact BO h CT
 |cons b l ih=>
  intro w h;unfold addW;cases hb:Dj (3*n0) b with
  |true=>
   obtain rfl|h:=Dk.1 h;have:=De hb;omega;exact ih h
  |false=>
   grind [nM,Dk.1,Eb]
section
variable {len off:Nat}{ty:TypeId}{x:Operand}
structure KP {D:Type}(sz:Nat)(P:List ψ->D->HF->Nat->Prop):Prop where
 t:∀{c d h n h' n'},P c d h n->Tr n h n' h'->P c d h' n'
 c:∀{c d h n},P c d h n->O c=sz/\c.all nu=φ/\ones c=φ
def OR{D:Type}(sz:Nat)(P:List ψ->D->HF->Nat->Prop)(h:HF)(n b:Nat)(ds:List D):Prop:=b<3*n/\∃C e,h b=ξ (.row C e)/\C.all nu=φ/\Rec sz (λc d=>P c d h n) C ds
theorem Rec.set2{D:Type}{sz:Nat}{P:List ψ->D->Prop}{ds:List D}(r:Rec sz P cs ds){c:List ψ}{d:D}(f:O c=sz)(g:P c d):∀{j:Nat},j<O ds->Rec sz P (zu cs (j*sz) c) (ds.set j d):=by
 induction r with
 |nil=>intro j a;cases a
 | @cons c1 cs d1 ds hl hp1 hr ih=>
  intro j a;cases j with
  |zero=>
   have e:zu (c1++cs) (0*sz) c=c++cs:=(by unfold zu;rw[D2,EP,DP,Dd,f,<-hl,List.drop_left]);rw[e];exact .cons f g hr
  |succ j=>
   have e:zu (c1++cs) ((j+1)*sz) c=c1++zu cs (j*sz) c:=by grind [zu,EM,Ee,Jf,CR,E1,Dp,Nat.add_assoc,Je,Fa]
   rw[e];exact .cons hl hp1 (ih (by simpa using a))
theorem dF{c:List ψ}{o:Nat}(h:cs.all nu=φ)(a:c.all nu=φ):(zu cs o c).all nu=φ:=by grind [zu]
section
variable {P:List ψ->D->HF->Nat->Prop}{h h':HF}{n n':Nat}{ds:List D}
def OR.go(o:OR sz P h n b ds)(l:KP sz P)(t:Tr n h n' h')(e:h' b=h b):OR sz P h' n' b ds:=by have⟨p,C,a,c,f,g⟩:=o;exact⟨Bs,C,a,e.trans c,f,g.mono λ_ _ r=>l.t r t⟩
def OR.ext(o:OR sz P h n b ds)(g:KP sz P)(x:J9 n h h')(f:n<=n'):OR sz P h' n' b ds:=o.go g ⟨f,λc a=>.inl (x c a)⟩ (x b o.1)
def OR.xx(o:OR sz P h n b ds)(a:KP sz P)(t:Tx n h n' h'):OR sz P h' n' b ds:=o.ext a t.2 t.1
def OR.as{a:List D}(o:OR sz P h n b ds)(e:ds=a):OR sz P h n b a:=e▸o
def OR.get{d:D}(o:OR sz P h n b ds)(hj:ds[j]?=ξ d)(q:off=j*sz):∃c,P c d h n/\O c=sz/\At h b off c:=by have⟨y,C,s,l,v,p⟩:=o;have⟨c,a,f,g,u⟩:=p.get hj;subst q;exact⟨c,f,a,⟨_,C,l,ω,Z,by rw[a];exact g⟩⟩
def OR.set{d:D}{c C:List ψ}(o:OR sz P h n b ds)(a:KP sz P)(l:h b=ξ (.row C e))(hj:j<O ds)(r:P c d h n)(v:h' b=ξ (.row (zu C (j*sz) c) e))(B:Only b h h'):OR sz P h' n b (ds.set j d)/\Kx b h h':=by have⟨A,F,G,f,g,y⟩:=o;rw[l]at f;cases f;have p:Kx b h h':=⟨B,_,_,l,g⟩;have t:Tr n h n h':=Tr.s p (Tr.refl _ _);have⟨q,u,_⟩:=a.c r;exact⟨⟨A,_,_,v,dF g u,(y.mono λ_ _ r=>a.t r t).set2 q (a.t r t) hj⟩,p⟩
def OR.sl(o:OR sz P h n b ds)(l:len=O ds)(g:len<=cap):RS sz P h n (Y (ξ ⟨b,0,θ⟩) len cap) ds:=by have⟨f,C,p,c,q,a⟩:=o;have:=a.len;subst l;exact⟨C,.at_ f c ω g Z aD,a⟩
theorem OR.fill{z:List ψ}{d:D}(hb:b<3*n)(a:h b=ξ (.row (rep L z) e))(g:KP sz P)(f:P z d h n):OR sz P h n b (CO L d):=by
 refine⟨hb,_,_,a,?_,?_⟩
 .clear a;induction L with
  |zero=>rfl
  |succ L ih=>show List.all (z++rep L z) nu=φ;rw[Is,ih,(g.c f).2.1];rfl
 clear a;induction L with
 |zero=>exact .nil
 |succ L ih=>exact .cons (g.c f).1 f ih
end
def KY(h:HF)(b:Nat)(e:TypeId):Prop:=∃C,h b=ξ (.row C e)
def intP(c:List ψ)(z:Int)(h:HF)(n:Nat):Prop:=∃b a l k,c=[U b,Y a l k]/\IW h n b a l k z
def intP.kp:KP 2 intP:=⟨λ⟨b,a,l,k,e,i⟩ t=>⟨b,a,l,k,e,i.t t⟩,λ⟨b,a,l,k,e,i⟩=>by subst e;exact R3⟩
def ratP.kp:KP 4 ratP:=⟨λ⟨b,a,l,k,d,e,f,g,c,i,j⟩ t=>⟨b,a,l,k,d,e,f,g,c,i.t t,j.t t⟩,λ⟨b,a,l,k,d,e,f,g,c,i,j⟩=>by subst c;exact R3⟩
abbrev OZ(h:HF)(n b:Nat)(zs:List Int):Prop:=OR 2 intP h n b zs
section
variable {h:HF}{n:Nat}{ld:List (Nat×Nat)}{d:Tmp}
def Qd{a:Operand}{b sz:Nat}{c:List ψ}(c':List ψ)(hb:h b=ξ (.row c e))(k:∀h',h' b=ξ (.row c' e)->Kx b h h'->EO X ops r ⟨t,h',n,addW n0 [b] w⟩ Q)(g:zh ops t o=φ:=by rfl)(hd:o.dst=θ:=by rfl)(ho:o.op=.store ty a x:=by rfl)(hi:X.E.inf ty=ξ (sz,bt,z):=by rfl)(ha:J8 t a=.pointer (ξ ⟨b,off,θ⟩):=by rfl)(hu:c.all nu=φ:=by rfl)(hx:zn (J8 t x)=cs:=by rfl)(hs:cs.length=sz:=by rfl)(h1:ones cs=φ:=by rfl)(hl:off+sz<=c.length:=by exact zb)(hsp:zu c off cs=c':=by rfl)(hX:X.n0=n0:=by rfl):EO X ops (o::r) ⟨t,h,n,w⟩ Q:=by subst hsp hx;rw[rS g (by rw[hd];rfl) (by rw[ho];rfl) (by rw[ho];exact xn hi ha hs h1 hb hl),hd,hX];exact k _ (zg _ _ _) ⟨λc f=>zm f,_,_,hb,hu⟩
def MG{a:Operand}{b sz:Nat}{c:List ψ}(c':List ψ)(hb:h b=ξ (.row c e))(k:∀h',h' b=ξ (.row c' e)->Kx b h h'->ED X ops r ms (i+1) ⟨⟨t,h',n,addW n0 [b] w⟩,al,ld,(i,h,[b])::ef⟩ Q)(g:zh ops t o=φ:=by rfl)(hd:o.dst=θ:=by rfl)(ho:o.op=.store ty a x:=by rfl)(hi:X.E.inf ty=ξ (sz,bt,z):=by rfl)(ha:J8 t a=.pointer (ξ ⟨b,off,θ⟩):=by rfl)(hu:c.all nu=φ:=by rfl)(hx:zn (J8 t x)=cs:=by rfl)(hs:cs.length=sz:=by rfl)(h1:ones cs=φ:=by rfl)(hl:off+sz<=c.length:=by exact zb)(hsp:zu c off cs=c':=by rfl)(hX:X.n0=n0:=by rfl)(g1:xq m ef=φ:=by rfl)(g2:xJ m al=φ:=by rfl)(g3:ya m [b] ld=φ:=by rfl):ED X ops (o::r) (m::ms) i ⟨⟨t,h,n,w⟩,al,ld,ef⟩ Q:=by subst hsp hx;refine mX g (by rw[hd];rfl) (by rw[ho];rfl) (by rw[ho];exact xn hi ha hs h1 hb hl) g1 g2 g3 (Nat.le_refl _) ?_;rw[hd,hX];exact k _ (zg _ _ _) ⟨λc f=>zm f,_,_,hb,hu⟩
def dZ{D:Type}{sz:Nat}{P:List ψ->D->HF->Nat->Prop}{a:Operand}{b:Nat}{zs:List D}{q:D}(c:List ψ)(v:OR sz P h n b zs)(u:KP sz P)(hj:j<zs.length)(g:off=j*sz)(p:P c q h n)(k:∀h',OR sz P h' n b (zs.set j q)->Kx b h h'->(∀e,KY h b e->KY h' b e)->ED X ops r ms (i+1) ⟨⟨t,h',n,addW n0 [b] w⟩,al,ld,(i,h,[b])::ef⟩ Q)(H:zh ops t o=φ:=by rfl)(hd:o.dst=θ:=by rfl)(ho:o.op=.store ty a x:=by rfl)(hi:X.E.inf ty=ξ (sz,bt,z):=by rfl)(ha:J8 t a=.pointer (ξ ⟨b,off,θ⟩):=by rfl)(hx:zn (J8 t x)=c:=by rfl)(h1:xq m ef=φ:=by rfl)(f:xJ m al=φ:=by rfl)(h3:ya m [b] ld=φ:=by rfl)(hX:X.n0=n0:=by rfl):ED X ops (o::r) (m::ms) i ⟨⟨t,h,n,w⟩,al,ld,ef⟩ Q:=by have y:=v;have⟨Z1,C,e,l,R,I⟩:=v;have G:=I.len;have⟨A,M,B⟩:=u.c p;have J:j*sz+sz<=zs.length*sz:=(by have:=Nat.mul_le_mul_right sz (show j+1<=zs.length from hj);rw[Nat.add_mul,Nat.one_mul]at this;exact this);subst g;refine mX H (by rw[hd];rfl) (by rw[ho];rfl) (by rw[ho];exact xn hi ha (by rw[hx];exact A) (by rw[hx];exact B) l Z) h1 f h3 (Nat.le_refl _) ?_;rw[hd,hx,hX];have s:=y.set u l hj p (zg _ _ _) (λc F=>zm F);exact k _ s.1 s.2 λN⟨K,f⟩=>⟨_,by rw[l]at f;cases f;exact zg _ _ _⟩
end
end
section
variable {h' h0:HF}{len:Nat}{sT ty:TypeId}{x:Operand}
def BkOf(v:ψ)(b:Nat):Prop:=∃o l c,v=Y (ξ ⟨b,o,θ⟩) l c
def GroU(h:HF)(n:Nat)(v:ψ)(T:List Nat):Prop:=Gro h 0 n 141 1 v (O T) (u64s T)
structure AU (h0:HF)(n0:Nat)(v0:ψ)(h:HF)(n:Nat)(w:List Nat)(v:ψ)(T:List Nat):Prop where
 hn:n0<=n
 keep:Keep v0 n0 h0 h
 hw:∀b∈w,BkOf v0 b
 g:GroU h n v T
 or:v=v0\/xC n0 v
 wd:Kb T
def AU.refl(g:GroU h0 n0 v0 T)(a:Kb T):AU h0 n0 v0 h0 n0 [] v0 T:=⟨CG,λ_ _ _=>rfl,λb c=>BO c CT,g,Or.inl ω,a⟩
def AU.trans{s u:HF}{p A:Nat}{B w2:List Nat}{v1 v2:ψ}{C q:List Nat}(a:AU h0 n0 v0 s p B v1 C)(b:AU s p v1 u A w2 v2 q):AU h0 n0 v0 u A (addW n0 w2 B) v2 q:=by
 have F:=a.hn;refine⟨C5 a.hn b.hn,λk m i=>(b.keep k Z λo l c e=>?_).trans (a.keep k m i),λk m=>?_,b.g,?_,b.wd⟩;obtain h|h:=a.or;exact i o l c (h▸e);rw[e]at h;have h:3*n0<=k:=h;omega;obtain h|⟨h,D⟩:=yN.1 m;exact a.hw k h;have⟨o,l,c,e⟩:=b.hw k h;obtain f|f:=a.or;exact⟨o,l,c,f▸e⟩;rw[e]at f;have f:3*n0<=k:=f;omega;obtain h|h:=b.or;rw[h];exact a.or;right;cases v2 with
 |slice ad l c=>
  cases ad with
  |none=>trivial
  |some ad=>have h:3*p<=ad.block:=h;show 3*n0<=ad.block;omega
 |_=>trivial
def AU.sl{h:HF}{n:Nat}{w:List Nat}{u:ψ}{c:List ψ}(a:AU h0 n0 v0 h n w v T)(s:Sl h0 n0 1 u c)(p:∀b,BkOf v0 b->Kw b u):Sl h n 1 u c:=
 s.keep (λf l cap i=>by
  have m:=s.below;subst i;refine a.keep f.block m λo q g e=>?_;have:=p f.block ⟨o,q,g,e⟩;exact this ω) a.hn
def AU.off{h:HF}{n:Nat}{w:List Nat}{u:ψ}{c:List ψ}(a:AU h0 n0 v0 h n w v T)(s:Sl h0 n0 1 u c)(g:∀b,BkOf v0 b->Kw b u):∀b,BkOf v b->Kw b u:=by rintro b⟨o,l,k,rfl⟩;obtain e|f:=a.or;exact g b ⟨o,l,k,e.symm⟩;have f:3*n0<=b:=f;exact s.below.off f
def GroU.row{h:HF}{n:Nat}(g:GroU h n v T)(h0:O T≠0):∃b,v=Y (ξ ⟨b,0,θ⟩) (O T) (O T)/\gro b=φ/\b<3*n/\h b=ξ (.row (u64s T) 141):=by have⟨b,a,c,_,f,i,_⟩:=Gro.inv2 g h0;exact⟨b,a,c,f,i⟩
def AU.row{L:List Nat}{w:List Nat}(a:gro b=φ)(hb:b<3*n0)(hx:ExtT n0 b h0 h')(q:∀c∈w,c=b)(p:h' b=ξ (.row (u64s L) 141))(m:O L=O T)(g:Kb L):AU h0 n0 (Y (ξ ⟨b,0,θ⟩) (O T) (O T)) h' n0 w (Y (ξ ⟨b,0,θ⟩) (O T) (O T)) L:=by refine⟨CG,λk l f=>hx k l λe=>f 0 (O T) (O T) (by rw[e]),λc i=>⟨0,O T,O T,by rw[q c i]⟩,?_,.inl ω,g⟩;rw[<-m];exact .at_ a Z hb p (by rw[zL,DL]) (xW _)
section
variable {h:HF}{n:Nat}{d:Tmp}
theorem Tu{s:Operand}(a:AU h0 n0 v0 h n w (J8 t s) T)(i:X.n0=n0/\zh ops t o=φ/\o.dst=ξ d/\zv X.nt (ξ d)=φ/\o.op=.call {callee:=.builtin .append,args:=#[s,x],argTypes:=#[sT,xT]}/\(match X.E.und xT with|some (.int _)=>χ|none=>χ|_=>φ)=φ/\X.E.und sT=ξ (.slice 141)/\X.E.inf 141=ξ (1,8,z)/\O (zn z)=1)(hx:argS h 1 (J8 t x) 1 (u64s [0]))(hb:O T<1000000000)
  (k:∀u h' w',AU h0 n0 v0 h' (n+1) w' u (T++[0])->EO X ops r ⟨upd t d u,h',n+1,w'⟩ Q):EO X ops (o::r) ⟨t,h,n,w⟩ Q:=by
 have⟨i,D,hd,hn,m,A,p,l,q⟩:=i;have⟨u,h',W,c,F,_,B,G,C⟩:=uf p l q ⟨CG,Z⟩ a.g hx CG Z (by rw[zL];rfl) (xW _) CH;refine yM ⟨D,hd,hn,m,A⟩ c ?_;rw[i];refine k _ _ _ (a.trans ⟨Z,B,?_,?_,.inr C,?_⟩);intro b hb;have f:Gro h 0 n 141 1 (J8 t s) (O T) (u64s T):=a.g;have hv:∃v,v=J8 t s:=⟨_,ω⟩;have⟨v,hv⟩:=hv;rw[<-hv]at f c⊢;generalize hTl:O T=tl at f;generalize hTc:u64s T=tc at f;cases f with
 |nil=>
  have e:=append_nil (n:=n) p l q CG Z hx CG Z;grind
 |at_ f hlo hb2 hr hl m=>
  have e:=ue (n:=n) p l q CG Z hx CG Z f hr hl (yZ m (xW _)) (by rw[zL];rfl);rw[e]at c;injection c with c;injection c with _ _ _ c;rw[<-c]at hb;rw[C0.1 hb];exact⟨_,_,_,ω⟩
 grind [GroU,u64s,CP];exact Kb.snoc a.wd zd
theorem zl6{c:List ψ}{i:Operand}{f:Oper}{a:Tmp}{s:Nat}(m:zh ops t o=φ/\o.dst=ξ a/\zv X.nt (ξ a)=φ/\o.op=.indexAddr ty x i/\X.E.und ty=ξ (.slice e)/\X.E.inf e=ξ (1,bt,z)/\J8 t x=Y (ξ ⟨b,0,θ⟩) len cap/\J8 t i=CJ ik ji/\ji=(j:Int))(B:j<len/\j<O c)(hb:h b=ξ (.row c e3))
  (C:∀p,zh ops (upd t a p) f=φ)(g:f.dst=θ)(l:f.op=.store e2 (.tmp a) y)(u:X.E.inf e2=ξ (1,s,z2))(q:∀p,zn (J8 (upd t a p) y)=[v])(D:ones [v]=φ)
  (k:∀p,EO X ops r ⟨upd t a p,upd h b (ξ (.row (c.set j v) e3)),n,addW X.n0 [b] w⟩ Q):EO X ops (o::f::r) ⟨t,h,n,w⟩ Q:=by
 obtain⟨m,F,J,K,L,H,M,I,A⟩:=m;subst A;refine LC ⟨m,F,J,K,L,H,M,I⟩ Z ?_;have G:=xn (t:=upd t a (CM (ξ ⟨b,0+(j:Int).toNat*1,θ⟩))) (h:=h) (n:=n) (a:=.tmp a) (x:=y) (b:=b) (off:=0+(j:Int).toNat*1) u (zg _ _ _) (by rw[q];rfl) (by rw[q];exact D) hb Z;rw[rS (C _) gS (by rw[l];rfl) (by rw[l];exact G),g];rw[q,En,DL,Dd,splice_one _ _ _ B.2];exact k _
end
end
section
variable {h':HF}{c n':Nat}
structure SideD where
 A:List Rat
 lo:List UInt8
 hi:List UInt8
def uK(lo:Nat)(c:List ψ)(d:SideD)(h:HF)(n:Nat):Prop:=∃aA lA kA x1 b1 a1 l1 c1 d1 e1 f1 g1 x2 b2 a2 l2 c2 d2 e2 f2 g2,c=[Y aA lA kA,U x1,U b1,Y a1 l1 c1,U d1,Y e1 f1 g1,U x2,U b2,Y a2 l2 c2,U d2,Y e2 f2 g2]/\KM lo h n (Y aA lA kA) d.A/\(x1=φ↔d.lo≠[])/\IW h n b1 a1 l1 c1 (zj d.lo).num/\IW h n d1 e1 f1 g1 (denZ (zj d.lo))/\(x2=φ↔d.hi≠[])/\IW h n b2 a2 l2 c2 (zj d.hi).num/\IW h n d2 e2 f2 g2 (denZ (zj d.hi))
def uK.stay(lo:Nat):Stay (uK lo):=⟨λ_ _ _ _ _ _ ⟨i,T,P,Z4,m,f,R,q,u,A,C,F,V,p,g,S,s,y,B,D,G,H,I,J,K,L,M,N,Z1⟩ x a=>⟨i,T,P,Z4,m,f,R,q,u,A,C,F,V,p,g,S,s,y,B,D,G,H,I.ext x a,J,K.ext x a,L.ext x a,M,N.ext x a,Z1.ext x a⟩⟩
def uK.nus{lo:Nat}{c:List ψ}{d:SideD}{h:HF}{n:Nat}(s:uK lo c d h n):c.all nu=φ/\ones c=φ/\O c=11:=by obtain⟨g,K,H,L,i,a,I,p,u,A,C,F,M,m,f,J,q,y,B,D,G,rfl,_⟩:=s;exact R3
def MH(lo n:Nat)(h h':HF):Prop:=∀b,b<3*n->h' b=h b\/((b<3*lo\/gro b=φ)/\∃cs e,h b=ξ (.row cs e)/\cs.all nu=φ)
theorem Sl.chgG{lo:Nat}{h:HF}{n:Nat}(s:Sl h n 1 v cl)(f:∀x∈cl,nu x=χ)(m:MH lo n h h')(q:n<=n'):Sl h' n' 1 v cl:=by
 cases s with
 |nil ha=>exact .nil (uw ha q)
 | @at_ b2 off len cap x cs2 c2 hb hx hc2 hcap hl he=>
  obtain g|⟨_,cs,e,u,y⟩:=m b2 hb;exact .at_ Z (g.trans hx) hc2 hcap hl he;by_cases h0:len=0;subst h0;have:cl=[]:=by rw[<-he];simp
  subst this;exact .nil (.inr ⟨_,_,_,ω,Z⟩);exfalso;rw[u]at hx;cases hx;injection hc2 with hc2;subst hc2;have i:O cl=len:=by grind
  obtain⟨d,a,rfl⟩:∃d a,cl=d::a:=by
   cases cl with
   |nil=>exact BO i.symm h0
   |cons d a=>exact⟨d,a,ω⟩
  have p:d∈cs:=by grind
  have:=Fu.1 y _ p;rw[f d Eb]at this;cases this
def IW.chg{lo:Nat}{h:HF}{n:Nat}{b:Bool}{a:Option Addr}{x:Int}(i:IW h n b a l c x)(p:MH lo n h h')(q:n<=n'):IW h' n' b a l c x:=by have⟨e,L,f,g,m⟩:=i;exact⟨e,L,f.chgG (λx s=>by obtain⟨d,_,rfl⟩:=DU.1 s;rfl) p q,g,m⟩
def KM.chg{lo:Nat}{h:HF}{n:Nat}{l:List Rat}(r:KM lo h n v l)(s:MH lo n h h')(u:n<=n'):KM lo h' n' v l:=by
 have⟨⟨p,B,C⟩,y⟩:=r;refine⟨⟨p,?_,C.mono λc d⟨b,a,l,k,d,e,f,g,A,i,j⟩=>⟨b,a,l,k,d,e,f,g,A,i.chg s u,j.chg s u⟩⟩,y⟩;cases B with
 |nil ha=>exact .nil (uw ha u)
 |at_ hb hx hcs hcap hl he=>
  refine .at_ Z ?_ hcs hcap hl he;have:=y _ _ _ rfl;obtain m|⟨m|m,_⟩:=s _ hb;exact m.trans hx;have q:=this.1;simp only at q;omega;have q:=this.2;simp only at q;rw[q]at m;cases m
def uK.chg{lo:Nat}{c:List ψ}{d:SideD}{h:HF}{n:Nat}(s:uK lo c d h n)(a:MH lo n h h')(f:n<=n'):uK lo c d h' n':=by have⟨m,V,S,W,p,g,T,u,A,C,F,H,Z3,q,i,Z4,y,B,D,G,I,J,K,L,M,N,Z1,P,R⟩:=s;exact⟨m,V,S,W,p,g,T,u,A,C,F,H,Z3,q,i,Z4,y,B,D,G,I,J,K.chg a f,L,M.chg a f,N.chg a f,Z1,P.chg a f,R.chg a f⟩
def Gro.same{lo n len:Nat}{h:HF}{C:List ψ}(g:Gro h lo n e sz v len C)(a:∀b,3*lo<=b->b<3*n->gro b=φ->h' b=h b):Gro h' lo n e sz v len C:=by
 cases g with
 |nil=>exact .nil
 |at_ hg hlo hb hr hl ho=>exact .at_ hg hlo hb ((a _ hlo hb hg).trans hr) hl ho
structure GSL (lo:Nat)(h:HF)(n:Nat)(v:ψ)(ds:List SideD):Prop where
 ex:∃C,Gro h lo n 99 11 v (O ds) C/\Rec 11 (λc d=>uK lo c d h n) C ds/\C.all nu=φ
def GSL.nil(lo:Nat)(h:HF)(n:Nat):GSL lo h n (η) []:=⟨[],.nil,.nil,ω⟩
def GSL.ext{lo:Nat}{h:HF}{n:Nat}{a:List SideD}(g:GSL lo h n v a)(x:J9 n h h')(f:n<=n'):GSL lo h' n' v a:=by have⟨C,i,m,p⟩:=g.ex;exact⟨C,i.ext x f,m.mono λc d q=>(uK.stay lo).go c d _ _ _ _ q x f,p⟩
def GSL.x{lo:Nat}{h:HF}{n:Nat}{a:List SideD}(g:GSL lo h n v a)(t:Tx n h n' h':=by exact zx):GSL lo h' n' v a:=g.ext t.2 t.1
def GSL.st{lo:Nat}{h:HF}{n:Nat}{a:List SideD}(g:GSL lo h n v a)(y:h b=ξ (.row cs e))(A:cs.all nu=φ)(f:Only b h h')(hb:b<3*lo):GSL lo h' n v a:=by have⟨C,i,m,p⟩:=g.ex;have q:MH lo n h h':=λk u=>(by by_cases e2:k=b;subst e2;exact .inr ⟨.inl hb,cs,e,y,A⟩;exact .inl (f k e2));exact⟨C,i.same λk u _ _=>f k Z,m.mono λc d s=>s.chg q CG,p⟩
def GSL.sto{lo:Nat}{h:HF}{n:Nat}{a:List SideD}(g:GSL lo h n v a)(o:Kx b h h')(hb:b<3*lo):GSL lo h' n v a:=by have⟨o,_,_,f,i⟩:=o;exact g.st f i o hb
def Keep.chg{lo n len:Nat}{h:HF}{C:List ψ}(k:Keep v n h h')(g:Gro h lo n e sz v len C)(f:C.all nu=φ):MH lo n h h':=λb a=>by
 cases g with
 |nil=>exact .inl (k b a λo l c e=>by cases e)
 | @at_ b2 _ _ hg hlo hb2 hr hl ho2=>
  by_cases e2:b=b2
  .subst e2;exact .inr ⟨.inr hg,_,_,hr,f⟩
  exact .inl (k b a λo l c e=>by cases e;exact e2 ω)
def KM.st{lo:Nat}{h:HF}{n:Nat}{l:List Rat}(g:KM lo h n v l)(f:h b=ξ (.row cs e))(i:cs.all nu=φ)(a:Only b h h')(hb:b<3*lo):KM lo h' n v l:=
 g.chg (λk m=>by
  by_cases e2:k=b
  .subst e2;exact .inr ⟨.inl hb,cs,e,f,i⟩
  .exact .inl (a k e2)) CG
def KM.sto{lo:Nat}{h:HF}{n:Nat}{l:List Rat}(g:KM lo h n v l)(o:Kx b h h')(hb:b<3*lo):KM lo h' n v l:=by have⟨o,_,_,a,f⟩:=o;exact g.st a f o hb
def KM.lo{lo:Nat}{h:HF}{n:Nat}{l:List Rat}(r:KM lo h n v l)(g:lo'<=lo):KM lo' h n v l:=⟨r.1,λf a cap e=>⟨by have:=(r.2 f a cap e).1;omega,(r.2 f a cap e).2⟩⟩
def KM.nil(lo:Nat)(h:HF)(n:Nat):KM lo h n (η) []:=⟨⟨[],.nil (.inl ω),.nil⟩,λf a cap e=>by cases e⟩
def uK.lo{lo:Nat}{c:List ψ}{d:SideD}{h:HF}{n:Nat}(s:uK lo c d h n)(P:lo'<=lo):uK lo' c d h n:=by have⟨g,Z4,R,V,i,a,S,p,u,A,C,F,W,m,f,T,q,y,B,D,G,H,I,J,K,L,M,N,Z1⟩:=s;exact⟨g,Z4,R,V,i,a,S,p,u,A,C,F,W,m,f,T,q,y,B,D,G,H,I.lo P,J,K,L,M,N,Z1⟩
def GSL.app{lo:Nat}{h:HF}{n:Nat}{v':ψ}{a:List SideD}{d:SideD}{C c:List ψ}(i:Gro h lo n 99 11 v (O a) C)(m:Rec 11 (λc d=>uK lo c d h n) C a)(h3:C.all nu=φ)(s:uK lo c d h n)(k:Keep v n h h')(g:Gro h' lo (n+1) 99 11 v' (O a+1) (C++c)):GSL lo h' (n+1) v' (a++[d]):=by have f:=k.chg i h3;refine⟨C++c,by rw[CP];exact g,(m.mono λc d s=>s.chg f Zq).snoc s.nus.2.2 (s.chg f Zq),?_⟩;rw[Is,h3,s.nus.1];rfl
def KC(h:HF)(n:Nat)(v:ψ)(ds:List SideD):Prop:=RS 11 (uK 0) h n v ds
def GSL.sds{lo:Nat}{h:HF}{n:Nat}{a:List SideD}(g:GSL lo h n v a):KC h n v a:=by have⟨C,f,i,m⟩:=g.ex;exact⟨C,f.sl,i.mono λc d s=>s.lo CH⟩
def KC.ext{h:HF}{n:Nat}{l:List SideD}(r:KC h n v l)(x:J9 n h h')(a:n<=n'):KC h' n' v l:=RS.ext' (uK.stay 0) r x a
def KC.x{h:HF}{n:Nat}{l:List SideD}(r:KC h n v l)(t:Tx n h n' h':=by exact zx):KC h' n' v l:=r.ext t.2 t.1
def KC.len{h:HF}{n:Nat}{a:Option Addr}{len:Nat}{l:List SideD}(r:KC h n (Y a len cap) l):len=O l:=RS.len' zd r
def KC.at{h:HF}{n:Nat}{a:Option Addr}{len:Nat}{l:List SideD}{d:SideD}(r:KC h n (Y a len cap) l)(hj:l[j]?=ξ d):∃g f p N K Z1 q i L u B D G I P s m M y C F H J,a=ξ ⟨g,f,θ⟩/\g<3*n/\j<len/\At h g (f+j*11) [Y p N K,U Z1,U q,Y i L u,U B,Y D G I,U P,U s,Y m M y,U C,Y F H J]/\QS h n (Y p N K) d.A/\(Z1=φ↔d.lo≠[])/\IW h n q i L u (zj d.lo).num/\IW h n B D G I (denZ (zj d.lo))/\(P=φ↔d.hi≠[])/\IW h n s m M y (zj d.hi).num/\IW h n C F H J (denZ (zj d.hi)):=by obtain⟨g,f,c,Z0,p2,p3,p4,_,p,N,K,Z1,q,i,L,u,B,D,G,I,P,s,m,M,y,C,F,H,J,rfl,R,S,T,Z4,V,W,Z3⟩:=RS.at' zd r hj;exact⟨g,f,p,N,K,Z1,q,i,L,u,B,D,G,I,P,s,m,M,y,C,F,H,J,Z0,p2,p3,p4,R.1,S,T,Z4,V,W,Z3⟩
section
variable {h:HF}{n:Nat}{d:Tmp}
def wE(cs:List ψ)(a:nJ X ops t o d (Kh o.op=2/\Kr X.E o.op (J8 t)=ξ ⟨cs,e,χ,ξ (l,c)⟩))
  (k:∀h',h' (3*n+2)=ξ (.row cs e)->J9 n h h'->EO X ops r ⟨upd t d (Y (ξ ⟨3*n+2,0,θ⟩) l c),h',n+1,w⟩ Q):EO X ops (o::r) ⟨t,h,n,w⟩ Q:=by have⟨a,g,m,f,i⟩:=a;exact pZ ⟨a,g,m,f,i⟩ (k _ (zg _ _ _) (Fe Z))
end
end
section
variable {h h':HF}{lo n n':Nat}{ds:List SideD}
structure RowD where
 A:List (List UInt8)
 lo:List UInt8
 hi:List UInt8
structure LPD where
 obj:List (List UInt8)
 rows:List RowD
 lower:List (List UInt8)
 upper:List (List UInt8)
def rowP(c:List ψ)(d:RowD)(h:HF)(n:Nat):Prop:=∃a l k,c=[Y a l k,CN ⟨⟨d.lo⟩⟩,CN ⟨⟨d.hi⟩⟩]/\Sl h n 1 (Y a l k) (strs d.A)
def rowP.stay:Stay rowP:=⟨λ_ _ _ _ _ _ ⟨a,l,k,e,s⟩ x c=>⟨a,l,k,e,s.ext x c⟩⟩
def Kz(h:HF)(n:Nat)(v:ψ)(ds:List RowD):Prop:=RS 3 rowP h n v ds
def Kz.ext{l:List RowD}(r:Kz h n v l)(x:J9 n h h')(a:n<=n'):Kz h' n' v l:=RS.ext' rowP.stay r x a
def Kz.x{l:List RowD}(r:Kz h n v l)(t:Tx n h n' h':=by exact zx):Kz h' n' v l:=r.ext t.2 t.1
def Kz.len{a:Option Addr}{len:Nat}{l:List RowD}(r:Kz h n (Y a len cap) l):len=O l:=RS.len' zd r
theorem Kz.at{a:Option Addr}{len:Nat}{l:List RowD}{d:RowD}(r:Kz h n (Y a len cap) l)(hj:l[j]?=ξ d):∃g f i o m,a=ξ ⟨g,f,θ⟩/\g<3*n/\j<len/\At h g (f+j*3) [Y i o m,CN ⟨⟨d.lo⟩⟩,CN ⟨⟨d.hi⟩⟩]/\Sl h n 1 (Y i o m) (strs d.A):=by obtain⟨g,f,c,p,q,u,w,_,i,o,m,rfl,s⟩:=RS.at' zd r hj;grind
structure VLP (p:LPD):Prop where
 n1:1<=O p.obj
 n2:O p.obj<=64
 ll:O p.lower=O p.obj
 lu:O p.upper=O p.obj
 lr:O p.rows<=64
 ob:∀s∈p.obj,vF s
 bd:∀(j:Nat) lo hi,p.lower[j]?=ξ lo->p.upper[j]?=ξ hi->pairOk lo hi
 rw:∀r∈p.rows,pairOk r.lo r.hi/\(∀s∈r.A,vF s)/\O r.A=O p.obj
def Ko(a:Nat)(s:List UInt8):Prop:=O s<500/\Sz a (zj s)
structure LPB (a:Nat)(p:LPD):Prop where
 ob:∀s∈p.obj,Ko a s
 lw:∀s∈p.lower,Ko a s
 up:∀s∈p.upper,Ko a s
 rl:∀r∈p.rows,Ko a r.lo/\Ko a r.hi/\O r.A<1000000/\∀s∈r.A,Ko a s
 n1:O p.obj<1000000
 n2:O p.rows<1000000
 n3:O p.lower<1000000
 n4:O p.upper<1000000
def rowS(r:RowD):SideD:=⟨r.A.map zj,r.lo,r.hi⟩
def zk(p:LPD):List SideD:=p.rows.map rowS
def zC(p:LPD):List SideD:=List.zipWith (λlo hi=>⟨[],lo,hi⟩) p.lower p.upper
def gj{p:LPD}{lo:List UInt8}(a:p.lower[j]?=ξ lo)(c:p.upper[j]?=ξ hi):(zC p)[j]?=ξ ⟨[],lo,hi⟩:=by unfold zC;rw[List.getElem?_zipWith,a,c]
def LK{p:LPD}{r:RowD}(a:p.rows[j]?=ξ r):(zk p)[j]?=ξ (rowS r):=by unfold zk;rw[DC,a];rfl
theorem GSL.extB{B:List Nat}(g:GSL lo h n v ds)(x:ExtB n B h h')(l:n<=n')(u:∀b∈B,b<3*lo/\∃cs e,h b=ξ (.row cs e)/\cs.all nu=φ):GSL lo h' n' v ds:=by
 have⟨C,m,o,p⟩:=g.ex;have w:MH lo n h h':=λk f=>(by by_cases a:k∈B;grind;exact .inl (x k f a));have q:=m.same λk f i _=>x k i λa=>by have:=(u k a).1;omega
 refine⟨C,?_,o.mono λc d s=>s.chg w l,p⟩;exact q.ext (FH n h') l
def Keep.blk{len:Nat}{C:List ψ}(k:Keep v n h h')(g:Gro h lo n e sz v len C)(hb:gro b=χ)(a:b<3*n):h' b=h b:=by
 refine k b a λo l c e=>?_;cases g with
 |nil=>cases e
 |at_ hg hlo hb2 hr a ho=>cases e;rw[hg]at hb;cases hb
end
section
variable {c len off:Nat}{sT ty:TypeId}{x:Operand}
def GR{D:Type}(sz:Nat)(P:List ψ->D->HF->Nat->Prop)(lo:Nat)(h:HF)(n:Nat)(e:TypeId)(v:ψ)(ds:List D):Prop:=∃C,Gro h lo n e sz v (O ds) C/\Rec sz (λc d=>P c d h n) C ds/\C.all nu=φ
section
variable {P:List ψ->D->HF->Nat->Prop}{lo n n':Nat}{h h':HF}{ds:List D}
def GR.nil:GR sz P lo h n e (η) ([]:List D):=⟨[],.nil,.nil,ω⟩
def GR.go(g:GR sz P lo h n e v ds)(q:KP sz P)(t:Tr n h n' h')(p:∀b,BkOf v b->h' b=h b):GR sz P lo h' n' e v ds:=by
 have⟨C,a,f,j⟩:=g;refine⟨C,?_,f.mono λ_ _ r=>q.t r t,j⟩;generalize (O ds)=L at a;cases a with
 |nil=>exact .nil
 |at_ hg hlo hb hr hl ho=>exact .at_ hg hlo Bs ((p _ ⟨_,_,_,ω⟩).trans hr) hl ho
def GR.bk(g:GR sz P lo h n e v ds):∀b,BkOf v b->3*lo<=b/\b<3*n/\gro b=φ/\Oo (h b):=by
 have⟨C,a,j,f⟩:=g;generalize (O ds)=L at a;rintro b⟨o,l,c,rfl⟩;cases a with
 |at_ hg hlo hb hr hl ho=>exact⟨hlo,hb,hg,.row hr f⟩
def GR.shape(g:GR sz P lo h n e v ds)(j:O ds=L):∃a,v=Y a L L:=by have⟨C,f,p,q⟩:=g;subst j;have⟨a,e,_⟩:=f.shape;exact⟨a,e⟩
def GR.or(g:GR sz P lo h n e v ds)(q:O ds=L)(p:L≠0):∃b,v=Y (ξ ⟨b,0,θ⟩) L L/\gro b=φ/\3*lo<=b/\OR sz P h n b ds/\KY h b e:=by
 have⟨C,a,f,j⟩:=g;rw[q]at a;cases a with
 |nil=>exact BO ω p
 |at_ hg hlo hb hr hl ho=>exact⟨_,ω,hg,hlo,⟨hb,_,_,hr,j,f⟩,_,hr⟩
theorem OR.gr(o:OR sz P h n b ds)(B:KP sz P)(A:KY h b e)(y:gro b=φ)(p:3*lo<=b)(s:O ds=L):GR sz P lo h n e (Y (ξ ⟨b,0,θ⟩) L L) ds:=by
 obtain⟨u,C,G,g,j,a⟩:=o;obtain⟨F,f⟩:=A;rw[f]at g;cases g;subst s;have q:ones C=φ:=by
  clear f j;induction a with
  |nil=>rfl
  |cons hl hp hr ih=>exact yZ (B.c hp).2.2 ih
 exact⟨_,.at_ y p u f a.len q,a,j⟩
end
def rF{m i:Nat}{r:List (Nat×Nat)}(hm:m.testBit i=φ)(k:ya m W r=φ):ya m W ((i,b)::r)=φ:=by unfold ya;rw[hm,Bool.true_or];exact k
section
variable {h:HF}{n:Nat}{ld:List (Nat×Nat)}{d:Tmp}
def MI{D:Type}{sz:Nat}{P:List ψ->D->HF->Nat->Prop}{e:TypeId}{s:Operand}{lo:Nat}{ds:List D}{q:D}{v:ψ}(c:List ψ)(g:GR sz P lo h n e v ds)(u:KP sz P)(p:P c q h n)(hx:argS h sz (J8 t x) 1 c)(T:ds.length<1000000)(G:lo<=n)(F:∀W:List Nat,(∀b∈W,3*lo<=b)->ya m W ld=φ)
  (k:∀f h' W,(∀b∈W,3*lo<=b)->GR sz P lo h' (n+1) e f (ds++[q])->Tr n h (n+1) h'->Exa lo h h'->(∀b,b<3*n->¬BkOf v b->h' b=h b)->(∀b,BkOf f b->3*n<=b)->ED X ops r ms (i+1) ⟨⟨upd t d f,h',n+1,addW n0 W w⟩,al,ld,(i,h,W)::ef⟩ Q)
  (Z4:zh ops t o=φ:=by rfl)(hd:o.dst=ξ d:=by rfl)(hn:zv X.nt (ξ d)=φ:=by rfl)(ho:o.op=.call {callee:=.builtin .append,args:=#[s,x],argTypes:=#[sT,xT]}:=by rfl)(hv:J8 t s=v:=by rfl)(hxT:(match X.E.und xT with|some (.int _)=>χ|none=>χ|_=>φ)=φ:=by rfl)(hu:X.E.und sT=ξ (.slice e):=by rfl)(hi:X.E.inf e=ξ (sz,bytes,z):=by rfl)(hz:(zn z).length=sz:=by rfl)(h1:1<=sz/\1<=bytes/\bytes<=1000:=by decide)(g1:xq m ef=φ:=by rfl)(g2:xJ m al=φ:=by rfl)(hX:X.n0=n0:=by rfl):ED X ops (o::r) (m::ms) i ⟨⟨t,h,n,w⟩,al,ld,ef⟩ Q:=by
 have S:=g;have⟨C,J,Z3,V⟩:=g;subst hv;have⟨y,H,I⟩:=u.c p;have a:(ds.length+1)*bytes<=1099511627776:=Nat.le_trans (Nat.mul_le_mul (show ds.length+1<=1000000 from Z) h1.2.2) zd;have⟨f,h',W,K,M,N,Z1,A,R⟩:=uf hu hi hz ⟨h1.1,h1.2.1⟩ J hx (Nat.le_refl _) a (by rw[Nat.one_mul];exact y) I G;refine iV Z4 hd hn ho hxT K g1 g2 (F W A) Zq ?_;rw[hX];have B:∀b,b<3*n->¬BkOf (J8 t s) b->h' b=h b:=λb a hn=>Z1 b a λo l c e=>hn ⟨o,l,c,e⟩;have j:Tr n h (n+1) h':=⟨Nat.le_succ _,λb a=>by
  by_cases hB:BkOf (J8 t s) b;exact .inr (S.bk b hB).2.2.2;exact .inl (B b a hB)⟩
 refine k f h' W A ⟨C++c,by rw[List.length_append];exact M,(Z3.mono λ_ _ r=>u.t r j).snoc y (u.t p j),by rw[List.all_append,V,H];rfl⟩ j ⟨N⟩ B λb⟨o,l,Z0,e⟩=>?_;subst e;exact R
def NL{a:Operand}{sz:Nat}{c:List ψ}{e:TypeId}(c':List ψ)(k:∀h',h' b=ξ (.row c' e)->Kx b h h'->EO X ops r ⟨t,h',n,w⟩ Q)(f:zh ops t o=φ:=by rfl)(hd:o.dst=θ:=by rfl)(ho:o.op=.store ty a x:=by rfl)(hi:X.E.inf ty=ξ (sz,bt,z):=by rfl)(ha:J8 t a=.pointer (ξ ⟨b,off,θ⟩):=by rfl)(hb:h b=ξ (.row c e):=by exact zp)(hu:c.all nu=φ:=by rfl)(hx:zn (J8 t x)=cs:=by rfl)(hs:cs.length=sz:=by rfl)(h1:ones cs=φ:=by rfl)(hl:off+sz<=c.length:=by exact zb)(hsp:zu c off cs=c':=by rfl)(hX:X.n0=n0:=by rfl)(hnew:3*n0<=b:=by omega):EO X ops (o::r) ⟨t,h,n,w⟩ Q:=
 Qd c' hb (λh' p q=>by rw[wD hnew];exact k h' p q) f hd ho hi ha hu hx hs h1 hl hsp hX
def MJ{e:TypeId}(cs:List ψ)(k:∀h',h' (3*n+2)=ξ (.row cs e)->J9 n h h'->ED X ops r ms (i+1) ⟨⟨upd t d (.slice (ξ ⟨3*n+2,0,θ⟩) l c),h',n+1,w⟩,(i,3*n+2)::al,ld,ef⟩ Q)(a:zh ops t o=φ:=by rfl)(hd:o.dst=ξ d:=by rfl)(hn:zv X.nt (ξ d)=φ:=by rfl)(hc:Kh o.op=2:=by rfl)(hm:Kr X.E o.op (J8 t)=ξ ⟨cs,e,χ,ξ (l,c)⟩:=by rfl):ED X ops (o::r) (m::ms) i ⟨⟨t,h,n,w⟩,al,ld,ef⟩ Q:=
 Rn a hd hn hc hm (k _ (zg _ _ _) (J9.upd (show 3*n<=3*n+2 from Z)))
end
def yL{l w:List Nat}{p:Nat->Prop}(a:∀c∈l,p c)(f:∀c∈w,p c):∀c∈addW n0 l w,p c:=λc g=>by
 obtain⟨h,_⟩|h:=tI _ _ c g
 .exact a c h
 exact f c h
def RS.sub{D:Type}{sz:Nat}{P:List ψ->D->HF->Nat->Prop}(u:0<sz){h:HF}{n:Nat}{l:List D}(q:RS sz P h n (Y (ξ ⟨b,off,θ⟩) len cap) l){m cap':Nat}(hm:m+c<=len)(y:c<=cap'):RS sz P h n (Y (ξ ⟨b,off+m*sz,θ⟩) c cap') ((l.drop m).take c):=by
 have F:=q.len' u;have⟨a,s,r⟩:=q;by_cases h0:len=0;have g:c=0:=Z;have f:=s.below;subst g;rw[EP];exact⟨[],.nil (.inr ⟨_,_,_,ω,f⟩),.nil⟩;have⟨_,_,x,cs,e,f,H,j,A,I,C⟩:=s.inv h0;injection e with e;injection e with e1 e2;subst e1 e2;have p:=CS sz hm;rw[Nat.add_mul]at p;refine⟨(a.drop (m*sz)).take (c*sz),.at_ f H j y Z (XS C Z),?_⟩;have B:∀{m:Nat} {a:List ψ} {l:List D},Rec sz (λc d=>P c d h n) a l->Rec sz (λc d=>P c d h n) (a.drop (m*sz)) (l.drop m):=by
  intro m;induction m with
  |zero=>intro a l r;rw[D2];exact r
  |succ m ih=>
   intro a l r;cases r with
   |nil=>rw[ak2,ak2];exact .nil
   | @cons c1 cs1 d1 ds1 hl hp hr=>
    rw[Iu,EM,Ee (m*sz) sz,<-EQ,List.drop_left' hl];exact ih hr
 have G:∀{c:Nat} {a:List ψ} {l:List D},Rec sz (λc d=>P c d h n) a l->Rec sz (λc d=>P c d h n) (a.take (c*sz)) (l.take c):=by
  intro c;induction c with
  |zero=>intro a l r;rw[D2,EP,EP];exact .nil
  |succ c ih=>
   intro a l r;cases r with
   |nil=>rw[ak3,ak3];exact .nil
   | @cons c1 cs1 d1 ds1 hl hp hr=>
    rw[JW,EM,Ee (c*sz) sz,Jf,CR Z,hl,E1];exact .cons hl hp (ih hr)
 exact G (B r)
section
variable {h:HF}{n:Nat}{ld:List (Nat×Nat)}{d:Tmp}
def OI{e:TypeId}{hi:Operand}{sz:Nat}{j:Int}(mm:Nat)(a:nJ X ops t o d (o.op=.slice ty x θ (ξ hi) θ/\X.E.und ty=ξ (.slice e)/\X.E.inf e=ξ (sz,bt,z)))
  (hx:J8 t x=Y (ξ ⟨b,off,θ⟩) len cap)(hj:J8 t hi=CJ ik j)(hm:j=(mm:Int))(A:mm<=cap)(k:ED X ops r ms (i+1) ⟨⟨upd t d (Y (ξ ⟨b,off,θ⟩) mm cap),h,n,w⟩,al,ld,ef⟩ Q):ED X ops (o::r) (m::ms) i ⟨⟨t,h,n,w⟩,al,ld,ef⟩ Q:=by
 have⟨a,s,u,g,y,f⟩:=a;refine yQ a s u gS ?_ k;rw[g];subst hm;show xc X.E ty (J8 t x) θ (ξ (J8 t hi))=_;rw[hx,hj];have p:(0:Int)<=(mm:Int)/\(mm:Int)<=cap:=Z;have q:(gro b&&(Dj 1 0&&Dj cap 0))=χ:=by cases gro b<;>rfl
 simp only[xc,y,f,bnd,Cx p,En,q,Ri,GV]
end
end
section
variable {off:Nat}{ty:TypeId}{x:Operand}
def mY{n:Nat}:(KI k n nt).n0=n:=rfl
section
variable {h:HF}{n:Nat}{d:Tmp}
theorem NM{l c:Operand}(zs:List ψ)(k:∀h',h' (3*n+2)=ξ (.row (rep L zs) e)->J9 n h h'->EO X ops r ⟨upd t d (.slice (ξ ⟨3*n+2,0,θ⟩) L L),h',n+1,w⟩ Q)(a:L<=1000)(f:zh ops t o=φ:=by rfl)(hd:o.dst=ξ d:=by rfl)(hn:zv X.nt (ξ d)=φ:=by rfl)(ho:o.op=.makeSlice ty l c:=by rfl)(hu:X.E.und ty=ξ (.slice e):=by rfl)(hi:X.E.inf e=ξ (sz,bt,z):=by rfl)(hz:zn z=zs:=by rfl)(hl:J8 t l=.int ik (L:Int):=by rfl)(hc:J8 t c=.int ik' (L:Int):=by rfl)(hs:zs.length=sz:=by rfl)(hb:bt<=1000:=by exact Nat.le_of_ble_eq_true ω):EO X ops (o::r) ⟨t,h,n,w⟩ Q:=
 vB ⟨f,hd,hn,ho,hu,hi,hl,hc,(by rw[hz];exact hs)⟩ ⟨Nat.le_refl _,Nat.le_trans (Nat.mul_le_mul a hb) zd,Z⟩ (k _ (by grind [zg]) (J9.upd Z))
end
section
variable {h:HF}{n:Nat}{ld:List (Nat×Nat)}{d:Tmp}
def Qe{P:List ψ->D->HF->Nat->Prop}{a:Operand}{zs:List D}{q:D}(c:List ψ)(y:OR sz P h n b zs)(u:KP sz P)(hj:j<zs.length)(l:off=j*sz)(s:P c q h n)(g:3*n0<=b)(k:∀f,OR sz P f n b (zs.set j q)->Kx b h f->ED X ops r ms (i+1) ⟨⟨t,f,n,w⟩,al,ld,(i,h,[b])::ef⟩ Q)(p:zh ops t o=φ:=by rfl)(hd:o.dst=θ:=by rfl)(ho:o.op=.store ty a x:=by rfl)(hi:X.E.inf ty=ξ (sz,bt,z):=by rfl)(ha:J8 t a=.pointer (ξ ⟨b,off,θ⟩):=by rfl)(hx:zn (J8 t x)=c:=by rfl)(h1:xq m ef=φ:=by rfl)(h2:xJ m al=φ:=by rfl)(h3:ya m [b] ld=φ:=by rfl)(hX:X.n0=n0:=by rfl):ED X ops (o::r) (m::ms) i ⟨⟨t,h,n,w⟩,al,ld,ef⟩ Q:=
 dZ c y u hj l s (λf v A _=>by rw[wD g];exact k f v A) p hd ho hi ha hx h1 h2 h3 hX
end
def Tv(k:Nat)(h:HF)(n:Nat):CX (Ka (k+3)) 43 [CJ .i64 1] h n (QV 1):=by refine zw R4<|Za λh1 v A=>?_;refine zG ?_;refine sC (NK _ _ _) ?_;rintro _ p s⟨c,a,g,f,rfl,l⟩ C B;refine sT #[U c,Y a g f,U χ,η] ?_;refine sS [U c,Y a g f,U χ,η] λq y u=>?_;refine zq ?_;exact⟨_,_,_,_,_,_,_,_,ω,(l.t zt:IW _ _ _ _ _ _ 1),EB _ _⟩
end
section
variable {P:List ψ->D->Prop}
def Rec.app{cs a:List ψ}{c b:List D}(r:Rec sz P cs c)(s:Rec sz P a b):Rec sz P (cs++a) (c++b):=by
 induction r with
 |nil=>exact s
 |cons hl hp hr ih=>rw[Dp];exact .cons hl hp ih
end
section
variable {h:HF}{n:Nat}{ld:List (Nat×Nat)}{d:Tmp}
def OJ{D:Type}{sz:Nat}{P:List ψ->D->HF->Nat->Prop}{xT sT e:TypeId}{s x:Operand}{lo a:Nat}{z:ψ}{q:List D}{v:ψ}{n0:Nat}(c:List ψ)(p:List D)(g:GR sz P lo h n e v q)(G:KP sz P)(I:Rec sz (λc d=>P c d h n) c p)(F:c.all nu=φ/\ones c=φ){K:ψ}(hx:argS h sz K p.length c)(hm:1<=p.length)(V:q.length+p.length<1000000)(B:n0<=lo/\lo<=n)
  (k:∀u f,GR sz P lo f (n+1) e u (q++p)->Tr n h (n+1) f->J9 lo h f->(∀b,b<3*n->¬BkOf v b->f b=h b)->(∀b,BkOf u b->3*n<=b)->EO X ops r ⟨upd t d u,f,n+1,w⟩ Q)
  (Z3:zh ops t o=φ:=by rfl)(hd:o.dst=ξ d:=by rfl)(hn:zv X.nt (ξ d)=φ:=by rfl)(ho:o.op=.call {callee:=.builtin .append,args:=#[s,x],argTypes:=#[sT,xT]}:=by rfl)(hv:J8 t s=v:=by rfl)(hux:J8 t x=K:=by rfl)(hxT:(match X.E.und xT with|some (.int _)=>χ|none=>χ|_=>φ)=φ:=by rfl)(hus:X.E.und sT=ξ (.slice e):=by rfl)(hi:X.E.inf e=ξ (sz,a,z):=by rfl)(hz:(zn z).length=sz:=by rfl)(h1:1<=sz/\1<=a/\a<=1000:=by decide)(hX:X.n0=n0:=by rfl):EO X ops (o::r) ⟨t,h,n,w⟩ Q:=by
 have Z4:=g;have⟨C,L,J,H⟩:=g;subst hv hux;have j:(q.length+p.length)*a<=1099511627776:=Nat.le_trans (Nat.mul_le_mul (show q.length+p.length<=1000000 from Z) h1.2.2) zd;have⟨u,f,W,M,N,Z1,S,R,T⟩:=uf hus hi hz ⟨h1.1,h1.2.1⟩ L hx hm j I.len F.2 B.2;refine yM ⟨Z3,hd,hn,ho,hxT⟩ M ?_;rw[hX,zV λb j=>by have:=R b j;omega];have A:∀b,b<3*n->¬BkOf (J8 t s) b->f b=h b:=λb j hn=>S b j λo l c e=>hn ⟨o,l,c,e⟩;have y:Tr n h (n+1) f:=⟨Nat.le_succ _,λb j=>by
  by_cases hB:BkOf (J8 t s) b;exact .inr (Z4.bk b hB).2.2.2;exact .inl (A b j hB)⟩
 refine k u f ⟨C++c,by rw[List.length_append];exact N,(J.mono λ_ _ r=>G.t r y).app (I.mono λ_ _ r=>G.t r y),by rw[List.all_append,H,F.1];rfl⟩ y Z1 A λb⟨o,l,Z0,e⟩=>?_;subst e;exact T
end
def pOps(E:Env):List Oper->List Nat->Nat->List Nat->Bool
 |[],_,_,_=>φ
 |o::r,m::ms,i,es=>match o.op with
  | .store _ _ _=>es.all (λj=>m.testBit j)&&pOps E r ms (i+1) (i::es)
  |_=>(MF E o.op&& !(DO (Kh o.op) 1))&&pOps E r ms (i+1) es
 |_::_,[],_,_=>χ
theorem zgl{m:Nat}:∀{a:List (Nat×HF×List Nat)},(∀y∈a,m.testBit y.1=φ)->xq m a=φ:=by
 intro a;induction a with
 |nil=>intro _;rfl
 |cons y a ih=>
  grind [xq]
theorem ziv{X:CtxF}{j:List Oper}:∀(l:List Oper) (ms:List Nat) (i:Nat) (s:SV) (e:List (Nat×HF×List Nat)) (es:List Nat),(∀y∈e,y.1∈es)->pOps X.E l ms i es=φ->z0 X j l ms i ⟨s,[],[],e⟩=seqF X j l s:=by
 intro l;induction l with
 |nil=>intro ms i s e es _ _;simp[z0,seqF]
 |cons o l ih=>
  intro ms i s e es g b;cases ms with
  |nil=>simp[pOps]at b
  |cons m ms=>
   unfold pOps at b;unfold z0 seqF;simp only;split at b;rename_i ty a x f;rw[DM]at b;cases hw:zh j s.t o with
   |false=>
    simp only;congr 1;grind
   |true=>
    simp only;have p:Kh o.op=3:=by rw[f];rfl
    unfold rL La;have u:xq m e=φ:=zgl λy D=>Fu.1 b.1 _ (g y D);simp only[p,u,xJ,DZ];unfold mf;have A:effF X.E o.op (J8 s.t) s.h s.n=uG X.E ty (J8 s.t a) (J8 s.t x) s.h s.n:=by rw[f];rfl
    rw[A];cases he:uG X.E ty (J8 s.t a) (J8 s.t x) s.h s.n with
    |none=>rfl
    |some r=>
     obtain⟨v,G,H,W,rfl⟩:=jz he;have B:=Sh he;subst B;simp only;have w:ya m W []=φ:=rfl;unfold xH;split;simp only[w,CV CG,DZ];grind;rfl
   rw[DM,DM]at b;cases hw:zh j s.t o with
   |false=>
    simp only;congr 1;funext s1;exact ih ms (i+1) s1 e es g b.2
   |true=>
    simp only;unfold rL La;obtain F|⟨t,d,x,k,f,q⟩:=PF b.1.1;cases p:Kh o.op with
    |zero=>
     simp only[p];cases yy X.E o.op (J8 s.t)with
     |none=>rfl
     |some v=>
      simp only;congr 1;funext s1;exact ih ms (i+1) s1 e es g b.2
    |succ c=>
     cases c with
     |zero=>rw[p]at b;simp at b
     |succ c=>omega
    have p:Kh o.op=4:=by rw[f];rfl
    have C:Kr X.E o.op (J8 s.t)=θ:=by rw[f];exact sQ q _
    simp only[p,C];cases hpu:yy X.E o.op (J8 s.t)with
    |none=>
     rw[f];simp only[vJ q]
    |some v=>
     rw[f];simp only[vJ q];congr 1;funext s1;exact ih ms (i+1) s1 e es g b.2
theorem nR{X:CtxF}{d:Nat}{a:Array Oper}{s:SV}{Q:Ex->SV->Prop}(b:pOps X.E a.toList (xA a.toList []) 0 []=φ):EC X (.region d a φ) s Q↔EO X a.toList a.toList s (Q .normal):=by unfold EC EO;rw[xk];have e:z0 X a.toList a.toList (xA a.toList []) 0 ⟨s,[],[],[]⟩=seqF X a.toList a.toList s:=ziv _ _ _ _ _ _ (λy c=>BO c CT) b;grind
section
variable {ty:TypeId}{x:Operand}
def yP:List UInt8:=[48,48,48,49,48,50,48,51,48,52,48,53,48,54,48,55,48,56,48,57,49,48,49,49,49,50,49,51,49,52,49,53,49,54,49,55,49,56,49,57,50,48,50,49,50,50,50,51,50,52,50,53,50,54,50,55,50,56,50,57,51,48,51,49,51,50,51,51,51,52,51,53,51,54,51,55,51,56,51,57,52,48,52,49,52,50,52,51,52,52,52,53,52,54,52,55,52,56,52,57,53,48,53,49,53,50,53,51,53,52,53,53,53,54,53,55,53,56,53,57,54,48,54,49,54,50,54,51,54,52,54,53,54,54,54,55,54,56,54,57,55,48,55,49,55,50,55,51,55,52,55,53,55,54,55,55,55,56,55,57,56,48,56,49,56,50,56,51,56,52,56,53,56,54,56,55,56,56,56,57,57,48,57,49,57,50,57,51,57,52,57,53,57,54,57,55,57,56,57,57]
def wI(m:Nat)(hm:m<100):∃b1 b2,yP[m*2]?=ξ b1/\yP[m*2+1]?=ξ b2/\b1.toNat=48+m/10/\b2.toNat=48+m%10/\(yP.drop (m*2)).take 2=[b1,b2]:=by
 have h:∀i:Fin 100,(match yP[i.val*2]?,yP[i.val*2+1]? with|some b1,ξ b2=>decide (b1.toNat=48+i.val/10/\b2.toNat=48+i.val%10/\(yP.drop (i.val*2)).take 2=[b1,b2])|_,_=>χ)=φ:=by decide+kernel
 have:=h ⟨m,hm⟩;simp only at this;split at this;rename_i b1 b2 h1 h2;have b:=of_decide_eq_true this;exact⟨b1,b2,h1,h2,b.1,b.2.1,b.2.2⟩;cases this
section
variable {h:HF}{n:Nat}{d:Tmp}
def jB{i l:Operand}(b:nJ X ops t o d (o.op=.slice ty x (ξ i) (ξ l) θ/\X.E.und ty=ξ .string/\J8 t x=CN ⟨⟨s⟩⟩/\J8 t i=CJ ik (j:Int)/\J8 t l=CJ ik' (m:Int)))(B:j<=m/\m<=O s)
  (k:EO X ops r ⟨upd t d (CN ⟨⟨(s.drop j).take (m-j)⟩⟩),h,n,w⟩ Q):EO X ops (o::r) ⟨t,h,n,w⟩ Q:=by have⟨b,g,u,c,v,A,p,q⟩:=b;refine zZ ⟨b,g,u,AK⟩ ?_ k;rw[c];show xc X.E ty (J8 t x) (ξ (J8 t i)) (ξ (J8 t l))=_;rw[A,p,q];have e:(0:Int)<=(j:Int)/\(j:Int)<=(m:Int):=Z;have f:(0:Int)<=(m:Int)/\(m:Int)<=(O s:Int):=Z;simp only[xc,v,bnd,Cx e,Cx f,En]
end
section
variable {h:HF}{n:Nat}{d:Tmp}
def zap{s:Nat}(l:zh ops t o=φ)(f:o.dst=ξ d)(g:zv X.nt (ξ d)=φ)(b:o.op=.binOp .shr ty x y ty')(hx:J8 t x=CJ .i64 (a:Int))(p:J8 t y=CJ ik (s:Int))(q:s<=64)
  (k:EO X ops r ⟨upd t d (CJ .i64 ((a/2^s:Nat):Int)),h,n,w⟩ Q):EO X ops (o::r) ⟨t,h,n,w⟩ Q:=by
 refine zZ ⟨l,f,g,(by rw[b];rfl)⟩ ?_ k;rw[b];show binE X.E .shr ty (J8 t x) (J8 t y)=_;rw[hx,p];have c:¬(s:Int)<0:=Z;have e:min (s:Int).toNat (Ew .i64)=s:=by simp[Ew];omega
 exact BI
end
def zbs(h:i<10):decT i=[Ek (48+i)]:=by
 have c:(Ek (48+i)).toNat=48+i:=Ol h;by_cases h0:i=0;subst h0;rfl;have:=qC (d:=[Ek (48+i)]) (λb f=>by rw[C0.1 f,c];omega) eF (by
  intro e;injection e with e;have:=congrArg ao5 e;rw[c]at this;have g:(48:UInt8).toNat=48:=rfl;omega)
 rw[<-this];congr 1;show i=10*0+((Ek (48+i)).toNat-48);rw[c];omega
def zi2{c f:UInt8}(u:10<=i/\i<100)(p:c.toNat=48+i/10)(q:f.toNat=48+i%10):decT i=[c,f]:=by
 have:=qC (d:=[c,f]) (λb g=>by
  simp only[Dk,CT,or_false]at g;obtain rfl|rfl:=g<;>omega) eF (by
  intro e;injection e with e;have:=congrArg ao5 e;have l:(48:UInt8).toNat=48:=rfl;omega)
 rw[<-this];congr 1;show i=10*(10*0+(c.toNat-48))+(f.toNat-48);omega
def Qf:List UInt8:=[48,49,50,51,52,53,54,55,56,57,97,98,99,100,101,102,103,104,105,106,107,108,109,110,111,112,113,114,115,116,117,118,119,120,121,122]
def znu(m:Nat)(hm:m<10):(Qf.drop m).take 1=[Ek (48+m)]:=by
 have h:∀i:Fin 10,(Qf.drop i.val).take 1=[Ek (48+i.val)]:=by decide+kernel
 exact h ⟨m,hm⟩
def ka(k:Nat)(h:HF)(n:Nat)(hi:i<100):VF (Ka (k+1)) 166 [CJ .i64 (i:Int)] h n λv=>v=CN ⟨⟨decT i⟩⟩:=by refine zO R4<|mL ?_;by_cases h10:i<10;refine Zm ?_;refine zR ?_;refine jB (s:=Qf) (j:=i) (m:=i+1) R8 ⟨Z,by show i+1<=36;omega⟩ ?_;rw[show i+1-i=1 by omega,znu i h10,<-zbs h10];refine Zc ?_;exact BC;refine iU ?_;have⟨g,l,_,_,c,e,f⟩:=wI i hi;refine zM ?_;refine st_mul (a:=(i:Int)) (b:=2) ω ω ω ω ω ω Z ?_;refine zM ?_;refine st_mul (a:=(i:Int)) (b:=2) ω ω ω ω ω ω Z ?_;refine zR ?_;refine jB (s:=yP) (j:=i*2) (m:=i*2+2) R8 ⟨Z,by show i*2+2<=200;omega⟩ ?_;rw[show i*2+2-i*2=2 by omega,f,<-zi2 Z c e];refine Zc ?_;exact BC
def aI(k:Nat)(h:HF)(n:Nat)(b:Bool):VF (Ka (k+1)) 189 [U b] h n λv=>v=CJ .i64 (if b then 1 else 0):=by refine zO R4<|Zp ?_;cases b;rw[za rfl];refine mL ?_;exact BC;rw[ze rfl];refine mL ?_;exact BC
def zh6(k:Nat)(h:HF)(n:Nat)(hm:m<=64):VF (Ka (k+1)) 188 [CJ .i64 (m:Int)] h n λv=>v=CJ .i64 ((m*78913/262144:Nat):Int):=by refine zO R4<|jQ ?_;refine jQ ?_;refine st_mul ω ω ω ω ω ω Z ?_;refine zap (s:=18) ω ω ω ω ω ω Z<|Zc ?_;exact BC
def zpx(hm:m<20):GK.p10[0+(m:Int).toNat*1]?=ξ (CJ .u64 ((10^m:Nat):Int)):=by
 rw[show 0+(m:Int).toNat*1=m from Z];have h:∀i:Fin 20,(match GK.p10[i.val]? with|some (CJ .u64 x)=>decide (x=((10^i.val:Nat):Int))|_=>χ)=φ:=by decide+kernel
 have:=h ⟨m,hm⟩;simp only at this;split at this;rename_i x hx;rw[hx,of_decide_eq_true this];cases this
def zbb(hm:m<=64):m*78913/262144<20/\2^m<=10^(m*78913/262144+1)/\10^(m*78913/262144)<=5*2^m:=by
 have h:∀i:Fin 65,decide (i.val*78913/262144<20/\2^i.val<=10^(i.val*78913/262144+1)/\10^(i.val*78913/262144)<=5*2^i.val)=φ:=by decide+kernel
 exact of_decide_eq_true (h ⟨m,Z⟩)
theorem vy(k:Nat){h:HF}(C:GK.G h)(n:Nat){x:Nat}(hx:x<18446744073709551616)(B:x≠0):VF (Ka (k+2)) 167 [CJ .u64 (x:Int)] h n λv=>∃m:Nat,v=CJ .i64 (m:Int)/\1<=m/\m<=20/\x<10^m/\10^(m-1)<=x:=by
 refine zO R4<|mL ?_;refine zM ?_;refine yi _ R5 (bi k _ _ hx) ?_;rintro _⟨m,rfl,e,f,g⟩;refine yi _ R5 (zh6 k _ _ e) ?_;rintro _ rfl;have⟨c,u,A⟩:=zbb e;have F:=g B;generalize m*78913/262144=q at c u A⊢;refine Zc ?_;refine Zs ?_;refine fk R8 ⟨Int.natCast_nonneg _,Int.ofNat_lt.2 c⟩ ?_;refine zT R6 C.2.1 ⟨ω,(zpx c)⟩ ?_;by_cases hge:10^q<=x;refine jD R6 (am7.2 hge)<|yi _ R5 (aI (k+1) _ _ φ) ?_;rintro _ rfl;refine uI (a:=(q:Int)) (b:=1) R6 Z<|Zc ?_;exact retF _ ω (zi ω) R2 ⟨q+1,ω,Z,Z,CZ f u,hge⟩;refine NC R6 (λD=>hge (am7.1 D)) ?_;refine yi _ R5 (aI (k+1) _ _ χ) ?_;rintro _ rfl;refine uI (a:=(q:Int)) (b:=0) R6 Z ?_;rw[Int.add_zero];refine Zc ?_;have l:1<=q:=by grind
 refine retF _ ω (zi ω) R2 ⟨q,ω,l,Z,Z,?_⟩;obtain⟨p,rfl⟩:∃p,q=p+1:=⟨q-1,Z⟩;rw[Db]at A;show 10^p<=x;omega
end
section
variable {h h0:HF}{n:Nat}
def Dg(c:List ψ)(o L Z4 i:Nat):Prop:=∀j,i<=j->j<L->c[o+j]?=ξ (CJ .u8 ((48+Z4/10^(L-1-j)%10:Nat):Int))
structure FbI (h0:HF)(B:Nat)(e:TypeId)(o L Z4:Nat)(c0:List ψ)(h:HF)(w:List Nat)(c:List ψ)(i:Nat):Prop where
 w1:∀b∈w,b=B
 w2:w=[]->h=h0
 oth:Only B h0 h
 row:h B=ξ (.row c e)
 len:O c=O c0
 dg:Dg c o L Z4 i
 out:∀k,(k<o\/o+L<=k)->c[k]?=c0[k]?
def FbI.put{o:Nat}{d:List ψ}{c:List ψ}{v:Nat}(f:FbI h0 B e o L Z4 d h w c i)(hi:i=m+1)(q:i<=L)(s:o+L<=O d)(hv:v=48+Z4/10^(L-i)%10):FbI h0 B e o L Z4 d (upd h B (ξ (.row (c.set (o+m) (CJ .u8 (v:Int))) e))) (B::w) (c.set (o+m) (CJ .u8 (v:Int))) m:=by refine⟨λb a=>?_,λh=>Ag,λb a=>(zm a).trans (f.oth b a),zg _ _ _,by rw[DT,f.len],λj p g=>?_,λk l=>?_⟩;obtain h|h:=Dk.1 a;exact h;exact f.w1 b h;by_cases e2:j=m;subst e2;rw[List.getElem?_set_self (by rw[f.len];omega),hv,show L-1-j=L-i by omega];rw[JN Z];exact f.dg j Z g;rw[JN Z];exact f.out k l
def FbP(h:HF)(n B:Nat)(e:TypeId)(o L Z4:Nat)(c0:List ψ)(h':HF)(n':Nat)(w:List Nat):Prop:=n'=n/\(∀b∈w,b=B)/\∃c,FbI h B e o L Z4 c0 h' w c 0
def kN(k:Nat){o:Nat}{H:List ψ}(hB:B<3*n)(a0:h B=ξ (.row H e))(D:o+L<=O H)(hL:1<=L/\L<=20)(hU:Z4<10^L)(a2:Z4<18446744073709551616):
  CF (Ka (k+1)) 168 [Y (ξ ⟨B,o,θ⟩) L cap,CJ .u64 (Z4:Int)] h n λ_ M Z1 w=>FbP h n B e o L Z4 H M Z1 w:=by
 refine Lu R4 ?_;have f0:FbI h B e o L Z4 H h [] H L:=⟨λb hb=>BO hb CT,λ_=>rfl,λ_ _=>rfl,a0,ω,λj N h2=>BO N Z,λ_ _=>rfl⟩;refine mL ?_;refine ye (α:=Nat×Nat×List ψ) (λz=>[(0,Y (ξ ⟨B,o,θ⟩) L cap),(1,CJ .u64 (z.2.1:Int)),(4,CJ .i64 (z.1:Int))])
  (λz M Z1 w=>n=Z1/\FbI h B e o L Z4 H M w z.2.2 z.1/\z.1<=L/\z.2.1=Z4/10^(L-z.1)) (λz=>z.1) (L,Z4,H) P3 ⟨ω,f0,CG,by show Z4=Z4/10^(L-L);rw[D7,EG,HK]⟩ (by show L<LL;unfold LL;omega) ?_
 rintro⟨i,u,c⟩ t N _ w ⟨rfl,d,G,A⟩;dsimp only at d G A;have C:∀q,Z4/10^(L-i+q)=u/10^q:=λq=>by rw[A,Fv,<-D4]
 have a6:u<18446744073709551616:=by rw[A];exact Dh (Ef _ _) a2
 have f:u<10^i:=(by rw[A];refine Ik ?_;rw[<-D4,show L-i+i=L by omega];exact hU);refine zN ?_;by_cases h8:8<=i;refine lI ?_;refine jQ ?_;refine vO (a:=u) (b:=100000000) R6 Z<|M4 (c:=u%100000000) R7 Z<|Zl ?_;refine xN (a:=u) (b:=100000000) R6 ⟨Z,Z⟩ ?_;refine Zc ?_;generalize hus:u%100000000=us;refine zM ?_;refine Mb (a:=us) (b:=10000) R6 ⟨Z,Z⟩ ?_;refine zM ?_;refine wR (a:=us) (b:=10000) R6 Z<|mM ?_;refine zN ?_;generalize hlo:us%10000=lo;generalize hhi:us/10000=hg;have a3:lo%100=u%100:=Z;refine zM ?_;refine Mb (a:=lo) (b:=100) R6 ⟨Z,Z⟩ ?_;refine xM (a:=lo/100) (b:=2) R6 Z<|zM ?_;refine wR (a:=lo) (b:=100) R6 Z<|xM (a:=lo%100) (b:=2) R6 Z<|mM ?_;refine jQ ?_;refine Mb (a:=hg) (b:=100) R6 ⟨Z,Z⟩ ?_;refine xM (a:=hg/100) (b:=2) R6 Z<|zM ?_;refine wR (a:=hg) (b:=100) R6 Z<|xM (a:=hg%100) (b:=2) R6 Z<|mM ?_;refine zN ?_;generalize hm1:lo%100=m1;generalize hm2:lo/100=m2;generalize hm3:hg%100=m3;generalize hm4:hg/100=m4;have J:m1%10=u%10/\m1/10=u/10%10:=Z;have V:m2%10=u/100%10/\m2/10=u/1000%10:=Z;have k2:m3%10=u/10000%10/\m3/10=u/100000%10:=Z;have k3:m4%10=u/1000000%10/\m4/10=u/10000000%10:=Z;have l1:m1<100/\m2<100/\m3<100/\m4<100:=Z;rw[nR rfl];have⟨P,R,g,l,p,y,_⟩:=wI (m1) Z;refine Zn ?_;refine Zn ?_;refine zM ?_;refine xu (a:=m1*2) (b:=1) R6 Z<|yH (s:=yP) (j:=m1*2+1) R8 l ?_;rw[y];refine zM ?_;refine yH (s:=yP) (j:=m1*2) R8 g ?_;rw[p];refine yG (j:=i-1) R8 Z ⟨Z,Bo⟩ d.row gX (λ_=>rfl) R3 (λ_=>rfl) ω λ_=>?_;have F:=d.put (m:=i-1) (v:=48+(m1)%10) Z Z D (by rw[<-A,J.1]);refine yG (j:=i-2) R8 Z ⟨Z,by rw[F.len];omega⟩ F.row gX (λ_=>rfl) R3 (λ_=>rfl) ω λ_=>?_;have I:=F.put (m:=i-2) (v:=48+(m1)/10) Z Z D AA;refine zN ?_;rw[nR rfl];have⟨P,R,g,l,p,y,_⟩:=wI (m2) Z;refine Zn ?_;refine Zn ?_;refine zM ?_;refine xu (a:=m2*2) (b:=1) R6 Z<|yH (s:=yP) (j:=m2*2+1) R8 l ?_;rw[y];refine zM ?_;refine yH (s:=yP) (j:=m2*2) R8 g ?_;rw[p];refine yG (j:=i-3) R8 Z ⟨Z,by rw[I.len];omega⟩ I.row gX (λ_=>rfl) R3 (λ_=>rfl) ω λ_=>?_;have K:=I.put (m:=i-3) (v:=48+(m2)%10) Z Z D (by rw[show L-(i-2)=L-i+2 by omega,C 2,V.1]);refine yG (j:=i-4) R8 Z ⟨Z,by rw[K.len];omega⟩ K.row gX (λ_=>rfl) R3 (λ_=>rfl) ω λ_=>?_;have S:=K.put (m:=i-4) (v:=48+(m2)/10) Z Z D (by rw[show L-(i-3)=L-i+3 by omega,C 3,V.2]);refine zN ?_;rw[nR rfl];have⟨P,R,g,l,p,y,_⟩:=wI (m3) Z;refine Zn ?_;refine Zn ?_;refine zM ?_;refine xu (a:=m3*2) (b:=1) R6 Z<|yH (s:=yP) (j:=m3*2+1) R8 l ?_;rw[y];refine zM ?_;refine yH (s:=yP) (j:=m3*2) R8 g ?_;rw[p];refine yG (j:=i-5) R8 Z ⟨Z,by rw[S.len];omega⟩ S.row gX (λ_=>rfl) R3 (λ_=>rfl) ω λ_=>?_;have Z3:=S.put (m:=i-5) (v:=48+(m3)%10) Z Z D (by rw[show L-(i-4)=L-i+4 by omega,C 4,k2.1]);refine yG (j:=i-6) R8 Z ⟨Z,by rw[Z3.len];omega⟩ Z3.row gX (λ_=>rfl) R3 (λ_=>rfl) ω λ_=>?_;have Z0:=Z3.put (m:=i-6) (v:=48+(m3)/10) Z Z D (by rw[show L-(i-5)=L-i+5 by omega,C 5,k2.2]);refine zN ?_;rw[nR rfl];have⟨P,R,g,l,p,y,_⟩:=wI (m4) Z;refine Zn ?_;refine Zn ?_;refine zM ?_;refine xu (a:=m4*2) (b:=1) R6 Z<|yH (s:=yP) (j:=m4*2+1) R8 l ?_;rw[y];refine zM ?_;refine yH (s:=yP) (j:=m4*2) R8 g ?_;rw[p];refine yG (j:=i-7) R8 Z ⟨Z,by rw[Z0.len];omega⟩ Z0.row gX (λ_=>rfl) R3 (λ_=>rfl) ω λ_=>?_;have f8:=Z0.put (m:=i-7) (v:=48+(m4)%10) Z Z D (by rw[show L-(i-6)=L-i+6 by omega,C 6,k3.1]);refine yG (j:=i-8) R8 Z ⟨Z,by rw[f8.len];omega⟩ f8.row gX (λ_=>rfl) R3 (λ_=>rfl) ω λ_=>?_;have f9:=f8.put (m:=i-8) (v:=48+(m4)/10) Z Z D (by rw[show L-(i-7)=L-i+7 by omega,C 7,k3.2]);refine mL ?_;exact goOn (i-8,u/100000000,_) (by show i-8<i;omega) ⟨ω,ω,by show CJ .i64 _=CJ .i64 _;congr 1;show(i:Int)-8=((i-8:Nat):Int);omega,CE⟩ ⟨ω,f9,by show i-8<=L;omega,by show u/100000000=Z4/10^(L-(i-8));rw[show L-(i-8)=L-i+8 by omega,C 8]⟩;refine iU ?_;have a5:u<100000000:=CZ f (CW zd (show i<=8 from Z));refine zM ?_;refine M4 (c:=u) R7 Z<|Zl ?_;refine MD R6<|zN ?_;refine yj (α:=Nat×Nat×List ψ) (λz=>[(0,Y (ξ ⟨B,o,θ⟩) L cap),(4,CJ .i64 (z.1:Int)),(12,CJ .u32 (z.2.1:Int))]) (λz M Z1 w=>n=Z1/\FbI h B e o L Z4 H M w z.2.2 z.1/\z.1<=L/\z.2.1=Z4/10^(L-z.1)/\z.2.1<10^z.1/\z.1<4) ?_ ?_;by_cases h4:4<=i;rw[BJ (show(i:Int)>=4 from Z)];rw[ze rfl];refine jQ ?_;refine wR (a:=u) (b:=10000) R6 Z<|Zl ?_;refine Mb (a:=u) (b:=10000) R6 ⟨Z,Z⟩ ?_;refine Zc ?_;generalize hlo:u%10000=lo;refine zM ?_;refine Mb (a:=lo) (b:=100) R6 ⟨Z,Z⟩ ?_;refine xM (a:=lo/100) (b:=2) R6 Z<|zM ?_;refine wR (a:=lo) (b:=100) R6 Z<|xM (a:=lo%100) (b:=2) R6 Z<|mM ?_;refine zN ?_;generalize hm1:lo%100=m1;generalize hm2:lo/100=m2;have J:m1%10=u%10/\m1/10=u/10%10:=Z;have V:m2%10=u/100%10/\m2/10=u/1000%10:=Z;have l1:m1<100/\m2<100:=Z;rw[nR rfl];have⟨P,R,g,l,p,y,_⟩:=wI (m1) Z;refine Zn ?_;refine Zn ?_;refine zM ?_;refine xu (a:=m1*2) (b:=1) R6 Z<|yH (s:=yP) (j:=m1*2+1) R8 l ?_;rw[y];refine zM ?_;refine yH (s:=yP) (j:=m1*2) R8 g ?_;rw[p];refine yG (j:=i-1) R8 Z ⟨Z,Bo⟩ d.row gX (λ_=>rfl) R3 (λ_=>rfl) ω λ_=>?_;have F:=d.put (m:=i-1) (v:=48+(m1)%10) Z Z D (by rw[<-A,J.1]);refine yG (j:=i-2) R8 Z ⟨Z,by rw[F.len];omega⟩ F.row gX (λ_=>rfl) R3 (λ_=>rfl) ω λ_=>?_;have I:=F.put (m:=i-2) (v:=48+(m1)/10) Z Z D AA;refine zN ?_;rw[nR rfl];have⟨P,R,g,l,p,y,_⟩:=wI (m2) Z;refine Zn ?_;refine Zn ?_;refine zM ?_;refine xu (a:=m2*2) (b:=1) R6 Z<|yH (s:=yP) (j:=m2*2+1) R8 l ?_;rw[y];refine zM ?_;refine yH (s:=yP) (j:=m2*2) R8 g ?_;rw[p];refine yG (j:=i-3) R8 Z ⟨Z,by rw[I.len];omega⟩ I.row gX (λ_=>rfl) R3 (λ_=>rfl) ω λ_=>?_;have K:=I.put (m:=i-3) (v:=48+(m2)%10) Z Z D (by rw[show L-(i-2)=L-i+2 by omega,C 2,V.1]);refine yG (j:=i-4) R8 Z ⟨Z,by rw[K.len];omega⟩ K.row gX (λ_=>rfl) R3 (λ_=>rfl) ω λ_=>?_;have S:=K.put (m:=i-4) (v:=48+(m2)/10) Z Z D (by rw[show L-(i-3)=L-i+3 by omega,C 3,V.2]);refine mL ?_;refine zA (i-4,u/10000,_) ⟨ω,by show CJ .i64 _=CJ .i64 _;congr 1;show(i:Int)-4=((i-4:Nat):Int);omega,ω,CE⟩ ⟨ω,S,by show i-4<=L;omega,by show u/10000=Z4/10^(L-(i-4));rw[show L-(i-4)=L-i+4 by omega,C 4],?_,by show i-4<4;omega⟩;show u/10000<10^(i-4);refine Ik ?_;rw[show(10000:Nat)=10^4 from ω,<-D4,show 4+(i-4)=i by omega];exact f;rw[Ae (show ¬(i:Int)>=4 from Z)];rw[za rfl];try refine zN ?_
 exact zA (i,u,c) P3 ⟨ω,d,G,A,f,by show i<4;omega⟩;rintro⟨i,u,c⟩ t N _ w ⟨rfl,d,G,A,f,T⟩;dsimp only at d G A f T;have C:∀q,Z4/10^(L-i+q)=u/10^q:=λq=>by rw[A,Fv,<-D4]
 have a4:u<10000:=CZ f (CW zd (show i<=4 from Z));refine jQ ?_;refine MD R6<|zN ?_;refine yj (α:=Nat×Nat×List ψ) (λz=>[(0,Y (ξ ⟨B,o,θ⟩) L cap),(4,CJ .i64 (z.1:Int)),(12,CJ .u32 (z.2.1:Int))]) (λz M Z1 w=>n=Z1/\FbI h B e o L Z4 H M w z.2.2 z.1/\z.1<=L/\z.2.1=Z4/10^(L-z.1)/\z.2.1<10^z.1/\z.1<2) ?_ ?_;by_cases h2:2<=i;rw[BJ (show(i:Int)>=2 from Z)];rw[ze rfl];refine jQ ?_;refine wR (a:=u) (b:=100) R6 Z<|xM (a:=u%100) (b:=2) R6 Z<|Zl ?_;refine Mb (a:=u) (b:=100) R6 ⟨Z,Z⟩ ?_;refine Zc ?_;generalize hm1:u%100=m1;have J:m1%10=u%10/\m1/10=u/10%10:=Z;have l1:m1<100:=Z;rw[nR rfl];have⟨P,R,g,l,p,y,_⟩:=wI (m1) Z;refine Zn ?_;refine Zn ?_;refine zM ?_;refine xu (a:=m1*2) (b:=1) R6 Z<|yH (s:=yP) (j:=m1*2+1) R8 l ?_;rw[y];refine zM ?_;refine yH (s:=yP) (j:=m1*2) R8 g ?_;rw[p];refine yG (j:=i-1) R8 Z ⟨Z,Bo⟩ d.row gX (λ_=>rfl) R3 (λ_=>rfl) ω λ_=>?_;have F:=d.put (m:=i-1) (v:=48+(m1)%10) Z Z D (by rw[<-A,J.1]);refine yG (j:=i-2) R8 Z ⟨Z,by rw[F.len];omega⟩ F.row gX (λ_=>rfl) R3 (λ_=>rfl) ω λ_=>?_;have I:=F.put (m:=i-2) (v:=48+(m1)/10) Z Z D AA;refine mL ?_;refine zA (i-2,u/100,_) ⟨ω,by show CJ .i64 _=CJ .i64 _;congr 1;show(i:Int)-2=((i-2:Nat):Int);omega,ω,CE⟩ ⟨ω,I,by show i-2<=L;omega,by show u/100=Z4/10^(L-(i-2));rw[show L-(i-2)=L-i+2 by omega,C 2],?_,by show i-2<2;omega⟩;show u/100<10^(i-2);refine Ik ?_;rw[show(100:Nat)=10^2 from ω,<-D4,show 2+(i-2)=i by omega];exact f;rw[Ae (show ¬(i:Int)>=2 from Z)];rw[za rfl];try refine zN ?_
 exact zA (i,u,c) P3 ⟨ω,d,G,A,f,by show i<2;omega⟩;rintro⟨i,u,c⟩ t N _ w ⟨rfl,d,G,A,f,W⟩;dsimp only at d G A f W;refine zN ?_;by_cases h0:i=0;subst h0;refine mS ?_;try refine zN ?_
 refine⟨ω,[],ω,⟨ω,d.w1,c,d⟩,λhw=>?_⟩;subst hw;have:=d.w2 rfl;subst this;exact⟨ω,d.w1,c,d⟩;have a1:i=1:=Z;subst a1;have a7:u<10:=f;refine Zm ?_;refine xu (a:=48) (b:=u) R6 Z<|mE (a:=48+u) R7 ?_;rw[C7 (show 48+u<256 from Z)];refine yG (j:=0) R8 ω ⟨Z,Bo⟩ d.row gX (λ_=>rfl) R3 (λ_=>rfl) ω λ_=>?_;have F:=d.put (m:=0) (v:=48+u) ω G D Z;refine zN ?_;exact⟨ω,[],ω,⟨ω,F.w1,_,F⟩,λhw=>(by cases hw)⟩
end
section
variable {h0:HF}{len:Nat}{ty:TypeId}{x:Operand}
theorem ak:∀(L Z4:Nat),1<=L->Z4<10^L->10^(L-1)<=Z4->O (decD Z4)=L/\∀j,j<L->(decD Z4)[j]?=ξ (Z4/10^(L-1-j)%10):=by
 intro L;induction L with
 |zero=>intro Z4 h;omega
 |succ L ih=>
  intro Z4 _ m f;have p:0<10^L:=Dw zd;rw[FV]at f;have a:=wy (V:=Z4) Z;by_cases hL:L=0;subst hL;have e:Z4/10=0:=Z;rw[e,xo]at a;rw[a];refine⟨ω,λj l=>?_⟩;have:j=0:=Z;subst this;rw[show 0+1-1-0=0 by omega,EG,HK];rfl;have⟨c,g⟩:=ih (Z4/10) Z Z (by
   obtain⟨q,rfl⟩:∃q,L=q+1:=⟨L-1,Z⟩;rw[Db]at f;rw[FV];omega)
  rw[a];refine⟨by rw[CP,c];rfl,λj l=>?_⟩;by_cases h3:j<L;rw[List.getElem?_append_left Z,g j h3,Fv,C3 10,<-Db,show(L-1-j).succ=L+1-1-j by omega];have:j=L:=Z;subst this;rw[List.getElem?_append_right Z,c,D7,FV,D7,EG,HK];rfl
theorem FbI.cells{o:Nat}{a:List ψ}{h:HF}{w:List Nat}{c:List ψ}(f:FbI h0 B e o L Z4 a h w c 0)(u:o+L<=O a)(p:1<=L)(l:Z4<10^L)(m:10^(L-1)<=Z4):(c.drop o).take L=Kt (decB Z4):=by have⟨q,g⟩:=ak L Z4 p l m;have s:=f.len;refine List.ext_getElem? λj=>?_;by_cases hj:j<L;rw[List.getElem?_take_of_lt hj,List.getElem?_drop,f.dg j CH hj];unfold Kt decB;rw[DC,DC,g j hj];rfl;rw[Dl aD,Dl (by grind [rU,decB,CU])]
section
variable {h:HF}{n:Nat}{d:Tmp}
theorem oh{lo hi:Operand}(a:nJ X ops t o d (o.op=.slice ty x (ξ lo) (ξ hi) θ/\X.E.und ty=ξ (.array len e)/\X.E.inf e=ξ (sz,bt,z)/\J8 t x=ι b/\J8 t lo=CJ ik (i:Int)/\J8 t hi=CJ ik' ji))(g:ji=(j:Int))(hb:gro b=χ)(C:i<=j/\j<=len/\i<len)
  (k:EO X ops r ⟨upd t d (Y (ξ ⟨b,0+i*sz,θ⟩) (j-i) (len-i)),h,n,w⟩ Q):EO X ops (o::r) ⟨t,h,n,w⟩ Q:=by
 obtain⟨a,u,v,m,y,f,A,l,c⟩:=a;subst g;refine zZ ⟨a,u,v,(by rw[m];rfl)⟩ ?_ k;rw[m];show xc X.E ty (J8 t x) (ξ (J8 t lo)) (ξ (J8 t hi))=_;rw[A,l,c];have p:(0:Int)<=(i:Int)/\(i:Int)<=(j:Int):=Z;have q:(0:Int)<=(j:Int)/\(j:Int)<=(len:Int):=Z;have s:DO len i=χ:=by grind [DO,DE]
 simp only[xc,y,f,bnd,Cx p,Cx q,En,hb,IJ,ac2,offA,s,wO]
theorem te{hi:Operand}(a:nJ X ops t o d (o.op=.slice ty x θ (ξ hi) θ/\X.E.und ty=ξ (.array len e)/\X.E.inf e=ξ (sz,bt,z)/\J8 t x=ι b/\J8 t hi=CJ ik' ji))(g:ji=(j:Int))(hb:gro b=χ)(y:j<=len/\0<len)
  (k:EO X ops r ⟨upd t d (Y (ξ ⟨b,0,θ⟩) j len),h,n,w⟩ Q):EO X ops (o::r) ⟨t,h,n,w⟩ Q:=by
 obtain⟨a,q,s,l,u,f,v,c⟩:=a;subst g;refine zZ ⟨a,q,s,(by rw[l];rfl)⟩ ?_ k;rw[l];show xc X.E ty (J8 t x) θ (ξ (J8 t hi))=_;rw[v,c];have m:(0:Int)<=(j:Int)/\(j:Int)<=(len:Int):=Z;have p:DO len 0=χ:=by grind [DO,DE]
 simp only[xc,u,f,bnd,Cx m,En,hb,IJ,ac2,offA,p,wO,D2,GV]
end
def intT(x:Int):List UInt8:=(if x<0 then[45]else[])++decT x.natAbs
def ae(h:Z4≠0):(decB Z4).map Ek=decT Z4:=by unfold decT;rw[Cs h]
def dW(d:Nat)(l:List Nat):Kt (d::l)=CJ .u8 (d:Int)::Kt l:=rfl
def wV{h:HF}{o:Nat}{c:List ψ}(g:h b=ξ (.row c e))(f:(c.drop o).take L=cl)(l:o+L<=O c)(a:L<=cap):argS h 1 (Y (ξ ⟨b,o,θ⟩) L cap) L cl:=
 uX (n:=b+1) (.at_ Z g ω a Z (by rw[DL];exact f))
def ze6(k:Nat){h:HF}(F:GK.G h){n:Nat}(K:20<=n){x:Int}(hx: -9223372036854775808<=x/\x<9223372036854775808):VF (Ka (k+3)) 135 [CJ .i64 x,CJ .i64 10] h n λv=>v=CN ⟨⟨intT x⟩⟩:=by
 refine zO R4<|mL ?_;refine Zd ?_;by_cases hsm:0<=x/\x<100;obtain⟨i,rfl⟩:∃i:Nat,x=(i:Int):=⟨x.natAbs,Z⟩;refine lI ?_;refine jQ ?_;refine yi _ R5 (ka (k+1) _ _ Z) ?_;rintro _ rfl;refine Zc ?_;refine retF _ ω (zi ω) R2 ?_;show CN _=_;unfold intT;rw[Cs Z];rfl;obtain⟨m,J⟩:∃m,m=x.natAbs:=⟨_,ω⟩;have l:m≠0:=Z;by_cases hneg:x<0;refine iU ?_;refine wt (CO 24 (CJ .u8 0)) R6 λu C D=>?_;refine jQ ?_;refine wm (ik:=.u64) (a:=((18446744073709551616-m:Nat):Int)) R6 ?_ ?_;show ξ (CJ .u64 (Dn .u64 x))=_;rw[show x= -(m:Int)from Z,qK m Z];refine zM ?_;refine mL ?_;rw[ze rfl];refine jQ ?_;refine zZ (v:=CJ .u64 (m:Int)) R4 ?_ ?_;show ξ (CJ .u64 (Dn .u64 (0-((18446744073709551616-m:Nat):Int))))=_;rw[ra _ Z];congr 3;omega;refine Zl ?_;refine yi _ R5 (vy k (rR F D K) _ Z l) ?_;rintro _⟨L,rfl,p,H,g,q⟩;refine Zl ?_;refine uI R6 Z<|oh (i:=1) (j:=1+L) R9 Z (zB n) Z ?_;rw[show 1+L-1=L by omega];refine zM ?_;refine zF _ R5 (kN (k+1) (h:=u) (n:=n+1) (B:=3*n+2) (o:=1) (L:=L) (Z4:=m) Z C aD Z g Z) ?_;rintro v M _ W⟨rfl,y,c,f⟩;rw[zV λb A=>by rw[y b A];show 3*n<=_;omega];have s:O c=24:=by rw[f.len,Du]
 refine mL ?_;rw[ze rfl];refine zN ?_;refine fk R8 Z<|mq (c.set 0 (CJ .u8 45)) R5 f.row R3 (by rw[s];omega) (splice_one c 0 _ Z) eN ?_;intro Z1 N P;refine jQ ?_;refine uI R6 Z<|te (j:=1+L) R8 Z (zB n) Z ?_;have I:((c.set 0 (CJ .u8 45)).drop 0).take (1+L)=Kt (45::decB m):=by
  rw[dW,<-f.cells aD p g q,DH];cases c with
  |nil=>simp at s
  |cons c1 c2=>rw[HG,Ee,JW,Iu,DH];rfl
 refine pY R5 (rg R3 (wV N I (by rw[DT];omega) Z)) ?_;refine Zc ?_;refine retF _ ω (zi ω) R2 ?_;show CN _=_;unfold intT;rw[Cx hneg,<-J,<-ae l];rfl;refine iU ?_;refine wt (CO 24 (CJ .u8 0)) R6 λu C D=>?_;refine jQ ?_;refine wm (ik:=.u64) (a:=(m:Int)) R6 ?_ ?_;show ξ (CJ .u64 (Dn .u64 x))=_;rw[show x=(m:Int)from Z,xR,C7 Z];refine zM ?_;refine mL ?_;rw[za rfl];refine jQ ?_;refine yi _ R5 (vy k (rR F D K) _ Z l) ?_;rintro _⟨L,rfl,p,H,g,q⟩;refine Zl ?_;refine uI R6 Z<|oh (i:=1) (j:=1+L) R9 Z (zB n) Z ?_;rw[show 1+L-1=L by omega];refine zM ?_;refine zF _ R5 (kN (k+1) (h:=u) (n:=n+1) (B:=3*n+2) (o:=1) (L:=L) (Z4:=m) Z C aD Z g Z) ?_;rintro v M _ W⟨rfl,y,c,f⟩;rw[zV λb A=>by rw[y b A];show 3*n<=_;omega];have s:O c=24:=by rw[f.len,Du]
 refine mL ?_;rw[za rfl];refine jQ ?_;refine uI R6 Z<|oh (i:=1) (j:=1+L) R9 Z (zB n) Z ?_;rw[show 1+L-1=L by omega];refine pY R5 (rg (B:=decB m) R3 (wV f.row (f.cells aD p g q) Z Z)) ?_;refine Zc ?_;refine retF _ ω (zi ω) R2 ?_;show CN _=_;unfold intT;rw[Cs hneg,<-J,<-ae l];rfl
def mV(k:Nat){h:HF}(a:GK.G h){n:Nat}(c:20<=n){x:Int}(hx: -9223372036854775808<=x/\x<9223372036854775808):VF (Ka (k+4)) 104 [CJ .i64 x,CJ .i64 10] h n λv=>v=CN ⟨⟨intT x⟩⟩:=by refine zO R4<|jQ ?_;refine Zi ?_;refine yi _ R5 (ze6 k a c hx) ?_;rintro _ rfl;refine Zc ?_;exact BC
def oT(k:Nat){h:HF}(a:GK.G h){n:Nat}(c:20<=n){x:Int}(hx: -9223372036854775808<=x/\x<9223372036854775808):VF (Ka (k+5)) 64 [CJ .i64 x] h n λv=>v=CN ⟨⟨intT x⟩⟩:=by refine zO R4<|jQ ?_;refine jQ ?_;refine yi _ R5 (mV k a c hx) ?_;rintro _ rfl;refine Zc ?_;exact BC
end
section
variable {c len lo n' u:Nat}{sT:TypeId}{h' h0:HF}{x:Operand}
def decN(V:Nat):List Nat:=if V=0 then[48]else decB V
theorem np(V:Nat):decT V=(decN V).map Ek:=by unfold decT decN;split<;>rfl
def znz:∀V,∀d∈decD V,d<10:=by
 intro V;induction V using Gp with
 |_ V ih=>
  intro d a;by_cases h0:V=0;subst h0;rw[xo]at a;exact BO a CT;rw[wy h0]at a;obtain h|h:=DW.1 a;exact ih (V/10) Z d h;rw[C0.1 h];omega
def zny(V:Nat):∀d∈decN V,d<256:=by intro d a;unfold decN at a;split at a;rw[C0.1 a];decide;obtain⟨q,f,rfl⟩:=DU.1 a;have:=znz V q f;show 48+q<256;omega
theorem di(V:Nat):decN V≠[]:=by unfold decN;split;simp;rename_i h;intro e;unfold decB at e;rw[wy h]at e;simp at e
def zb7{l:List Nat}(h:∀d∈l,d<256):(l.map Ek).map (λb:UInt8=>CJ .u8 (b.toNat:Int))=Kt l:=by
 induction l with
 |nil=>rfl
 |cons d l ih=>
  rw[Gy,Gy,ih λx a=>h x Ba,dW];have:=h d eF;rw[show(Ek d).toNat=d from by rw[UInt8.toNat_ofNat'];omega]
def aZ{h:HF}:argS h 1 (CN ⟨⟨decT V⟩⟩) (O (decN V)) (Kt (decN V)):=by refine⟨?_,?_⟩;show ξ (O (decT V))=_;rw[np,CU];show ξ (((decT V).take (O (decN V))).map λb:UInt8=>CJ .u8 (b.toNat:Int))=_;rw[np,CR aD,zb7 (zny V)]
theorem aj(g:1<=L)(a:Z4<10^L)(f:10^(L-1)<=Z4):O (decB Z4)=L:=by grind [decB,ak]
def Nj(v:ψ)(b:Nat):Prop:=∃o l c,v=Y (ξ ⟨b,o,θ⟩) l c
def GroT(h:HF)(n:Nat)(v:ψ)(T:List Nat):Prop:=Gro h 0 n 5 1 v (O T) (Kt T)
def nH{h:HF}{n:Nat}{x:ψ}{new:List Nat}(y:E.und sT=ξ (.slice e))(B:e=5)(hi:E.inf e=ξ (1,bytes,z))(A:O (zn z)=1)(j:1<=bytes)(i:GroT h n v T)(hx:argS h 1 x m (Kt new))(hm:1<=m)(q:O new=m)(hb:(O T+m)*bytes<=1099511627776):
  ∃v' h' W,yW E h n sT v x=ξ (.val v' h' (n+1) W)/\GroT h' (n+1) v' (T++new)/\Keep v n h h'/\(∀b∈W,Nj v b)/\xC n v':=by
 subst B;unfold GroT at*;have a:O (Kt new)=m*1:=by rw[rU,q,DL]
 have f:O T+m=O (T++new):=by rw[CP,q]
 have g:Kt T++Kt new=Kt (T++new):=by unfold Kt;rw[Ev]
 generalize hT:O T=tl at i hb f;generalize hc:Kt T=cc at i g;cases i with
 |nil=>
  refine⟨_,_,_,append_nil y hi A CG j hx hm (by rw[Dd]at hb;exact hb),?_,λb hb _=>zm Z,λb hb=>BO hb CT,sN⟩;rw[<-g,<-f,Dd,DP];exact .at_ (uD n) Z Z (zg _ _ _) a (rE _)
 | @at_ b len _ hg2 hlo hb2 hr hl2 ho2=>
  refine⟨_,_,_,ue y hi A CG j hx hm hb hg2 hr hl2 (yZ ho2 (rE _)) a,?_,λk p s=>?_,λk p=>?_,sN⟩;rw[<-g,<-f];exact .at_ (uD n) Z Z (zg _ _ _) (by rw[CP,hl2,a];omega) (yZ ho2 (rE _));rw[zm Z,zm (λe=>s 0 tl tl (by rw[e]))];rw[C0.1 p];exact⟨_,_,_,ω⟩
structure AS (h0:HF)(n0:Nat)(v0:ψ)(h:HF)(n:Nat)(w:List Nat)(v:ψ)(T:List Nat):Prop where
 hn:n0<=n
 keep:Keep v0 n0 h0 h
 hw:∀b∈w,Nj v0 b
 g:GroT h n v T
 or:v=v0\/xC n0 v
def AS.refl(g:GroT h0 n0 v0 T):AS h0 n0 v0 h0 n0 [] v0 T:=⟨CG,λ_ _ _=>rfl,λb a=>BO a CT,g,Or.inl ω⟩
def AS.ext{h:HF}{n:Nat}{w:List Nat}(a:AS h0 n0 v0 h n w v T)(x:J9 n h h')(f:n<=n'):AS h0 n0 v0 h' n' w v T:=
 ⟨C5 a.hn f,λb j i=>(x b (by have:=a.hn;omega)).trans (a.keep b j i),a.hw,a.g.ext x f,a.or⟩
def AS.only{h:HF}{n:Nat}{w:List Nat}(a:AS h0 n0 v0 h n w v T)(o:Only b h h')(hb:3*n0<=b)(j:gro b=χ):AS h0 n0 v0 h' n w v T:=
 ⟨a.hn,λk f i=>(o k Z).trans (a.keep k f i),a.hw,a.g.same λk _ _ f=>o k λe=>(by rw[e,j]at f;cases f),a.or⟩
theorem Gro.blk{n o:Nat}{h:HF}{C:List ψ}(g:Gro h lo n e sz v len C)(hv:v=Y (ξ ⟨b,o,θ⟩) l c):gro b=φ/\b<3*n:=by cases g<;>grind [hv]
def AS.trans{q s:HF}{y A:Nat}{B w2:List Nat}{v1 v2:ψ}{C p:List Nat}(a:AS h0 n0 v0 q y B v1 C)(b:AS q y v1 s A w2 v2 p):AS h0 n0 v0 s A (addW n0 w2 B) v2 p:=by have D:=a.hn;refine⟨C5 a.hn b.hn,λk j i=>(b.keep k Z λo l c e=>?_).trans (a.keep k j i),λk j=>?_,b.g,?_⟩;obtain h|h:=a.or;exact i o l c (h▸e);rw[e]at h;have h:3*n0<=k:=h;omega;obtain h|⟨h,F⟩:=yN.1 j;exact a.hw k h;have⟨o,l,c,e⟩:=b.hw k h;obtain f|f:=a.or;exact⟨o,l,c,f▸e⟩;rw[e]at f;have f:3*n0<=k:=f;omega;obtain h|h:=b.or;rw[h];exact a.or;exact .inr (h.mono D)
section
variable {h:HF}{n:Nat}{d:Tmp}
def oi{s:Operand}{new:List Nat}(i:nJ X ops t o d (o.op=.call {callee:=.builtin .append,args:=#[s,x],argTypes:=#[sT,xT]}/\(match X.E.und xT with|some (.int _)=>χ|none=>χ|_=>φ)=φ/\X.E.und sT=ξ (.slice e)/\e=5/\X.E.inf e=ξ (1,bytes,z)/\O (zn z)=1))(q:1<=bytes)(I:J8 t s=v)(hx:argS h 1 (J8 t x) m (Kt new))(hm:1<=m)(G:O new=m)(hb:(O T+m)*bytes<=1099511627776)(a:AS h0 X.n0 v0 h n w v T)
  (k:∀f h' w',AS h0 X.n0 v0 h' (n+1) w' f (T++new)->Keep v n h h'->EO X ops r ⟨upd t d f,h',n+1,w'⟩ Q):EO X ops (o::r) ⟨t,h,n,w⟩ Q:=by have⟨i,hd,hn,H,p,J,D,F,K⟩:=i;have⟨f,h',W,y,A,j,B,C⟩:=nH J D F K q a.g hx hm G hb;refine yM ⟨i,hd,hn,H,p⟩ (by rw[I];exact y) ?_;have b:AS h n v h' (n+1) W f (T++new):=⟨Dc _,j,B,A,.inr C⟩;exact k f h' _ (a.trans b) j
end
def GroT.shape{h:HF}{n:Nat}(g:GroT h n v T):∃a,v=Y a (O T) (O T):=by have⟨a,e,_⟩:=Gro.shape g;exact⟨a,e⟩
def GroT.keepB{h:HF}{n:Nat}(g:GroT h n v T)(k:Keep v n h h')(hb:gro b=χ)(a:b<3*n):h' b=h b:=k.blk g hb a
theorem zcc(k:Nat){h:HF}(K:GK.G h){n:Nat}(Z1:20<=n){a:Option Addr}(P:u<18446744073709551616)(g:GroT h n (Y a (O T) (O T)) T)(hT:O T<1000000000):CF (Ka (k+3)) 170 [Y a (O T) (O T),CJ .u64 (u:Int),CJ .i64 10] h n λv h' n' w=>AS h n (Y a (O T) (O T)) h' n' w v (T++decN u):=by
 refine zw R4 ?_;have s:=AS.refl g;have a5:O (decN u)<=20:=(by unfold decN;split;decide;unfold decB;rw[CU];exact ws 20 u Z);refine jQ ?_;refine mL ?_;rw[ze rfl];refine zN ?_;by_cases hsm:u<100;refine Zm ?_;refine vj R7 Z<|yi _ R5 (ka (k+1) _ _ hsm) ?_;rintro _ rfl;refine oi R9 zb ω (aZ) (by have:=di u;cases hh:decN u with|nil=>exact BO hh this|cons _ _=>simp) ω Z s ?_;intro S h' Z3 y _;obtain⟨q,rfl⟩:=y.g.shape;refine Zc ?_;exact retH [Y q _ _] R3 y;have F:u≠0:=Z;refine iU ?_;refine wt (CO 24 (CJ .u8 0)) R6 λJ R H=>?_;refine jQ ?_;refine yi _ R5 (vy k (rR K H Z1) _ P F) ?_;rintro _⟨L,rfl,i,Z0,j,C⟩;refine Zl ?_;refine te R8 ω (zB n) Z<|zM ?_;refine zF _ R5 (kN (k+1) (h:=J) (n:=n+1) (B:=3*n+2) (o:=0) (L:=L) (Z4:=u) Z R aD Z j Z) ?_;rintro v h2 _ W⟨rfl,M,c,f⟩;rw[zV λb N=>by rw[M b N];show 3*n<=_;omega];have a4:O c=24:=by rw[f.len,Du]
 have I:=(s.ext H Zq).only f.oth Z (zB n);have p:=f.cells aD i j C;have D:decN u=decB u:=by grind [decN]
 rw[<-D]at p;refine Zi ?_;refine te R8 ω (zB n) Z<|oi R9 zb ω (wV f.row p Z Z) i (by grind [aj]) Z I λS h' Z3 A _=>?_;obtain⟨q,rfl⟩:=A.g.shape;refine Zc ?_;exact retH [Y q _ _] R3 A
def zvn(k:Nat){h:HF}(p:GK.G h){n:Nat}(s:20<=n){a:Option Addr}(y:u<18446744073709551616)(g:GroT h n (Y a (O T) (O T)) T)(q:O T<1000000000):CF (Ka (k+4)) 136 [Y a (O T) (O T),CJ .u64 (u:Int),CJ .i64 10] h n λv h' n' w=>AS h n (Y a (O T) (O T)) h' n' w v (T++decN u):=by refine zw R4<|jQ ?_;refine Zi ?_;refine zM ?_;refine zF _ R5 (zcc k p s y g q) λv A B C f=>?_;obtain⟨i,rfl⟩:=f.g.shape;have j:=(AS.refl g).trans f;refine Zc ?_;exact retH [Y i _ _] R3 j
end
section
variable {len u:Nat}
section
variable {h:HF}{n:Nat}{sT:TypeId}{x:ψ}
theorem tG{c:List ψ}(w:E.und sT=ξ (.slice e))(hi:E.inf e=ξ (1,bytes,z))(y:O (zn z)=1)(a:1<=bytes)(hx:argS h 1 x m new)(hb:(len+m)*bytes<=1099511627776)(hm:O new=m/\1<=m)(hc:len+m<=cap)(f:h b=ξ (.row c e'))(v:len+m<=O c)(d:ones new=φ):
  yW E h n sT (Y (ξ ⟨b,0,θ⟩) len cap) x=ξ (.val (Y (ξ ⟨b,0,θ⟩) (len+m) cap) (upd h b (ξ (.row (zu c len new) e'))) n [b]):=by
 have⟨i,g⟩:=hx;have j:Dj ((len+m)*bytes) 1099511627776=φ:=CV hb;have l:DO (O (zn z)) 1=φ:=by simp_all
 have o:Dj 1 1=φ:=rfl;have p:Dj 1 bytes=φ:=CV a;have q:Dj (len+m) cap=φ:=CV hc;have s:LS h ((⟨b,0,θ⟩:Addr).add (len*1)) new=ξ (upd h b (ξ (.row (zu c len new) e'))):=(by rw[wO,Dd,DL,uZ f Z d]);grind [only,yW,uB,DZ]
end
def BufT(T:List Nat)(h:HF)(n B cap:Nat)(e:TypeId)(c0:List ψ)(N:List Nat)(v:ψ)(h':HF)(n':Nat)(w:List Nat):Prop:=
 v=Y (ξ ⟨B,0,θ⟩) (O (T++N)) cap/\n<=n'/\(∀b∈w,b=B)/\(∀b,b<3*n->b≠B->h' b=h b)/\∃c,h' B=ξ (.row c e)/\O c=O c0/\c.take (O (T++N))=Kt (T++N)
theorem vp{N:List Nat}{c:List ψ}(d:c.take (O T)=Kt T)(a:O T+O N<=O c):(zu c (O T) (Kt N)).take (O (T++N))=Kt (T++N)/\(zu c (O T) (Kt N)).length=O c:=by grind [pU,Kt,rU]
theorem sV(k:Nat){h:HF}(R:GK.G h){n:Nat}(Z3:20<=n){e:TypeId}{d:List ψ}(F:d.take (O T)=Kt T)(y:B<3*n)(i:h B=ξ (.row d e))(a1:cap=O d/\O T+20<=cap/\cap<1000000)(Z0:u<18446744073709551616):
  CF (Ka (k+3)) 170 [Y (ξ ⟨B,0,θ⟩) (O T) cap,CJ .u64 (u:Int),CJ .i64 10] h n λv M n' w=>BufT T h n B cap e d (decN u) v M n' w:=by
 refine zw R4 ?_;have a3:O (decN u)<=20:=(by unfold decN;split;decide;unfold decB;rw[CU];exact ws 20 u Z);have I:1<=O (decN u):=(by have:=di u;grind);refine jQ ?_;refine mL ?_;rw[ze rfl];refine zN ?_;by_cases hsm:u<100;refine Zm ?_;refine vj R7 Z<|yi _ R5 (ka (k+1) _ _ hsm) ?_;rintro _ rfl;refine yM R5 (tG ω ω ω zb (aZ (V:=u)) Z ⟨rU _,I⟩ Z i Z (rE _)) ?_;rw[pN (by show B<3*n;exact y)];refine Zc ?_;have⟨A,C⟩:=vp (N:=decN u) F Z;refine retH [Y (ξ ⟨B,0,θ⟩) (O T+O (decN u)) cap] R3 ⟨by rw[CP];rfl,CG,λb a=>C0.1 a,λb _ g=>zm g,_,zg _ _ _,C,A⟩;have K:u≠0:=Z;refine iU ?_;refine wt (CO 24 (CJ .u8 0)) R6 λZ1 p1 D=>?_;refine jQ ?_;refine yi _ R5 (vy k (rR R D Z3) _ Z0 K) ?_;rintro _⟨L,rfl,l,a0,q,H⟩;refine Zl ?_;refine te R8 ω (zB n) Z<|zM ?_;refine zF _ R5 (kN (k+1) (h:=Z1) (n:=n+1) (B:=3*n+2) (o:=0) (L:=L) (Z4:=u) Z p1 aD Z q Z) ?_;rintro v P _ W⟨rfl,S,c,f⟩;rw[zV λb a=>by rw[S b a];show 3*n<=_;omega];have a2:O c=24:=by rw[f.len,Du]
 have s:=f.cells aD l q H;have J:decN u=decB u:=by grind [decN]
 rw[<-J]at s;have p:O (decN u)=L:=by grind [aj]
 have j:P B=ξ (.row d e):=(f.oth B Z).trans ((D B y).trans i);refine Zi ?_;refine te R8 ω (zB n) Z<|yM R5 (tG ω ω ω zb (wV f.row s Z Z) Z ⟨by rw[rU,p],l⟩ Z j Z (rE _)) ?_;rw[pN (by show B<3*n;exact y)];refine Zc ?_;have⟨A,C⟩:=vp (N:=decN u) F Z;refine retH [Y (ξ ⟨B,0,θ⟩) (O T+L) cap] R3 ⟨by rw[CP,p];rfl,Ao,λb a=>C0.1 a,λb a g=>(zm g).trans ((f.oth b Z).trans (D b a)),_,zg _ _ _,C,A⟩
def BufP(h:HF)(n B cap:Nat)(e:TypeId)(c0:List ψ)(u:Nat)(v:ψ)(h':HF)(n':Nat)(w:List Nat):Prop:=
 v=Y (ξ ⟨B,0,θ⟩) (O (decN u)) cap/\n<=n'/\(∀b∈w,b=B)/\(∀b,b<3*n->b≠B->h' b=h b)/\∃c,h' B=ξ (.row c e)/\O c=O c0/\c.take (O (decN u))=Kt (decN u)
theorem gp(k:Nat){h:HF}(y:GK.G h){n:Nat}(A:20<=n){e:TypeId}{d:List ψ}(s:B<3*n)(f:h B=ξ (.row d e))(a:cap=O d/\20<=cap)(g:cap<1000000)(C:u<18446744073709551616):
  CF (Ka (k+4)) 136 [Y (ξ ⟨B,0,θ⟩) 0 cap,CJ .u64 (u:Int),CJ .i64 10] h n λv q D w=>BufP h n B cap e d u v q D w:=by refine zw R4<|jQ ?_;refine Zi ?_;refine zM ?_;refine zF _ R5 (sV (T:=[]) k y A ω s f ⟨a.1,by simpa using a.2,g⟩ C) ?_;rintro v H J K⟨rfl,i,F,j,c,l,o,p⟩;refine Zc ?_;refine retH [Y (ξ ⟨B,0,θ⟩) (O (decN u)) cap] R3 ⟨ω,i,λb I=>?_,j,c,l,o,p⟩;grind [yN]
end
def padD:Nat->Nat->List Nat
 |0,_=>[]
 |k+1,c=>padD k (c/10)++[c%10]
theorem zi4:∀(k c Q:Nat),c<10^k->Q≠0->decD (c+10^k*Q)=decD Q++padD k c:=by
 intro k;induction k with
 |zero=>
  intro c Q a b;have:c=0:=Z;subst this;rw[EG,Nat.one_mul,Dd,padD,Do]
 |succ k ih=>
  intro c Q a b;rw[Db]at a;have d:(c+10^(k+1)*Q)/10=c/10+10^k*Q:=(by rw[Db,GW,C3 _ 10];omega);have e:(c+10^(k+1)*Q)%10=c%10:=(by rw[Db,GW,C3 _ 10];omega);have f:0<10^(k+1)*Q:=EJ (Dw zd) Z;grind [wy,padD,Dp]
theorem zms:∀(k c:Nat),c<10^k->padD k c=CO (k-O (decD c)) 0++decD c:=by
 intro k;induction k with
 |zero=>
  intro c a;have:c=0:=Z;grind [padD,xo]
 |succ k ih=>
  intro c a;rw[Db]at a;rw[padD,ih (c/10) Z];by_cases h0:c=0;subst h0;rw[xo];show CO (k-0) 0++[]++[0]=CO (k+1-0) 0++[];rw[Do,Do,GV,GV,<-FG];have b:=wy h0;grind
theorem dk{c Q B:Nat}(l:10^19=B)(a:c<B)(d:Q≠0):decN (c+B*Q)=decN Q++(CO (19-O (decN c)) 48++decN c):=by
 subst l;have b:0<10^19*Q:=EJ (Dw zd) Z;generalize hk:(19:Nat)=kk at a b⊢;have m:=zi4 kk c Q a d;have j:=zms kk c a;have e:decN (c+10^kk*Q)=decB (c+10^kk*Q):=by grind [decN]
 have i:decN Q=decB Q:=by unfold decN;rw[Cs d]
 rw[e,i];unfold decB;rw[m,j,Ev,Ev,List.map_replicate];congr 1;by_cases h0:c=0;subst h0;have f:decN 0=[48]:=rfl;rw[f,xo];show CO (kk-0) (48+0)++[]=CO (kk-1) 48++[48];rw[<-FG,Do,<-hk];have g:decN c=decB c:=by unfold decN;rw[Cs h0]
 rw[g];unfold decB;rw[CU]
def zbu{c Q:Nat}(b:c<10000000000000000000)(a:Q≠0):decN (c+10000000000000000000*Q)=decN Q++(CO (19-O (decN c)) 48++decN c):=dk zd b a
def zbt{c:Nat}(a:c<10000000000000000000):O (decN c)<=19:=by unfold decN;split;decide;unfold decB;rw[CU];exact ws 19 c (CZ a zd)
section
variable {c len lo n':Nat}{sT ty:TypeId}{h' h0:HF}{x:Operand}
theorem Gro.inv{h:HF}{n:Nat}{c:List ψ}(g:Gro h lo n e 1 v len c)(a:len≠0):∃b,v=Y (ξ ⟨b,0,θ⟩) len len/\3*lo<=b/\b<3*n/\h b=ξ (.row c e)/\gro b=φ:=by cases g<;>grind
def CB:Nat:=10000000000000000000
def zf8{L:List Nat}{d:Nat}(a:Kb L)(f:O L<=30)(u:wv L=d+CB^O C*V)(h0:V≠0):O C<=30:=by
 apply C1;intro y;have g:CB^31<=CB^O C:=CW zd Z;have l:=EK (CB^O C) (GX h0);have p:=wW a;have q:18446744073709551616^O L<=18446744073709551616^30:=CW zd f;have s:18446744073709551616^30<=CB^31:=by decide+kernel
 omega
structure TxI (n0:Nat)(v0:ψ)(hL:HF)(nL B:Nat)(eB:TypeId)(h:HF)(n:Nat)(w:List Nat)(a:Option Addr)(T:List Nat):Prop where
 hn:nL<=n
 g:GroT h n (Y a (O T) (O T)) T
 or:Y a (O T) (O T)=v0\/xC nL (Y a (O T) (O T))
 hw:∀b∈w,Nj v0 b
 fr:∀b,b<3*nL->b≠B->¬Nj v0 b->h b=hL b
 buf:∃c,h B=ξ (.row c eB)/\O c=20
def TxI.ext{l:HF}{f:Nat}{h:HF}{n:Nat}{w:List Nat}{a:Option Addr}(t:TxI n0 v0 l f B eB h n w a T)(x:J9 n h h')(y:n<=n')(F:B<3*f):TxI n0 v0 l f B eB h' n' w a T:=by have D:=t.hn;have⟨c,q,s⟩:=t.buf;exact⟨Z,t.g.ext x y,t.or,t.hw,λb u p A=>(x b Z).trans (t.fr b u p A),c,(x B Z).trans q,s⟩
def TxI.bufs{q:HF}{p:Nat}{h:HF}{n:Nat}{w:List Nat}{a:Option Addr}{c:List Nat}(t:TxI n0 v0 q p B eB h n w a T)(F:n<=n')(J:B<3*p)(u:gro B=χ)(y:∀b,b<3*n->b≠B->h' b=h b)(G:h' B=ξ (.row cs eB))(D:O cs=20):TxI n0 v0 q p B eB h' n' w a T:=by
 have I:=t.hn;refine⟨Z,?_,t.or,t.hw,λb l f H=>(y b Z f).trans (t.fr b l f H),cs,G,D⟩;have A:GroT h' n (Y a (O T) (O T)) T:=t.g.same λb _ l s=>y b l λe=>by rw[e,u]at s;cases s
 exact A.ext (FH n h') F
section
variable {h:HF}{n:Nat}{d:Tmp}
def Tw{s:Operand}{H:HF}{u:Nat}{m:Nat}{a:Option Addr}{new:List Nat}(G:nJ X ops t o d (o.op=.call {callee:=.builtin .append,args:=#[s,x],argTypes:=#[sT,xT]}/\(match X.E.und xT with|some (.int _)=>χ|none=>χ|_=>φ)=φ/\X.E.und sT=ξ (.slice e)/\e=5/\X.E.inf e=ξ (1,bytes,z)/\O (zn z)=1))(N:1<=bytes)(hs:J8 t s=Y a (O T) (O T))(hx:argS h 1 (J8 t x) m (Kt new))(hm:1<=m)(Z3:O new=m)(hb:(O T+m)*bytes<=1099511627776)(p:TxI X.n0 v0 H u B eB h n w a T)(hB:B<3*u)(I:gro B=χ)(h0:X.n0<=u)
  (k:∀A h' w',TxI X.n0 v0 H u B eB h' (n+1) w' A (T++new)->h' B=h B->EO X ops r ⟨upd t d (Y A (O (T++new)) (O (T++new))),h',n+1,w'⟩ Q):EO X ops (o::r) ⟨t,h,n,w⟩ Q:=by
 have⟨G,hd,hn,Z0,M,hu,S,Z4,hz⟩:=G;have⟨v',h',W,Z1,F,f,P,R⟩:=nH hu S Z4 hz N p.g hx hm Z3 hb;obtain⟨A,rfl⟩:=F.shape;have J:=p.hn;have L:∀b,b<3*u->¬Nj v0 b->∀o l c,Y a (O T) (O T)≠Y (ξ ⟨b,o,θ⟩) l c:=λb hb hv o l c q=>(by obtain y|y:=p.or;exact hv ⟨o,l,c,y▸q⟩;rw[q]at y;have y:3*u<=b:=y;omega);have D:h' B=h B:=f B Z λo l c q=>by have:=(p.g.blk q).1;rw[I]at this;cases this
 refine yM ⟨G,hd,hn,Z0,M⟩ (by rw[hs];exact Z1) (k A h' _ ⟨Z,F,.inr (R.mono J),λb hb=>?_,λb hb K hv=>(f b Z (L b hb hv)).trans (p.fr b hb K hv),?_⟩ D);obtain h|⟨h,F⟩:=yN.1 hb;exact p.hw b h;have⟨o,l,c,q⟩:=P b h;obtain f|f:=p.or;exact⟨o,l,c,f▸q⟩;rw[q]at f;have f:3*u<=b:=f;omega;have⟨c,q1,q2⟩:=p.buf;exact⟨c,D.trans q1,q2⟩
end
def TxI.as{f:HF}{q:Nat}{h:HF}{n:Nat}{w:List Nat}{a:Option Addr}(t:TxI n0 v0 f q B eB h n w a T)(x:J9 n0 h0 f)(s:n0<=q)(y:3*n0<=B):AS h0 n0 v0 h n w (Y a (O T) (O T)) T:=by refine⟨by have:=t.hn;omega,λb u p=>(t.fr b Z Z λ⟨o,l,c,e⟩=>p o l c e).trans (x b u),t.hw,t.g,?_⟩;obtain h|h:=t.or;exact .inl h;exact .inr (h.mono s)
def G_fr{h:HF}(p:GK.G h)(a:∀b,b<60->gro b=χ->h' b=h b):GK.G h':=by have⟨f,g,l⟩:=p;exact⟨(a _ Z ω).trans f,(a _ Z ω).trans g,(a _ Z ω).trans l⟩
def zcn{h:HF}{s:Nat}{S:List Nat}(f:h b=ξ (.row (u64s S) e))(hj:S[j]?=ξ s):At h b (0+j*1) [CJ .u64 (s:Int)]:=by have a:=(CQ.1 hj).1;refine⟨_,_,f,ω,by show 0+j*1+1<=_;rw[zL];omega,?_⟩;show((u64s S).drop (0+j*1)).take 1=_;rw[Dd,DL,rf,EL a,(CQ.1 hj).2];rfl
def lH(C:List Nat)(m:Nat):List Nat:=if m=O C then[]else decN (dv CB (C.drop m))
def znr{m:Nat}(h:C[m]?=ξ c):dv CB (C.drop m)=c+CB*dv CB (C.drop (m+1)):=by have a:=(CQ.1 h).1;rw[EL a,(CQ.1 h).2];rfl
def znp{a:List Nat}{cl:Nat}(f:C=a++[cl])(h0:cl≠0){m:Nat}(hm:m<O C):dv CB (C.drop m)≠0:=by rw[f,List.drop_append_of_le_length aD,vm];show _+CB^_*(cl+CB*0)≠0;have:0<CB^O (a.drop m)*(cl+CB*0):=EJ (Dw zd) Z;omega
def zai{f:List Nat}{cl m:Nat}(g:C=f++[cl])(h0:cl≠0)(a:C[m]?=ξ c)(hb:c<CB):lH C m=lH C (m+1)++(CO ((if m+1=O C then(decN c).length else 19)-O (decN c)) 48++decN c):=by have l:=(CQ.1 a).1;unfold lH;rw[Cs Z,znr a];by_cases he:m+1=O C;rw[Cx he,Cx he,he,EZ,D7];show decN (c+CB*0)=_;rw[Ey,Nat.add_zero];rfl;rw[Cs he,Cs he];exact zbu hb (znp g h0 Z)
section
variable {h:HF}{n:Nat}{ld:List (Nat×Nat)}{d:Tmp}
theorem zix{hi:Operand}(a:nJ X ops t o d (o.op=.slice ty x θ (ξ hi) θ/\X.E.und ty=ξ (.array len e)/\X.E.inf e=ξ (sz,bt,z)/\J8 t x=ι b/\J8 t hi=CJ ik' ji/\ji=(j:Int)))(hb:gro b=χ)(F:j<=len/\0<len)
  (k:ED X ops r ms (i+1) ⟨⟨upd t d (Y (ξ ⟨b,0,θ⟩) j len),h,n,w⟩,al,ld,ef⟩ Q):ED X ops (o::r) (m::ms) i ⟨⟨t,h,n,w⟩,al,ld,ef⟩ Q:=by
 obtain⟨a,u,y,p,A,g,D,f,l⟩:=a;subst l;refine yQ a u y Bb ?_ k;rw[p];show xc X.E ty (J8 t x) θ (ξ (J8 t hi))=_;rw[D,f];have q:(0:Int)<=(j:Int)/\(j:Int)<=(len:Int):=Z;have s:DO len 0=χ:=by grind [DO,DE]
 simp only[xc,A,g,bnd,Cx q,En,hb,IJ,ac2,offA,s,wO,D2,GV]
end
theorem zag{L q:List Nat}{r:Nat}(a:wv L=dv CB C+CB^O C*wv W)(f:wv W=CB*wv q+r):wv L=dv CB (C++[r])+CB^(O C+1)*wv q:=by grind [vm,dv,CB]
theorem gt(k:Nat){h:HF}(hG:GK.G h){n:Nat}(hn:20<=n){a:Option Addr}(g:GroT h n (Y a (O T) (O T)) T)(hT:O T<100000000){L:List Nat}(hs:Sl h n 1 (Y ax lx cx) (u64s L))(nL:NW L)(hl:O L<=30)(h0:L≠[]):
  CF (Ka (k+5)) 171 [Y a (O T) (O T),Y ax lx cx,CJ .i64 0] h n λv h' n' w=>AS h n (Y a (O T) (O T)) h' n' w v (T++decN (wv L)):=by
 refine zw R4 ?_;have b4:=hs.lenW;subst b4;have ag:O L≠0:=λe=>h0 (CY.1 e);refine jQ ?_;refine jQ ?_;refine zF _ R5 (ub (k+3) hs Z) ?_;rintro vw h1 Z1 _⟨rfl,c7,bp,bl,ak⟩;obtain⟨u,rfl,c2,bd,bk,c5⟩:=(ak h0).inv ag;refine Zl ?_;refine zN ?_;refine ye (α:=List Nat×List Nat×List Nat×Option Addr) (λz=>[(0,Y a (O T) (O T)),(2,CJ .i64 0),(7,Y (ξ ⟨u,0,θ⟩) (O z.1) (O L)),(8,Y z.2.2.2 (O z.2.2.1) (O z.2.2.1))])
  (λz h' n' w=>w=[]/\Z1<=n'/\J9 n h h'/\h' u=ξ (.row (u64s (z.1++z.2.1)) 141)/\O z.1+O z.2.1=O L/\NW z.1/\Gro h' Z1 n' 141 1 (Y z.2.2.2 (O z.2.2.1) (O z.2.2.1)) (O z.2.2.1) (u64s z.2.2.1)/\(∀c∈z.2.2.1,c<CB)/\wv L=dv CB z.2.2.1+CB^O z.2.2.1*wv z.1/\(wv z.1=0->∃C' c,z.2.2.1=C'++[c]/\c≠0)/\O z.2.2.1<=31) (λz=>32-O z.2.2.1)
  (L,[],[],θ) P4 ⟨ω,CG,bp,by rw[Do];exact bk,ω,nL,.nil,λc Z0=>BO Z0 CT,by show wv L=0+CB^0*wv L;rw[EG];omega,λe=>BO (nL.zero.1 e) h0,by show 0<=31;omega⟩ (by show 32-0<LL;unfold LL;omega) ?_
 rintro⟨W,P,C,a8⟩ t h2 p _ ⟨rfl,c8,av,ad,an,nW,a3,hC,hV,K,a4⟩;dsimp only at ad an nW a3 hC hV K a4;refine zN ?_;by_cases hW0:W=[];subst hW0;have ba:wv L=dv CB C:=by rw[hV];show _+_*0=_;omega
 have⟨C',cl,b5,b0⟩:=K rfl;have b6:O C≠0:=by grind
 refine iU ?_;refine wt (CO 20 (CJ .u8 0)) R6 λH pL xL=>?_;refine jQ ?_;refine mL ?_;obtain⟨eB,pL⟩:∃e,H (3*p+2)=ξ (.row (CO 20 (CJ .u8 0)) e):=⟨_,pL⟩;have ae:J9 n h H:=av.trans xL Z;have gC:Gro H Z1 (p+1) 141 1 (Y a8 (O C) (O C)) (O C) (u64s C):=a3.ext xL Zq;have⟨b8,Z3,bx,aw,ay,a6⟩:=gC.inv b6;injection Z3 with Z3;subst Z3;have gT:GroT H (p+1) (Y a (O T) (O T)) T:=g.ext ae Z;have br:TxI n (Y a (O T) (O T)) H (p+1) (3*p+2) eB H (p+1) [] a T:=⟨CG,gT,.inl ω,λb I=>BO I CT,λ_ _ _ _=>rfl,CO 20 (CJ .u8 0),pL,Du⟩;have ar:∀b,Nj (Y a (O T) (O T)) b->gro b=φ/\b<3*n:=λb⟨o,l,c,e⟩=>g.blk e;refine ye (α:=Nat×Option Addr×List Nat) (λz=>[(0,Y z.2.1 (O z.2.2) (O z.2.2)),(2,CJ .i64 0),(8,Y (ξ ⟨b8,0,θ⟩) (O C) (O C)),(11,ι (3*p+2)),(12,U (decide (z.1=O C))),(13,CJ .i64 ((z.1:Int)-1))])
   (λz h' n' w=>TxI n (Y a (O T) (O T)) H (p+1) (3*p+2) eB h' n' w z.2.1 z.2.2/\z.1<=O C/\z.2.2=T++lH C z.1/\O z.2.2<=O T+19*(O C-z.1)) (λz=>z.1)
   (O C,a,T) ⟨ω,ω,ω,ω,by show U φ=U (decide (O C=O C));rw[BJ rfl],ω,CE⟩ ⟨br,CG,by show T=T++lH C (O C);unfold lH;rw[Cx ω,Do],Nat.le_add_right _ _⟩ (by show O C<LL;unfold LL;omega) ?_
 rintro⟨m,a1,s⟩ t F n3 w3 ⟨R,hm,a0,ah⟩;dsimp only at R hm a0 ah;have c9:=R.hn;refine zN ?_;cases m with
 |zero=>
  have hf:decide (0=O C)=χ:=Ae Z;rw[hf];refine Zr ?_;refine zN ?_;rw[za rfl];refine Zi ?_;refine zN ?_;have:=R.as ae Z Z;rw[show T++decN (wv L)=s by rw[a0,ba];unfold lH;rw[Cs Z,DH]];exact retH [Y a1 _ _] R3 this
 |succ m=>
  obtain⟨c,Z0⟩:∃c,C[m]?=ξ c:=⟨C[m]'Z,CK Z⟩;have a9:c<CB:=hC c (CL Z0);have az:c<18446744073709551616:=Nat.lt_trans a9 zd;have bv:=zbt a9;have b7:1<=O (decN c):=by grind [di,decN]
  have bj:F b8=ξ (.row (u64s C) 141):=(R.fr b8 aw (λe=>by rw[e,zB]at a6;cases a6) (λhv=>by have:=(ar _ hv).2;omega)).trans ay;have bc:=zcn bj Z0;have b9:GK.G F:=G_fr (rR hG ae hn) λb I hg=>R.fr b Z Z λhv=>by have:=(ar _ hv).1;rw[hg]at this;cases this
  have⟨cb,bf,aa⟩:=R.buf;refine Zd ?_;refine zl ?_;refine zix (j:=0) R9 (zB p) Z<|zE ?_;refine zE ?_;refine Tq ω ω ω ω ω ω (aq:=ξ ⟨b8,0,θ⟩) ω (j:=m) cA ω Z ?_;refine yd (v:=CJ .u64 (c:Int)) R6 (bc.ld1 0 ω ω) R2<|wa _ R7 (gp k b9 Z Z bf ⟨aa.symm,Z⟩ Z az) ?_;rintro v4 h4 n4 W4⟨rfl,ao,bb,bh,c4,ap,bg,c3⟩;refine⟨qR ω,ao,?_⟩;rw[zV λb I=>by rw[bb b I];show 3*n<=_;omega];refine zE ?_;refine zN ?_;have bs:=R.bufs (c:=[]) ao Z (zB _) bh ap (by rw[bg,aa]);obtain⟨S,hS⟩:∃S,S=if m+1=O C then(decN c).length else 19:=⟨_,ω⟩;have c0:O (decN c)<=S/\S<=19:=by rw[hS];split<;>omega
  refine Zl ?_;refine zN ?_;refine MC [(0,Y a1 (O s) (O s)),(2,CJ .i64 0),(8,Y (ξ ⟨b8,0,θ⟩) (O C) (O C)),(11,ι (3*p+2)),(12,U (decide (m+1=O C))),(13,CJ .i64 (((m+1:Nat):Int)-1)),(14,Y (ξ ⟨3*p+2,0,θ⟩) (O (decN c)) 20),(15,CJ .i64 (S:Int))] (λh' n' w'=>h4=h'/\n4=n'/\w3=w') ?_ ?_;by_cases hf:m+1=O C;rw[ze (by show U (decide (m+1=O C))=_;rw[BJ hf])];refine Zi ?_;refine mM ?_;refine st_mul (a:=19) (b:=((m+1:Nat):Int)-1) ω ω ω ω ω ω Z ?_;refine qO (a:=0) (b:=19*(((m+1:Nat):Int)-1)) R6 Z<|st_I (ik:=.i64) (a:=(S:Int)) ⟨ω,ω,ω,ω,?_⟩ ?_;show ξ (CJ .i64 (if((O (decN c):Nat):Int)<0-19*(((m+1:Nat):Int)-1)then 0-19*(((m+1:Nat):Int)-1)else((O (decN c):Nat):Int)))=_;rw[Cs Z,hS,Cx hf];refine Zc ?_;exact Lo P8 R3;rw[za (by show U (decide (m+1=O C))=_;rw[Ae hf])];refine zN ?_;exact Lo ⟨ω,ω,ω,ω,ω,ω,ω,by show CJ .i64 19=CJ .i64 (S:Int);rw[hS,Cs hf];rfl,CE⟩ R3;rintro t _ _ _⟨rfl,rfl,rfl⟩;refine Zi ?_;refine zM ?_;refine qO (a:=(S:Int)) (b:=((O (decN c):Nat):Int)) R6 Z ?_;obtain⟨N,hN⟩:∃N,N=S-O (decN c):=⟨_,ω⟩;rw[show(S:Int)-((O (decN c):Nat):Int)=(N:Int)by omega];refine Zc ?_;refine ye (α:=Nat×Option Addr×List Nat) (λz=>[(0,Y z.2.1 (O z.2.2) (O z.2.2)),(2,CJ .i64 0),(8,Y (ξ ⟨b8,0,θ⟩) (O C) (O C)),(11,ι (3*p+2)),(12,U (decide (m+1=O C))),(13,CJ .i64 (((m+1:Nat):Int)-1)),(14,Y (ξ ⟨3*p+2,0,θ⟩) (O (decN c)) 20),(70,CJ .i64 (N:Int)),(71,CJ .i64 (z.1:Int))])
    (λz h' n' w=>TxI n (Y a (O T) (O T)) H (p+1) (3*p+2) eB h' n' w z.2.1 z.2.2/\h' (3*p+2)=h4 (3*p+2)/\z.1<=N/\z.2.2=s++CO z.1 48) (λz=>N-z.1)
    (0,a1,s) P9 ⟨bs,ω,CH,by show s=s++[];rw[Do]⟩ (by show N-0<LL;unfold LL;omega) ?_
  rintro⟨A,a5,M⟩ t h5 n5 w5 ⟨Z4,ai,ab,a2⟩;dsimp only at Z4 ab a2;have c6:O M=O s+A:=by grind
  have ca:=Z4.hn;refine zN ?_;by_cases hlt:A<N;refine lI ?_;refine jQ ?_;refine wE [CJ .u8 48] (l:=1) (c:=1) R5 λh6 p6 x6=>?_;refine Tw (m:=1) (new:=[48]) R9 zb ω (yp p6 R2) CG ω Z (Z4.ext x6 Zq Z) Z (zB _) (by show n<=p+1;omega) ?_;intro a7 h7 w7 af aj;refine Zc ?_;refine zR ?_;refine Zc ?_;exact goOn (A+1,a7,M++[48]) Z P9 ⟨af,aj.trans ((x6 _ Z).trans ai),by show A+1<=N;omega,by show M++[48]=s++CO (A+1) 48;rw[a2,Dp,<-FG]⟩;have be:A=N:=Z;refine Zt ?_;refine Tw (m:=O (decN c)) (new:=decN c) R9 zb ω (wV (ai.trans ap) aD Z Z) b7 ω Z Z4 Z (zB _) (by show n<=p+1;omega) ?_;intro a7 h7 w7 af aj;refine Zl ?_;refine jQ ?_;refine qO (a:=((m+1:Nat):Int)-1) (b:=1) R6 Z<|Zc ?_;refine goOn (m,a7,M++decN c) (by show m<m+1;omega) ⟨ω,ω,ω,ω,by show U χ=U (decide (m=O C));rw[Ae Z],cA,CE⟩ ⟨af,by show m<=O C;omega,?_,?_⟩;show M++decN c=T++lH C m;rw[zai b5 b0 Z0 a9,a2,a0,be,hN,hS];simp only[Dp];show(M++decN c).length<=O T+19*(O C-m);rw[CP];omega
 have c1:O W≠0:=λe=>hW0 (CY.1 e);have b3:wv W≠0:=λe=>hW0 (nW.zero.1 e);have bu:=zf8 nL.1 hl hV b3;refine lI ?_;refine jQ ?_;refine mL ?_;refine ye (α:=Nat×List Nat×Nat) (λx=>[(0,Y a (O T) (O T)),(2,CJ .i64 0),(7,Y (ξ ⟨u,0,θ⟩) (O W) (O L)),(8,Y a8 (O C) (O C)),(9,CJ .u64 (x.2.2:Int)),(10,CJ .i64 ((x.1:Int)-1))])
  (λx h' n' w=>w=[]/\p=n'/\Only u h2 h'/\h' u=ξ (.row (u64s (W.take x.1++(x.2.1++P))) 141)/\x.1+O x.2.1=O W/\Kb x.2.1/\x.2.2<CB/\wv (W.drop x.1)=CB*wv x.2.1+x.2.2) (λx=>x.1)
  (O W,[],0) P6 ⟨ω,ω,λ_ _=>rfl,by rw[Da,DP];exact ad,ω,Kb.nil,by show 0<CB;decide,by rw[EZ];rfl⟩ (by show O W<LL;unfold LL;omega) ?_
 rintro⟨j,q,r⟩ t F _ _ ⟨rfl,rfl,ac,D,am,hq,hr,J⟩;dsimp only at D am hq hr J;have bq:J9 n h F:=av.st ac Z;refine zN ?_;cases j with
 |succ j=>
  obtain⟨x,hx⟩:∃x,W[j]?=ξ x:=⟨W[j]'Z,CK Z⟩;have au:=nW.1.get hx;have bm:Sl F p 1 (Y (ξ ⟨u,0,θ⟩) (O W) (O L)) (u64s (W.take (j+1)++q)):=.at_ Z D ω Z AD (by
   rw[DH,DL,re,<-Dp,E6 eU,CR eU])
  have b2:(W.take (j+1)++q)[j]?=ξ x:=by grind
  refine Zh ?_;refine yE (f:=λd:Nat=>CJ .u64 (d:Int)) (j:=j) R7 bm ⟨ω,Z⟩ b2 (λ_=>rfl) R4 λ_=>?_;refine yi _ R5 (pH (k+1) F p (y:=CB) hr au zd) ?_;rintro _ rfl;repeat refine zR ?_
  refine uH (j:=j) (v:=CJ .u64 (((r*18446744073709551616+x)/CB:Nat):Int)) R8 Z ⟨Z,AD⟩ D (by show 3*n<=u;omega) (λ_=>rfl) R3 (λ_=>rfl) ω λ_=>?_;rw[yk,List.set_append_left _ _ eU,ac1,hx,Option.toList_some,List.set_append_right _ _ aD,DD,DX Z,D7,HG,Dp,List.singleton_append];refine Zb ?_;have⟨g1,g2⟩:=pQ (V:=wv (W.drop (j+1))) (Vq:=wv q) (r:=r) (a:=x) (d:=CB) zd J;refine goOn (j,(r*18446744073709551616+x)/CB::q,(r*18446744073709551616+x)%CB) AJ ⟨ω,ω,ω,ω,ω,cA,CE⟩ ⟨ω,ω,λb I=>(zm I).trans (ac b I),(zg _ _ _).trans (by rw[Gh]),by show j+O (_::q)=_;simp;omega,?_,Nat.mod_lt _ zd,?_⟩;intro y hy;obtain rfl|hy:=Dk.1 hy;exact Sw hr au;exact hq y hy;show wv (W.drop j)=CB*wv (_::q)+_;rw[gI hx,<-g2];have:=Nat.div_add_mod (x+18446744073709551616*wv (W.drop (j+1))) CB;rw[g1]at this;exact this.symm
 |zero=>
  rw[EP,DP]at D;rw[DH]at J;have cc:O q=O W:=Z;refine Zr ?_;have bn:Sl F p 1 (Y (ξ ⟨u,0,θ⟩) (O W) (O L)) (u64s q):=.at_ Z D ω Z AD (by
   rw[DH,DL,re,E6 Z,CR Z])
  refine zF _ R5 (xi (k+3) (l:=q) Z (λ_ e=>by injection e with e;rw[<-e]) bn) ?_;rintro _ F p _⟨rfl,rfl,rfl,rfl,bz⟩;refine Zc ?_;refine mM ?_;refine wE [CJ .u64 (r:Int)] (l:=1) (c:=1) R5 λh4 p4 x4=>?_;have b1:Gro h4 Z1 (p+1) 141 1 (Y a8 (O C) (O C)) (O C) (u64s C):=(a3.same λb I _ _=>ac b Z).ext x4 Zq;refine M3 (lo:=Z1) (m:=1) R8 ⟨De ω,De ω⟩ b1 (yp p4 R2) CG Z ω ω ⟨Bn,Z⟩ λv5 h5 g5 x5 k5=>?_;obtain⟨a5,rfl,_⟩:=g5.shape;have bi:h5 u=_:=(x5 u bd).trans ((x4 u Z).trans D);refine Zc ?_;have bo:=zag (C:=C) (r:=r) hV J;refine goOn (yf q,q.drop (O (yf q))++P,C++[r],a5) aD ⟨ω,ω,ω,by show Y a5 _ _=Y a5 _ _;rw[CP];rfl,CE⟩ ⟨ω,by show Z1<=p+1+1;omega,?_,?_,?_,NW.trim hq,?_,?_,?_,?_,?_⟩;exact λb I=>(x5 b Z).trans ((x4 b Z).trans (bq b I));.refine bi.trans ?_;show ξ (BF.row (u64s (q++P)) _)=ξ (BF.row (u64s (yf q++(q.drop (O (yf q))++P))) _);rw[<-Dp];conv=>rhs;rw[<-rV q,DD,DX (xU q),List.take_append_drop]
  show(yf q).length+(q.drop (O (yf q))++P).length=O L;have:=xU q;exact Ar;show Gro h5 Z1 (p+1+1) _ 1 (Y a5 (O (C++[r])) (O (C++[r]))) (O (C++[r])) (u64s (C++[r]));rw[vg,CP];exact g5;intro c Z0;obtain h|h:=DW.1 Z0;exact hC c h;rw[C0.1 h];exact hr;show wv L=dv CB (C++[r])+CB^O (C++[r])*wv (yf q);rw[show wv (yf q)=wv q from Oj _ _,CP];exact bo;intro e;dsimp only at e;rw[show wv (yf q)=wv q from Oj _ _]at e;rw[e,Ey,Dd]at J;exact⟨C,r,ω,Z⟩;show(C++[r]).length<=31;rw[CP];show (O C)+1<=31;omega
end
section
variable {h h':HF}{c n n':Nat}
def dE(k:Nat)(q:GK.G h)(y:20<=n){a:Option Addr}(g:GroT h n (Y a (O T) (O T)) T)(s:O T<100000000){j:Option Addr}{o:Nat}{L:List Nat}(e:Sl h n 1 (Y ax lx cx) (u64s L))(A:NW L)(u:O L<=30)(p:L≠[]):
  CF (Ka (k+6)) 137 [Y a (O T) (O T),Y ax lx cx,CJ .i64 0,Y j 1 o] h n λv h' n' w=>AS h n (Y a (O T) (O T)) h' n' w v (T++decN (wv L)):=by refine zw R4 ?_;have d:=e.lenW;subst d;refine jQ ?_;refine mL ?_;refine Zm ?_;refine zM ?_;refine zF _ R5 (gt k q y g s e A u p) λv B C D b=>?_;obtain⟨f,rfl⟩:=b.g.shape;have i:=(AS.refl g).trans b;refine Zc ?_;exact retH [Y f _ _] R3 i
def nI(k:Nat)(y:GK.G h)(A:20<=n){a:Option Addr}(g:GroT h n (Y a (O T) (O T)) T)(F:O T<100000000){L:List Nat}(o:Sl h n 1 (Y ax lx cx) (u64s L))(B:NW L)(H:O L<=30):
  CF (Ka (k+7)) 105 [Y a (O T) (O T),Y ax lx cx] h n λv h' n' w=>AS h n (Y a (O T) (O T)) h' n' w v (T++decN (wv L)):=by refine zw R4 ?_;have s:=o.lenW;subst s;refine jQ ?_;refine zN ?_;by_cases h0:L=[];subst h0;refine lI ?_;refine jQ ?_;refine wE [CJ .u8 48] (l:=1) (c:=1) R5 λi C q=>?_;refine oi (new:=[48]) R9 zb ω (yp C R2) CG ω Z ((AS.refl g).ext q Zq) λZ1 h' P b _=>?_;obtain⟨f,rfl⟩:=b.g.shape;refine Zc ?_;exact retH [Y f _ _] R3 b;have D:O L≠0:=λe=>h0 (CY.1 e);refine iU ?_;by_cases i:O L=1;obtain⟨w,rfl⟩:=List.length_eq_one_iff.1 i;have p:w<18446744073709551616:=B.1 w eF;refine Zm ?_;refine yE R7 o R2 ω (λ_=>rfl) R4 λ_=>?_;refine zF _ R5 (zvn (k+2) y A p g Z) λv i K R b=>?_;obtain⟨f,rfl⟩:=b.g.shape;have j:=(AS.refl g).trans b;refine Zc ?_;rw[pP];exact retH [Y f _ _] R3 j;refine iU ?_;refine wE [CJ .u64 10000000000000000000] (l:=1) (c:=1) R5 λi C q=>?_;refine wE [Y (ξ ⟨3*n+2,0,θ⟩) 1 1] (l:=1) (c:=1) R5 λu N I=>?_;refine Zc ?_;have d:J9 n h u:=q.trans I Z;refine ye (α:=Nat) (λ_=>[(0,Y a (O T) (O T)),(1,Y ax (O L) cx),(5,Y (ξ ⟨3*(n+1)+2,0,θ⟩) 1 1)]) (λ_ h' n' w=>u=h'/\n+1+1=n'/\w=[]) (λz=>z) 0 P3 R3 (by show 0<LL;unfold LL;omega) ?_;rintro _ t _ _ _⟨rfl,rfl,rfl⟩;refine mL ?_;rw[za rfl];refine Zi ?_;refine zM ?_;refine zF _ R5 (dE k (rR y d A) (n:=n+1+1) Z (g.ext d Z) F (o.ext d Z) B H h0) λv J M S b=>?_;obtain⟨f,rfl⟩:=b.g.shape;have j:=((AS.refl g).ext d Z).trans b;refine Zc ?_;exact retH [Y f _ _] R3 j
def intN(x:Int):List Nat:=(if x<0 then[45]else[])++decN x.natAbs
theorem TC(x:Int):(intN x).map Ek=intT x:=by grind [intN,intT,np]
def IW.few{b:Bool}{a:Option Addr}{x:Int}(i:IW h n b a l c x)(hx:x.natAbs<2^m)(hm:m<=1920):∃L,Sl h n 1 (Y a l c) (u64s L)/\NW L/\O L<=30/\wv L=x.natAbs:=by have⟨_,L,f,d,e⟩:=i;refine⟨L,f,d,d.len_le (k:=30) ?_,e⟩;rw[e];refine CZ hx (C5 (CW zd hm) ?_);decide+kernel
def zlv{L:List Nat}{o:Nat}(hm:m≠0)(g:O L=m)(h:((Kt T).drop o).take m=u64s L):False:=by
 obtain⟨d,a,rfl⟩:∃d a,L=d::a:=by
  cases L with
  |nil=>exact BO g.symm hm
  |cons d a=>exact⟨d,a,ω⟩
 have b:CJ .u64 (d:Int)∈((Kt T).drop o).take m:=by rw[h];exact Eb
 have f:=List.mem_of_mem_drop (List.mem_of_mem_take b);have⟨q,_,e⟩:=DU.1 f;cases e
theorem Sl.kept{u:ψ}{L:List Nat}(s:Sl h n 1 v (u64s L))(k:Keep u n h h')(g:GroT h n u T)(d:n<=n'):Sl h' n' 1 v (u64s L):=by
 generalize hL:u64s L=cl at s;cases s with
 |nil ha=>exact .nil (uw ha d)
 | @at_ b off len cap x cs c2 hb hx hc hcap hl he=>
  by_cases h0:len=0;subst h0;have:cl=[]:=by rw[<-he];simp
  subst this;exact .nil (.inr ⟨_,_,_,ω,Z⟩);refine .at_ Z ((k b hb λo l c e=>?_).trans hx) hc hcap hl he;unfold GroT at g;generalize (O T)=tl at g;generalize hT:Kt T=tc at g;cases g with
  |nil=>cases e
  |at_ hg hlo hb2 hr hl2 ho=>
   cases e;rw[hr]at hx;cases hx;injection hc with hc;subst hc;have a:O L=len*1:=by grind [zL,O,DD,List.length_drop]
   rw[<-hT,<-hL]at he;exact zlv Z a he
def nF(k:Nat)(H:GK.G h)(K:20<=n){a:Option Addr}(g:GroT h n (Y a (O T) (O T)) T)(hT:O T<10000000){b:Bool}{x:Int}(i:IW h n b ax lx cx x)(hx:x.natAbs<2^m)(hm:m<=1920):
  CF (Ka (k+8)) 66 [.agg #[U b,Y ax lx cx],Y a (O T) (O T)] h n λv h' n' w=>AS h n (Y a (O T) (O T)) h' n' w v (T++intN x):=by refine zw R4<|zN ?_;refine tK [U b,Y ax lx cx] R5 λZ0 y e=>?_;have V:=i.ext e Zq;have⟨L,M,Z1,J,o⟩:=V.few hx hm;have q:=(AS.refl g).ext e Zq;refine Zl ?_;refine z7 R5 (wf ω y R2)<|zN ?_;cases b;have p:=i.ge;rw[za rfl];refine Zi ?_;refine z7 R5 (wf ω y R2)<|zF _ R5 (nI k (rR H e K) Z q.g Z M Z1 J) λv j n3 Z3 d=>?_;obtain⟨A,rfl⟩:=d.g.shape;have B:=q.trans d;rw[o]at B;refine Zc ?_;rw[show intN x=decN x.natAbs by unfold intN;rw[Cs Z];rfl];exact retH [Y A _ _] R3 (by rw[o];exact B);have p:=i.lt;rw[ze rfl];refine jQ ?_;refine wE [CJ .u8 45] R5 λF W f=>?_;have P:F (3*n+2)=_:=(f _ Z).trans y;refine oi (new:=[45]) R9 zb ω (yp W R2) CG ω Z (q.ext f Zq) λv' j Z3 d u=>?_;obtain⟨A,rfl⟩:=d.g.shape;have s:GroT F (n+1+1) (Y a (O T) (O T)) T:=(g.ext e Zq).ext f Zq;have R:j (3*n+2)=_:=(s.keepB u (zB n) Z).trans P;have I:GK.G j:=G_fr (rR H (e.trans f Zq) K) λb hb Z4=>s.keepB u Z4 Z;have N:Sl j (n+1+1+1) 1 (Y ax lx cx) (u64s L):=(M.ext f Zq).kept u s Zq;refine Zc ?_;refine mM ?_;refine z7 R5 (wf ω R R2)<|zF _ R5 (nI k I (n:=n+1+1+1) Z d.g aD N Z1 J) λv h4 n4 w4 C=>?_;obtain⟨S,rfl⟩:=C.g.shape;have D:=d.trans C;rw[o]at D;refine Zc ?_;rw[show T++intN x=T++[45]++decN x.natAbs by unfold intN;rw[Cx p,Dp]];exact retH [Y S _ _] R3 (by rw[o];exact D)
end
section
variable {h h0:HF}{c n:Nat}
def GroT.text{a:Option Addr}(g:GroT h n (Y a (O T) (O T)) T):argS h 1 (Y a (O T) (O T)) (O T) (Kt T):=uX (Gro.sl g)
def GroT.nil(h:HF)(n:Nat):GroT h n (Y θ (O ([]:List Nat)) (O ([]:List Nat))) []:=Gro.nil
def zi5:∀(m V:Nat),V<2^m->O (decD V)<=m:=by
 intro m;induction m with
 |zero=>(intro V h;have:V=0:=by simpa using h);subst this;simp[decD]
 |succ m ih=>
  intro V h;by_cases h0:V=0;subst h0;simp[decD];rw[decD];simp only[h0,if_false,↓reduceDIte,↓reduceIte,DN,CP,List.length_singleton,Gq];have:=ih (V/10) Z;omega
def zif{x:Int}(h:x.natAbs<2^m):O (intN x)<=m+2:=by have a:O (decN x.natAbs)<=m+1:=(by unfold decN;split;simp;have:=zi5 m _ h;simp only[decB,CU,List.length_reverse];omega);unfold intN;rw[CP];split<;>simp<;>omega
def AS.w_nil(a:AS h0 n0 (Y θ l c) h n w v T):w=[]:=by
 cases w with
 |nil=>rfl
 |cons b w=>
  have⟨o,l,c,e⟩:=a.hw b Eb;cases e
def zcw(k:Nat)(j:GK.G h)(o:20<=n){b:Bool}{x:Int}(i:IW h n b ax lx cx x)(hx:x.natAbs<2^m)(hm:m<=1920):
  VF (Ka (k+9)) 65 [.agg #[U b,Y ax lx cx]] h n λv=>v=CN ⟨⟨intT x⟩⟩:=by refine zO R4<|zN ?_;refine tK [U b,Y ax lx cx] R5 λf s e=>?_;have p:=i.ext e Zq;refine Zc ?_;refine z7 R5 (yw R2 s ω zb ω)<|zF _ R5 (nF k (rR j e o) Z (GroT.nil f (n+1)) (by show 0<10000000;omega) p hx hm) ?_;intro v y A B a;obtain⟨u,rfl⟩:=a.g.shape;have d:=a.w_nil;subst d;refine pY R5 (rg R3 a.g.text)<|Zc ?_;refine retF _ ω (zi ω) R2 ?_;show CN _=_;rw[DP,TC]
def js{w:Nat}(a:w<=9223372036854775808)(h0:0<w):Dn .i64 ((18446744073709551616-w:Nat):Int)= -(w:Int):=by simp only[Dn,IntKind.signed,Ew];simp;omega
theorem zig(k:Nat){b:Bool}{x:Int}(i:IW h n b ax lx cx x):
  VF (Ka (k+1)) 63 [.agg #[U b,Y ax lx cx]] h n λv=>∃y ok,v=.tuple #[CJ .i64 y,U ok]/\(ok=φ->y=x/\ -9223372036854775808<=x/\x<9223372036854775808):=by
 refine zO R4 ?_;have⟨o,L,s,C,A⟩:=i;have p:=s.lenW;subst p;refine zN ?_;refine tK [U b,Y ax (O L) cx] R5 λg d D=>?_;have u:=s.ext D Zq;refine mM ?_;refine jQ ?_;refine z7 R5 (wf ω d R2) ?_;by_cases h0:L=[];subst h0;have f:x=0:=(by have:x.natAbs=0:=A.symm.trans rfl;omega);refine Zg ?_;exact retF [CJ .i64 0,U φ] ω (yX ω (yX ω qP)) R2 ⟨_,_,ω,λ_=>⟨f.symm,Z,Z⟩⟩;have F:O L≠0:=λe=>h0 (CY.1 e);obtain⟨w,a,rfl⟩:∃w a,L=w::a:=by
  cases L with
  |nil=>exact BO ω h0
  |cons w a=>exact⟨w,a,ω⟩
 have j:w<18446744073709551616:=C.1 w CI;refine Zr ?_;refine z7 R5 (wf ω d R2) ?_;refine yE R7 u R2 ω (λ_=>rfl) R4 λ_=>?_;refine Zl ?_;refine z7 R5 (wf ω d R2) ?_;by_cases g:a=[];subst g;rw[pP]at A;have B:w≠0:=C.last (l:=[]);refine zM ?_;refine MZ R6 (by grind) ?_;refine Zc ?_;rw[za rfl];refine jQ ?_;refine z7 R5 (wf ω d R2) ?_;cases b;have f:0<=x:=Jj.1 (of_decide_eq_false o.symm);refine Zr ?_;refine z7 R5 (wf ω d R2) ?_;by_cases hlt:w<=9223372036854775807;refine Zs ?_;refine oa R6 Z<|mM ?_;refine zN ?_;rw[ze rfl];refine jQ ?_;refine vj R7 Z<|mM ?_;refine zN ?_;exact retF [CJ .i64 (w:Int),U φ] ω (yX ω (yX ω qP)) R2 ⟨_,_,ω,λ_=>⟨Z,Z,Z⟩⟩;refine Zs ?_;refine mD R6 Z<|mM ?_;refine zN ?_;rw[za rfl];refine Zi ?_;refine zN ?_;exact retF [CJ .i64 0,U χ] ω (yX ω (yX ω qP)) R2 ⟨_,_,ω,λe=>by cases e⟩;have f:x<0:=of_decide_eq_true o.symm;by_cases hlt:w<=9223372036854775808;refine mM ?_;refine oa R6 Z<|mM ?_;refine zN ?_;rw[ze rfl];refine jQ ?_;refine zZ R4 (RZ j B)<|wm R6 (by show ξ (CJ .i64 (Dn .i64 _))=_;rw[js hlt Z]) ?_;refine mM ?_;refine zN ?_;exact retF [CJ .i64 (-(w:Int)),U φ] ω (yX ω (yX ω qP)) R2 ⟨_,_,ω,λ_=>⟨Z,Z,Z⟩⟩;refine mM ?_;refine mD R6 Z<|mM ?_;refine zN ?_;rw[za rfl];refine jQ ?_;refine z7 R5 (wf ω d R2)<|Zt ?_;refine zN ?_;exact retF [CJ .i64 0,U χ] ω (yX ω (yX ω qP)) R2 ⟨_,_,ω,λe=>by cases e⟩;have G:2<=O (w::a):=by
  cases a with
  |nil=>exact BO ω g
  |cons _ _=>simp
 refine zM ?_;refine ME R6 Z<|Zc ?_;rw[ze rfl];refine Zi ?_;refine zN ?_;exact retF [CJ .i64 0,U χ] ω (yX ω (yX ω qP)) R2 ⟨_,_,ω,λe=>by cases e⟩
theorem tj(h:denZ q=0):ratT q=intT q.num:=by grind [ratT,intT,yr]
theorem jS(h:¬denZ q=0):ratT q=(intN q.num++[47]++intN (denZ q)).map Ek:=by grind [TC,wq,ratT,intT,yr,only]
theorem Qg(k:Nat)(hG:GK.G h)(hn:20<=n){b d:Bool}{a e:Option Addr}{f g:Nat}(i:IW h n b a l c q.num)(j:IW h n d e f g (denZ q))(I:Sz m q)(hm:m<=1920):
  VF (Ka (k+10)) 27 [.agg #[U b,Y a l c,U d,Y e f g]] h n λv=>v=CN ⟨⟨ratT q⟩⟩:=by
 refine zO R4<|zN ?_;refine tK [U b,Y a l c,U d,Y e f g] R5 ?_;intro N C J;have P:=i.ext J Zq;have j1:=j.ext J Zq;have u:=rR hG J hn;refine Zl ?_;refine z7 R5 (yw R2 C rfl zb rfl)<|yi _ R5 (bj (k+8) j1) ?_;rintro _⟨z,rfl,s⟩;refine zN ?_;cases z
 .have s:¬denZ q=0:=λe=>by cases s.2 e
  rw[za rfl];refine jQ ?_;refine z7 R5 (yw R2 C rfl zb rfl)<|zF _ R5 (nF (k+1) u Z (GroT.nil N (n+1)) (by show 0<10000000;omega) P I.1 hm) ?_;intro v h2 B w2 A;obtain⟨a',rfl⟩:=A.g.shape;have Z0:=A.w_nil;subst Z0;have S:J9 (n+1) N h2:=λb p=>A.keep b p λo l c e=>by cases e
  have ab:=A.hn;refine wE [CJ .u8 47] R5 ?_;intro H p3 K;have F:GroT H (B+1) _ _:=A.g.ext K Zq;have aa:O (intN q.num)<=1922:=C5 (zif I.1) Z;have hA:AS h (KI (k+9) n 0).n0 (η) H (B+1) [] _ ([]++intN q.num):=⟨by show n<=B+1;omega,λb p _=>(K b (by have p:b<3*n:=p;omega)).trans ((S b (by have p:b<3*n:=p;omega)).trans (J b p)),λb p=>BO p CT,F,by rcases A.or with h|h;exact .inl h;exact .inr (h.mono (Dc n))⟩;refine oi (m:=1) (new:=[47]) R9 zb rfl (yp p3 R2) CG rfl aD hA ?_;intro v' Z1 w4 D R;obtain⟨a5,rfl⟩:=D.g.shape;have a0:=D.w_nil;subst a0;have p4:Z1 (3*n+2)=_:=(F.keepB R (zB n) Z).trans ((K _ Z).trans ((S _ Z).trans C));have L:J9 (n+1) N H:=S.trans K Z;have Z4:GK.G H:=rR u L Z;have V:GK.G Z1:=G_fr Z4 λb p hg=>F.keepB R hg Z;obtain⟨ej,Lj,W,a9,Z3⟩:=j1.ext L (show n+1<=B+1 by omega);have j4:IW Z1 (B+1+1) d e f g (denZ q):=⟨ej,Lj,W.kept R F Zq,a9,Z3⟩;refine Zl ?_;refine z7 R5 (yw R2 p4 rfl zb rfl)<|zM ?_;refine zF _ R5 (nF (k+1) V (n:=B+1+1) Z D.g aD j4 (by rw[wq s,C4];exact I.2) hm) ?_;intro v h5 n5 w5 M;obtain⟨a7,rfl⟩:=M.g.shape;have a1:addW (KI (k+9) n 0).n0 w5 []=[]:=(D.trans M).w_nil;refine pY R5 (rg R3 M.g.text)<|Zc ?_;refine retF _ rfl (zi rfl) ⟨rfl,a1⟩ ?_;show CN _=_;rw[DP,jS s]
 have s:denZ q=0:=s.1 rfl;rw[ze rfl];refine jQ ?_;refine z7 R5 (yw R2 C rfl zb rfl)<|yi _ R5 (zig (k+8) P) ?_;rintro _⟨y,ok,rfl,hy⟩;refine mM ?_;refine mM ?_;refine Zl ?_;refine zN ?_;cases ok
 .rw[za rfl];refine jQ ?_;refine z7 R5 (yw R2 C rfl zb rfl)<|yi _ R5 (zcw k u Z P I.1 hm) ?_;exact Ck
 obtain⟨rfl,a3,a8⟩:=hy rfl;rw[ze rfl];refine jQ ?_;refine yi _ R5 (oT (k+4) u Z ⟨a3,a8⟩) ?_;exact Ck
end
section
variable {c len off:Nat}{ty:TypeId}{x:Operand}
section
variable {h:HF}{n:Nat}{d:Tmp}
def sZ{P:List ψ->D->HF->Nat->Prop}{a:Operand}{zs:List D}{q:D}(c:List ψ)(u:OR sz P h n b zs)(p:KP sz P)(hj:j<zs.length)(f:off=j*sz)(g:P c q h n)(k:∀h',OR sz P h' n b (zs.set j q)->Kx b h h'->EO X ops r ⟨t,h',n,addW n0 [b] w⟩ Q)(H:zh ops t o=φ:=by rfl)(hd:o.dst=θ:=by rfl)(ho:o.op=.store ty a x:=by rfl)(hi:X.E.inf ty=ξ (sz,bt,z):=by rfl)(ha:J8 t a=.pointer (ξ ⟨b,off,θ⟩):=by rfl)(hx:zn (J8 t x)=c:=by rfl)(hX:X.n0=n0:=by rfl):EO X ops (o::r) ⟨t,h,n,w⟩ Q:=by have v:=u;have⟨L,C,e,y,M,I⟩:=u;have G:=I.len;have⟨A,K,B⟩:=p.c g;have J:j*sz+sz<=zs.length*sz:=(by have:=Nat.mul_le_mul_right sz (show j+1<=zs.length from hj);rw[Nat.add_mul,Nat.one_mul]at this;exact this);subst f;rw[rS H (by rw[hd];rfl) (by rw[ho];rfl) (by rw[ho];exact xn hi ha (by rw[hx];exact A) (by rw[hx];exact B) y Z),hd,hx,hX];have s:=v.set p y hj g (zg _ _ _) (λc F=>zm F);exact k _ s.1 s.2
def sZn{P:List ψ->D->HF->Nat->Prop}{a:Operand}{zs:List D}{q:D}(c:List ψ)(y:OR sz P h n b zs)(u:KP sz P)(hj:j<zs.length)(g:off=j*sz)(s:P c q h n)(f:3*n0<=b)(k:∀e,OR sz P e n b (zs.set j q)->Kx b h e->EO X ops r ⟨t,e,n,w⟩ Q)(p:zh ops t o=φ:=by rfl)(hd:o.dst=θ:=by rfl)(ho:o.op=.store ty a x:=by rfl)(hi:X.E.inf ty=ξ (sz,bt,z):=by rfl)(ha:J8 t a=.pointer (ξ ⟨b,off,θ⟩):=by rfl)(hx:zn (J8 t x)=c:=by rfl)(hX:X.n0=n0:=by rfl):EO X ops (o::r) ⟨t,h,n,w⟩ Q:=
 sZ c y u hj g s (λe v A=>by rw[wD f];exact k e v A) p hd ho hi ha hx hX
end
section
variable {h:HF}{n:Nat}{d:Tmp}
end
section
variable {h:HF}{n:Nat}{ld:List (Nat×Nat)}{d:Tmp}
end
def strP(c:List ψ)(s:List UInt8)(_:HF)(_:Nat):Prop:=c=[CN ⟨⟨s⟩⟩]
def strP.kp:KP 1 strP:=⟨λe _=>e,λe=>by cases e;exact R3⟩
def Rec.strsE{C:List ψ}{h:HF}{n:Nat}(r:Rec 1 (λc s=>strP c s h n) C ss):C=strs ss:=by
 induction r with
 |nil=>rfl
 |cons h1 h2 h3 ih=>rw[ih,h2];rfl
abbrev OT(h:HF)(n b:Nat)(ss:List (List UInt8)):Prop:=OR 1 strP h n b ss
def OT.sl{h:HF}{n:Nat}(o:OT h n b ss)(e:len=O ss)(a:len<=cap):Sl h n 1 (Y (ξ ⟨b,0,θ⟩) len cap) (strs ss):=by have⟨C,s,r⟩:=OR.sl o e a;exact r.strsE▸s
def TE(k:Nat){h:HF}{n:Nat}(g:GG h n){b d:Bool}{a e:Option Addr}{f:Nat}(i:IW h n b a l c q.num)(j:IW h n d e f g1 (denZ q)){m:Nat}(p:Sz m q)(hm:m<=1920):CX (Ka (k+10)) 27 [.agg #[U b,Y a l c,U d,Y e f g1]] h n λv _ _=>v=CN ⟨⟨ratT q⟩⟩:=(Qg k g.1 g.2 i j p hm).cx
end
section
variable {p:LPD}{n:Nat}{h:HF}{ds:List SideD}
theorem TG{lo:List UInt8}(h:∀i,i<j->∀lo hi,p.lower[i]?=ξ lo->p.upper[i]?=ξ hi->pairOk lo hi)(b:p.lower[j]?=ξ lo)(c:p.upper[j]?=ξ hi)(d:pairOk lo hi):∀i,i<j+1->∀lo hi,p.lower[i]?=ξ lo->p.upper[i]?=ξ hi->pairOk lo hi:=by grind
def ot{l:List α}{P:α->Prop}{r:α}(h:∀r∈l.take i,P r)(d:l[i]?=ξ r)(e:P r):∀r∈l.take (i+1),P r:=by intro f c;rw[xa d]at c;obtain b|b:=DW.1 c;exact h f b;rw[C0.1 b];exact e
def GSL.lo{lo:Nat}(g:GSL lo h n v ds)(l:lo'<=lo):GSL lo' h n v ds:=by
 have⟨C,b,e,f⟩:=g.ex;refine⟨C,?_,e.mono λc d s=>s.lo l,f⟩;generalize (O ds)=m at b⊢;cases b with
 |nil=>exact .nil
 |at_ hg hlo hb hr hl2 ho=>exact .at_ hg Z hb hr hl2 ho
theorem TH(k:Nat)(g:GG h n){lo:Nat}(io:Sl h n 1 (Y ao lo co) (strs p.obj))(ir:Kz h n (Y ar lr cr) p.rows)(iw:Sl h n 1 (Y aw lw cw) (strs p.lower))(iu:Sl h n 1 (Y au lu cu) (strs p.upper))(hp:LPB a p)(ha:a+a<=2000):CX (Ka (k+12)) 15 [.agg #[Y ao lo co,Y ar lr cr,Y aw lw cw,Y au lu cu]] h n λv Z1 S=>∃aO lO kO aR lR kR aC lC kC ok,v=.tuple #[.agg #[Y aO lO kO,Y aR lR kR,Y aC lC kC],U ok]/\(ok=φ↔VLP p)/\(ok=φ->KM n Z1 S (Y aO lO kO) (p.obj.map zj)/\GSL n Z1 S (Y aR lR kR) (zk p)/\GSL n Z1 S (Y aC lC kC) (zC p)):=by
 have g9:=z8 io;have ga:=ir.len;have gc:=z8 iw;have gb:=z8 iu;have⟨d5,c1,c2,T,d4,fo,fp,fq⟩:=hp;refine zw R4<|zG ?_;refine sB [Y ao lo co,Y ar lr cr,Y aw lw cw,Y au lu cu] λep gu j6=>?_;refine sA λeq gv j7=>?_;refine zG ?_;by_cases q13:(lo:Int)<1;refine zG ?_;refine sT #[η,η,η] ?_;refine sS [η,η,η] λer gw ge=>?_;exact By;refine zG ?_;by_cases q15:(lo:Int)>64;refine zG ?_;refine sT #[η,η,η] ?_;refine sS [η,η,η] λes gx gf=>?_;exact By;refine zG ?_;by_cases q17:(lw:Int)=(lo:Int);refine zG ?_;by_cases q18:(lu:Int)=(lo:Int);refine zG ?_;by_cases q19:(lr:Int)>64;refine zG ?_;refine sT #[η,η,η] ?_;refine sS [η,η,η] λet gy gg=>?_;exact By;refine zG ?_;refine sC (rC _ g.x io.x (λs hs=>(d5 s hs).1) d4) ?_;rintro _ eu f⟨D,P,H,ee,rfl,ca,dv⟩ jl j8;obtain⟨rfl,bl⟩|⟨rfl,bl⟩:=Kg ca;refine zG ?_;refine sT #[η,η,η] ?_;refine sS [η,η,η] λev gz gh=>?_;refine zq ?_;exact⟨_,_,_,_,_,_,_,_,_,_,ω,⟨λe=>mu,λhv=>BO hv.ob bl⟩,λe=>mu⟩;have Z4:=dv rfl;have ea:=Z4.1.len;rw[CU]at ea;refine zG ?_;refine sT #[Y D P H,η,η] ?_;refine sA λew i0 j9=>?_;refine sS [Y D P H,η,η] λd2 dp gi=>?_;refine zG ?_;refine sF (α:=Nat×Option Addr×Nat×Nat) (λz=>[(1,ι (3*n+2)),(2,ι (3*(n+1)+2)),(4,CJ .i64 (lo:Int)),(7,ι (3*f+2)),(58,CJ .i64 (lo:Int)),(59,CJ .i64 (z.1:Int))]) (λz Z1 S w'=>w'=[]/\f+1<=S/\ExtB (f+1) [3*f+2] d2 Z1/\Z1 (3*f+2)=ξ (.row [Y D P H,η,Y z.2.1 z.2.2.1 z.2.2.2] 45)/\GSL (f+1) Z1 S (Y z.2.1 z.2.2.1 z.2.2.2) ((zC p).take z.1)/\z.1<=O p.obj/\∀i,i<z.1->∀lo hi,p.lower[i]?=ξ lo->p.upper[i]?=ξ hi->pairOk lo hi) (λz=>O p.obj-z.1) (0,θ,0,0) ⟨ω,CG,El _ _ _,dp,GSL.nil _ _ _,CH,(λi hi=>BO hi (DR _))⟩ ?_;rintro⟨j,aC,lC,kC⟩ t a9 u _ ⟨rfl,jm,el,a4,B,hj,b4⟩;dsimp only at a4 B hj b4;refine zG ?_;by_cases q26:(j:Int)<(lo:Int);refine kh ?_;obtain⟨cx,a7⟩:∃d,(p.lower)[j]?=ξ d:=⟨_,CK Z⟩;have⟨g5,gk,cz,dh,e0,e5⟩:=vM iw a7;refine dI cz e0 ?_;refine dL e5 dh 0 ?_;refine zH ?_;obtain⟨cy,a8⟩:∃d,(p.upper)[j]?=ξ d:=⟨_,CK Z⟩;have⟨g6,gl,d0,di,e1,e6⟩:=vM iu a8;refine dI d0 e1 ?_;refine dL e6 di 0 ?_;refine dC (jP _ g.x (c1 _ (CL a7)).1 (c2 _ (CL a8)).1 (c1 _ (CL a7)).2 (c2 _ (CL a8)).2 Z) ?_;rintro _ ey ap⟨ac,ay,ax,b5,az,b0,b1,b2,b3,L,W,V,a3,Z3,Z0,a0,a1,a2,ef,rfl,cb,dw⟩ jn ja;obtain⟨rfl,bm⟩|⟨rfl,bm⟩:=Kg cb;refine zH ?_;refine dB [η,U χ,U χ,η,U χ,η,U χ,U χ,η,U χ,η] λez i1 jb=>?_;refine dS [η,U ac,U ay,Y ax b5 az,U b0,Y b1 b2 b3,U L,U W,Y V a3 Z3,U Z0,Y a0 a1 a2] λf0 i2 gm=>?_;refine zJ ?_;refine sT #[η,η,η] ?_;refine sS [η,η,η] λf1 i3 c5=>?_;have fr:=Z4.x.sto c5 Z;have fs:=B.x.sto c5 Z;refine zq ?_;exact⟨_,_,_,_,_,_,_,_,_,_,ω,⟨λe=>mu,λhv=>BO (hv.bd _ _ _ a7 a8) bm⟩,λe=>mu⟩;have⟨e8,d6,de,bw,bs,bu⟩:=dw rfl;refine zH ?_;refine dB [η,U χ,U χ,η,U χ,η,U χ,U χ,η,U χ,η] λf2 i4 jc=>?_;refine dS [η,U ac,U ay,Y ax b5 az,U b0,Y b1 b2 b3,U L,U W,Y V a3 Z3,U Z0,Y a0 a1 a2] λf3 i5 gn=>?_;refine zJ ?_;refine wE [η,U ac,U ay,Y ax b5 az,U b0,Y b1 b2 b3,U L,U W,Y V a3 Z3,U Z0,Y a0 a1 a2] (l:=1) (c:=1) R5 λbg dq jd=>?_;have e3:uK (f+1) [η,U ac,U ay,Y ax b5 az,U b0,Y b1 b2 b3,U L,U W,Y V a3 Z3,U Z0,Y a0 a1 a2] (⟨[],cx,cy⟩) bg (ap+1+1):=⟨_,_,_,_,_,_,_,_,_,_,_,_,_,_,_,_,_,_,_,_,_,ω,KM.nil _ _ _,e8,d6.t,de.t,bw,bs.t,bu.t⟩;have⟨ej,C,cn,ci⟩:=((B.x (h':=bg) (n':=ap+1+1) zx)).ex;have cl:bg (3*(ap+1)+2)=_:=dq;refine M3 (lo:=(f+1)) (m:=1) R8 ⟨De ω,De ω⟩ C (yp cl R2) CG aD ω ω ⟨Bn,Z⟩ λj4 ak be c8 ab=>?_;have cq:=GSL.app C cn ci e3 ab be;have⟨bz,cf,_⟩:=be.shape;subst cf;replace c8:Exa (f+1) _ _:=⟨c8⟩;have i6:ak (3*n+2)=_:=(ab.blk C (zB _) Z).trans zp;have i7:ak (3*(n+1)+2)=_:=(ab.blk C (zB _) Z).trans zp;have i8:ak (3*f+2)=_:=(ab.blk C (zB _) Z).trans zp;have i9:ak (3*ap+2)=_:=(ab.blk C (zB _) Z).trans zp;have ia:ak (3*(ap+1)+2)=_:=(ab.blk C (zB _) Z).trans zp;refine zG ?_;refine sS (b:=3*f+2) (off:=2) [Y D P H,η,Y bz (O ((zC p).take j)+1) (O ((zC p).take j)+1)] λf4 dr dl=>?_;have d7:=cq.sto dl Z;refine zG ?_;exact sK (j+1,bz,(O ((zC p).take j)+1),(O ((zC p).take j)+1)) ⟨ω,Z,zy,dr,((xa (gj a7 a8)).symm▸d7),Z,(TG b4 a7 a8 bm)⟩;refine zG ?_;have fn:j=O p.obj:=Z;have bq:GSL (f+1) a9 u (Y aC lC kC) (zC p):=by grind [zC,CR,List.length_zipWith]
 refine zG ?_;have ck:a9 (3*f+2)=_:=a4;refine sF (α:=Nat×Option Addr×Nat×Nat) (λz=>[(2,ι (3*(n+1)+2)),(4,CJ .i64 (lo:Int)),(7,ι (3*f+2)),(87,Y ar lr cr),(88,CJ .i64 (lr:Int)),(89,CJ .i64 (z.1:Int))]) (λz Z1 S w'=>w'=[]/\u<=S/\ExtB u [3*f+2] a9 Z1/\Z1 (3*f+2)=ξ (.row [Y D P H,Y z.2.1 z.2.2.1 z.2.2.2,Y aC lC kC] 45)/\GSL u Z1 S (Y z.2.1 z.2.2.1 z.2.2.2) ((zk p).take z.1)/\z.1<=O p.rows/\∀r∈p.rows.take z.1,pairOk r.lo r.hi/\(∀s∈r.A,vF s)/\O r.A=O p.obj) (λz=>O p.rows-z.1) (0,θ,0,0) ⟨ω,CG,El _ _ _,a4,GSL.nil _ _ _,CH,(λr hr=>BO hr eF)⟩ ?_;rintro⟨i,aR,lR,kR⟩ t al aq _ ⟨rfl,jo,em,b9,o,hi,am⟩;dsimp only at b9 o hi am;refine zG ?_;by_cases q47:(i:Int)<(lr:Int);refine zG ?_;obtain⟨bc,q⟩:∃d,(p.rows)[i]?=ξ d:=⟨_,CK Z⟩;have⟨g7,go,ct,dg,cv,d1,dj,e2,e7,bj⟩:=Kz.at ir q;have ed:=z8 bj;refine sI d1 e2 ?_;refine sL e7 dj 0 ?_;refine sA λf5 ib je=>?_;refine sS [Y ct dg cv,CN ⟨⟨bc.lo⟩⟩,CN ⟨⟨bc.hi⟩⟩] λf6 ic gp=>?_;refine zG ?_;refine sC (jP _ g.x (T _ (CL q)).1.1 (T _ (CL q)).2.1.1 (T _ (CL q)).1.2 (T _ (CL q)).2.1.2 Z) ?_;rintro _ f7 c4⟨a5,ae,ad,an,af,ag,ah,ai,aj,w,G,F,R,I,J,K,M,N,eg,rfl,cc,dx⟩ jp jf;obtain⟨rfl,b7⟩|⟨rfl,b7⟩:=Kg cc;refine Za λf8 id jg=>?_;refine sS [η,U a5,U ae,Y ad an af,U ag,Y ah ai aj,U w,U G,Y F R I,U J,Y K M N] λf9 ie gq=>?_;refine zG ?_;refine sC (rC _ g.x bj.x (λs hs=>((T _ (CL q)).2.2.2 s hs).1) (T _ (CL q)).2.2.1) ?_;rintro _ fa gd⟨en,g8,eo,eh,rfl,cd,dy⟩ jq jh;obtain⟨rfl,dk⟩|⟨rfl,dk⟩:=Kg cd;refine zG ?_;refine sT #[η,η,η] ?_;refine sS [η,η,η] λfb ig c6=>?_;have ft:=Z4.x.sto c6 Z;have fu:=o.x.sto c6 Z;exact Ct;have c3:=dy rfl;have eb:=c3.1.len;rw[CU]at eb;refine zG ?_;refine sT #[η,η,η] ?_;refine sS [η,η,η] λfc ii bo=>?_;have fv:=Z4.x.sto bo Z;have fw:=o.x.sto bo Z;have fx:=c3.sto bo Z;exact Ct;have⟨e9,d8,df,bx,bt,bv⟩:=dx rfl;refine Za λfd ij ji=>?_;refine sS [η,U a5,U ae,Y ad an af,U ag,Y ah ai aj,U w,U G,Y F R I,U J,Y K M N] λfe ik gr=>?_;refine zG ?_;refine sC (rC _ g.x bj.x (λs hs=>((T _ (CL q)).2.2.2 s hs).1) (T _ (CL q)).2.2.1) ?_;rintro _ ff b8⟨ba,b6,bb,ei,rfl,ce,dz⟩ jr jj;obtain⟨rfl,bn⟩|⟨rfl,bn⟩:=Kg ce;refine zG ?_;refine sT #[η,η,η] ?_;refine sS [η,η,η] λfg il c7=>?_;have fy:=Z4.x.sto c7 Z;have fz:=o.x.sto c7 Z;refine zq ?_;exact⟨_,_,_,_,_,_,_,_,_,_,ω,⟨λe=>mu,λhv=>BO (hv.rw _ (CL q)).2.1 bn⟩,λe=>mu⟩;have bk:=dz rfl;have ec:=bk.1.len;rw[CU]at ec;refine zG ?_;by_cases q68:(b6:Int)=(lo:Int);refine zG ?_;refine sS [Y ba b6 bb,U a5,U ae,Y ad an af,U ag,Y ah ai aj,U w,U G,Y F R I,U J,Y K M N] λfh im dm=>?_;have d9:=bk.sto dm Z;refine zG ?_;refine wE [Y ba b6 bb,U a5,U ae,Y ad an af,U ag,Y ah ai aj,U w,U G,Y F R I,U J,Y K M N] (l:=1) (c:=1) R5 λbh dt jk=>?_;have e4:uK (u) [Y ba b6 bb,U a5,U ae,Y ad an af,U ag,Y ah ai aj,U w,U G,Y F R I,U J,Y K M N] (rowS bc) bh (b8+1):=⟨_,_,_,_,_,_,_,_,_,_,_,_,_,_,_,_,_,_,_,_,_,ω,(d9.x).lo (show u<=c4+1 from Z),e9,d8.t,df.t,bx,bt.t,bv.t⟩;have⟨ek,y,cp,cj⟩:=((o.x (h':=bh) (n':=b8+1) zx)).ex;have cm:bh (3*b8+2)=_:=dt;refine M3 (lo:=(u)) (m:=1) R8 ⟨De ω,De ω⟩ y (yp cm R2) CG aD ω ω ⟨Bn,Z⟩ λj5 aa bf c9 a6=>?_;have cs:=GSL.app y cp cj e4 a6 bf;have⟨c0,cg,_⟩:=bf.shape;subst cg;replace c9:Exa u _ _:=⟨c9⟩;have ip:aa (3*n+2)=_:=(a6.blk y (zB _) Z).trans zp;have iq:aa (3*(n+1)+2)=_:=(a6.blk y (zB _) Z).trans zp;have it:aa (3*f+2)=_:=(a6.blk y (zB _) Z).trans zp;have iv:aa (3*aq+2)=_:=(a6.blk y (zB _) Z).trans zp;have ix:aa (3*c4+2)=_:=(a6.blk y (zB _) Z).trans zp;have iy:aa (3*b8+2)=_:=(a6.blk y (zB _) Z).trans zp;refine zG ?_;refine sS (b:=3*f+2) (off:=1) [Y D P H,Y c0 (O ((zk p).take i)+1) (O ((zk p).take i)+1),Y aC lC kC] λfi du dn=>?_;have da:=cs.sto dn Z;refine zG ?_;exact sK (i+1,c0,(O ((zk p).take i)+1),(O ((zk p).take i)+1)) ⟨ω,Z,zy,du,((xa (LK q)).symm▸da),Z,(ot am q ⟨b7,bn,Z⟩)⟩;refine zG ?_;refine sT #[η,η,η] ?_;refine sS [η,η,η] λfj iz bp=>?_;have g0:=Z4.x.sto bp Z;have g1:=o.x.sto bp Z;have g2:=bk.sto bp Z;refine zq ?_;exact⟨_,_,_,_,_,_,_,_,_,_,ω,⟨λe=>mu,λhv=>BO (hv.rw _ (CL q)).2.2 Z⟩,λe=>mu⟩;refine zG ?_;have d3:i=O p.rows:=Z;have br:GSL u al aq (Y aR lR kR) (zk p):=by grind [zk,CR,CU]
 have bi:=bq.extB (n':=aq) (show ExtB u [3*f+2] a9 al from zy) Z (by intro b hb;simp only[Dk,CT,or_false]at hb;subst hb;exact⟨Z,_,_,ck,ω⟩);have ch:=(Z4.x (h':=al) (n':=aq) zx);refine zG ?_;refine sS [Y D P H,Y aR lR kR,Y aC lC kC] λfk j0 av=>?_;have db:=br.sto av Z;have dc:=bi.sto av Z;have dd:=ch.sto av Z;have g3:=Z4.x.sto av Z;have g4:=o.sto av Z;refine zq ?_;exact⟨_,_,_,_,_,_,_,_,_,_,ω,⟨λ_=>⟨Z,Z,Z,Z,Z,bl,λj2 lo hi h1 h2=>b4 j2 aD lo hi h1 h2,by rw[d3,Da]at am;exact am⟩,λ_=>rfl⟩,λ_=>⟨dd.lo Z,db.lo Z,dc.lo Z⟩⟩;refine zG ?_;refine sT #[η,η,η] ?_;refine sS [η,η,η] λfl j1 gs=>?_;exact By;refine zG ?_;refine sT #[η,η,η] ?_;refine sS [η,η,η] λfm j3 gt=>?_;exact By
end
section
variable {h:HF}{c n:Nat}
theorem pG{s t x y:Rat}(h:t=s+x*y)(d:x=0\/y=0):s=t:=by grind
def Nk(k:Nat)(g:GG h n)(ix:QS h n (Y ax lx cx) xs)(iy:QS h n (Y ay ly cy) ys)(Z1:∀q∈xs,Sz a q)(P:∀q∈ys,Sz b q)(hl:O xs<=O ys)(hc:∀j,j<=O xs->Sz c (dotR (xs.take j) (ys.take j)))(hb:c+a+b+1<=2496)(hn:O xs<1000000):CX (Ka (k+11)) 26 [Y ax lx cx,Y ay ly cy] h n (QV (dotR xs (ys.take (O xs)))):=by have bi:=ix.len;have bj:=iy.len;refine zw R4<|Za λb5 bt c1=>?_;refine Za λa7 ae c2=>?_;refine zG ?_;refine sF (α:=Nat×Bool×Option Addr×Nat×Nat×Bool×Option Addr×Nat×Nat) (λz=>[(1,Y ay ly cy),(4,ι (3*n+2)),(5,ι (3*(n+1)+2)),(8,Y ax lx cx),(9,CJ .i64 (lx:Int)),(10,CJ .i64 (z.1:Int))]) (λz F n' w'=>w'=[]/\n+1+1<=n'/\ExtB (n+1+1) [3*(n+1)+2] a7 F/\F (3*(n+1)+2)=ξ (.row [U z.2.1,Y z.2.2.1 z.2.2.2.1 z.2.2.2.2.1,U z.2.2.2.2.2.1,Y z.2.2.2.2.2.2.1 z.2.2.2.2.2.2.2.1 z.2.2.2.2.2.2.2.2] 66)/\IW F n' z.2.1 z.2.2.1 z.2.2.2.1 z.2.2.2.2.1 ((dotR (xs.take z.1) (ys.take z.1)).num)/\IW F n' z.2.2.2.2.2.1 z.2.2.2.2.2.2.1 z.2.2.2.2.2.2.2.1 z.2.2.2.2.2.2.2.2 (denZ (dotR (xs.take z.1) (ys.take z.1)))/\z.1<=O xs) (λz=>O xs-z.1) (0,χ,θ,0,0,χ,θ,0,0) ⟨ω,CG,El _ _ _,ae,(EB _ _).as AB,(EB _ _).as AB,CH⟩ ?_;rintro⟨j,p,o,v,u,A,B,C,D⟩ t s Z3 _ ⟨rfl,c9,am,m,e,f,hj⟩;dsimp only at m e f hj;refine zG ?_;by_cases q14:(j:Int)<(lx:Int);refine zG ?_;obtain⟨az,i⟩:∃d,(xs)[j]?=ξ d:=⟨_,CK Z⟩;have⟨be,bo,a4,a3,ac,a5,ai,aj,ak,al,a6,ad,ag,ah,R,T⟩:=QS.at ix i;refine sI a6 ag ?_;refine sL ah ad 0 ?_;refine sA λb6 bu c3=>?_;refine zG ?_;refine sS [U a4,Y a3 ac a5,U ai,Y aj ak al] λb7 bv bp=>?_;refine zG ?_;refine sC (kD _ R.x T.x) ?_;rintro _ b8 bk⟨ap,rfl,a1⟩ ca c4;obtain⟨rfl,w⟩|⟨rfl,w⟩:=Kg a1;refine zG ?_;obtain⟨b0,l⟩:∃d,(ys)[j]?=ξ d:=⟨_,CK Z⟩;have⟨bf,bq,aq,an,bg,av,bx,bz,c0,c5,K,W,Z0,a0,S,Z4⟩:=QS.at iy l;refine sI K Z0 ?_;refine sL a0 W 0 ?_;refine sC (kD _ S.x Z4.x) ?_;rintro _ b9 bl⟨ar,rfl,a2⟩ cb c6;obtain⟨rfl,y⟩|⟨rfl,y⟩:=Kg a2;refine kh ?_;refine dI K Z0 ?_;refine dL a0 W 0 ?_;refine dC (mulQ _ g.x R.x T.x S.x Z4.x (Z1 _ (CL i)) (P _ (CL l)) Z) ?_;rintro _ ba bm⟨au,ao,bh,aw,b1,b2,b3,b4,rfl,a8,aa⟩ cc c7;refine dC (addQ _ g.x e.t f.t a8 aa (hc _ hj) ((Z1 _ (CL i)).mul (P _ (CL l))) Z) ?_;rintro _ bb bn⟨H,G,V,I,J,L,M,N,rfl,a9,ab⟩ cd c8;refine dS [U H,Y G V I,U J,Y L M N] λbc af br=>?_;refine zG ?_;exact sK (j+1,H,G,V,I,J,L,M,N) ⟨ω,Z,zy,af,(a9.t.as (congrArg ac0 ((wK i l).symm))),(ab.t.as (congrArg denZ ((wK i l).symm))),Z⟩;refine zG ?_;exact sK (j+1,p,o,v,u,A,B,C,D) ⟨ω,Z,zy,zp,(e.t.as (congrArg ac0 (pG (wK i l) (.inr y)))),(f.t.as (congrArg denZ (pG (wK i l) (.inr y)))),Z⟩;refine zG ?_;exact sK (j+1,p,o,v,u,A,B,C,D) ⟨ω,Z,zy,zp,(e.t.as (congrArg ac0 (pG (wK i (CK Z)) (.inl w)))),(f.t.as (congrArg denZ (pG (wK i (CK Z)) (.inl w)))),Z⟩;refine zG ?_;refine sS [U p,Y o v u,U A,Y B C D] λbd bw bs=>?_;refine zq ?_;exact⟨_,_,_,_,_,_,_,_,ω,e.t.as aD,f.t.as aD⟩
def dotQ(k:Nat)(g:GG h n)(l:QS h n (Y ax lx cx) xs)(m:QS h n (Y ay ly cy) ys)(d:∀q∈xs,Sz a q)(e:∀q∈ys,Sz b q)(i:O xs<=O ys)(hb:O xs*(a+b+1)+a+b+2<=2496):CX (Ka (k+11)) 26 [Y ax lx cx,Y ay ly cy] h n (QV (dotR xs (ys.take (O xs)))):=by have o:=EK (O xs) (show 0<a+b+1 from Z);exact Nk k g l m d e i (c:=1+O xs*(a+b+1)) (λj f=>(nf d e j f Z).mono (by have:=CS (a+b+1) f;omega)) Z Z
end
section
variable {h:HF}{n:Nat}{d:Tmp}
end
theorem pd(N:Int){D:Nat}(a:0<D):(DK N D).num=N.tdiv ((C6 N.natAbs D:Nat):Int)/\((DK N D).den:Int)=(D:Int).tdiv ((C6 N.natAbs D:Nat):Int):=by have b:0<C6 N.natAbs D:=Er _ a;rw[Rat.divInt_ofNat,<-HV Z,Rat.normalize_eq];simp only;refine⟨?_,?_⟩;rw[GO];exact FD.2 (Fh _ _);rfl
section
variable {len off:Nat}
def bndZ(c:List ψ)(p:Bool×Rat)(h:HF)(n:Nat):Prop:=∃b a l k d e f g,c=[U p.1,U b,Y a l k,U d,Y e f g]/\IW h n b a l k p.2.num/\IW h n d e f g (denZ p.2)
def bndZ.kp:KP 5 bndZ:=⟨λ⟨b,a,l,k,d,e,f,g,c,i,j⟩ t=>⟨b,a,l,k,d,e,f,g,c,i.t t,j.t t⟩,λ⟨b,a,l,k,d,e,f,g,c,i,j⟩=>by subst c;exact R3⟩
def natP(c:List ψ)(m:Nat)(_:HF)(_:Nat):Prop:=c=[CJ .i64 (m:Int)]
def natP.kp:KP 1 natP:=⟨λe _=>e,λe=>by cases e;exact R3⟩
def KN(c:List ψ)(r:Nat×List Int)(_:HF)(_:Nat):Prop:=c=[Y (ξ ⟨r.1,0,θ⟩) (O r.2) (O r.2)]
def KN.kp:KP 1 KN:=⟨λe _=>e,λe=>by cases e;exact R3⟩
section
variable {P:List ψ->D->HF->Nat->Prop}{lo n n':Nat}{h h':HF}{ds:List D}
def GR.rs(g:GR sz P lo h n e v ds):RS sz P h n v ds:=by have⟨C,c,f,_⟩:=g;exact⟨C,c.sl,f⟩
def GR.ext(g:GR sz P lo h n e v ds)(q:KP sz P)(x:J9 n h h')(p:n<=n'):GR sz P lo h' n' e v ds:=g.go q ⟨p,λc i=>.inl (x c i)⟩ λb f=>x b (g.bk b f).2.1
def GR.ty(g:GR sz P lo h n e v ds)(hb:BkOf v b):KY h b e:=by
 have⟨C,f,_,_⟩:=g;obtain⟨o,l,c,rfl⟩:=hb;generalize (O ds)=L at f;cases f with
 |at_ hg hlo hb hr hl ho=>exact⟨_,hr⟩
end
def KY.eq{h:HF}{e e':TypeId}(x:KY h b e)(y:KY h b e'):e=e':=by have⟨C,x⟩:=x;have⟨c,y⟩:=y;rw[x]at y;cases y;rfl
section
variable {P:List ψ->D->HF->Nat->Prop}{P':List ψ->D'->HF->Nat->Prop}{n n':Nat}{h h':HF}{u:ψ}{ds:List D}{ds':List D'}
def GR.ne(g:GR sz P l h n e v ds)(c:GR sz' P' l' h n e' u ds')(i:e≠e'):∀b,BkOf v b->¬BkOf u b:=λb f p=>i ((g.ty f).eq (c.ty p))
def GR.kb(g:GR sz P l h n e v ds)(p:KP sz P)(T:Tr n h n' h')(f:gro bs=χ)(K:∀b,b<3*n->b≠bs->¬BkOf u b->h' b=h b)(i:∀b,BkOf v b->¬BkOf u b):GR sz P l h' n' e v ds:=
 g.go p T λb c=>K b (g.bk b c).2.1 (λe=>by have:=(g.bk b c).2.2.1;rw[e,f]at this;cases this) (i b c)
def GR.nbk(g:GR sz P l h n e v ds)(c:gro b=χ):¬BkOf v b:=λf=>by
 have:=(g.bk b f).2.2.1;rw[c]at this;cases this
end
structure Exo (n:Nat)(h h':HF):Prop where
 go:J9 n h h'
abbrev BS(h:HF)(n:Nat)(v:ψ)(l:List (Bool×Rat)):Prop:=RS 5 bndZ h n v l
def BS.at{h:HF}{n:Nat}{a:Option Addr}{l:List (Bool×Rat)}{p:Bool×Rat}(r:BS h n (Y a len cap) l)(hj:l[j]?=ξ p):∃q off b s y k d e f g,a=ξ ⟨q,off,θ⟩/\q<3*n/\j<len/\At h q (off+j*5) [U p.1,U b,Y s y k,U d,Y e f g]/\IW h n b s y k p.2.num/\IW h n d e f g (denZ p.2):=by obtain⟨q,off,c,B,C,F,G,_,b,s,y,k,d,e,f,g,rfl,i,j⟩:=RS.at' zd r hj;exact⟨q,off,b,s,y,k,d,e,f,g,B,C,F,G,i,j⟩
def natS.at{h:HF}{n:Nat}{a:Option Addr}{l:List Nat}(r:RS 1 natP h n (Y a len cap) l)(hj:l[j]?=ξ m):∃f off,a=ξ ⟨f,off,θ⟩/\f<3*n/\j<len/\At h f (off+j*1) [CJ .i64 (m:Int)]:=by exact Ci
def rwS.at{h:HF}{n:Nat}{a:Option Addr}{l:List (Nat×List Int)}{m:Nat×List Int}(r:RS 1 KN h n (Y a len cap) l)(hj:l[j]?=ξ m):∃f off,a=ξ ⟨f,off,θ⟩/\f<3*n/\j<len/\At h f (off+j*1) [Y (ξ ⟨m.1,0,θ⟩) (O m.2) (O m.2)]:=by exact Ci
structure Sol where
 n:Nat
 sc:List Rat
 lo:List (Bool×Rat)
 hi:List (Bool×Rat)
 va:List Rat
 ba:List Nat
 nb:List Nat
 ta:List (Nat×List Int)
 den:Int
structure Adr where
 sc:Option Addr
 lo:Option Addr
 hi:Option Addr
 va:Option Addr
 ba:Option Addr
 nb:Option Addr
 ta:Option Addr
structure SM (l:Nat)(h:HF)(n bs:Nat)(d:Sol)(A:Adr):Prop where
 st:∃b a u c ty,h bs=ξ (.row [CJ .i64 (d.n:Int),Y A.sc (O d.sc) (O d.sc),Y A.lo (O d.lo) (O d.lo),Y A.hi (O d.hi) (O d.hi),Y A.va (O d.va) (O d.va),Y A.ba (O d.ba) (O d.ba),Y A.nb (O d.nb) (O d.nb),Y A.ta (O d.ta) (O d.ta),U b,Y a u c] ty)/\IW h n b a u c d.den
 bs:bs<3*n/\gro bs=χ
 sc:GR 4 ratP l h n 66 (Y A.sc (O d.sc) (O d.sc)) d.sc
 lo:GR 5 bndZ l h n 97 (Y A.lo (O d.lo) (O d.lo)) d.lo
 hi:GR 5 bndZ l h n 97 (Y A.hi (O d.hi) (O d.hi)) d.hi
 va:GR 4 ratP l h n 66 (Y A.va (O d.va) (O d.va)) d.va
 ba:GR 1 natP l h n 3 (Y A.ba (O d.ba) (O d.ba)) d.ba
 nb:GR 1 natP l h n 3 (Y A.nb (O d.nb) (O d.nb)) d.nb
 ta:GR 1 KN l h n 64 (Y A.ta (O d.ta) (O d.ta)) d.ta
 rw:∀r∈d.ta,OZ h n r.1 r.2/\gro r.1=χ
 dj:∀b,BkOf (Y A.va (O d.va) (O d.va)) b->¬BkOf (Y A.sc (O d.sc) (O d.sc)) b
section
variable {n n':Nat}{h h':HF}{d:Sol}{A:Adr}
def SM.ext(s:SM l h n bs d A)(x:J9 n h h')(f:n<=n'):SM l h' n' bs d A:=by have⟨b,a,u,c,p,e,i⟩:=s.st;have:=s.bs;exact⟨⟨b,a,u,c,p,(x _ s.bs.1).trans e,i.ext x f⟩,⟨Z,s.bs.2⟩,s.sc.ext ratP.kp x f,s.lo.ext bndZ.kp x f,s.hi.ext bndZ.kp x f,s.va.ext ratP.kp x f,s.ba.ext natP.kp x f,s.nb.ext natP.kp x f,s.ta.ext KN.kp x f,λr g=>⟨(s.rw r g).1.ext intP.kp x f,(s.rw r g).2⟩,s.dj⟩
def SM.x(s:SM l h n bs d A)(t:Tx n h n' h':=by exact zx):SM l h' n' bs d A:=s.ext t.2 t.1
def SM.mv(s:SM l h n bs d A){p:Nat}(H:A.va=ξ ⟨p,0,θ⟩)(S:Kx p h h')(J:O va=O d.va)(o:GR 4 ratP l h' n 66 (Y A.va (O va) (O va)) va):SM l h' n bs {d with va:=va} A:=by
 have⟨b,a,u,c,G,e,i⟩:=s.st;have y:BkOf (Y A.va (O d.va) (O d.va)) p:=⟨_,_,_,by rw[H]⟩;have L:=s.va.ty y;have C:=(s.va.bk p y).2.2.1;have T:Tr n h n h':=Tr.s S (Tr.refl _ _);have k:∀{sz:Nat} {D:Type} {P:List ψ->D->HF->Nat->Prop} {ds:List D} {v:ψ} {e:TypeId},GR sz P l h n e v ds->e≠66->∀b,BkOf v b->h' b=h b:=λg I b q=>S.1 b λf=>I ((f▸g.ty q).eq L);refine⟨⟨b,a,u,c,G,?_,i.t T⟩,s.bs,s.sc.go ratP.kp T λb q=>S.1 b λf=>s.dj p y (f▸q),s.lo.go bndZ.kp T (k s.lo zd),s.hi.go bndZ.kp T (k s.hi zd),o,s.ba.go natP.kp T (k s.ba zd),s.nb.go natP.kp T (k s.nb zd),s.ta.go KN.kp T (k s.ta zd),λr B=>⟨(s.rw r B).1.go intP.kp T (S.1 _ λf=>by have:=(s.rw r B).2;rw[f,C]at this;cases this),(s.rw r B).2⟩,λb q=>?_⟩;have F:bs≠p:=λf=>by have:=s.bs.2;rw[f,C]at this;cases this
 show h' bs=ξ (.row [_,_,_,_,Y A.va (O va) (O va),_,_,_,_,_] G);rw[J,S.1 bs F];exact e;have⟨K,l',M,f⟩:=q;injection f with f;exact s.dj b ⟨K,_,_,by rw[f]⟩
end
section
variable {h:HF}{n:Nat}
def sZw{D:Type}{sz:Nat}{P:List ψ->D->HF->Nat->Prop}{ty:TypeId}{a x:Operand}{zs:List D}{q:D}(c:List ψ)(B:OR sz P h n b zs)(y:KP sz P)(hj:j<zs.length)(g:off=j*sz)(p:P c q h n)(k:∀h',OR sz P h' n b (zs.set j q)->Kx b h h'->(∀e,KY h b e->KY h' b e)->EO X ops r ⟨t,h',n,addW n0 [b] w⟩ Q)(K:zh ops t o=φ:=by rfl)(hd:o.dst=θ:=by rfl)(ho:o.op=.store ty a x:=by rfl)(hi:X.E.inf ty=ξ (sz,bt,z):=by rfl)(ha:J8 t a=.pointer (ξ ⟨b,off,θ⟩):=by rfl)(hx:zn (J8 t x)=c:=by rfl)(hX:X.n0=n0:=by rfl):EO X ops (o::r) ⟨t,h,n,w⟩ Q:=by have F:=B;have⟨R,C,e,i,S,L⟩:=B;have J:=L.len;have⟨G,Z1,H⟩:=y.c p;have M:j*sz+sz<=zs.length*sz:=(by have:=Nat.mul_le_mul_right sz (show j+1<=zs.length from hj);rw[Nat.add_mul,Nat.one_mul]at this;exact this);subst g;rw[rS K (by rw[hd];rfl) (by rw[ho];rfl) (by rw[ho];exact xn hi ha (by rw[hx];exact G) (by rw[hx];exact H) i Z),hd,hx,hX];have s:=F.set y i hj p (zg _ _ _) (λc I=>zm I);exact k _ s.1 s.2 λe'⟨N,f⟩=>by rw[i]at f;cases f;exact⟨_,zg _ _ _⟩
def OK{D:Type}{sz:Nat}{P:List ψ->D->HF->Nat->Prop}{ty:TypeId}{a x:Operand}{zs:List D}{q:D}(c:List ψ)(B:OR sz P h n b zs)(s:KP sz P)(hj:j<zs.length)(g:off=j*sz)(p:P c q h n)(f:3*n0<=b)(k:∀h',OR sz P h' n b (zs.set j q)->Kx b h h'->(∀e,KY h b e->KY h' b e)->EO X ops r ⟨t,h',n,w⟩ Q)(i:zh ops t o=φ:=by rfl)(hd:o.dst=θ:=by rfl)(ho:o.op=.store ty a x:=by rfl)(hi:X.E.inf ty=ξ (sz,bt,z):=by rfl)(ha:J8 t a=.pointer (ξ ⟨b,off,θ⟩):=by rfl)(hx:zn (J8 t x)=c:=by rfl)(hX:X.n0=n0:=by rfl):EO X ops (o::r) ⟨t,h,n,w⟩ Q:=
 sZw c B s hj g p (λh' y C e'=>by rw[wD f];exact k h' y C e') i hd ho hi ha hx hX
end
structure SZ (d:Sol)(a:Nat):Prop where
 va:∀q∈d.va,Sz a q
 lo:∀q∈d.lo,Sz a q.2
 hi:∀q∈d.hi,Sz a q.2
 ll:O d.lo=O d.va
 lh:O d.hi=O d.va
 ls:O d.sc=O d.va
 nb:∀v∈d.nb,v<O d.va
 ln:O d.nb<1000
 lt:O d.ta<1000
def negQ(k:Nat){h:HF}{n:Nat}{x:Rat}(q:IW h n sx ax lx cx x.num)(s:IW h n dx ex fx gx (denZ x)):CX (Ka (k+3)) 121 [.agg #[U sx,Y ax lx cx,U dx,Y ex fx gx]] h n (QV (-x)):=by refine zw R4<|zG ?_;refine sB [U sx,Y ax lx cx,U dx,Y ex fx gx] λh1 G J=>?_;refine sA λh2 H K=>?_;refine kh ?_;refine dC (negX _ q.x) ?_;rintro _ y C⟨f,c,i,g,rfl,p⟩ M L;refine zH ?_;refine dT #[U f,Y c i g,U dx,Y ex fx gx] ?_;refine dS [U f,Y c i g,U dx,Y ex fx gx] λB I F=>?_;refine zq ?_;exact⟨_,_,_,_,_,_,_,_,ω,p.t.as (by rw[Hm]),s.t.as (by unfold denZ;rw[Ij])⟩
def subQ(k:Nat){h:HF}{n:Nat}{x:Rat}{y:Rat}(g:GG h n)(J:IW h n sx ax lx cx x.num)(M:IW h n dx ex fx gx (denZ x))(K:IW h n sy ay ly cy y.num)(N:IW h n dy ey fy gy (denZ y))(hx:Sz a x)(H:Sz b y)(c:a+b+1<=2496):CX (Ka (k+10)) 91 [.agg #[U sx,Y ax lx cx,U dx,Y ex fx gx],.agg #[U sy,Y ay ly cy,U dy,Y ey fy gy]] h n (QV (x-y)):=by refine zw R4<|zG ?_;refine sB [U sx,Y ax lx cx,U dx,Y ex fx gx] λh1 p1 x1=>?_;refine sB [U sy,Y ay ly cy,U dy,Y ey fy gy] λh2 p2 x2=>?_;refine sA λZ0 p3 x3=>?_;refine kh ?_;refine dC (negQ _ K.x N.x) ?_;rintro _ h4 n4⟨S,R,l4,T,Z4,V,W,Z3,rfl,I,L⟩ y4 x4;refine dC (addQ _ g.x J.x M.x I L hx H.neg c) ?_;rintro _ h5 n5⟨q,p,Z1,s,B,C,F,G,rfl,f,i⟩ y5 x5;refine dS [U q,Y p Z1 s,U B,Y C F G] λh6 p6 o6=>?_;refine zq ?_;rw[<-GY]at f i;exact⟨_,_,_,_,_,_,_,_,ω,f.t zt,i.t zt⟩
end
section
variable {h:HF}{n:Nat}
theorem pt{x y:Int}(a:0<y):(DK x y).num=x.tdiv ((C6 x.natAbs y.natAbs:Nat):Int)/\((DK x y).den:Int)=y.tdiv ((C6 x.natAbs y.natAbs:Nat):Int):=by grind [pd]
def Qh{x y:Int}:DK x y=DK (-x) (-y):=by rw[Rat.neg_divInt_neg]
theorem iM{x y:Int}(a:y<0):(DK x y).num=(-x).tdiv ((C6 (-x).natAbs (-y).natAbs:Nat):Int)/\((DK x y).den:Int)=(-y).tdiv ((C6 (-x).natAbs (-y).natAbs:Nat):Int):=by rw[Qh];exact pt Z
theorem Qi{x y:Int}(b:0<y)(a:((C6 x.natAbs y.natAbs:Nat):Int)=1):(DK x y).num=x/\((DK x y).den:Int)=y:=by simp_all [pt,Jr]
theorem qZ{x y:Int}(b:y<0)(a:((C6 (-x).natAbs (-y).natAbs:Nat):Int)=1):(DK x y).num= -x/\((DK x y).den:Int)= -y:=by rw[Qh];exact Qi Z a
theorem TI{x y:Int}(a:y=1):(DK x y).num=x/\denZ (DK x y)=0:=by have h:=Qi (x:=x) (y:=y) Z (by rw[a];simp);exact⟨h.1,yr.2 (by have:=h.2;omega)⟩
theorem zil{x y:Int}(a: -y=1):(DK x y).num= -x/\denZ (DK x y)=0:=by rw[Qh];exact TI a
def iL(k:Nat){x:Int}{y:Int}(g:GG h n)(f:IW h n sx ax lx cx x)(b:IW h n sy ay ly cy y)(hx:x.natAbs<BW)(hy:y.natAbs<BW)(c:y≠0):CX (Ka (k+10)) 59 [.agg #[U sx,Y ax lx cx],.agg #[U sy,Y ay ly cy]] h n (QV (DK x y)):=by have d6:(-x).natAbs<BW:=Z;have aw:(-y).natAbs<BW:=Z;have d4:((C6 (-x).natAbs (-y).natAbs:Nat):Int).natAbs<BW:=PV aw Z;have d5:((C6 x.natAbs y.natAbs:Nat):Int).natAbs<BW:=PV hy c;have bq:((C6 (-x).natAbs (-y).natAbs:Nat):Int)≠0:=PW Z;have br:((C6 x.natAbs y.natAbs:Nat):Int)≠0:=PW c;refine zw R4<|zG ?_;refine sB [U sx,Y ax lx cx] λbz e7 es=>?_;refine sB [U sy,Y ay ly cy] λc0 e8 et=>?_;refine sA λc1 e9 eu=>?_;refine zG ?_;refine sC (yK _ b.t) ?_;rintro _ c2 d7⟨bs,rfl,v⟩ fh ev;obtain⟨rfl,u⟩|⟨rfl,u⟩:=Kg v;refine zG ?_;refine sC (yK _ f.t) ?_;rintro _ c3 d8⟨bt,rfl,w⟩ fi ew;obtain⟨rfl,s⟩|⟨rfl,s⟩:=Kg w;refine zG ?_;refine sC (Nf _ b.t) ?_;rintro _ c4 d9⟨er,rfl,a⟩ fj ey;obtain⟨rfl,a⟩|⟨rfl,a⟩|⟨rfl,a⟩:=a;refine kh ?_;refine dC (negX _ f.t) ?_;rintro _ c5 da⟨j,i,p,l,rfl,d⟩ fk ez;refine zH ?_;refine dC (negX _ b.t) ?_;rintro _ c6 db⟨R,F,bb,a3,rfl,e⟩ fl f0;refine dS [U j,Y i p l] λc7 ea dr=>?_;refine dS [U R,Y F bb a3] λc8 eb ds=>?_;refine zG ?_;refine sC (tU _ e.t) ?_;rintro _ c9 dc⟨bu,rfl,A⟩ fm f1;obtain⟨rfl,bm⟩|⟨rfl,bm⟩:=Kg A;refine zG ?_;refine sC (gcdX _ g.t d.t e.t Ki Ki) ?_;rintro _ ca dd⟨S,G,bc,a4,rfl,m⟩ fn f2;refine sA λcb ec f3=>?_;refine sS [U S,Y G bc a4] λcc ed dt=>?_;refine zG ?_;refine sC (tU _ m.t) ?_;rintro _ cd de⟨bv,rfl,B⟩ fo f4;obtain⟨rfl,bn⟩|⟨rfl,bn⟩:=Kg B;refine kh ?_;refine dC (quoX _ d.t m.t Ki Ki LH) ?_;rintro _ ce df⟨T,H,bd,a5,rfl,az⟩ fp f5;refine zH ?_;refine dC (quoX _ e.t m.t Ki Ki LH) ?_;rintro _ cf dg⟨Z4,I,be,a6,rfl,b0⟩ fq f6;refine dS [U T,Y H bd a5] λcg ee du=>?_;refine dS [U Z4,Y I be a6] λch ef dv=>?_;refine zG ?_;refine sC (vE _ az.t b0.t (q:=DK x y) qq qq) ?_;rintro _ ci dh⟨V,J,bf,a7,ae,ai,am,aq,rfl,b1,b7⟩ fr f7;refine sS [U V,Y J bf a7,U ae,Y ai am aq] λcj eg dw=>?_;refine zq ?_;exact⟨_,_,_,_,_,_,_,_,ω,b1.t,b7.t⟩;refine zG ?_;refine sC (vE _ d.t e.t (q:=DK x y) qq qq) ?_;rintro _ ck di⟨W,K,bg,a8,af,aj,an,ar,rfl,b2,b8⟩ fs f8;refine sS [U W,Y K bg a8,U af,Y aj an ar] λcl eh dy=>?_;refine zq ?_;exact⟨_,_,_,_,_,_,_,_,ω,b2.t,b8.t⟩;refine zG ?_;refine sT #[U j,Y i p l,U χ,η] ?_;refine sS [U j,Y i p l,U χ,η] λcm ei dz=>?_;refine zq ?_;exact⟨_,_,_,_,_,_,_,_,ω,d.t.as (Bt),(EB _ _).as (Bt)⟩;exact BO a c;refine zG ?_;refine sC (tU _ b.t) ?_;rintro _ cn dj⟨bw,rfl,C⟩ ft f9;obtain⟨rfl,bo⟩|⟨rfl,bo⟩:=Kg C;refine zG ?_;refine sC (gcdX _ g.t f.t b.t Ki Ki) ?_;rintro _ co dk⟨Z3,L,bh,a9,rfl,o⟩ fu fa;refine sA λcp ej fb=>?_;refine sS [U Z3,Y L bh a9] λcq ek e0=>?_;refine zG ?_;refine sC (tU _ o.t) ?_;rintro _ cr dl⟨bx,rfl,D⟩ fv fc;obtain⟨rfl,bp⟩|⟨rfl,bp⟩:=Kg D;refine kh ?_;refine dC (quoX _ f.t o.t Ki Ki LH) ?_;rintro _ cs dm⟨Z0,M,bi,aa,rfl,b3⟩ fw fd;refine zH ?_;refine dC (quoX _ b.t o.t Ki Ki LH) ?_;rintro _ ct dn⟨a0,N,bj,ab,rfl,b4⟩ fy fe;refine dS [U Z0,Y M bi aa] λcu el e1=>?_;refine dS [U a0,Y N bj ab] λcv em e2=>?_;refine zG ?_;refine sC (vE _ b3.t b4.t (q:=DK x y) qq qq) ?_;rintro _ cw dp⟨a1,Z1,bk,ac,ag,ak,ao,au,rfl,b5,b9⟩ fz ff;refine sS [U a1,Y Z1 bk ac,U ag,Y ak ao au] λcz en e3=>?_;refine zq ?_;exact⟨_,_,_,_,_,_,_,_,ω,b5.t,b9.t⟩;refine zG ?_;refine sC (vE _ f.t b.t (q:=DK x y) qq qq) ?_;rintro _ d0 dq⟨a2,P,bl,ad,ah,al,ap,av,rfl,b6,ba⟩ g0 fg;refine sS [U a2,Y P bl ad,U ah,Y al ap av] λd1 eo e4=>?_;refine zq ?_;exact⟨_,_,_,_,_,_,_,_,ω,b6.t,ba.t⟩;refine zG ?_;refine sT #[U sx,Y ax lx cx,U χ,η] ?_;refine sS [U sx,Y ax lx cx,U χ,η] λd2 ep e5=>?_;refine zq ?_;exact⟨_,_,_,_,_,_,_,_,ω,f.t.as (Bt),(EB _ _).as (Bt)⟩;refine zG ?_;refine sT #[U χ,η,U χ,η] ?_;refine sS [U χ,η,U χ,η] λd3 eq e6=>?_;refine zq ?_;exact⟨_,_,_,_,_,_,_,_,ω,(EB _ _).as (by rw[s,ag1];rfl),(EB _ _).as (by rw[s,ag1];rfl)⟩;exact BO u c
def zmi(k:Nat){x:Rat}{y:Int}(o:IW h n sx ax lx cx x.num)(q:IW h n dx ex fx gx (denZ x))(p:IW h n sy ay ly cy y)(hx:x.num.natAbs<BW)(M:(denZ x).natAbs<BW)(hy:y.natAbs<BW):CX (Ka (k+9)) 55 [.agg #[U sx,Y ax lx cx,U dx,Y ex fx gx],.agg #[U sy,Y ay ly cy]] h n (IV (x.num*y.tdiv (x.den:Int))):=by refine zw R4<|zG ?_;refine sB [U sx,Y ax lx cx,U dx,Y ex fx gx] λC V a1=>?_;refine sB [U sy,Y ay ly cy] λD W a2=>?_;refine sA λF Z3 a3=>?_;refine zG ?_;refine sC (yK _ q.t) ?_;rintro _ G Z1⟨w,rfl,b⟩ a8 a4;obtain⟨rfl,a⟩|⟨rfl,a⟩:=Kg b;refine kh ?_;refine dC (quoX _ p.t q.t Ki Ki LH) ?_;rintro _ H P⟨A,v,N,B,rfl,j⟩ a9 a5;refine dC (mulX _ o.t j Ki Ki) ?_;rintro _ I R⟨e,c,s,g,rfl,l⟩ aa a6;refine dS [U e,Y c s g] λJ Z0 T=>?_;refine zq ?_;exact⟨_,_,_,_,ω,l.t.as (by rw[wq a])⟩;refine zG ?_;refine sC (mulX _ o.t p.t Ki Ki) ?_;rintro _ K S⟨f,d,u,i,rfl,m⟩ ab a7;refine sS [U f,Y d u i] λL a0 Z4=>?_;refine zq ?_;exact⟨_,_,_,_,ω,m.t.as (by rw[show(x.den:Int)=1 from by have:=yr.1 a;omega,Jr])⟩
end
section
variable {n:Nat}{h:HF}
theorem Qj{x:Rat}(h:x.num<0):(x⁻¹).num= -((x.den:Int))/\((x⁻¹).den:Int)= -x.num:=by grind [ao6,af0,Hg]
theorem Qk{x:Rat}(h:0<x.num):(x⁻¹).num=(x.den:Int)/\((x⁻¹).den:Int)=x.num:=by grind [ao6,af0,Ga]
def TJ{x:Rat}(h:x.num=0):x⁻¹ =0:=by rw[Fs.1 h,Rat.inv_zero]
def Sz.inv{x:Rat}(h:Sz m x):Sz m x⁻¹ :=by have d:=x.den_pos;refine⟨?_,?_⟩;obtain c|c|c:=HR x.num 0;rw[(Qj c).1,Ff,C4];exact h.2;rw[TJ c];exact Dh CH h.2;rw[(Qk c).1,C4];exact h.2;rw[af0];split;exact Dh d h.2;exact h.1
def Sz.div{x y:Rat}(hx:Sz a x)(c:Sz b y):Sz (a+b) (x/y):=by rw[Ge];exact hx.mul c.inv
def invQ(k:Nat){x:Rat}(d:IW h n sx ax lx cx x.num)(J:IW h n dx ex fx gx (denZ x)):CX (Ka (k+4)) 60 [.agg #[U sx,Y ax lx cx,U dx,Y ex fx gx]] h n (QV x⁻¹):=by refine zw R4<|zG ?_;refine sB [U sx,Y ax lx cx,U dx,Y ex fx gx] λa0 aq b0=>?_;refine sA λa1 ar b1=>?_;refine zG ?_;refine sC (Nf _ d.t) ?_;rintro _ a2 ag⟨az,rfl,c⟩ b9 b2;obtain⟨rfl,c⟩|⟨rfl,c⟩|⟨rfl,c⟩:=c;refine kh ?_;refine dC (denQ _ d.t J.t) ?_;rintro _ a3 ah⟨R,M,ac,V,rfl,A⟩ ba b3;refine dC (negX _ A) ?_;rintro _ a4 ai⟨S,N,ad,W,rfl,B⟩ bb b4;refine zH ?_;refine dC (negX _ d.t) ?_;rintro _ a5 aj⟨T,Z1,ae,Z3,rfl,C⟩ bc b5;refine dC (vE _ B.t C (Qj c).1 (Qj c).2) ?_;rintro _ a6 ak⟨g,e,K,j,o,q,u,w,rfl,D,H⟩ bd b6;refine dS [U g,Y e K j,U o,Y q u w] λa7 au an=>?_;refine zq ?_;exact⟨_,_,_,_,_,_,_,_,ω,D.t,H.t⟩;refine zG ?_;refine sT #[U χ,η,U χ,η] ?_;refine sS [U χ,η,U χ,η] λa8 av ao=>?_;refine zq ?_;exact(show x⁻¹ =0 from TJ c)▸QV.zero _ _;refine kh ?_;refine dC (denQ _ d.t J.t) ?_;rintro _ a9 al⟨Z4,P,af,Z0,rfl,F⟩ be b7;refine zH ?_;refine dC (vE _ F d.t (Qk c).1 (Qk c).2) ?_;rintro _ aa am⟨i,f,L,l,p,s,v,y,rfl,G,I⟩ bf b8;refine dS [U i,Y f L l,U p,Y s v y] λab aw ap=>?_;refine zq ?_;exact⟨_,_,_,_,_,_,_,_,ω,G.t,I.t⟩
def divQ(k:Nat){x:Rat}{y:Rat}(g:GG h n)(A:IW h n sx ax lx cx x.num)(C:IW h n dx ex fx gx (denZ x))(B:IW h n sy ay ly cy y.num)(D:IW h n dy ey fy gy (denZ y))(hx:Sz a x)(w:Sz b y)(o:a+b<=2496):CX (Ka (k+11)) 24 [.agg #[U sx,Y ax lx cx,U dx,Y ex fx gx],.agg #[U sy,Y ay ly cy,U dy,Y ey fy gy]] h n (QV (x/y)):=by refine zw R4<|zG ?_;refine sB [U sx,Y ax lx cx,U dx,Y ex fx gx] λM Z3 a2=>?_;refine sB [U sy,Y ay ly cy,U dy,Y ey fy gy] λN Z0 a3=>?_;refine sA λZ1 a0 a4=>?_;refine kh ?_;refine dC (invQ _ B.t D.t) ?_;rintro _ P Z4⟨G,F,T,H,I,J,K,L,rfl,p,s⟩ a7 a5;refine dC (mulQ _ g.t A.t C.t p s hx w.inv o) ?_;rintro _ R V⟨d,c,v,e,f,i,j,l,rfl,q,u⟩ a8 a6;refine dS [U d,Y c v e,U f,Y i j l] λS a1 W=>?_;refine zq ?_;exact⟨_,_,_,_,_,_,_,_,ω,q.t.as (by rw[Ge]),u.t.as (by rw[Ge])⟩
end
section
variable {up:Bool}
section
variable {n:Nat}{h:HF}{d:Sol}{A:Adr}
def aG(k:Nat)(s:SM l h n bs d A){v:Nat}{x:Rat}{p:Bool×Rat}(hv:d.va[v]?=ξ x)(hu:d.hi[v]?=ξ p)(F:Sz a x)(G:Sz b p.2)(f:a+b<=2496):CX (Ka (k+7)) 48 [ι bs,CJ .i64 (v:Int)] h n (BV (p.1=χ\/x<p.2)):=by have⟨M,J,u0,P,ty,st,i0⟩:=s.st;have I:=s.bs.1;have⟨k1,o1,N,K,l1,R,T,V,Z3,g1,e,g,m,o,u,y⟩:=BS.at s.hi.rs hu;have⟨k2,o2,Z1,L,l2,S,Z4,W,Z0,g2,q,C,D,H,w,B⟩:=QS.at s.va.rs hv;refine VF.cx (zO R4 ?_);refine kh ?_;refine dI e m ?_;refine zH ?_;refine dL o g 0 ?_;have⟨x0,y0⟩:=p;cases x0;refine zH ?_;refine zf ?_;exact Kp (.inl AP);refine zH ?_;refine dI q D ?_;refine dL H C 0 ?_;refine zH ?_;refine dI e m ?_;refine zH ?_;refine dL o g 1 ?_;refine dC (xp _ w B u y F G f).cx ?_;rintro _ h3 n3⟨s3,rfl,c⟩ y3 x3;obtain⟨rfl,c⟩|⟨rfl,c⟩|⟨rfl,c⟩:=c;refine zH ?_;refine zf ?_;exact Kp (.inr c);exact Cv;exact B1
def lg(k:Nat)(s:SM l h n bs d A){v:Nat}{x:Rat}{p:Bool×Rat}(hv:d.va[v]?=ξ x)(hu:d.lo[v]?=ξ p)(F:Sz a x)(G:Sz b p.2)(f:a+b<=2496):CX (Ka (k+7)) 49 [ι bs,CJ .i64 (v:Int)] h n (BV (p.1=χ\/p.2<x)):=by have⟨M,J,u0,P,ty,st,i0⟩:=s.st;have I:=s.bs.1;have⟨k1,o1,N,K,l1,R,T,V,Z3,g1,e,g,m,o,u,y⟩:=BS.at s.lo.rs hu;have⟨k2,o2,Z1,L,l2,S,Z4,W,Z0,g2,q,C,D,H,w,B⟩:=QS.at s.va.rs hv;refine VF.cx (zO R4 ?_);refine kh ?_;refine dI e m ?_;refine zH ?_;refine dL o g 0 ?_;have⟨x0,y0⟩:=p;cases x0;refine zH ?_;refine zf ?_;exact Kp (.inl AP);refine zH ?_;refine dI q D ?_;refine dL H C 0 ?_;refine zH ?_;refine dI e m ?_;refine zH ?_;refine dL o g 1 ?_;refine dC (xp _ w B u y F G f).cx ?_;rintro _ h3 n3⟨s3,rfl,c⟩ y3 x3;obtain⟨rfl,c⟩|⟨rfl,c⟩|⟨rfl,c⟩:=c;exact B1;exact Cv;refine zH ?_;refine zf ?_;exact Kp (.inr c)
def qd(x:Rat)(p q:Bool×Rat)(up:Bool):Bool×Rat:=if up then(q.1,q.2-x)else(p.1,x-p.2)
def TK(k:Nat)(g:GG h n)(s:SM l h n bs d A){v:Nat}{x:Rat}{p q:Bool×Rat}(hv:d.va[v]?=ξ x)(hp:d.lo[v]?=ξ p)(hq:d.hi[v]?=ξ q)(V:Sz a x)(sp:Sz b p.2)(sq:Sz b q.2)(a4:a+b+1<=2496){r:Int}(hr:up=φ↔0<r):CX (Ka (k+11)) 96 [ι bs,CJ .i64 (v:Int),CJ .i64 r] h n λw K R=>∃b a l c d e f g,w=.tuple #[.agg #[U b,Y a l c,U d,Y e f g],U (qd x p q up).1]/\IW K R b a l c (qd x p q up).2.num/\IW K R d e f g (denZ (qd x p q up).2):=by
 have⟨b0,a0,u0,c0,ty,st,i0⟩:=s.st;have a6:=s.bs.1;have⟨k1,o1,b1,a1,l1,c1,d1,e1,f1,g1,I,Z1,T,Z3,iu,ju⟩:=BS.at s.hi.rs hq;have⟨k3,o3,b3,a3,l3,c3,d3,e3,f3,g3,H,N,S,W,ip,jp⟩:=BS.at s.lo.rs hp;have⟨k2,o2,b2,a2,l2,c2,d2,e2,f2,g2,J,P,Z4,Z0,L,M⟩:=QS.at s.va.rs hv;refine zw R4<|Za λh4 p4 x4=>?_;refine zG ?_;by_cases h0:0<r;obtain rfl:up=φ:=hr.2 h0;refine kh ?_;refine dI I T ?_;refine zH ?_;refine dL Z3 Z1 1 ?_;refine zH ?_;refine dI J Z4 ?_;refine dL Z0 P 0 ?_;refine dC (subQ _ g.x iu.x ju.x L.x M.x sq V Z) ?_;rintro _ h5 n5⟨o,m,l5,u,y,B,C,D,rfl,F,G⟩ y5 x5;refine zH ?_;refine dI I T ?_;refine zH ?_;refine dL Z3 Z1 0 ?_;exact BT;obtain rfl:up=χ:=by cases up;rfl;exact BO (hr.1 ω) h0
 refine kh ?_;refine dI J Z4 ?_;refine dL Z0 P 0 ?_;refine zH ?_;refine dI H S ?_;refine zH ?_;refine dL W N 1 ?_;refine dC (subQ _ g.x L.x M.x ip.x jp.x V sp Z) ?_;rintro _ h5 n5⟨o,m,l5,u,y,B,C,D,rfl,F,G⟩ y5 x5;refine zH ?_;refine dI H S ?_;refine zH ?_;refine dL W N 0 ?_;exact BT
def Nl(k:Nat)(g:GG h n)(s:SM l h n bs d A){r:Nat×List Int}{z:Int}(hi:d.ta[i]?=ξ r)(hj:r.2[j]?=ξ z)(w:z.natAbs<BW)(hd:d.den.natAbs<BW)(h0:d.den≠0):CX (Ka (k+11)) 23 [ι bs,CJ .i64 (i:Int),CJ .i64 (j:Int)] h n (QV (DK z d.den)):=by have⟨N,L,u0,P,ty,st,i0⟩:=s.st;have K:=s.bs.1;have⟨Z4,W,p,D,G,I⟩:=rwS.at s.ta.rs hi;have⟨zr,_⟩:=s.rw r (CL hi);obtain⟨f,⟨Z1,M,l2,f,rfl,y⟩,_,J⟩:=zr.get hj (Dd _);have F:=zr.1;have H:=(CQ.1 hj).1;refine zw R4<|Za λR Z0 x4=>?_;refine kh ?_;refine dI p G ?_;refine dL I D 0 ?_;refine zH ?_;refine dI ω H ?_;refine dL J F 0 ?_;refine zH ?_;refine dC (iL _ g.x y.x i0.x w hd h0) ?_;rintro _ S V⟨e,c,l5,m,o,q,u,v,rfl,B,C⟩ y5 x5;refine dS [U e,Y c l5 m,U o,Y q u v] λT p6 Z3=>?_;refine zq ?_;exact⟨_,_,_,_,_,_,_,_,ω,B.t zt,C.t zt⟩
end
end
def canG(d:Sol)(v:Nat):Prop:=∃x p,d.va[v]?=ξ x/\d.hi[v]?=ξ p/\(p.1=χ\/x<p.2)
def canS(d:Sol)(v:Nat):Prop:=∃x p,d.va[v]?=ξ x/\d.lo[v]?=ξ p/\(p.1=χ\/p.2<x)
def impC(d:Sol)(zs:List Int)(c v:Nat):Prop:=∃z,zs[c]?=ξ z/\(z<0/\canG d v\/0<z/\canS d v)
def du{d:Sol}{v:Nat}{x:Rat}{p:Bool×Rat}(hv:d.va[v]?=ξ x)(c:d.hi[v]?=ξ p):canG d v↔(p.1=χ\/x<p.2):=
 ⟨λ⟨i,g,a,b,e⟩=>by rw[hv]at a;rw[c]at b;cases a;cases b;exact e,λh=>⟨x,p,hv,c,h⟩⟩
def dt{d:Sol}{v:Nat}{x:Rat}{p:Bool×Rat}(hv:d.va[v]?=ξ x)(c:d.lo[v]?=ξ p):canS d v↔(p.1=χ\/p.2<x):=
 ⟨λ⟨i,g,a,b,e⟩=>by rw[hv]at a;rw[c]at b;cases a;cases b;exact e,λh=>⟨x,p,hv,c,h⟩⟩
def Best(d:Sol)(zs:List Int)(k:Nat)(f r:Int):Prop:=
 f= -1/\r=0/\(∀c v:Nat,c<k->d.nb[c]?=ξ v->¬impC d zs c v)\/
 ∃(c v:Nat) (z:Int),f=(c:Int)/\c<k/\d.nb[c]?=ξ v/\zs[c]?=ξ z/\impC d zs c v/\r= -(if z<0 then -1 else 1)/\∀c' v':Nat,c'<k->d.nb[c']?=ξ v'->impC d zs c' v'->v<=v'
section
variable {d:Sol}{r:Int}
def Best.start:Best d zs 0 (-1) 0:=.inl ⟨ω,ω,λc v h=>BO h (DR _)⟩
def Best.no(b:Best d zs k f r){v:Nat}(hv:d.nb[k]?=ξ v)(h:¬impC d zs k v):Best d zs (k+1) f r:=by obtain⟨i,o,j⟩|⟨c,w,z,i,o,j,q,s,u,y⟩:=b;refine .inl ⟨i,o,λg m B a=>?_⟩;by_cases e:g=k;subst e;rw[hv]at a;cases a;exact h;exact j g m Z a;refine .inr ⟨c,w,z,i,Z,j,q,s,u,λg m B a p=>?_⟩;by_cases e:g=k;subst e;rw[hv]at a;cases a;exact BO p h;exact y g m Z a p
def Best.skip{c w v:Nat}(b:Best d zs k (c:Int) r)(m:d.nb[c]?=ξ w)(hv:d.nb[k]?=ξ v)(h:w<=v):Best d zs (k+1) (c:Int) r:=by obtain⟨j,p,g⟩|⟨o,F,z,j,p,g,q,s,u,y⟩:=b;omega;obtain rfl:c=o:=Z;rw[m]at g;cases g;refine .inr ⟨c,w,z,j,Z,m,q,s,u,λi C D a B=>?_⟩;by_cases e:i=k;subst e;rw[hv]at a;cases a;exact h;exact y i C Z a B
def Best.take(b:Best d zs k f r){v:Nat}{z s:Int}(hv:d.nb[k]?=ξ v)(D:zs[k]?=ξ z)(hi:impC d zs k v)(h:f= -1\/∃c w:Nat,f=(c:Int)/\d.nb[c]?=ξ w/\v<=w)(C:s=if z<0 then -1 else 1):Best d zs (k+1) (k:Int) (-s):=by refine .inr ⟨k,v,z,ω,Nat.lt_succ_self _,hv,D,hi,by rw[C],λj m K a i=>?_⟩;by_cases e:j=k;subst e;rw[hv]at a;cases a;exact Nat.le_refl _;obtain⟨q,u,g⟩|⟨o,L,z2,q,u,g,G,H,I,y⟩:=b;exact BO i (g j m Z a);have:=y j m Z a i;obtain h|⟨p,M,F,B,J⟩:=h;omega;obtain rfl:p=o:=Z;rw[B]at g;cases g;omega
end
def EntV(d:Sol)(zs:List Int)(w:ψ):Prop:=
 (∃(c v:Nat) (z:Int),d.nb[c]?=ξ v/\zs[c]?=ξ z/\impC d zs c v/\(∀c' v':Nat,d.nb[c']?=ξ v'->impC d zs c' v'->v<=v')/\w=.tuple #[CJ .i64 ((c:Nat):Int),CJ .i64 (-(if z<0 then -1 else 1)),U φ])\/
 ((∀c v:Nat,d.nb[c]?=ξ v->¬impC d zs c v)/\w=.tuple #[CJ .i64 0,CJ .i64 0,U χ])
section
variable {n:Nat}{h:HF}{d:Sol}{A:Adr}
def zfb(k:Nat)(s:SM l h n bs d A){a:Nat}(z:SZ d a)(S:a+a<=2496){r:Nat×List Int}(hr:d.ta[O d.ta-1]?=ξ r)(hl:O r.2=O d.nb):CX (Ka (k+8)) 52 [ι bs] h n λw _ _=>EntV d r.2 w:=by
 have⟨b0,a0,u0,c0,ty,st,i0⟩:=s.st;have a1:=s.bs.1;have a3:=z.ln;have⟨k1,o1,Z3,m1,r1,t1⟩:=rwS.at s.ta.rs hr;have hT:1<=O d.ta:=Z;have a4:=z.lt;refine VF.cx (zO R4 ?_);refine kh ?_;refine dI Z3 r1 ?_ (hj:=by exact congrArg (CJ .i64) (show((O d.ta:Nat):Int)-1=((O d.ta-1:Nat):Int)from Z));refine dL t1 m1 0 ?_;refine zH ?_;refine zG ?_;refine sF (α:=Nat×Int×Int) (λz=>[(0,ι bs),(5,Y (ξ ⟨r.1,0,θ⟩) (O r.2) (O r.2)),(6,CJ .i64 z.2.1),(7,CJ .i64 z.2.2),(26,Y A.nb (O d.nb) (O d.nb)),(27,CJ .i64 (O d.nb:Int)),(28,CJ .i64 (z.1:Int))]) (λz h' n' w'=>w'=[]/\n<=n'/\J9 n h h'/\z.1<=O d.nb/\Best d r.2 z.1 z.2.1 z.2.2) (λz=>O d.nb-z.1) (0,-1,0) ⟨ω,CG,FH _ _,CH,Best.start⟩ ?_;rintro⟨j,f,q⟩ t h2 n2 _ ⟨rfl,K,J,hj,hb⟩;dsimp only at K J hj hb;have u:=s.ext J K;have⟨b2,a2,u2,c2,a7,a5,i2⟩:=u.st;refine zG ?_;by_cases q3:(j:Int)<(O d.nb:Int)
 .refine zG ?_;obtain⟨v,g⟩:∃v,d.nb[j]?=ξ v:=⟨_,CK Z⟩;obtain⟨zc,m⟩:∃zc,r.2[j]?=ξ zc:=⟨_,CK Z⟩;have D:=z.nb v (CL g);obtain⟨x,i⟩:∃x,d.va[v]?=ξ x:=⟨_,CK D⟩;obtain⟨pl,H⟩:∃x,d.lo[v]?=ξ x:=⟨_,CK (by rw[z.ll];exact D)⟩;obtain⟨ph,G⟩:∃x,d.hi[v]?=ξ x:=⟨_,CK (by rw[z.lh];exact D)⟩;have⟨k4,o4,Z0,m4,r4,t4⟩:=natS.at u.nb.rs g;refine sI Z0 r4 ?_;refine sL t4 m4 0 ?_;have go:(∃c w:Nat,f=(c:Int)/\d.nb[c]?=ξ w/\w<v)\/f= -1\/(∃c w:Nat,f=(c:Int)/\d.nb[c]?=ξ w/\v<=w):=by
   obtain⟨h1,_⟩|⟨c,w,z,h1,h2,y,_⟩:=hb
   .exact .inr (.inl h1)
   by_cases hw:w<v
   .exact .inl ⟨c,w,h1,y,hw⟩
   exact .inr (.inr ⟨c,w,h1,y,Z⟩)
  obtain⟨c,w,rfl,I,hw⟩|go:=go
  .refine zG ?_;have⟨k5,o5,M,Z1,P,R⟩:=natS.at u.nb.rs I;refine sI M P ?_;refine sL R Z1 0 ?_;refine zG ?_;exact sK (j+1,(c:Int),q) ⟨ω,K,J,mp,hb.skip I g Z⟩
  have L:=go;obtain rfl|⟨c,w,rfl,I,hw⟩:=go<;>refine zG ?_
  rotate_left
  have⟨k5,o5,M,Z1,P,R⟩:=natS.at u.nb.rs I;refine sI M P ?_;refine sL R Z1 0 ?_;refine zG ?_;all_goals
   have⟨zr,_⟩:=u.rw r (CL hr);obtain⟨W,⟨b6,a6,l6,W,rfl,i6⟩,_,t6⟩:=zr.get m (Dd _);refine sI ω (show j<O r.2 from Z) ?_;refine sL t6 zr.1 0 ?_;refine sC (Nf _ i6) ?_;rintro _ N n7⟨s7,rfl,o⟩ y7 x7;obtain⟨rfl,o⟩|⟨rfl,o⟩|⟨rfl,o⟩:=o
   .refine zG ?_;refine sC (aG _ u.x i G (z.va _ (CL i)) (z.hi _ (CL G)) S) ?_;rintro _ C F⟨Z4,rfl,B⟩ y8 x8;obtain⟨rfl,p⟩|⟨rfl,p⟩:=Kg B
    .refine zG ?_;exact sK (j+1,_,q) ⟨ω,Z,(show Tx n h F C from zx).2,mp,hb.no g (λ⟨z',e,b⟩=>by
      rw[m]at e;cases e;obtain⟨_,b⟩|⟨b,_⟩:=b
      .exact p ((du i G).1 b)
      .omega)⟩
    refine zG ?_;exact sK (j+1,(j:Int),_) ⟨ω,Z,(show Tx n h F C from zx).2,mp,hb.take g m ⟨zc,m,.inl ⟨o,(du i G).2 p⟩⟩ L (by rw[Cx o])⟩
   .refine zG ?_;exact sK (j+1,_,q) ⟨ω,Z,(show Tx n h n7 N from zx).2,mp,hb.no g (λ⟨z',e,b⟩=>by
      rw[m]at e;cases e;obtain⟨b,_⟩|⟨b,_⟩:=b<;>omega)⟩
   refine zG ?_;refine sC (lg _ u.x i H (z.va _ (CL i)) (z.lo _ (CL H)) S) ?_;rintro _ C F⟨Z4,rfl,B⟩ y8 x8;obtain⟨rfl,p⟩|⟨rfl,p⟩:=Kg B
   .refine zG ?_;exact sK (j+1,_,q) ⟨ω,Z,(show Tx n h F C from zx).2,mp,hb.no g (λ⟨z',e,b⟩=>by
     rw[m]at e;cases e;obtain⟨b,_⟩|⟨_,b⟩:=b
     .omega
     .exact p ((dt i H).1 b))⟩
   refine zG ?_;exact sK (j+1,(j:Int),_) ⟨ω,Z,(show Tx n h F C from zx).2,mp,hb.take g m ⟨zc,m,.inr ⟨o,(dt i H).2 p⟩⟩ L (by rw[Cs Z])⟩
 have T:j=O d.nb:=Z;subst T;obtain⟨rfl,rfl,y⟩|⟨c,w,zc,rfl,h2,y,h4,h5,rfl,N⟩:=hb
 .refine zG ?_;refine st_I R5<|zG ?_;refine zf ?_;exact .inr ⟨λc v hv=>y c v (CQ.1 hv).1 hv,ω⟩
 refine zG ?_;refine st_I ⟨ω,ω,ω,ω,(by show ξ (CJ .i64 (if((c:Nat):Int)<0 then 0 else(c:Int)))=_;rw[Cs Z])⟩ ?_;refine zG ?_;refine zf ?_;exact .inl ⟨c,w,zc,y,h4,h5,λV v' hv hi=>N V v' (CQ.1 hv).1 hv hi,ω⟩
end
section
variable {h:HF}{n:Nat}
def zna(a b:Nat):a*(b/C6 a b)=((IX a b:Nat):Int).natAbs:=by rw[C4,IX,Nat.mul_div_assoc _ (Fx a b)]
def lcmX(k:Nat){x:Int}{y:Int}(g:GG h n)(b:IW h n sx ax lx cx x)(a:IW h n sy ay ly cy y)(hx:x.natAbs<BW)(hy:y.natAbs<BW):CX (Ka (k+8)) 99 [.agg #[U sx,Y ax lx cx],.agg #[U sy,Y ay ly cy]] h n (IV ((IX x.natAbs y.natAbs:Nat):Int)):=by refine zw R4<|zG ?_;refine sB [U sx,Y ax lx cx] λA Z4 a1=>?_;refine sB [U sy,Y ay ly cy] λB V a2=>?_;refine sA λC W a3=>?_;refine zG ?_;by_cases q14:(lx:Int)=0;refine zG ?_;refine sT #[U χ,η] ?_;refine sS [U χ,η] λD Z3 R=>?_;refine zq ?_;exact⟨_,_,_,_,ω,(EB _ _).as An⟩;refine zG ?_;by_cases q16:(ly:Int)=0;refine zG ?_;refine sT #[U χ,η] ?_;refine sS [U χ,η] λF Z0 S=>?_;refine zq ?_;exact⟨_,_,_,_,ω,(EB _ _).as An⟩;refine zG ?_;have i:y.natAbs≠0:=λe=>q16 (by have:=a.2.zero;omega);refine zl ?_;refine zH ?_;refine dC (SQ _ g.t b.t.2 a.t.2 KO) ?_;rintro _ G N⟨o,L,q,rfl,j⟩ a7 a4;refine dC (SP _ a.t.2 j ⟨hy,Dh (ad1 _ (GX i)) hy⟩ aD) ?_;rintro _ H Z1⟨p,M,s,u,v,w,rfl,l,K⟩ a8 a5;refine zJ ?_;refine sC (NJ _ b.t.2 l ⟨hx,Dh (Ef _ _) hy⟩) ?_;rintro _ I P⟨c,f,d,rfl,m⟩ a9 a6;refine sT #[U χ,Y c f d] ?_;refine sS [U χ,Y c f d] λJ a0 T=>?_;refine zq ?_;exact⟨_,_,_,_,ω,AZ,m.t.as (zna _ _)⟩
end
def lcmD:List Rat->Nat->Nat
 |[],m=>m
 |q::l,m=>lcmD l (IX m q.den)
def oO:∀{l:List Rat} {q:Rat} {m:Nat},lcmD (l++[q]) m=IX (lcmD l m) q.den:=by
 intro l;induction l with
 |nil=>intro q m;rfl
 |cons x l ih=>intro q m;exact ih
def kv{D:Nat}:∀{l:List Rat} {m:Nat},(∀q∈l,q.den∣D)->m∣D->lcmD l m∣D:=by
 intro l;induction l with
 |nil=>intro m _ h;exact h
 |cons x l ih=>intro m b c;exact ih (λq d=>b q (E7 _ d)) (Nat.lcm_dvd c (b x (Eb ..)))
def zeq:∀{l:List Rat} {m:Nat},m∣lcmD l m:=by
 intro l;induction l with
 |nil=>intro m;exact Nat.dvd_refl m
 |cons x l ih=>intro m;exact I0 (Nat.dvd_lcm_left _ _) ih
def ku:∀{l:List Rat} {m:Nat} {q:Rat},q∈l->q.den∣lcmD l m:=by
 intro l;induction l with
 |nil=>intro m q h;cases h
 |cons x l ih=>
  intro m q h;obtain rfl|h:=Dk.1 h;exact I0 (Nat.dvd_lcm_right _ _) zeq;exact ih h
def kt{l:List Rat}:∀{m:Nat},0<m->0<lcmD l m:=by
 induction l with
 |nil=>intro m h;exact h
 |cons x l ih=>intro m h;exact ih (Nat.lcm_pos h x.den_pos)
theorem za0(q:Rat):q*(q.den:Rat)=(q.num:Rat):=by
 have h:=Rat.num_divInt_den q;have c:((q.den:Int):Rat)≠0:=λe=>by have:=Tt.1 e;have:=q.den_pos;omega
 rw[EE,Ge]at h;rw[<-Ds];have b:(q.num:Rat)*((q.den:Int):Rat)⁻¹ *((q.den:Int):Rat)=q.num:=by grind
 rw[h]at b;exact b
def Nm(den:Nat)(x:Rat):Int:=x.num*(den:Int).tdiv (x.den:Int)
def TM{b:Nat}{x:Rat}(h:x.den∣b):((Nm b x:Int):Rat)=x*(b:Rat):=by obtain⟨m,rfl⟩:=h;have c:=x.den_pos;unfold Nm;rw[EW,I2 _ Z,DA,<-za0 x,Rat.natCast_mul,HC,Ds]
def KZ(f:Nat->Int):Nat->Nat
 |0=>0
 |j+1=>C6 (KZ f j) (f j).natAbs
def TN{f:Nat->Int}:∀{m j:Nat},j<m->KZ f m∣(f j).natAbs:=by
 intro m;induction m with
 |zero=>intro j h;omega
 |succ m ih=>
  intro j h;obtain b|b:=EH j m;exact I0 (Fh _ _) (ih b);rw[show j=m by omega];exact Fx _ _
def TO{f:Nat->Int}(b:∀j,j<m->(f j).natAbs<=B):KZ f m<=B:=by
 induction m with
 |zero=>exact Nat.zero_le _
 |succ m ih=>
  have c:=ih λj e=>b j Z;have d:=b m Z;show C6 (KZ f m) (f m).natAbs<=B;by_cases h0:KZ f m=0;rw[h0,Nat.gcd_zero_left];exact d;exact C5 (Iq _ (GX h0)) c
def ML(f:Nat->Int)(m:Nat):Nat:=if KZ f m=0 then 1 else KZ f m
theorem dr{f:Nat->Int}:0<ML f m:=by unfold ML;split;decide;omega
def zn5{f:Nat->Int}{j:Nat}(h:j<m):((ML f m:Nat):Int)∣f j:=by unfold ML;split;exact Int.one_dvd _;exact FD.2 (TN h)
def rowQ(N:Nat)(a:Nat->Nat->Rat)(i:Nat):List Rat:=(List.range N).map (a i)
def deni(N:Nat)(a:Nat->Nat->Rat)(i:Nat):Nat:=lcmD (rowQ N a i) 1
def KE(N:Nat)(a:Nat->Nat->Rat)(i j:Nat):Int:=Nm (deni N a i) (a i j)
def Lm(N:Nat)(a:Nat->Nat->Rat)(i:Nat):Nat:=ML (KE N a i) N
def tT(N:Nat)(a:Nat->Nat->Rat)(i j:Nat):Int:=(KE N a i j).tdiv (Lm N a i:Int)
def tS(N:Nat)(a:Nat->Nat->Rat)(i:Nat):Rat:=DK (deni N a i:Int) (Lm N a i:Int)
section
variable {a:Nat->Nat->Rat}
def zmj(hj:j<N):a i j∈rowQ N a i:=DU.2 ⟨j,List.mem_range.2 hj,ω⟩
theorem bW:0<deni N a i:=kt zd
def bY(hj:j<N):(a i j).den∣deni N a i:=ku (zmj hj)
def zn6(h:0<m):((m:Int):Rat)≠0:=λe=>by have:=Tt.1 e;omega
theorem TP:tS N a i=(deni N a i:Int)/((Lm N a i:Int):Rat):=by unfold tS;rw[EE]
theorem TQ:0<tS N a i:=by grind [TP,deni,bW,Lm,dr,KE,Ge,Rat.intCast_pos.2,Rat.mul_pos,Rat.inv_pos.2]
theorem TS(hj:j<N):((tT N a i j:Int):Rat)=tS N a i*a i j:=by
 have l:=zn5 (f:=KE N a i) hj;have g:((Lm N a i:Int):Rat)≠0:=zn6 (dr (f:=KE N a i) (m:=N));have⟨z,o⟩:=l;have c:KE N a i j=(Lm N a i:Int)*z:=o;have d:(Lm N a i:Int)≠0:=by simp_all
 have e:=TM (bY (a:=a) (i:=i) hj);have b:((KE N a i j:Int):Rat)=a i j*(deni N a i:Rat):=e;unfold tT;rw[c,I2 _ d];rw[c,DA]at b;rw[TP,Ge,HC,Fm _ (a i j),<-HC,Fm _ (a i j),Ds (deni N a i),<-b,Fm _ (z:Rat),HC,Rat.mul_inv_cancel _ g,Rat.mul_one]
end
end
end Go.Proofs.YtpcpimjejdegcaaGreatDoor
