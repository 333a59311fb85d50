import Derived.Test.YtdeaddceicfanaaGreatDoorTamC
open Option renaming some→ξ,none→θ
open Bool renaming true→φ,false→χ
open Go renaming Value→ψ
set_option linter.defProp false
open Bool renaming and_eq_true→DI,and_self→DT,false_eq_true→Ew,not_eq_true'→Fa,or_self→ac6
open Classical renaming byContradiction→CW,not_not→G2
open Go.IntKind renaming bits→Em,wrap→Df
open Go.Proofs.YtdeaddceicfanaaGreatDoor.ExtB renaming refl→Ed
open Go.Proofs.YtdeaddceicfanaaGreatDoor.IW renaming zero→EN
open Go.Proofs.YtdeaddceicfanaaGreatDoor.J3 renaming refl→Fy,upd→E9
open Go.Value renaming bool→U,int→CC,pointer→CH,slice→Y,string→CG
open Int renaming lt_trichotomy→HM,mul_pos→Hf,mul_tdiv_cancel_left→IY,natAbs_eq_zero→Fh,natAbs_natCast→CR,natAbs_neg→E2,natCast_mul→EH,not_lt→JY,ofNat_dvd_left→Fq,ofNat_le→ac5,sign_eq_neg_one_of_neg→G6,sign_eq_one_of_pos→FW,tdiv_one→Jo,toNat_natCast→Ef
open List renaming all_append→Hv,all_eq_true→E3,append_assoc→Dh,append_nil→Dm,cons_append→F6,dropWhile_cons→JR,drop_append→Jb,drop_drop→Ey,drop_eq_getElem_cons→EG,drop_eq_nil_of_le→EX,drop_length→EQ,drop_nil→al0,drop_one→ak8,drop_succ_cons→Im,drop_take→JB,drop_zero→Dy,getElem?_eq_getElem→CD,getElem?_eq_none→Dc,getElem?_eq_some_iff→CK,getElem?_map→Dx,getElem?_set_ne→JI,isEmpty_iff→ad7,length→O,length_append→CJ,length_cons→DJ,length_eq_zero_iff→CT,length_map→CN,length_nil→Gg,length_replicate→Dk,length_set→DH,length_singleton→C0,length_take→DA,map_append→Eu,map_cons→Gq,map_nil→Jm,mem_append→DQ,mem_cons→De,mem_cons_of_mem→EV,mem_cons_self→D4,mem_map→DL,mem_of_getElem?→CE,mem_of_mem_take→Dp,mem_singleton→CV,nil_append→Dt,not_mem_nil→CO,replicate→CI,replicate_succ'→Fu,set_cons_zero→Hx,tail_cons→aj2,takeWhile_append_dropWhile→Gx,takeWhile_cons→Io,take_add_one→ac4,take_append→Jc,take_append_of_le_length→EU,take_length→C3,take_nil→al1,take_of_length_le→CL,take_succ_cons→JS,take_take→HL,take_zero→EK
open Nat renaming Coprime→Gl,add_comm→D6,add_sub_cancel→FI,add_sub_cancel_left→ER,beq→DK,ble→Dd,ble_eq_true_of_le→CP,div_div_eq_div_mul→Fm,div_le_self→Ei,div_lt_of_lt_mul→Ie,div_one→HD,dvd_trans→IX,eq_of_beq_eq_true→DC,gcd→CZ,gcd_comm→EY,gcd_dvd_left→E6,gcd_dvd_right→Fc,gcd_one_right→IR,gcd_pos_of_pos_right→D7,lcm→IS,le_mul_of_pos_right→EF,le_of_ble_eq_true→Da,le_of_dvd→H9,le_succ→C8,le_trans→CU,lt_of_le_of_lt→C7,lt_of_lt_of_le→CS,lt_or_ge→EB,lt_trans→Ir,min_eq_left→DR,mod_eq_of_lt→C1,mod_lt→Dz,mul_comm→CY,mul_le_mul_right→CM,mul_one→DD,mul_pos→Et,mul_right_comm→GO,mul_zero→Eo,not_lt_zero→DM,pos_of_ne_zero→GP,pow_add→DV,pow_le_pow_right→CQ,pow_pos→Ds,pow_succ→C5,pow_zero→EA,strongRecOn→Gf,sub_self→DY,sub_zero→GN,succ_mul→EI,zero_add→C9,zero_le→HA,zero_mul→DU
open Option renaming isSome_none→IC
open Option.some renaming injEq→HJ
open Prod.mk renaming injEq→E5
open Rat renaming den_inv→af7,divInt→Dw,divInt_eq_div→Ev,divInt_ofNat→ad8,div_def→HE,intCast_mul→Du,intCast_natCast→Dj,mul_assoc→IZ,mul_comm→FZ,neg_den→Ic,neg_num→He,normalize_eq_mkRat→HQ,num→ac3,num_inv→ap3,sub_eq_add_neg→GQ,zero_divInt→ah1
open UInt8 renaming ofNat→Ec,toNat→ap2,toNat_inj→GX
set_option maxHeartbeats 8000000
set_option linter.unusedVariables false
set_option linter.unusedSimpArgs false
noncomputable section
namespace Go.Proofs.YtdeaddceicfanaaGreatDoor
section
open Go Go.GL
variable{n' a b c d g l m:Nat}{h':HF}{cs:List ψ}{d1 d2 n1 n2 v:ψ}{ld ln w:List Nat}{b1 b2:Bool}{e:TypeId}{q:Rat}
def BX:Nat:=18446744073709551616^60
def KQ{e}(h:m<2^e)(j:e<=3840):m<BX:=by have f:e<=64*60:=j;generalize hk:60=k at f;have i:m<(2^64)^k:=(by rw[<-Nat.pow_mul];exact CS h (CQ zd f));subst hk;exact i
def zzk{x y:Int}(hx:x.natAbs<2^a)(f:y.natAbs<2^b)(h:a+b<=3840):(x*y).natAbs<BX:=KQ (sw hx f) h
def zzc{x y u v:Int}(hx:x.natAbs<2^a)(i:y.natAbs<2^b)(f:u.natAbs<2^b)(hv:v.natAbs<2^a)(h:a+b+1<=3840):(x*y+u*v).natAbs<BX:=
 KQ (dJ (sw hx i) (by rw[D6 a b];exact sw f hv)) h
def zym{x y u v:Int}(hx:x.natAbs<2^a)(p:y.natAbs<2^d)(o:u.natAbs<2^b)(hv:v.natAbs<2^c)(f:a+d<=3839)(i:b+c<=3839):(x*y+u*v).natAbs<BX:=by obtain⟨e,j⟩:∃e,e=3839:=⟨_,ω⟩;rw[<-j]at f i;exact KQ (dJ (CS (sw hx p) (CQ zd f)) (CS (sw o hv) (CQ zd i))) Z
def Kw{x:Int}(h:x.natAbs<BX:=by first|assumption|exact zzk ‹_› ‹_› Z|exact zzc ‹_› ‹_› ‹_› ‹_› Z|exact zym ‹_› ‹_› ‹_› ‹_› Z Z|exact KQ (e:=1) zd zd):x.natAbs<BX:=h
def BD:Nat:=BX
def Sq{e}(h:m<2^e)(f:e<=3840):m<BD:=KQ h f
def zzl{x y:Int}(hx:x.natAbs<2^a)(f:y.natAbs<2^b)(h:a+b<=3840):(x*y).natAbs<BD:=Sq (sw hx f) h
def Ow{x:Int}(h:x.natAbs<BD:=by first|assumption|exact zzl ‹_› ‹_› Z|exact Sq (e:=1) zd zd):x.natAbs<BD:=h
def UW(h:HF)(n:Nat)(a:Option Addr)(l c m:Nat):Prop:=∃L,Sl h n 1 (Y a l c) (u32s L)/\Norm L/\val L=m
def UW.ext{h}{n}{a}(i:UW h n a l c m)(e:J3 n h h')(p:n<=n'):UW h' n' a l c m:=by have⟨L,f,j,o⟩:=i;exact⟨L,f.ext e p,j,o⟩
def UW.only{h}{n f}{a}(i:UW h n a l c m)(u:h f=ξ (.row cs e))(A:cs.all nu=φ)(s:Only f h h'):UW h' n a l c m:=by have⟨L,j,o,p⟩:=i;exact⟨L,j.only32 u A s,o,p⟩
def UW.t{h}{n}{a}(i:UW h n a l c m)(t:Tr n h n' h':=by exact zt):UW h' n' a l c m:=by have⟨L,f,j,o⟩:=i;exact⟨L,f.trG (λx p=>by obtain⟨d,_,rfl⟩:=List.mem_map.1 p;rfl) t,j,o⟩
def UW.zero{h}{n}{a}(i:UW h n a l c m):l=0↔m=0:=by have⟨L,f,j,o⟩:=i;have e:=f.lenU;rw[<-o,j.zero,<-CT,e]
def UW.nil(h)(n):UW h n θ 0 0 0:=⟨[],.nil (.inl ω),Norm.nil,ω⟩
def UI(h:HF)(n:Nat)(b:Bool)(a:Option Addr)(l c:Nat)(x:Int):Prop:=b=decide (x<0)/\UW h n a l c x.natAbs
def UI.ext{h}{n}{b}{a}{x}(i:UI h n b a l c x)(e:J3 n h h')(f:n<=n'):UI h' n' b a l c x:=⟨i.1,i.2.ext e f⟩
def UI.only{h}{n f}{b}{a}{x}(i:UI h n b a l c x)(o:h f=ξ (.row cs e))(p:cs.all nu=φ)(j:Only f h h'):UI h' n b a l c x:=⟨i.1,i.2.only o p j⟩
def UI.t{h}{n}{b}{a}{x}(i:UI h n b a l c x)(t:Tr n h n' h':=by exact zt):UI h' n' b a l c x:=⟨i.1,i.2.t t⟩
def UI.x{h}{n}{b}{a}{x}(i:UI h n b a l c x)(t:Tx n h n' h':=by exact zx):UI h' n' b a l c x:=i.ext t.2 t.1
def UI.as{h}{n}{b}{a}{x y}(i:UI h n b a l c x)(e:x=y):UI h n b a l c y:=e▸i
def UI.lt{h}{n}{a}{x}(i:UI h n φ a l c x):x<0:=of_decide_eq_true i.1.symm
def UI.ge{h}{n}{a}{x}(i:UI h n χ a l c x):0<=x:=JY.1 (of_decide_eq_false i.1.symm)
def UI.zero(h)(n):UI h n χ θ 0 0 0:=⟨ω,UW.nil h n⟩
def UV(m:Nat)(v:ψ)(h:HF)(n:Nat):Prop:=∃a l c,v=Y a l c/\UW h n a l c m
def Na(x:Int)(v:ψ)(h:HF)(n:Nat):Prop:=∃b a l c,v=.agg #[U b,Y a l c]/\UI h n b a l c x
def NQ(q:Rat)(v:ψ)(h:HF)(n:Nat):Prop:=∃b a l c d e f g,v=.agg #[U b,Y a l c,U d,Y e f g]/\UI h n b a l c q.num/\UI h n d e f g (denZ q)
def NQ.zero(h)(n):NQ 0 (.agg #[U χ,η,U χ,η]) h n:=⟨_,_,_,_,_,_,_,_,ω,UI.zero h n,UI.zero h n⟩
def Norm.len800{L}(h:Norm L)(hb:val L<BX):O L<=1200:=by refine h.len_pow (CS hb ?_);unfold BX;decide+kernel
def UI.r{h}{n}{b}{a}{x}(i:UI h n b a l c x):∃L,IntR h n (U b) (Y a l c) x L:=by have⟨e,L,f,j,o⟩:=i;exact⟨L,by rw[e],f,j,o⟩
def IntR.ui{h}{n}{c1 c2}{x}{L}(i:IntR h n c1 c2 x L):∃b a l c,c1=U b/\c2=Y a l c/\UI h n b a l c x:=by obtain⟨rfl,f,j,o⟩:=i;obtain⟨a,l,c,rfl,_⟩:=f.len;exact⟨_,_,_,_,ω,ω,ω,L,f,j,o⟩
def RatR.nq{h}{n}(r:RatR h n n1 n2 d1 d2 q ln ld):NQ q (.agg #[n1,n2,d1,d2]) h n:=by obtain⟨b,a,l,c,rfl,rfl,i⟩:=r.num.ui;obtain⟨_,rfl,f,j,o⟩:=r;obtain⟨p,u,s,rfl,_⟩:=f.len;refine⟨_,_,_,_,_,_,_,_,ω,i,?_,ld,f,j,?_⟩;unfold denZ;split<;>simp;rw[o];unfold denZ;split<;>simp
theorem NQ.r{h}{n}{b d}{a e}{f}(i:UI h n b a l c q.num)(j:UI h n d e f g (denZ q)):∃ln ld,RatR h n (U b) (Y a l c) (U d) (Y e f g) q ln ld/\(∀m,Sz m q->m<=3840->O ln<=1200/\O ld<=1200):=by have⟨ln,o⟩:=i.r;have⟨B,ld,C,p,s⟩:=j;refine⟨ln,ld,⟨o,?_,C,p,?_⟩,λm A u=>⟨o.norm.len800 (by rw[o.val];exact KQ A.1 u),p.len800 (by rw[s];exact KQ A.z u)⟩⟩;rw[B];unfold denZ;split<;>simp;rw[s];unfold denZ;split<;>simp
def NewU.uv{n}{h}{L}(r:NewU n h v h' n' w L)(e:val L=m):Gw n h (UV m) v h' n' w:=by obtain⟨f,i,j,a,c,rfl,o,p,_⟩:=r;exact⟨f,i,j,_,_,_,ω,L,o,p,e⟩
def Lt(k){h}{n}{a}(i:UW h n a l c m)(f):CX (J4 (k+1)) 111 [U f,Y a l c] h n (Na (KT f m)):=by apply wc (Mi k h n f a l c);rintro _ h' n' _⟨rfl,rfl,rfl,j⟩;refine⟨ω,C8 _,j,_,_,_,_,ω,?_,?_⟩;rw[Sc];have:=i.zero;congr 1;by_cases h0:0<l;rw[Ct h0,Ct Z];rw[BG h0,BG Z];rw[Sb];exact i.ext j Zq
section
variable (k:Nat){h:HF}{n:Nat}{a1 a2:Option Addr}{l1 c1 l2 c2 x y:Nat}
def Sr(i:UW h n a1 l1 c1 x)(j:UW h n a2 l2 c2 y)(hb:x<BX/\y<BX):CX (J4 (k+2)) 146 [Y a1 l1 c1,Y a2 l2 c2] h n (UV (x+y)):=by obtain⟨A,p,f,rfl⟩:=i;obtain⟨C,s,o,rfl⟩:=j;have:=f.len800 hb.1;have:=o.len800 hb.2;apply wc (Rr k p s f.1 o.1 Z);exact Cb
def Nc(i:UW h n a1 l1 c1 x)(j:UW h n a2 l2 c2 y)(hb:x<BX/\y<BX)(f:y<=x):CX (J4 (k+2)) 193 [Y a1 l1 c1,Y a2 l2 c2] h n (UV (x-y)):=by obtain⟨A,s,o,rfl⟩:=i;obtain⟨C,u,p,rfl⟩:=j;have:=o.len800 hb.1;apply wc (XU k s u o.1 p.1 Z (o.len_le p f) f);exact Cb
def Ox(i:UW h n a1 l1 c1 x)(j:UW h n a2 l2 c2 y)(hb:x<BX/\y<BX):CX (J4 (k+2)) 147 [Y a1 l1 c1,Y a2 l2 c2] h n (UV (x*y)):=by obtain⟨A,p,f,rfl⟩:=i;obtain⟨C,s,o,rfl⟩:=j;have:=f.len800 hb.1;have:=o.len800 hb.2;apply wc (Rt k p s f.1 o.1 Z);exact Cb
def Ss(i:UW h n a1 l1 c1 x)(j:UW h n a2 l2 c2 y)(hb:x<BX/\y<BX):CX (J4 (k+1)) 192 [Y a1 l1 c1,Y a2 l2 c2] h n (NF ((x:Int)-y)):=by obtain⟨A,o,f,rfl⟩:=i;obtain⟨C,p,s,rfl⟩:=j;have:=f.len800 hb.1;refine(Ro k o p f s Z).cx.mono ?_;rintro _ _ _ rfl;refine⟨_,ω,?_⟩;obtain h|h|h:=Nat.lt_trichotomy (val A) (val C);exact .inl ⟨Lz h,Z⟩;exact .inr (.inl ⟨by rw[h];exact jd _,Z⟩);exact .inr (.inr ⟨sO h,Z⟩)
def zxa(h)(n):CX (J4 (k+2)) 194 [υ 1] h n (Na 1):=by apply wc (Xy k h n 1 zd);rintro _ h' n' w⟨f,j,o,c1,c2,L,rfl,r,_⟩;obtain⟨b,a,l,c,rfl,rfl,i⟩:=r.ui;exact⟨f,j,o,_,_,_,_,ω,i⟩
end
def zz2(k){h}{n}{b}{a}{x}(i:UI h n b a l c x):CX (J4 (k+2)) 149 [.agg #[U b,Y a l c]] h n (Na (-x)):=by have⟨L,r⟩:=i.r;apply wc (Pz k r);rintro _ h' n' w⟨f,j,o,c1,rfl,r⟩;obtain⟨b,a,l,c,rfl,e,i⟩:=r.ui;cases e;exact⟨f,j,o,_,_,_,_,ω,i⟩
def Oy(k){h}{n}{a1 a2}{l1 c1 l2 c2}{x y}(i:UI h n b1 a1 l1 c1 x)(j:UI h n b2 a2 l2 c2 y)(hx:x.natAbs<BX)(D:y.natAbs<BD)(f:y≠0)(B:Dw x y=q):CX (J4 (k+5)) 113 [.agg #[U b1,Y a1 l1 c1],.agg #[U b2,Y a2 l2 c2]] h n (NQ q):=by have⟨A,r⟩:=i.r;have⟨C,s⟩:=j.r;have:=r.norm.len800 (by rw[r.val];exact hx);have:=s.norm.len800 (by rw[s.val];exact D);apply wc (RN k r s f Z);rintro _ h' n' w⟨o,p,u,H,I,F,G,ln,ld,rfl,r,_⟩;rw[B]at r;exact⟨o,p,u,r.nq⟩
def LC(k){h}{n}{b d}{a e}{f}(i:UI h n b a l c q.num)(j:UI h n d e f g (denZ q)):CX (J4 (k+2)) 91 [.agg #[U b,Y a l c,U d,Y e f g]] h n (NF q.num):=by have⟨ln,ld,r,_⟩:=NQ.r i j;refine(Xz k r).cx.mono ?_;rintro _ _ _ rfl;refine⟨_,ω,?_⟩;obtain h|h|h:=HM q.num 0;exact .inl ⟨G6 h,h⟩;exact .inr (.inl ⟨by rw[h];rfl,h⟩);exact .inr (.inr ⟨FW h,h⟩)
theorem Su(k){h}{n}{b d}{a e}{f}(i:UI h n b a l c q.num)(j:UI h n d e f g (denZ q))(hm:Sz m q)(hb:m<=3840):VF (J4 (k+4)) 88 [.agg #[U b,Y a l c,U d,Y e f g]] h n λv=>v=CG ⟨⟨ratT q⟩⟩:=by grind [NQ.r,Rm]
def PI(k)(h)(n)(s)(F:O s<1000000):CX (J4 (k+6)) 66 [CG ⟨⟨s⟩⟩] h n λv h' n'=>∃b a l c d e f g p,∃q:Rat,v=.tuple #[.agg #[U b,Y a l c,U d,Y e f g],U p]/\UI h' n' b a l c q.num/\UI h' n' d e f g (denZ q)/\(p=φ->ratT q=s)/\(vF s->p=φ):=by apply wc (YE k h n s F);rintro _ h' n' w⟨u,A,B,n1,n2,d1,d2,q,ln,ld,p,rfl,r,_,_,_,_,C,D⟩;have⟨b,a,l,c,d,e,f,g,o,i,j⟩:=r.nq;injection o with o;injection o with o;injection o with e2 o;injection o with e3 o;injection o with e4 o;injection o with e5 _;subst e2 e3 e4 e5;exact⟨u,A,B,_,_,_,_,_,_,_,_,p,q,ω,i,j,C,D⟩
end
section
variable{s:List UInt8}{V a b:Nat}
def Ko(b:UInt8):Bool:=decide (48<=b.toNat/\b.toNat<=57)
theorem nh{b}:Ko b=φ↔48<=b.toNat/\b.toNat<=57:=by unfold Ko;simp
theorem AllD.all:AllD s↔∀b∈s,Ko b=φ:=by grind [AllD,nh]
def um{p}:∀b∈s.takeWhile p,p b=φ:=by
 induction s with
 |nil=>intro b c;simp at c
 |cons x s ih=>
  intro b c;rw[Io]at c;split at c;rename_i h;obtain rfl|c:=De.1 c;exact h;exact ih b c;simp at c
def rk{a r}(d:AllD a)(i:r=[]\/∃x e,r=x::e/\Ko x=χ):(a++r).takeWhile Ko=a/\(a++r).dropWhile Ko=r:=by
 induction a with
 |nil=>
  obtain rfl|⟨x,e,rfl,j⟩:=i;exact⟨ω,ω⟩;simp[Io,JR,j]
 |cons b a ih=>
  have f:Ko b=φ:=nh.2 (d b eC);have:=ih λc g=>d c (by simp[g]);simp only[F6,Io,JR,f,if_true];exact⟨by rw[this.1],this.2⟩
def Sv{a b:UInt8}(h:a.toNat=b.toNat):a=b:=GX.1 h
def bQ{b}(h:48<=b.toNat/\b.toNat<=57):Ec (48+(b.toNat-48))=b:=by apply Sv;rw[Oi Z];omega
def PJ{d}(l:AllD d)(f:d≠[])(g:d.head?≠ξ 48):dval d≠0/\(decB (dval d)).map Ec=d:=by
 induction hl:O d generalizing d with
 |zero=>exact Cu (CT.1 hl) f
 |succ m ih=>
  obtain⟨i,b,rfl⟩:∃i b,d=i++[b]:=⟨d.dropLast,d.getLast f,(List.dropLast_concat_getLast f).symm⟩;have j:=l b eC;rw[rK];by_cases hi:i=[];subst hi;have v:b.toNat≠48:=λe=>g (by show ξ b=ξ 48;rw[Sv (b:=48) e]);have o:dval []=0:=rfl;rw[o];refine⟨Z,?_⟩;rw[gi Z (.inr Z)];have:decB 0=[]:=by unfold decB;rw[xo];rfl
  rw[this,Dt,Gq,Jm,bQ j];rfl;have⟨p,q⟩:=ih (d:=i) (λc u=>l c (by simp[u])) hi (by
   cases i with
   |nil=>exact Cu ω hi
   |cons x i=>simpa using g) (by simpa using hl)
  refine⟨Z,?_⟩;rw[gi Z (.inl p),Eu,q,Gq,Jm,bQ j]
theorem qC{d}(f:AllD d)(c:d≠[])(e:d.head?≠ξ 48):decT (dval d)=d:=by simp_all [PJ,c,decT]
theorem ag:decT 1=[49]:=qC (d:=[49]) (λb c=>by rw[CV.1 c];decide) eC eC
def zfw(h:V≠0):((decB V).map Ec).head?≠ξ 48:=by
 induction V using Gf with
 |ind V ih=>
  have e:decB V=decB (V/10)++[48+V%10]:=(by unfold decB;rw[wy h];simp);rw[e];by_cases h2:V/10=0;have:decB (V/10)=[]:=by unfold decB;rw[h2,xo];rfl
  rw[this];intro f;simp only[Dt,Gq,Jm,List.head?_cons,HJ]at f;have:=Oi (c:=V%10) Z;rw[f]at this;have g:(48:UInt8).toNat=48:=rfl;omega;have:=ih (V/10) Z h2;cases hd:(decB (V/10)).map Ec with
  |nil=>
   have d:=(pI (V/10)).2;rw[hd]at d;exact Cu d.symm h2
  |cons x l=>
   rw[Eu,hd];rw[hd]at this;simpa using this
theorem ga(h:V≠0):(decT V).head?≠ξ 48:=by unfold decT;rw[Cv h];exact zfw h
theorem ai(h:decT a=decT b):a=b:=by rw[<-(wx a).2.1,h,(wx b).2.1]
def Kr(s:List UInt8):List UInt8×List UInt8×Bool:=
 let b:=xB s
 let m:=b.takeWhile Ko
 let r:=b.dropWhile Ko
 if m=[48]then(m,[],!z6 s&&r.isEmpty)
 else if m=[]\/m.head?=ξ 48 then(m,[],χ)
 else if r=[]then(m,[],φ)
 else if r.head?≠ξ 47 then(m,[],χ)
 else
  let d:=(r.drop 1).takeWhile Ko
  let r2:=(r.drop 1).dropWhile Ko
  (m,d,r2.isEmpty&& !d.isEmpty&&d.head? != ξ 48&&d != [49])
def zb9(s):(xB s).takeWhile Ko++(xB s).dropWhile Ko=xB s:=Gx
theorem zmw:s=(if z6 s then[45]else[])++xB s:=by cases s<;>grind [xB,z6]
structure Frm (s:List UInt8)(m d:List UInt8):Prop where
 dm:AllD m
 m0:m≠[]
 dd:AllD d
 lead:m=[48]/\z6 s=χ/\d=[]\/m.head?≠ξ 48
 den:d=[]\/d.head?≠ξ 48/\d≠[49]
 eq:s=(if z6 s then[45]else[])++(m++(if d=[]then[]else 47::d))
def rZ{m d}(h:Kr s=(m,d,φ)):Frm s m d:=by
 have g:=zb9 s;have y:=zmw (s:=s);have w:AllD ((xB s).takeWhile Ko):=AllD.all.2 um;unfold Kr at h;simp only at h;generalize (xB s).takeWhile Ko=m0 at*;generalize (xB s).dropWhile Ko=r at*;split at h;rename_i h48;simp only[E5]at h;obtain⟨rfl,rfl,c⟩:=h;simp only[DI,Fa,ad7]at c;obtain⟨c,rfl⟩:=c;refine⟨w,by rw[h48];simp,λb g=>Cu g eC,.inl ⟨h48,c,ω⟩,.inl ω,?_⟩;rw[Cw ω,g];exact y;split at h;simp at h;rename_i h48 j;have l:¬m0=[]:=λe=>j (.inl e);have o:¬m0.head?=ξ 48:=λe=>j (.inr e);split at h;rename_i hr;simp only[E5]at h;obtain⟨rfl,rfl,_⟩:=h;refine⟨w,l,λb g=>Cu g eC,.inr o,.inl ω,?_⟩;subst hr;rw[Cw ω,g];exact y;split at h;simp at h;rename_i hr f;have f:r.head?=ξ 47:=G2.1 f;simp only[E5]at h;obtain⟨rfl,rfl,c⟩:=h;simp only[DI,Fa,ad7,bne_iff_ne,ne_eq]at c;have⟨⟨⟨c,p⟩,u⟩,v⟩:=c;obtain⟨i,rfl⟩:∃i,r=47::i:=by
  cases r with
  |nil=>simp at f
  |cons x r=>exact⟨r,by simp at f;rw[f]⟩
 simp only[ak8,aj2]at c p u v⊢;have A:AllD (i.takeWhile Ko):=AllD.all.2 um;have q:i.takeWhile Ko++i.dropWhile Ko=i:=Gx;rw[c,Dm]at q;rw[q]at A p u v⊢;have j:¬i=[]:=λe=>by rw[e]at p;simp at p
 refine⟨w,l,A,.inr o,.inr ⟨u,v⟩,?_⟩;rw[Cv j,g];exact y
theorem px(q):Kr (ratT q)=(decT q.num.natAbs,(if q.den=1 then[]else decT q.den),φ):=by
 have⟨y,A⟩:=qj q;have⟨B,F,D⟩:=wx q.num.natAbs;have⟨p,i,g⟩:=wx q.den;have f:=rk (a:=decT q.num.natAbs) (r:=if q.den=1 then[]else 47::decT q.den) B (by
  by_cases h:q.den=1;left;rw[Cw h];right;rw[Cv h];exact⟨47,_,ω,ω⟩)
 have d:=rk p (.inl ω);rw[Dm]at d;unfold Kr;simp only;rw[A,f.1,f.2,y];by_cases h0:q.num=0;have c:q.den=1:=by simp_all
 rw[h0,Cw c,Cw c];rfl;have o:q.num.natAbs≠0:=Z;have m:=ga o;have j:¬decT q.num.natAbs=[48]:=λe=>m AF;rw[Cv j,Cv aD];by_cases c:q.den=1;rw[Cw c,Cw ω,Cw c];rw[Cv c,Cv eC,Cv eC,Cv c];simp only[ak8,aj2];rw[d.1,d.2];have C:q.den≠0:=q.den_nz;have u:(decT q.den).isEmpty=χ:=by cases h:decT q.den with
  |nil=>exact Cu h g
  |cons x l=>rfl
 have v:((decT q.den).head? != ξ 48)=φ:=by grind [ga]
 have w:(decT q.den != [49])=φ:=by
  rw[bne_iff_ne];intro e;have:dval (decT q.den)=1:=by rw[e];rfl
  rw[i]at this;exact c this
 rw[u,v,w];rfl
def Frm.rat{m d}(h:Frm s m d)(F:d=[]\/CZ (dval m) (dval d)=1):∃q:Rat,ratT q=s/\q.num=(if z6 s then -(dval m:Int)else dval m)/\q.den=(if d=[]then 1 else dval d):=by have⟨o,w,j,c,l,A⟩:=h;have v:∃D:Nat,D≠0/\D=(if d=[]then 1 else dval d)/\CZ (dval m) D=1/\(if D=1 then[]else 47::decT D)=(if d=[]then[]else 47::d):=(by by_cases hd:d=[];refine⟨1,by decide,by rw[Cw hd],IR _,by rw[Cw ω,Cw hd]⟩;obtain h|⟨p,B⟩:=l;exact Cu h hd;have e:=qC j hd p;refine⟨dval d,(PJ j hd p).1,by rw[Cv hd],F.resolve_left hd,?_⟩;rw[e,Cv hd,Cv];intro h;rw[h]at e;exact B (by rw[<-e];exact ag));have⟨D,y,C,g,u⟩:=v;refine⟨⟨if z6 s then -(dval m:Int)else dval m,D,y,?_⟩,?_,ω,C⟩;show Gl _ _;unfold Gl;split;rw[E2];exact g;exact g;have i:(if z6 s then -(dval m:Int)else dval m).natAbs=dval m:=(by split;rw[E2];rfl;rfl);have G:decT (dval m)=m:=(by obtain⟨h,_,_⟩|h:=c;rw[h];rfl;exact qC o w h);have f:(if(if z6 s then -(dval m:Int)else dval m)<0 then[45]else[])=(if z6 s then[45]else([]:List UInt8)):=(by by_cases hh:z6 s=φ;rw[Cw hh,Cw hh];obtain⟨_,h,_⟩|h:=c;rw[h]at hh;cases hh;have:=(PJ o w h).1;rw[Cw Z];rw[Cv hh,Cv hh,Cv Z]);show(if(if z6 s then -(dval m:Int)else dval m)<0 then[45]else[])++(decT (if z6 s then -(dval m:Int)else dval m).natAbs++(if D=1 then[]else 47::decT D))=s;rw[f,i,G,u];exact A.symm
theorem oP(s):vF s↔(Kr s).2.2=φ/\((Kr s).2.1=[]\/CZ (dval (Kr s).1) (dval (Kr s).2.1)=1):=by constructor;rintro⟨q,rfl⟩;rw[px];refine⟨ω,?_⟩;by_cases c:q.den=1;left;show(if q.den=1 then[]else _)=_;rw[Cw c];right;show CZ (dval (decT _)) (dval (if q.den=1 then[]else _))=1;rw[Cv c,(wx _).2.1,(wx _).2.1];exact q.reduced;rintro⟨d,e⟩;have f:=rZ (by rw[<-d]);have⟨q,c,_⟩:=f.rat e;exact⟨q,c⟩
end
section
open Go Go.GL
variable{ops r:List Oper}{w ms T W C:List Nat}{X:CtxF}{t:TF}{Q:SV->Prop}{o:Oper}{cap sz m b j i n0 bt cx lx l bytes a cy ly B L fx gx bs k fy gy Z4 lo' V sz' nt g1 co cr cu cw lr lu lw l' lq g N:Nat}{e xT ty' e' e2 e3 eB:TypeId}{v z v0 x4 x5 x6 z2:ψ}{ax ay ex ey aq ao ar au aw:Option Addr}{al:List (Nat×Nat)}{ef:List (Nat×HF×List Nat)}{D α D':Type}{cs c0 cl new:List ψ}{ik ik':IntKind}{sx sy dx dy:Bool}{q:Rat}{y:Operand}{hi:List UInt8}{ji bf f:Int}{xs ys va qs:List Rat}{S ss:List (List UInt8)}{E:Env}{fn:Func}{a0:Nat->Nat->Rat}{zs:List Int}
variable{s:List UInt8}{u n' c:Nat}{x1 x2 x3:ψ}{h0 h':HF}
theorem zhx{p}(h:ratT p=ratT q):p=q:=by grind [px,decT,qj,ai,wx,Rat.ext]
def zj(s:List UInt8):Rat:=open Classical in if h:vF s then h.choose else 0
def xX(h:¬vF s):zj s=0:=by unfold zj;rw[dif_neg h]
def qr(h:vF s):ratT (zj s)=s:=by unfold zj;rw[dif_pos h];exact h.choose_spec
def pA(h:ratT q=s):zj s=q:=zhx ((qr ⟨q,h⟩).trans h.symm)
def PK(x y:Rat):((x-y).num<0->x<y)/\((x-y).num=0->x=y)/\(0<(x-y).num->y<x):=by have a:=ur x (-y);rw[<-GQ,He,Ic]at a;have e:0<CZ (x.num*(y.den:Int)+ -y.num*(x.den:Int)).natAbs (x.den*y.den):=D7 _ (Et x.den_pos y.den_pos);have d:((CZ (x.num*(y.den:Int)+ -y.num*(x.den:Int)).natAbs (x.den*y.den):Nat):Int)∣x.num*(y.den:Int)+ -y.num*(x.den:Int):=Fq.2 (E6 _ _);have b:=jc x y;rw[Int.neg_mul]at*;generalize CZ (x.num*(y.den:Int)+ -(y.num*(x.den:Int))).natAbs (x.den*y.den)=g at*;have⟨u,c⟩:=d;rw[c,Int.mul_ediv_cancel_left _ Z]at a;rw[a];refine⟨λh=>b.1.2 ?_,λh=>b.2.1.2 ?_,λh=>b.2.2.2 ?_⟩;have:=Int.mul_neg_of_pos_of_neg (show(0:Int)<g from Z) h;omega;rw[h,Int.mul_zero]at c;omega;have:=Hf (show(0:Int)<g from Z) h;omega
section
variable{h:HF}{c d n:Nat}
def addU(k){x}{y}(e:UI h n sx ax lx cx x)(f:UI h n sy ay ly cy y)(hx:x.natAbs<BX)(hy:y.natAbs<BX):CX (J4 (k+3)) 168 [.agg #[U sx,Y ax lx cx],.agg #[U sy,Y ay ly cy]] h n (Na (x+y)):=by apply zw R4;apply(zG);apply sB [U sx,Y ax lx cx];intro az cr d6;apply sB [U sy,Y ay ly cy];intro b0 cs d7;apply(sA);intro b1 ct d8;apply(zG);cases sx;apply(zG);cases sy;apply(Zh);apply dC (Sr _ e.t.2 f.t.2 Z);rintro _ b2 c1⟨af,bs,an,rfl,P⟩ ds d9;apply dC (Lt _ P χ);rintro _ b3 c2⟨v,j,a7,H,rfl,R⟩ dt da;apply dS [U v,Y j a7 H];intro b4 cu cj;apply(zq);exact⟨_,_,_,_,ω,R.t.as (by have:=e.ge;have:=f.ge;unfold KT;(try simp only[if_true,if_false,Ew]);omega)⟩;apply(zG);apply sC (Ss _ e.t.2 f.t.2 Z);rintro _ b5 c3⟨d4,rfl,g⟩ du db;obtain⟨rfl,g⟩|⟨rfl,g⟩|⟨rfl,g⟩:=g;apply(Zh);apply dC (Nc _ f.t.2 e.t.2 Z Z);rintro _ b6 c4⟨ag,bt,ao,rfl,S⟩ dv dc;apply dC (Lt _ S φ);rintro _ b7 c5⟨w,l,a8,I,rfl,T⟩ dw dd;apply dS [U w,Y l a8 I];intro b8 cv ck;apply(zq);exact⟨_,_,_,_,ω,T.t.as mu⟩;apply(Zh);apply dC (Nc _ e.t.2 f.t.2 Z Z);rintro _ b9 c6⟨ah,bu,ap,rfl,Z4⟩ dz de;apply dC (Lt _ Z4 χ);rintro _ ba c7⟨A,m,a9,J,rfl,V⟩ e0 df;apply dS [U A,Y m a9 J];intro bb cw cl;apply(zq);exact⟨_,_,_,_,ω,V.t.as mu⟩;apply(Zh);apply dC (Nc _ e.t.2 f.t.2 Z Z);rintro _ bc c8⟨ai,bv,aq,rfl,W⟩ e1 dg;apply dC (Lt _ W χ);rintro _ bd c9⟨B,o,aa,K,rfl,Z3⟩ e2 dh;apply dS [U B,Y o aa K];intro be cz cm;apply(zq);exact⟨_,_,_,_,ω,Z3.t.as mu⟩;apply(zG);cases sy;apply(zG);apply sC (Ss _ e.t.2 f.t.2 Z);rintro _ bf ca⟨d5,rfl,i⟩ e3 di;obtain⟨rfl,i⟩|⟨rfl,i⟩|⟨rfl,i⟩:=i;apply(Zh);apply dC (Nc _ f.t.2 e.t.2 Z Z);rintro _ bg cb⟨aj,bw,ar,rfl,Z0⟩ e4 dj;apply dC (Lt _ Z0 χ);rintro _ bh cc⟨C,p,ab,L,rfl,a0⟩ e5 dk;apply dS [U C,Y p ab L];intro bi d0 cn;apply(zq);exact⟨_,_,_,_,ω,a0.t.as ns⟩;apply(Zh);apply dC (Nc _ e.t.2 f.t.2 Z Z);rintro _ bj cd⟨ak,bx,au,rfl,a1⟩ e6 dl;apply dC (Lt _ a1 φ);rintro _ bk ce⟨D,q,ac,M,rfl,a2⟩ e7 dm;apply dS [U D,Y q ac M];intro bl d1 co;apply(zq);exact⟨_,_,_,_,ω,a2.t.as ns⟩;apply(Zh);apply dC (Nc _ e.t.2 f.t.2 Z Z);rintro _ bm cf⟨al,bz,av,rfl,a3⟩ e8 dn;apply dC (Lt _ a3 φ);rintro _ bn cg⟨F,s,ad,N,rfl,a4⟩ e9 dp;apply dS [U F,Y s ad N];intro bo d2 cp;apply(zq);exact⟨_,_,_,_,ω,a4.t.as ns⟩;apply(Zh);apply dC (Sr _ e.t.2 f.t.2 Z);rintro _ bp ch⟨am,c0,aw,rfl,a5⟩ ea dq;apply dC (Lt _ a5 φ);rintro _ bq ci⟨G,u,ae,Z1,rfl,a6⟩ eb dr;apply dS [U G,Y u ae Z1];intro br d3 cq;apply(zq);exact⟨_,_,_,_,ω,a6.t.as (by have:=e.lt;have:=f.lt;unfold KT;(try simp only[if_true,if_false,Ew]);omega)⟩
def mulU(k){x}{y}(e:UI h n sx ax lx cx x)(f:UI h n sy ay ly cy y)(hx:x.natAbs<BX)(hy:y.natAbs<BX):CX (J4 (k+3)) 169 [.agg #[U sx,Y ax lx cx],.agg #[U sy,Y ay ly cy]] h n (Na (x*y)):=by apply zw R4;apply(zG);apply sB [U sx,Y ax lx cx];intro W au b3;apply sB [U sy,Y ay ly cy];intro Z3 av b4;apply(sA);intro Z0 aw b5;apply(Zh);cases sx;apply(zH);cases sy;apply(zH);apply dC (Ox _ e.t.2 f.t.2 Z);rintro _ a0 ag⟨N,ac,S,rfl,A⟩ be b6;apply dC (Lt _ A χ);rintro _ a1 ah⟨m,g,J,s,rfl,B⟩ bf b7;apply dS [U m,Y g J s];intro a2 az ao;apply(zq);exact⟨_,_,_,_,ω,B.t.as (by have:=e.ge;have:=f.ge;exact ke pq)⟩;apply(zH);apply dC (Ox _ e.t.2 f.t.2 Z);rintro _ a3 ai⟨Z1,ad,T,rfl,C⟩ bg b8;apply dC (Lt _ C φ);rintro _ a4 aj⟨o,i,K,u,rfl,D⟩ bh b9;apply dS [U o,Y i K u];intro a5 b0 ap;apply(zq);exact⟨_,_,_,_,ω,D.t.as (by have:=e.ge;have:=f.lt;exact ke pq)⟩;apply(zH);cases sy;apply(zH);apply dC (Ox _ e.t.2 f.t.2 Z);rintro _ a6 ak⟨P,ae,Z4,rfl,F⟩ bi ba;apply dC (Lt _ F φ);rintro _ a7 al⟨p,j,L,v,rfl,G⟩ bj bb;apply dS [U p,Y j L v];intro a8 b1 aq;apply(zq);exact⟨_,_,_,_,ω,G.t.as (by have:=e.lt;have:=f.ge;exact ke pq)⟩;apply(zH);apply dC (Ox _ e.t.2 f.t.2 Z);rintro _ a9 am⟨R,af,V,rfl,H⟩ bk bc;apply dC (Lt _ H χ);rintro _ aa an⟨q,l,M,w,rfl,I⟩ bl bd;apply dS [U q,Y l M w];intro ab b2 ar;apply(zq);exact⟨_,_,_,_,ω,I.t.as (by have:=e.lt;have:=f.lt;exact ke pq)⟩
def denU(k){x}(J:UI h n sx ax lx cx x.num)(f:UI h n dx ex fx gx (denZ x)):CX (J4 (k+3)) 170 [.agg #[U sx,Y ax lx cx,U dx,Y ex fx gx]] h n (Na (x.den:Int)):=by apply zw R4;apply(zG);apply sB [U sx,Y ax lx cx,U dx,Y ex fx gx];intro o A F;apply(sA);intro p B G;apply(zG);by_cases q13:(fx:Int)=0;apply(zG);apply sC (zxa _ _ _);rintro _ q v⟨i,g,m,j,rfl,l⟩ I H;apply sS [U i,Y g m j];intro s C w;apply(zq);exact⟨_,_,_,_,ω,l.t.as (by rw[yr.1 (Fh.1 (f.2.zero.1 Z))];rfl)⟩;apply(zG);apply sS [U dx,Y ex fx gx];intro u D y;apply(zq);exact⟨_,_,_,_,ω,f.t.as (wq (λe=>q13 (by have:=f.2.zero;rw[e]at this;simp at this;omega)))⟩
def Sw(x y):Dw (x.num*(y.den:Int)+y.num*(x.den:Int)) ((x.den:Int)*(y.den:Int))=x+y:=by rw[Rat.add_def,HQ,<-EH];rfl
def Sx(x y):Dw (x.num*y.num) ((x.den:Int)*(y.den:Int))=x*y:=by rw[Rat.mul_def,HQ,<-EH];rfl
def Oz(x y:Rat):(x.den:Int)*(y.den:Int)≠0:=Int.mul_ne_zero (by have:=x.den_pos;omega) (by have:=y.den_pos;omega)
theorem Sy{x}(h:x.den<2^c):(denZ x).natAbs<2^c:=by
 unfold denZ;split
 .exact Nat.two_pow_pos c
 exact h
def SA(k){x}{y}(e:UI h n sx ax lx cx x.num)(g:UI h n dx ex fx gx (denZ x))(f:UI h n sy ay ly cy y.num)(i:UI h n dy ey fy gy (denZ y))(hx:x.num.natAbs<2^a/\x.den<2^c)(p:y.num.natAbs<2^b/\y.den<2^d)(h1:a+d+1<=3840)(h2:b+c+1<=3840)(h3:c+d<=3840):CX (J4 (k+6)) 129 [.agg #[U sx,Y ax lx cx,U dx,Y ex fx gx],.agg #[U sy,Y ay ly cy,U dy,Y ey fy gy]] h n (NQ (x+y)):=by obtain⟨M,K⟩:x.num.natAbs<2^a/\(denZ x).natAbs<2^c:=⟨hx.1,Sy hx.2⟩;obtain⟨P,N⟩:y.num.natAbs<2^b/\(denZ y).natAbs<2^d:=⟨p.1,Sy p.2⟩;have ah:=KQ M Z;have af:=KQ K Z;have ak:=KQ P Z;have ai:=KQ N Z;have cr:=x.den_pos;have cs:=y.den_pos;have L:((x.den:Int)).natAbs<2^c:=hx.2;have Z1:((y.den:Int)).natAbs<2^d:=p.2;have ag:=KQ L Z;have aj:=KQ Z1 Z;apply zw R4;apply(zG);apply sB [U sx,Y ax lx cx,U dx,Y ex fx gx];intro c2 e0 e6;apply sB [U sy,Y ay ly cy,U dy,Y ey fy gy];intro c3 e1 e7;apply(sA);intro c4 e2 e8;apply(zG);by_cases q14:(fx:Int)=0;apply(zG);by_cases q15:(fy:Int)=0;apply(zG);apply sC (addU _ e.t f.t Kw Kw);rintro _ c5 db⟨l,j,o,m,rfl,R⟩ es e9;apply sT #[U l,Y j o m,U χ,η];apply sS [U l,Y j o m,U χ,η];intro c6 e3 dv;apply(zq);exact⟨_,_,_,_,_,_,_,_,ω,R.t.as ((Ou (Fh.1 (g.2.zero.1 Z)) (Fh.1 (i.2.zero.1 Z))).1.symm),(UI.zero _ _).as ((Ou (Fh.1 (g.2.zero.1 Z)) (Fh.1 (i.2.zero.1 Z))).2.symm)⟩;apply(Zh);apply dC (denU _ f.t i.t);rintro _ c7 dc⟨b5,al,ct,bl,rfl,S⟩ et ea;apply dC (mulU _ e.t S Kw Kw);rintro _ c8 dd⟨b6,am,cu,bm,rfl,T⟩ eu eb;apply(zH);apply dC (denU _ e.t g.t);rintro _ c9 de⟨b7,an,cv,bn,rfl,Z4⟩ ev ec;apply dC (mulU _ f.t Z4 Kw Kw);rintro _ ca df⟨b8,ao,cw,bo,rfl,V⟩ ew ed;apply dC (addU _ T.t V Kw Kw);rintro _ cb dg⟨b9,ap,cz,bp,rfl,W⟩ ez ee;apply(zH);apply dC (denU _ e.t g.t);rintro _ cc dh⟨ba,aq,d0,bq,rfl,Z3⟩ f0 ef;apply(zH);apply dC (denU _ f.t i.t);rintro _ cd di⟨bb,ar,d1,br,rfl,Z0⟩ f1 eg;apply dC (mulU _ Z3.t Z0 Kw Kw);rintro _ ce dj⟨bc,au,d2,bs,rfl,a0⟩ f2 eh;apply dC (Oy _ W.t a0 Kw Ow (Oz x y) (Sw x y));rintro _ cf dk⟨u,q,ad,w,B,D,G,I,rfl,a1,ab⟩ f3 ei;apply dS [U u,Y q ad w,U B,Y D G I];intro cg e4 dw;apply(zq);exact⟨_,_,_,_,_,_,_,_,ω,a1.t,ab.t⟩;apply(Zh);apply dC (denU _ f.t i.t);rintro _ ch dl⟨bd,av,d3,bt,rfl,a2⟩ f4 ej;apply dC (mulU _ e.t a2 Kw Kw);rintro _ ci dm⟨be,aw,d4,bu,rfl,a3⟩ f5 ek;apply(zH);apply dC (denU _ e.t g.t);rintro _ cj dn⟨bf,az,d5,bv,rfl,a4⟩ f6 el;apply dC (mulU _ f.t a4 Kw Kw);rintro _ ck dp⟨bg,b0,d6,bw,rfl,a5⟩ f7 em;apply dC (addU _ a3.t a5 Kw Kw);rintro _ cl dq⟨bh,b1,d7,bx,rfl,a6⟩ f8 en;apply(zH);apply dC (denU _ e.t g.t);rintro _ cm dr⟨bi,b2,d8,bz,rfl,a7⟩ f9 eo;apply(zH);apply dC (denU _ f.t i.t);rintro _ cn ds⟨bj,b3,d9,c0,rfl,a8⟩ fa ep;apply dC (mulU _ a7.t a8 Kw Kw);rintro _ co dt⟨bk,b4,da,c1,rfl,a9⟩ fb eq;apply dC (Oy _ a6.t a9 Kw Ow (Oz x y) (Sw x y));rintro _ cp du⟨v,s,ae,A,C,F,H,J,rfl,aa,ac⟩ fc er;apply dS [U v,Y s ae A,U C,Y F H J];intro cq e5 dz;apply(zq);exact⟨_,_,_,_,_,_,_,_,ω,aa.t,ac.t⟩
def OA(k){x}{y}(f:UI h n sx ax lx cx x.num)(i:UI h n dx ex fx gx (denZ x))(g:UI h n sy ay ly cy y.num)(j:UI h n dy ey fy gy (denZ y))(hx:Sz a x)(e:Sz b y)(l:a+b+1<=3840):CX (J4 (k+6)) 129 [.agg #[U sx,Y ax lx cx,U dx,Y ex fx gx],.agg #[U sy,Y ay ly cy,U dy,Y ey fy gy]] h n (NQ (x+y)):=
 SA k f i g j ⟨hx.1,hx.2⟩ ⟨e.1,e.2⟩ Z Z Z
def OB(k){x}{y}(e:UI h n sx ax lx cx x.num)(g:UI h n dx ex fx gx (denZ x))(f:UI h n sy ay ly cy y.num)(i:UI h n dy ey fy gy (denZ y))(hx:Sz a x)(p:Sz b y)(bm:a+b+1<=3840):CX (J4 (k+6)) 131 [.agg #[U sx,Y ax lx cx,U dx,Y ex fx gx],.agg #[U sy,Y ay ly cy,U dy,Y ey fy gy]] h n (NQ (x*y)):=by obtain⟨M,K⟩:x.num.natAbs<2^a/\(denZ x).natAbs<2^a:=⟨hx.1,hx.z⟩;obtain⟨P,N⟩:y.num.natAbs<2^b/\(denZ y).natAbs<2^b:=⟨p.1,p.z⟩;have a9:=KQ M Z;have a7:=KQ K Z;have ac:=KQ P Z;have aa:=KQ N Z;have bn:=x.den_pos;have bo:=y.den_pos;have L:((x.den:Int)).natAbs<2^a:=hx.2;have Z1:((y.den:Int)).natAbs<2^b:=p.2;have a8:=KQ L Z;have ab:=KQ Z1 Z;apply zw R4;apply(zG);apply sB [U sx,Y ax lx cx,U dx,Y ex fx gx];intro b5 cc ci;apply sB [U sy,Y ay ly cy,U dy,Y ey fy gy];intro b6 cd cj;apply(sA);intro b7 ce ck;apply(zG);by_cases q14:(fx:Int)=0;apply(zG);by_cases q15:(fy:Int)=0;apply(zG);apply sC (mulU _ e.t f.t Kw Kw);rintro _ b8 bx⟨l,j,o,m,rfl,R⟩ cw cl;apply sT #[U l,Y j o m,U χ,η];apply sS [U l,Y j o m,U χ,η];intro b9 cf c9;apply(zq);exact⟨_,_,_,_,_,_,_,_,ω,R.t.as ((Ov (Fh.1 (g.2.zero.1 Z)) (Fh.1 (i.2.zero.1 Z))).1.symm),(UI.zero _ _).as ((Ov (Fh.1 (g.2.zero.1 Z)) (Fh.1 (i.2.zero.1 Z))).2.symm)⟩;apply(Zh);apply dC (mulU _ e.t f.t Kw Kw);rintro _ ba bz⟨al,ad,bp,av,rfl,S⟩ cz cm;apply(zH);apply dC (denU _ e.t g.t);rintro _ bb c0⟨am,ae,bq,aw,rfl,T⟩ d0 cn;apply(zH);apply dC (denU _ f.t i.t);rintro _ bc c1⟨an,af,br,az,rfl,Z4⟩ d1 co;apply dC (mulU _ T.t Z4 Kw Kw);rintro _ bd c2⟨ao,ag,bs,b0,rfl,V⟩ d2 cp;apply dC (Oy _ S.t V Kw Ow (Oz x y) (Sx x y));rintro _ be c3⟨u,q,a5,w,B,D,G,I,rfl,W,a3⟩ d3 cq;apply dS [U u,Y q a5 w,U B,Y D G I];intro bf cg ca;apply(zq);exact⟨_,_,_,_,_,_,_,_,ω,W.t,a3.t⟩;apply(Zh);apply dC (mulU _ e.t f.t Kw Kw);rintro _ bg c4⟨ap,ah,bt,b1,rfl,Z3⟩ d4 cr;apply(zH);apply dC (denU _ e.t g.t);rintro _ bh c5⟨aq,ai,bu,b2,rfl,Z0⟩ d5 cs;apply(zH);apply dC (denU _ f.t i.t);rintro _ bi c6⟨ar,aj,bv,b3,rfl,a0⟩ d6 ct;apply dC (mulU _ Z0.t a0 Kw Kw);rintro _ bj c7⟨au,ak,bw,b4,rfl,a1⟩ d7 cu;apply dC (Oy _ Z3.t a1 Kw Ow (Oz x y) (Sx x y));rintro _ bk c8⟨v,s,a6,A,C,F,H,J,rfl,a2,a4⟩ d8 cv;apply dS [U v,Y s a6 A,U C,Y F H J];intro bl ch cb;apply(zq);exact⟨_,_,_,_,_,_,_,_,ω,a2.t,a4.t⟩
def zz0(k){x}(l:UI h n sx ax lx cx x.num)(m:UI h n dx ex fx gx (denZ x)):CX (J4 (k+3)) 153 [.agg #[U sx,Y ax lx cx,U dx,Y ex fx gx]] h n (NQ (-x)):=by apply zw R4;apply(zG);apply sB [U sx,Y ax lx cx,U dx,Y ex fx gx];intro o w B;apply(sA);intro p y C;apply(Zh);apply dC (zz2 _ l.t);rintro _ q u⟨f,e,i,g,rfl,j⟩ F D;apply(zH);apply dT #[U f,Y e i g,U dx,Y ex fx gx];apply dS [U f,Y e i g,U dx,Y ex fx gx];intro s A v;apply(zq);exact⟨_,_,_,_,_,_,_,_,ω,j.t.as ((He x).symm),m.t.as (by unfold denZ;rw[Ic])⟩
def zze(k){x}{y}(w:UI h n sx ax lx cx x.num)(B:UI h n dx ex fx gx (denZ x))(A:UI h n sy ay ly cy y.num)(C:UI h n dy ey fy gy (denZ y))(hx:x.num.natAbs<2^a/\x.den<2^c)(v:y.num.natAbs<2^b/\y.den<2^d)(h1:a+d+1<=3840)(h2:b+c+1<=3840)(h3:c+d<=3840):CX (J4 (k+7)) 114 [.agg #[U sx,Y ax lx cx,U dx,Y ex fx gx],.agg #[U sy,Y ay ly cy,U dy,Y ey fy gy]] h n (NQ (x-y)):=by apply zw R4;apply(zG);apply sB [U sx,Y ax lx cx,U dx,Y ex fx gx];intro L W a1;apply sB [U sy,Y ay ly cy,U dy,Y ey fy gy];intro M Z3 a2;apply(sA);intro N Z0 a3;apply(Zh);apply dC (zz0 _ A.t C.t);rintro _ Z1 T⟨F,D,S,G,H,I,J,K,rfl,o,q⟩ a6 a4;apply dC (SA _ w.t B.t o q hx (by rw[He,Ic,E2];exact v) h1 h2 h3);rintro _ P Z4⟨f,e,u,g,i,j,l,m,rfl,p,s⟩ a7 a5;apply dS [U f,Y e u g,U i,Y j l m];intro R a0 V;apply(zq);exact⟨_,_,_,_,_,_,_,_,ω,p.t.as (by rw[GQ]),s.t.as (by rw[GQ])⟩
def zzz(k){x}{y}(f:UI h n sx ax lx cx x.num)(i:UI h n dx ex fx gx (denZ x))(g:UI h n sy ay ly cy y.num)(j:UI h n dy ey fy gy (denZ y))(hx:Sz a x)(e:Sz b y)(l:a+b+1<=3840):CX (J4 (k+7)) 114 [.agg #[U sx,Y ax lx cx,U dx,Y ex fx gx],.agg #[U sy,Y ay ly cy,U dy,Y ey fy gy]] h n (NQ (x-y)):=
 zze k f i g j ⟨hx.1,hx.2⟩ ⟨e.1,e.2⟩ Z Z Z
def Nd(k){x}{y}(l:UI h n sx ax lx cx x.num)(o:UI h n dx ex fx gx (denZ x))(m:UI h n sy ay ly cy y.num)(p:UI h n dy ey fy gy (denZ y))(hx:Sz a x)(j:Sz b y)(f:a+b+1<=3840):VF (J4 (k+8)) 68 [.agg #[U sx,Y ax lx cx,U dx,Y ex fx gx],.agg #[U sy,Y ay ly cy,U dy,Y ey fy gy]] h n λv=>∃s:Int,v=υ s/\(s= -1/\x<y\/s=0/\x=y\/s=1/\y<x):=by apply zO R4;apply(zG);apply sB [U sx,Y ax lx cx,U dx,Y ex fx gx];intro F M P;apply sB [U sy,Y ay ly cy,U dy,Y ey fy gy];intro G N R;apply(zG);apply sC (zzz _ l.t o.t m.t p.t hx j f);rintro _ H K⟨u,q,J,w,A,B,C,D,rfl,g,i⟩ Z4 S;apply sC (LC _ g i);rintro _ I L⟨Z1,rfl,e⟩ V T;obtain⟨rfl,e⟩|⟨rfl,e⟩|⟨rfl,e⟩:=e;apply(zf);exact⟨_,ω,.inl ⟨ω,(PK x y).1 e⟩⟩;apply(zf);exact⟨_,ω,.inr (.inl ⟨ω,(PK x y).2.1 e⟩)⟩;apply(zf);exact⟨_,ω,.inr (.inr ⟨ω,(PK x y).2.2 e⟩)⟩
def zz1(k)(h)(n)(s)(hs:O s<1000000):CX (J4 (k+7)) 69 [CG ⟨⟨s⟩⟩] h n (NQ (zj s)):=by apply zw R4;apply(Zk);intro y N W;apply(zG);apply sC (PI _ _ _ s hs);rintro _ A I⟨f,e,o,g,i,j,l,m,p,V,rfl,q,u,v,z12⟩ a1 Z3;cases p;apply(Zk);intro B Z1 Z0;apply sS [U f,Y e o g,U i,Y j l m];intro C P J;apply(zG);apply sT #[U χ,η,U χ,η];apply sS [U χ,η,U χ,η];intro D R K;apply(zq);exact(xX (λw=>by cases z12 w)).symm▸NQ.zero _ _;apply(Zk);intro F S a0;apply sS [U f,Y e o g,U i,Y j l m];intro G T L;apply(zG);apply sS [U f,Y e o g,U i,Y j l m];intro H Z4 M;apply(zq);exact(pA (v ω)).symm▸⟨_,_,_,_,_,_,_,_,ω,q.t,u.t⟩
def numU(k)(h)(n)(s)(e:O s<1000000):CX (J4 (k+7)) 69 [CG ⟨⟨s⟩⟩] h n (NQ (zj s)):=zz1 k h n s e
end
section
variable{off:Nat}{ty:TypeId}
structure At (h:HF)(b o:Nat)(c:List ψ):Prop where
 ex:∃x cs,h b=ξ x/\x.cells=ξ cs/\o+O c<=O cs/\(cs.drop o).take (O c)=c
def At.ext{h h'}{n o}{c}(a:At h b o c)(x:J3 n h h')(hb:b<3*n):At h' b o c:=by have⟨y,cs,f,g,l,p⟩:=a.ex;exact⟨y,cs,(x b hb).trans f,g,l,p⟩
def At.ld{h}{o}{c c'}{sz}(a:At h b o c)(k)(p:GL.isAgg Kc ty=ξ φ)(hi:Kc.inf ty=ξ (sz,bt,z))(C:k+sz<=O c)(A:(c.drop k).take sz=c'):yB Kc ty h ⟨b,o+k,θ⟩=ξ (.agg c'.toArray):=by have⟨y,cs,f,g,B,l⟩:=a.ex;apply yw ⟨p,hi⟩ f g Z;rw[<-A,<-l,JB,HL,Ey];congr 1;omega
def At.ld1{h}{o}{c}(a:At h b o c)(k)(p:GL.isAgg Kc ty=ξ χ)(A:c[k]?=ξ v):yB Kc ty h ⟨b,o+k,θ⟩=ξ v:=by have⟨y,cs,f,g,B,l⟩:=a.ex;exact nJ p f ⟨g,(qG l A)⟩
inductive Rec {D:Type} (sz:Nat) (P:List ψ->D->Prop):List ψ->List D->Prop
 |nil:Rec sz P [] []
 |cons {c cs:List ψ} {d:D} {ds:List D} (hl:O c=sz) (hp:P c d) (hr:Rec sz P cs ds):Rec sz P (c++cs) (d::ds)
section
variable{P P':List ψ->D->Prop}
theorem Rec.len{a}(r:Rec sz P cs a):O cs=O a*sz:=by induction r<;>grind
def Rec.mono{a}(r:Rec sz P cs a)(f:∀c d,P c d->P' c d):Rec sz P' cs a:=by
 induction r with
 |nil=>exact .nil
 |cons hl hp hr ih=>exact .cons hl (f _ _ hp) ih
def Rec.snoc{c}{a}{d}(r:Rec sz P cs a)(f:O c=sz)(g:P c d):Rec sz P (cs++c) (a++[d]):=by
 induction r with
 |nil=>
  have:=Rec.cons f g (Rec.nil);rw[Dm]at this;exact this
 |cons hl2 hp2 hr ih=>rw[Dh];exact .cons hl2 hp2 ih
def Rec.get{f}{d}(r:Rec sz P cs f):∀{j:Nat},f[j]?=ξ d->∃c,O c=sz/\P c d/\(cs.drop (j*sz)).take sz=c/\j*sz+sz<=O cs:=by
 induction r with
 |nil=>intro j a;simp at a
 | @cons c cs d2 f hl hp hr ih=>
  intro j a;cases j with
  |zero=>
   simp at a;subst a;refine⟨c,hl,hp,?_,by rw[CJ];omega⟩;rw[DU,Dy,<-hl,List.take_left]
  |succ j=>
   rw[List.getElem?_cons_succ]at a;have⟨g,l,p,A,B⟩:=ih a;refine⟨g,l,p,?_,by rw[CJ,EI];omega⟩;rw[<-A,Jb,EX aD,Dt,EI,hl,FI]
end
def RS{D:Type}(sz:Nat)(P:List ψ->D->HF->Nat->Prop)(h:HF)(n:Nat)(v:ψ)(l:List D):Prop:=∃cells,Sl h n sz v cells/\Rec sz (λc d=>P c d h n) cells l
structure Stay {D:Type}(P:List ψ->D->HF->Nat->Prop):Prop where
 go:∀c d h h' n n',P c d h n->J3 n h h'->n<=n'->P c d h' n'
section
variable{P:List ψ->D->HF->Nat->Prop}{h h':HF}{n n':Nat}
def RS.ext'(A:Stay P){l}(r:RS sz P h n v l)(x:J3 n h h')(f:n<=n'):RS sz P h' n' v l:=by have⟨a,g,p⟩:=r;exact⟨a,g.ext x f,p.mono λc d B=>A.go c d _ _ _ _ B x f⟩
def RS.len'(f:0<sz){a}{len}{l}(r:RS sz P h n (Y a len cap) l):len=O l:=by have⟨g,p,A⟩:=r;have⟨B,F,C,e,c⟩:=p.len;injection e with e1 e2 e3;subst e2;rw[A.len]at c;exact(Nat.eq_of_mul_eq_mul_right f c).symm
def RS.at'(A:0<sz){a}{len}{l}{d}(r:RS sz P h n (Y a len cap) l)(hj:l[j]?=ξ d):∃b off c,a=ξ ⟨b,off,θ⟩/\b<3*n/\j<len/\At h b (off+j*sz) c/\O c=sz/\P c d h n:=by have f:=r.len' A;have⟨B,G,g⟩:=r;have M:=(CK.1 hj).1;obtain⟨b,off,x,cs,rfl,H,L,I,J,N,K⟩:=G.inv Z;have⟨c,p,C,F,Z1⟩:=g.get hj;refine⟨b,off,c,ω,H,Z,⟨x,cs,L,I,?_,?_⟩,p,C⟩;have:=g.len;rw[<-f]at this;omega;rw[p,<-F,<-K,JB,HL,Ey];have:=g.len;rw[<-f]at this;congr 1;omega
end
def vM{h}{n}{a}{len}(r:Sl h n 1 (Y a len cap) (strs S))(hj:S[j]?=ξ s):∃b off,a=ξ ⟨b,off,θ⟩/\b<3*n/\j<len/\At h b (off+j*1) [CG ⟨⟨s⟩⟩]:=by
 have G:=(CK.1 hj).1;have C:=z8 r;obtain⟨b,off,x,cs,rfl,l,F,p,A,H,B⟩:=r.inv Z;refine⟨b,off,ω,l,Z,⟨x,cs,F,p,by show off+j*1+1<=_;omega,?_⟩⟩;show(cs.drop (off+j*1)).take 1=_;have g:(strs S)[j]?=ξ (CG ⟨⟨s⟩⟩):=by rw[strs,Dx,hj];rfl
 have c:=qG B g;rw[DD];have f:off+j<O cs:=Z;rw[EG f];rw[CD f]at c;injection c with c;rw[c];rfl
def ratP(c:List ψ)(q:Rat)(h:HF)(n:Nat):Prop:=∃b a l k d e f g,c=[U b,Y a l k,U d,Y e f g]/\IW h n b a l k q.num/\IW h n d e f g (denZ q)
def ratP.stay:Stay ratP:=⟨λ_ _ _ _ _ _ ⟨b,a,l,k,d,e,f,g,p,i,j⟩ x c=>⟨b,a,l,k,d,e,f,g,p,i.ext x c,j.ext x c⟩⟩
def numP(c:List ψ)(q:Rat)(h:HF)(n:Nat):Prop:=∃b a l k d e f g,c=[U b,Y a l k,U d,Y e f g]/\UI h n b a l k q.num/\UI h n d e f g (denZ q)
def numP.stay:Stay numP:=⟨λ_ _ _ _ _ _ ⟨b,a,l,k,d,e,f,g,p,i,j⟩ x c=>⟨b,a,l,k,d,e,f,g,p,i.ext x c,j.ext x c⟩⟩
def QS(h:HF)(n:Nat)(v:ψ)(l:List Rat):Prop:=RS 4 ratP h n v l
def NS(h:HF)(n:Nat)(v:ψ)(l:List Rat):Prop:=RS 4 numP h n v l
section
variable{h h':HF}{n n':Nat}
def QS.ext{l}(r:QS h n v l)(x:J3 n h h')(a:n<=n'):QS h' n' v l:=RS.ext' ratP.stay r x a
def NS.ext{l}(r:NS h n v l)(x:J3 n h h')(a:n<=n'):NS h' n' v l:=RS.ext' numP.stay r x a
def QS.len{a}{len}{l}(r:QS h n (Y a len cap) l):len=O l:=RS.len' zd r
def NS.len{a}{len}{l}(r:NS h n (Y a len cap) l):len=O l:=RS.len' zd r
def QS.at{a}{len}{l}(r:QS h n (Y a len cap) l)(hj:l[j]?=ξ q):∃p off b A B k d e f g,a=ξ ⟨p,off,θ⟩/\p<3*n/\j<len/\At h p (off+j*4) [U b,Y A B k,U d,Y e f g]/\IW h n b A B k q.num/\IW h n d e f g (denZ q):=by exact BM
def NS.at{a}{len}{l}(r:NS h n (Y a len cap) l)(hj:l[j]?=ξ q):∃p off b A B k d e f g,a=ξ ⟨p,off,θ⟩/\p<3*n/\j<len/\At h p (off+j*4) [U b,Y A B k,U d,Y e f g]/\UI h n b A B k q.num/\UI h n d e f g (denZ q):=by exact BM
end
section
variable{h:HF}{n:Nat}{d:Tmp}
theorem PL{x i}{len sz}(a:qt X ops t o d (o.op=.indexAddr ty x i/\X.E.und ty=ξ (.slice e)/\X.E.inf e=ξ (sz,bt,z)/\J2 t x=Y aq len cap/\J2 t i=CC ik (j:Int)/\aq=ξ ⟨b,off,θ⟩))(F:j<len)(k:EO X ops r ⟨upd t d (CH (ξ ⟨b,off+j*sz,θ⟩)),h,n,w⟩ Q):EO X ops (o::r) ⟨t,h,n,w⟩ Q:=by
 obtain⟨a,f,p,A,B,g,C,l,c⟩:=a;subst c;exact Lw ⟨a,f,p,A,B,g,C,l⟩ Z k
end
section
variable{h:HF}{n:Nat}{ld:List (Nat×Nat)}{d:Tmp}
def SB{x}{len sz}(A:zh ops t o=φ)(g:o.dst=ξ d)(l:zv X.nt (ξ d)=φ)(a:o.op=.indexAddr ty x y)(p:X.E.und ty=ξ (.slice e))(hi:X.E.inf e=ξ (sz,bt,z))
  (hx:J2 t x=Y aq len cap)(hj:J2 t y=CC ik (j:Int))(f:aq=ξ ⟨b,off,θ⟩)(B:j<len)(k:ED X ops r ms (i+1) ⟨⟨upd t d (CH (ξ ⟨b,off+j*sz,θ⟩)),h,n,w⟩,al,ld,ef⟩ Q):ED X ops (o::r) (m::ms) i ⟨⟨t,h,n,w⟩,al,ld,ef⟩ Q:=by subst f;refine yQ ⟨A,g,l,(by rw[a];rfl),?_⟩ k;have c:(0:Int)<=(j:Int)/\(j:Int)<(len:Int):=Z;rw[a];show yV X.E ty (J2 t x) (J2 t y)=_;rw[hx,hj];simp only[yV,p,hi,Cw c,wO,Ef]
end
def QS.x{h h'}{n n'}{l}(r:QS h n v l)(t:Tx n h n' h':=by exact zx):QS h' n' v l:=r.ext t.2 t.1
def NS.x{h h'}{n n'}{l}(r:NS h n v l)(t:Tx n h n' h':=by exact zx):NS h' n' v l:=r.ext t.2 t.1
def At.x{h h'}{n n' o}{c}(a:At h b o c)(t:Tx n h n' h')(hb:b<3*n):At h' b o c:=a.ext t.2 hb
theorem At.lG{h}{o sz}{c}{r}(L)(a:At h b o c)(g:GL.isAgg Kc ty=ξ φ)(hi:Kc.inf ty=ξ (sz,bt,z))(l:c.drop k=L++r)(A:L.length=sz)(p:0<L.length:=by exact Nat.succ_pos _):yB Kc ty h ⟨b,o+k,θ⟩=ξ (.agg L.toArray):=by have f:=congrArg List.length l;rw[List.length_drop,List.length_append]at f;exact a.ld k g hi Z (c':=L) (by grind)
def At.l2{h}{o}{c}{r}(a:At h b o c)(f:GL.isAgg Kc ty=ξ φ)(hi:Kc.inf ty=ξ (2,bt,z))(g:c.drop k=x1::x2::r):yB Kc ty h ⟨b,o+k,θ⟩=ξ (.agg #[x1,x2]):=a.lG [x1,x2] f hi g rfl
def At.l3{h}{o}{c}{r}(a:At h b o c)(f:GL.isAgg Kc ty=ξ φ)(hi:Kc.inf ty=ξ (3,bt,z))(g:c.drop k=x1::x2::x3::r):yB Kc ty h ⟨b,o+k,θ⟩=ξ (.agg #[x1,x2,x3]):=a.lG [x1,x2,x3] f hi g rfl
def At.l4{h}{o}{c}{r}(a:At h b o c)(f:GL.isAgg Kc ty=ξ φ)(hi:Kc.inf ty=ξ (4,bt,z))(g:c.drop k=x1::x2::x3::x4::r):yB Kc ty h ⟨b,o+k,θ⟩=ξ (.agg #[x1,x2,x3,x4]):=a.lG [x1,x2,x3,x4] f hi g rfl
def At.l11{h}{o}{c}{l p A f g}{r}(a:At h b o c)(B:GL.isAgg Kc ty=ξ φ)(hi:Kc.inf ty=ξ (11,bt,z))(C:c.drop k=x1::x2::x3::x4::x5::x6::l::p::A::f::g::r):yB Kc ty h ⟨b,o+k,θ⟩=ξ (.agg #[x1,x2,x3,x4,x5,x6,l,p,A,f,g]):=a.lG [x1,x2,x3,x4,x5,x6,l,p,A,f,g] B hi C rfl
section
variable{h:HF}{n:Nat}{d:Tmp}
def sI{x0 a}{len sz}(c:aq=ξ ⟨b,off,θ⟩)(f:j<len)(g:zh ops t o=φ:=by rfl)(hd:o.dst=ξ d:=by rfl)(hn:zv X.nt (ξ d)=φ:=by rfl)(ho:o.op=.indexAddr ty x0 a:=by rfl)(hu:X.E.und ty=ξ (.slice e):=by rfl)(hi:X.E.inf e=ξ (sz,bt,z):=by rfl)(hx:J2 t x0=.slice aq len cap:=by rfl)(hj:J2 t a=.int ik (j:Int):=by rfl)(k:EO X ops r ⟨upd t d (.pointer (ξ ⟨b,off+j*sz,θ⟩)),h,n,w⟩ Q):EO X ops (o::r) ⟨t,h,n,w⟩ Q:=PL ⟨g,hd,hn,ho,hu,hi,hx,hj,c⟩ f k
def sL{x0}{f}{c}(a:At h0 b f c)(hb:b<3*n0)(g)(l:zh ops t o=φ:=by rfl)(hd:o.dst=ξ d:=by rfl)(hn:zv X.nt (ξ d)=φ:=by rfl)(ho:o.op=.load ty x0:=by rfl)(hx:J2 t x0=.pointer (ξ ⟨b,f+g,θ⟩):=by rfl)(tx:Tx n0 h0 n h:=by exact zx)(hv:At h b f c->yB X.E ty h ⟨b,f+g,θ⟩=ξ v:=by intro a;first|exact a.ld1 _ ω rfl|exact a.l1 ω ω rfl|exact a.l2 ω ω rfl|exact a.l3 ω ω rfl|exact a.l4 ω ω rfl|exact a.l5 ω ω rfl|exact a.l10 ω ω rfl|exact a.l11 ω ω ω)(k:EO X ops r ⟨upd t d v,h,n,w⟩ Q):EO X ops (o::r) ⟨t,h,n,w⟩ Q:=z7 ⟨l,hd,hn,ho,hx⟩ (hv (a.x tx hb)) k
end
section
variable{h:HF}{n:Nat}{ld:List (Nat×Nat)}{d:Tmp}
def dI{x0 a}{len sz}(c:aq=ξ ⟨b,off,θ⟩)(f:j<len)(g:zh ops t o=φ:=by rfl)(hd:o.dst=ξ d:=by rfl)(hn:zv X.nt (ξ d)=φ:=by rfl)(ho:o.op=.indexAddr ty x0 a:=by rfl)(hu:X.E.und ty=ξ (.slice e):=by rfl)(hi:X.E.inf e=ξ (sz,bt,z):=by rfl)(hx:J2 t x0=.slice aq len cap:=by rfl)(hj:J2 t a=.int ik (j:Int):=by rfl)(k:ED X ops r ms (i+1) ⟨⟨upd t d (.pointer (ξ ⟨b,off+j*sz,θ⟩)),h,n,w⟩,al,ld,ef⟩ Q):ED X ops (o::r) (m::ms) i ⟨⟨t,h,n,w⟩,al,ld,ef⟩ Q:=SB g hd hn ho hu hi hx hj c f k
def dL{x0}{A f}{c}(a:At h0 b f c)(hb:b<3*n0)(l)(p:zh ops t o=φ:=by rfl)(hd:o.dst=ξ d:=by rfl)(hn:zv X.nt (ξ d)=φ:=by rfl)(ho:o.op=.load ty x0:=by rfl)(hx:J2 t x0=.pointer (ξ ⟨b,f+l,θ⟩):=by rfl){g}(hr:wn m ef i h=(u,g):=by rfl)(tx:Tx n0 h0 A g:=by exact zx)(hv:At g b f c->yB X.E ty g ⟨b,f+l,θ⟩=ξ v:=by intro a;first|exact a.ld1 _ ω rfl|exact a.l1 ω ω rfl|exact a.l2 ω ω rfl|exact a.l3 ω ω rfl|exact a.l4 ω ω rfl|exact a.l5 ω ω rfl|exact a.l10 ω ω rfl|exact a.l11 ω ω ω)(h1:Lo u b ef=φ:=by rfl)(h2:qn m b al=φ:=by rfl)(k:ED X ops r ms (i+1) ⟨⟨upd t d v,h,n,w⟩,al,(i,b)::ld,ef⟩ Q):ED X ops (o::r) (m::ms) i ⟨⟨t,h,n,w⟩,al,ld,ef⟩ Q:=yd ⟨p,hd,hn,ho,hx,hr⟩ (hv (a.x tx hb)) ⟨h1,h2⟩ k
end
end
section
variable{ty:TypeId}{x:Operand}
section
variable{h:HF}{n:Nat}{d:Tmp}
def un{a b}(c)(e:qt X ops t o d (o.op=.binOp .eql ty x y ty'/\J2 t x=CG ⟨⟨a⟩⟩/\J2 t y=CG ⟨⟨b⟩⟩))(j:(a==b)=c)
  (k:EO X ops r ⟨upd t d (U c),h,n,w⟩ Q):EO X ops (o::r) ⟨t,h,n,w⟩ Q:=by have⟨e,g,i,f,l,m⟩:=e;refine zZ ⟨e,g,i,o0⟩ ?_ k;rw[f];show binE X.E .eql ty (J2 t x) (J2 t y)=_;rw[l,m,<-j];rfl
def NI{a b}(c)(e:qt X ops t o d (o.op=.binOp .neq ty x y ty'/\J2 t x=CG ⟨⟨a⟩⟩/\J2 t y=CG ⟨⟨b⟩⟩))(j:(!(a==b))=c)
  (k:EO X ops r ⟨upd t d (U c),h,n,w⟩ Q):EO X ops (o::r) ⟨t,h,n,w⟩ Q:=by have⟨e,g,i,f,l,m⟩:=e;refine zZ ⟨e,g,i,o0⟩ ?_ k;rw[f];show binE X.E .neq ty (J2 t x) (J2 t y)=_;rw[l,m,<-j];rfl
end
def VX(C:CalF)(f:FuncId)(args:List ψ)(h:HF)(n:Nat)(P:ψ->Prop):Prop:=CF C f args h n λv h' n' w=>w=[]/\n<=n'/\J3 n h h'/\P v
def yR{P:ψ->Prop}{e}{t}{h}{n}{a f}{i}(u)(c:rI e=φ/\fn.results.toList=[.cell a ty,.tmp f]/\t a=ε b/\t f=u/\GL.isAgg Kc ty=ξ φ/\Kc.inf ty=ξ (sz,bt,z))(hb:h' b=ξ (.row cs i))(C:O cs=sz)(p:n<=n')(hx:J3 n h h')(q:P (.tuple #[.agg cs.toArray,u])):RetH fn (λv h' n' w=>w=[]/\n<=n'/\J3 n h h'/\P v) e ⟨t,h',n',[]⟩:=by have⟨c,A,j,g,l,m⟩:=c;refine retH [.agg cs.toArray,u] ⟨c,?_,ω⟩ ⟨ω,p,hx,q⟩;rw[A];have B:=yw ⟨l,m⟩ hb ω (show 0+sz<=O cs from Z) (show(cs.drop 0).take sz=cs by rw[Dy,CL Z]);simp only[resF,j,g,B]
def zev(k)(h)(n)(s):VF (J4 (k+1)) 205 [CG ⟨⟨s⟩⟩,CG ⟨⟨[45]⟩⟩] h n λv=>v=U (z6 s):=by
 apply zO R4;apply(Za);cases s with
 |nil=>
  apply(zM);apply st_I (ik:=.i64) (a:=0) R5;apply(zM);apply st_I (ik:=.i64) (a:=1) R5;apply(kG);exact Bv
 |cons x s=>
  apply(zM);apply st_I (ik:=.i64) (a:=(O (x::s):Int)) R5;apply(zM);refine st_I (ik:=.i64) (a:=1) R5<|jD R6 aD ?_;apply(Zw);refine st_I (ik:=.i64) (a:=1) R5<|ND (s:=x::s) (j:=1) R8 eC ?_;apply(zM);apply un (a:=[x]) (b:=[45]) (x==45) R6 eC;apply(kG);exact retF _ ω (zi ω) R2 (by show U _=U _;simp[z6])
theorem zeg(h:z6 s=φ):1<=O s:=by grind [z6]
def zbv(k)(h)(n)(s):VF (J4 (k+2)) 182 [CG ⟨⟨s⟩⟩,CG ⟨⟨[45]⟩⟩] h n λv=>v=.tuple #[CG ⟨⟨xB s⟩⟩,U (z6 s)]:=by apply zO R4;apply(Za);apply(Zb);apply yi _ R5 (zev k h n s);rintro _ rfl;by_cases hm:z6 s=φ;rw[hm];apply(ZE);apply st_I (ik:=.i64) (a:=1) R5;apply u4 (s:=s) (j:=1) R8 (zeg hm);apply(kG);apply retF [CG ⟨⟨s.drop 1⟩⟩,U φ] ω ω R2;unfold xB;rw[Cw hm];rfl;rw[Bool.eq_false_iff.2 hm];apply(Zr);apply retF [CG ⟨⟨s⟩⟩,U χ] ω ω R2;unfold xB;rw[Cv hm];rfl
def zfz(k)(h)(n)(s):VF (J4 (k+3)) 154 [CG ⟨⟨s⟩⟩,CG ⟨⟨[45]⟩⟩] h n λv=>v=.tuple #[CG ⟨⟨xB s⟩⟩,U (z6 s)]:=by apply zO R4;apply(Za);apply(Zb);apply yi _ R5 (zbv k h n s);rintro _ rfl;apply(kG);exact retF [CG ⟨⟨xB s⟩⟩,U (z6 s)] ω ω R2 rfl
def zfy(s):∃T D,s.takeWhile Ko=T/\s.dropWhile Ko=D/\s=T++D/\(∀b∈T,Ko b=φ)/\(D=[]\/∃x D',D=x::D'/\Ko x=χ):=by
 refine⟨_,_,ω,ω,Gx.symm,um,?_⟩;cases hd:s.dropWhile Ko with
 |nil=>exact .inl rfl
 |cons x D'=>exact .inr ⟨x,D',ω,by
  have:=List.head?_dropWhile_not Ko s;rw[hd]at this;simpa using this⟩
theorem pf(k)(h)(n)(s)(I:O s<1000000):VF (J4 (k+1)) 155 [CG ⟨⟨s⟩⟩] h n λv=>v=.tuple #[CG ⟨⟨s.takeWhile Ko⟩⟩,CG ⟨⟨s.dropWhile Ko⟩⟩]:=by
 refine zO R4 ?_;have⟨T,D,u,q,F,l,A⟩:=zfy s;rw[u,q];have g:O s=O T+O D:=by grind
 refine ZA (k:=?_);refine ye (α:=Nat) (λm=>[(0,CG ⟨⟨s⟩⟩),(4,CC .i64 (m:Int))]) (λm h' n' w=>h=h'/\n=n'/\w=[]/\m<=O T) (λm=>O T-m) 0 P2 ⟨ω,ω,ω,Cz⟩ (by show O T-0<LL;unfold LL;omega) ?_;rintro m t _ _ _⟨rfl,rfl,rfl,H⟩;refine Zt (k:=?_);refine st_I (ik:=.i64) (a:=(O s:Int)) R5 ?_;have C:∀t':TF,t' 0=CG ⟨⟨s⟩⟩->m=O T->True:=λ_ _ _=>trivial;by_cases hmT:m=O T;have e:s.take m=T:=by grind
 have c:s.drop m=D:=by grind
 obtain rfl|⟨x,p,rfl,i⟩:=A;rw[Gg]at g;refine Zj (k:=?_);rw[wb rfl];refine Zb (k:=?_);refine ND (s:=s) (j:=m) R8 Z<|Zb (k:=?_);refine u4 (s:=s) (j:=m) R8 Z ?_;rw[e,c];refine kG (k:=?_);exact retF [CG ⟨⟨T⟩⟩,CG ⟨⟨[]⟩⟩] ω ω R2 rfl;rw[DJ]at g;have f:s[m]?=ξ x:=by grind
 have G:¬(48<=x.toNat/\x.toNat<=57):=λh=>by rw[nh.2 h]at i;cases i
 refine jC R6 Z<|Zw (k:=?_);refine yH (j:=m) R8 f ?_;by_cases B:48<=x.toNat;refine oa R6 Z ?_;repeat refine zR (k:=?_)
 refine yH (j:=m) R8 f<|Zj (k:=?_);exact BC;refine mD R6 Z<|Zj (k:=?_);exact BC;obtain⟨x,i⟩:∃x,T[m]?=ξ x:=⟨T[m]'Z,CD Z⟩;have f:s[m]?=ξ x:=by grind
 have B:=nh.1 (l x (CE i));refine jC R6 Z<|Zw (k:=?_);refine yH (j:=m) R8 f<|oa R6 Z ?_;repeat refine zR (k:=?_)
 refine yH (j:=m) R8 f<|Zr (k:=?_);exact goOn (m+1) Z P2 ⟨ω,ω,ω,by show m+1<=_;omega⟩
def LD(mi:Bool)(m r:List UInt8):List UInt8×List UInt8×Bool:=
 if m=[48]then(m,[],!mi&&r.isEmpty)
 else if m=[]\/m.head?=ξ 48 then(m,[],χ)
 else if r=[]then(m,[],φ)
 else if r.head?≠ξ 47 then(m,[],χ)
 else(m,(r.drop 1).takeWhile Ko,((r.drop 1).dropWhile Ko).isEmpty&& !((r.drop 1).takeWhile Ko).isEmpty&&((r.drop 1).takeWhile Ko).head? != ξ 48&&(r.drop 1).takeWhile Ko != [49])
def zl9(s):Kr s=LD (z6 s) ((xB s).takeWhile Ko) ((xB s).dropWhile Ko):=rfl
theorem eo{x}{l}{c:UInt8}(h:x.toNat≠c.toNat):(x::l).head?≠ξ c:=λe=>h (by
 have:x=c:=by simpa using e
 rw[this])
theorem cn(k)(h)(n)(s)(J:O s<1000000):VX (J4 (k+4)) 115 [CG ⟨⟨s⟩⟩] h n λv=>v=.tuple #[.agg #[U (z6 s),CG ⟨⟨(Kr s).1⟩⟩,CG ⟨⟨(Kr s).2.1⟩⟩],U (Kr s).2.2]:=by
 apply zw R4;rw[zl9];have A:=RQ s;apply(zN);apply xV R5;apply(kG);apply xV R5;apply(zN);generalize hh:upd (upd h (3*n+2) _) (3*(n+1)+2) _=h1;have a:∃e,h1 (3*n+2)=ξ (.row [U χ,CG ⟨⟨[]⟩⟩,CG ⟨⟨[]⟩⟩] e):=⟨_,by rw[<-hh,zm Z,zg];rfl⟩;have f:∃e,h1 (3*(n+1)+2)=ξ (.row [U χ,CG ⟨⟨[]⟩⟩,CG ⟨⟨[]⟩⟩] e):=⟨_,gQ⟩;have⟨p,a⟩:=a;have⟨q,f⟩:=f;have g:J3 n h h1:=λb c=>by rw[<-hh,zm Z,zm Z]
 apply(zM);apply yi _ R5 (zfz k h1 (n+1+1) s);rintro _ rfl;generalize xB s=B at A⊢;generalize z6 s=mi;apply(Zl);apply yF (cs:=[U mi]) R8 f zb gN;apply(zN);generalize hh:upd h1 (3*(n+1)+2) _=h2;replace a:h2 (3*n+2)=ξ (.row [U χ,CG ⟨⟨[]⟩⟩,CG ⟨⟨[]⟩⟩] p):=by rw[<-hh,zm Z];exact a
 replace f:h2 (3*(n+1)+2)=ξ (.row [U mi,CG ⟨⟨[]⟩⟩,CG ⟨⟨[]⟩⟩] q):=by rw[<-hh,zg];rfl
 replace g:J3 n h h2:=λb c=>by rw[<-hh,zm Z,g b c]
 apply(zM);apply yi _ R5 (pf (k+2) h2 (n+1+1) B Z);rintro _ rfl;have m:O (B.dropWhile Ko)<=O B:=(List.dropWhile_sublist Ko).length_le;generalize B.takeWhile Ko=M;generalize B.dropWhile Ko=R at m⊢;repeat apply(zR)
 apply yF (cs:=[CG ⟨⟨M⟩⟩]) R8 f zb gN;generalize hh:upd h2 (3*(n+1)+2) _=h3;replace a:h3 (3*n+2)=ξ (.row [U χ,CG ⟨⟨[]⟩⟩,CG ⟨⟨[]⟩⟩] p):=by rw[<-hh,zm Z];exact a
 replace f:h3 (3*(n+1)+2)=ξ (.row [U mi,CG ⟨⟨M⟩⟩,CG ⟨⟨[]⟩⟩] q):=by rw[<-hh,zg];rfl
 replace g:J3 n h h3:=λb c=>by rw[<-hh,zm Z,g b c]
 apply(Zl);apply zT R6 f (v:=CG ⟨⟨M⟩⟩) R2;have i:yB Kc 171 h3 ⟨3*(n+1)+2,0,θ⟩=ξ (.agg #[U mi,CG ⟨⟨M⟩⟩,CG ⟨⟨[]⟩⟩]):=yw R2 f ω zb rfl;by_cases h48:M=[48]
 .apply un φ R6 (by rw[h48];rfl);apply(Zo);apply z7 (v:=.agg #[U mi,CG ⟨⟨M⟩⟩,CG ⟨⟨[]⟩⟩]) R5 i;cases mi with
  |true=>
   repeat apply(zR)
   apply yc [U φ,CG ⟨⟨M⟩⟩,CG ⟨⟨[]⟩⟩] R7 ω a ω bJ;apply(kG);apply yR (U χ) R6 (zg _ _ _) ω Z (λb c=>(zm Z).trans (g b c))
   grind [LD]
  |false=>
   cases R with
   |nil=>
    repeat apply(zR)
    apply yc [U χ,CG ⟨⟨M⟩⟩,CG ⟨⟨[]⟩⟩] R7 ω a ω bJ;apply(kG);apply yR (U φ) R6 (zg _ _ _) ω Z (λb c=>(zm Z).trans (g b c))
    grind [LD]
   |cons z R=>
    repeat apply(zR)
    apply yc [U χ,CG ⟨⟨M⟩⟩,CG ⟨⟨[]⟩⟩] R7 ω a ω bJ;apply(kG);apply yR (U χ) R6 (zg _ _ _) ω Z (λb c=>(zm Z).trans (g b c))
    grind [LD]
 apply un χ R6 (by simpa using h48);apply(Zz);apply zT R6 f (v:=CG ⟨⟨M⟩⟩) R2;have F:∀t':TF,LD mi M R=(M,[],χ)->True:=λ_ _=>trivial;cases M with
 |nil=>
  apply(Zo);apply z7 (v:=.agg #[U mi,CG ⟨⟨[]⟩⟩,CG ⟨⟨[]⟩⟩]) R5 i;apply yc [U mi,CG ⟨⟨[]⟩⟩,CG ⟨⟨[]⟩⟩] R7 ω a ω bJ;apply(kG);apply yR (U χ) R6 (zg _ _ _) ω Z (λb c=>(zm Z).trans (g b c))
  grind [LD]
 |cons y M=>
 repeat apply(zR)
 apply zT R6 f (v:=CG ⟨⟨y::M⟩⟩) R2;apply yH (s:=y::M) (j:=0) R8 ω;by_cases hy:y.toNat=48
 .have G:y=48:=GX.1 hy;apply(Zo);apply z7 (v:=.agg #[U mi,CG ⟨⟨y::M⟩⟩,CG ⟨⟨[]⟩⟩]) R5 i;apply yc [U mi,CG ⟨⟨y::M⟩⟩,CG ⟨⟨[]⟩⟩] R7 ω a ω bJ;apply(kG);apply yR (U χ) R6 (zg _ _ _) ω Z (λb c=>(zm Z).trans (g b c))
  grind [LD]
 have H:¬(y::M=[]\/(y::M).head?=ξ 48):=by grind [eo]
 apply(Zj);cases R with
 |nil=>
  apply(Zo);apply z7 (v:=.agg #[U mi,CG ⟨⟨y::M⟩⟩,CG ⟨⟨[]⟩⟩]) R5 i;apply yc [U mi,CG ⟨⟨y::M⟩⟩,CG ⟨⟨[]⟩⟩] R7 ω a ω bJ;apply(kG);apply yR (U φ) R6 (zg _ _ _) ω Z (λb c=>(zm Z).trans (g b c))
  grind [LD]
 |cons z R=>
 apply(ZB);apply yH (s:=z::R) (j:=0) R8 ω;by_cases hz:z.toNat=47;case neg=>
  apply(Zo);apply z7 (v:=.agg #[U mi,CG ⟨⟨y::M⟩⟩,CG ⟨⟨[]⟩⟩]) R5 i;apply yc [U mi,CG ⟨⟨y::M⟩⟩,CG ⟨⟨[]⟩⟩] R7 ω a ω bJ;apply(kG);apply yR (U χ) R6 (zg _ _ _) ω Z (λb c=>(zm Z).trans (g b c))
  grind [LD,eo]
 have C:LD mi (y::M) (z::R)=(y::M,R.takeWhile Ko,(R.dropWhile Ko).isEmpty&& !(R.takeWhile Ko).isEmpty&&(R.takeWhile Ko).head? != ξ 48&&R.takeWhile Ko != [49]):=by
  have I:z=47:=GX.1 hz
  grind [LD]
 rw[C];rw[DJ]at m;apply(ZB);apply u4 (s:=z::R) (j:=1) R8 eC;rw[show(z::R).drop 1=R from rfl];apply yi _ R5 (pf (k+2) h3 (n+1+1) R Z);rintro _ rfl;generalize R.takeWhile Ko=D;generalize R.dropWhile Ko=E;repeat apply(zR)
 apply yF (cs:=[CG ⟨⟨D⟩⟩]) R8 f zb gN;generalize hh:upd h3 (3*(n+1)+2) _=h4;replace a:h4 (3*n+2)=ξ (.row [U χ,CG ⟨⟨[]⟩⟩,CG ⟨⟨[]⟩⟩] p):=by rw[<-hh,zm Z];exact a
 replace f:h4 (3*(n+1)+2)=ξ (.row [U mi,CG ⟨⟨y::M⟩⟩,CG ⟨⟨D⟩⟩] q):=by rw[<-hh,zg];rfl
 replace g:J3 n h h4:=λb c=>by rw[<-hh,zm Z,g b c]
 apply(kG);apply(zl);apply yd (v:=.agg #[U mi,CG ⟨⟨y::M⟩⟩,CG ⟨⟨D⟩⟩]) R6 (yw R2 f ω zb ω) R2;cases E with
 |cons x E=>
  repeat (first|apply yd R6 (nJ ω f R2) R2|apply(zD))
  apply jX (cs:=[U mi,CG ⟨⟨y::M⟩⟩,CG ⟨⟨D⟩⟩]) R7 ω a zb bJ R3;repeat apply(zD)
  apply(zN);exact yR (U χ) (cs:=[U mi,CG ⟨⟨y::M⟩⟩,CG ⟨⟨D⟩⟩]) R6 (zg _ _ _) ω Z (λb c=>(zm Z).trans (g b c)) rfl
 |nil=>
 cases D with
 |nil=>
  repeat (first|apply yd R6 (nJ ω f R2) R2|apply(zD))
  apply jX (cs:=[U mi,CG ⟨⟨y::M⟩⟩,CG ⟨⟨[]⟩⟩]) R7 ω a zb bJ R3;repeat apply(zD)
  apply(zN);exact yR (U χ) (cs:=[U mi,CG ⟨⟨y::M⟩⟩,CG ⟨⟨[]⟩⟩]) R6 (zg _ _ _) ω Z (λb c=>(zm Z).trans (g b c)) rfl
 |cons u D=>
 by_cases hu:u.toNat=48
 .have l:u=48:=GX.1 hu;repeat (first|apply yd R6 (nJ ω f R2) R2|apply(zD))
  apply jX (cs:=[U mi,CG ⟨⟨y::M⟩⟩,CG ⟨⟨u::D⟩⟩]) R7 ω a zb bJ R3;repeat apply(zD)
  apply(zN);apply yR (U χ) (cs:=[U mi,CG ⟨⟨y::M⟩⟩,CG ⟨⟨u::D⟩⟩]) R6 (zg _ _ _) ω Z (λb c=>(zm Z).trans (g b c));rw[l];rfl
 have l:((u::D).head? != ξ 48)=φ:=by grind [eo]
 repeat (first|apply yd R6 (nJ ω f R2) R2|apply(zD))
 apply jX (cs:=[U mi,CG ⟨⟨y::M⟩⟩,CG ⟨⟨u::D⟩⟩]) R7 ω a zb bJ ⟨ω,ω,(fR aD)⟩;repeat apply(zD)
 apply(zN);apply yR (U (u::D != [49])) (cs:=[U mi,CG ⟨⟨y::M⟩⟩,CG ⟨⟨u::D⟩⟩]) R6 (zg _ _ _) ω Z (λb c=>(zm Z).trans (g b c));rw[l];rfl
end
def dotR:List Rat->List Rat->Rat
 |x::xs,y::ys=>x*y+dotR xs ys
 |_,_=>0
def kV(ys):dotR [] ys=0:=by cases ys<;>rfl
def zfp:∀{xs ys:List Rat} {x y:Rat},O xs=O ys->dotR (xs++[x]) (ys++[y])=dotR xs ys+x*y:=by
 intro xs;induction xs with
 |nil=>
  intro ys x y h;cases ys with
  |nil=>show x*y+0=0+x*y;rw[Rat.add_zero,Rat.zero_add]
  |cons _ _=>cases h
 |cons a xs ih=>
  intro ys x y h;cases ys with
  |nil=>cases h
  |cons b ys=>
   show a*b+dotR (xs++[x]) (ys++[y])=a*b+dotR xs ys+x*y;rw[ih (by simpa using h),Rat.add_assoc]
def xa{l:List α}{d}(h:l[j]?=ξ d):l.take (j+1)=l.take j++[d]:=by rw[ac4,h];rfl
def wK{x y}(hx:xs[j]?=ξ x)(c:ys[j]?=ξ y):dotR (xs.take (j+1)) (ys.take (j+1))=dotR (xs.take j) (ys.take j)+x*y:=by rw[xa hx,xa c];have d:=(CK.1 hx).1;have e:=(CK.1 c).1;exact zfp aD
def nf(hx:∀q∈xs,Sz a q)(e:∀q∈ys,Sz b q):∀j,j<=O xs->j<=O ys->Sz (1+j*(a+b+1)) (dotR (xs.take j) (ys.take j)):=by
 intro j;induction j with
 |zero=>intro _ _;rw[EK,kV];exact Sz.zero _ Z
 |succ j ih=>
  intro f g;have c:=CD (l:=xs) (i:=j) Z;have d:=CD (l:=ys) (i:=j) Z;rw[wK c d];refine((ih Z Z).add ((hx _ (CE c)).mul (e _ (CE d)))).mono ?_;rw[EI];omega
def zo5(k)(h)(n)(s)(e:O s<1000000):CX (J4 (k+4)) 115 [CG ⟨⟨s⟩⟩] h n λv _ _=>∃neg m d ok,v=.tuple #[.agg #[U neg,CG ⟨⟨m⟩⟩,CG ⟨⟨d⟩⟩],U ok]/\neg=z6 s/\Kr s=(m,d,ok):=by apply wc (cn k h n s e);rintro v f g w⟨a,b,c,rfl⟩;exact⟨a,b,c,_,_,_,_,ω,ω,ω⟩
def PM(k)(h)(n)(m:AllD s)(j:O s<=570):CX (J4 (k+6)) 119 [CG ⟨⟨s⟩⟩] h n (IV ((dval s:Nat):Int)):=by apply wc (YI k h n m j);rintro v o p w⟨a,l,c,L,rfl,⟨b,d,e,f,g⟩,i⟩;refine⟨b,d,e,_,_,_,_,ω,?_,L,f,g,?_⟩;rw[BG];omega;rw[i];omega
theorem Frm.len{m d}(h:Frm s m d):O m<=O s/\O d<=O s:=by have:=congrArg O h.eq;grind
def kQ{m}(h:AllD m)(a:O m<=600):((dval m:Nat):Int).natAbs<BW:=by rw[CR];refine CS (qy h) (CU (CQ zd a) ?_);unfold BW;decide+kernel
theorem PN{m d}(h:Kr s=(m,d,χ)):¬vF s:=by grind [oP]
def vR{m d}(h:Kr s=(m,d,φ))(c:d=[]):vF s/\(zj s).num=(if z6 s then -(dval m:Int)else dval m)/\denZ (zj s)=0:=by have⟨q,a,e,b⟩:=(rZ h).rat (.inl c);rw[pA a];rw[Cw c]at b;exact⟨⟨q,a⟩,e,yr.2 b⟩
theorem tk{m d}(h:Kr s=(m,d,φ))(b:¬d=[])(j:CZ (dval m) (dval d)=1):vF s/\(zj s).num=(if z6 s then -(dval m:Int)else dval m)/\denZ (zj s)=((dval d:Nat):Int):=by have c:=rZ h;have⟨q,f,i,g⟩:=c.rat (.inr j);rw[pA f];rw[Cv b]at g;refine⟨⟨q,f⟩,i,?_⟩;rw[<-g];refine wq (mt yr.1 λe=>?_);obtain a|⟨a,l⟩:=c.den;exact b a;have:=qC c.dd b a;grind [ag]
theorem qp{m d}(h:Kr s=(m,d,φ))(a:¬d=[])(b:¬CZ (dval m) (dval d)=1):¬vF s:=by grind [oP]
section
variable{s:List UInt8}{h:HF}{n:Nat}
def TL(s:List UInt8):Prop:=O s<1000000/\∀m d,Kr s=(m,d,φ)->O m<=570/\O d<=570
def TL.of(h:O s<500):TL s:=⟨Z,λm d e=>by have:=(rZ e).len;omega⟩
def SC(k)(g:GG h n)(hs:TL s):CX (J4 (k+9)) 74 [CG ⟨⟨s⟩⟩] h n λv Z0 n'=>∃b a l c d e f g ok,v=.tuple #[.agg #[U b,Y a l c,U d,Y e f g],U ok]/\IW Z0 n' b a l c (zj s).num/\IW Z0 n' d e f g (denZ (zj s))/\(ok=φ↔vF s):=by apply zw R4;apply(Zk);intro ab br c9;apply(zG);apply sC (zo5 _ _ _ s hs.1);rintro _ ac b5⟨o,Z4,C,Z3,rfl,z12,i⟩ cm ca;cases Z3;apply(Zk);intro ad bs cb;apply sS [U o,CG ⟨⟨Z4⟩⟩,CG ⟨⟨C⟩⟩];intro ae bt be;apply(zG);apply sT #[U χ,η,U χ,η];apply sS [U χ,η,U χ,η];intro af bu bf;apply(zq);exact⟨_,_,_,_,_,_,_,_,_,ω,(EN _ _).as (by rw[xX (PN i)];rfl),(EN _ _).as (by rw[xX (PN i)];rfl),⟨λm=>(by cases m),λm=>Cu m (PN i)⟩⟩;have j:=rZ i;have a2:=hs.2 _ _ i;apply(Zk);intro ag bv cc;apply sS [U o,CG ⟨⟨Z4⟩⟩,CG ⟨⟨C⟩⟩];intro ah bw bg;apply(zG);apply sC (PM _ _ _ j.dm Z);rintro _ ai b6⟨q,p,w,u,rfl,D⟩ cn cd;apply sT #[U q,Y p w u,U χ,η];apply(sA);intro aj bx ce;apply sS [U q,Y p w u,U χ,η];intro ak bz bh;apply(zG);cases o;apply(zG);by_cases q21:C=[];apply un φ R6 (by simp[q21]);apply(zG);apply sS [U q,Y p w u,U χ,η];intro al c0 bi;apply(zq);exact⟨_,_,_,_,_,_,_,_,_,ω,D.t.as (by rw[(vR i q21).2.1,<-z12];rfl),(EN _ _).as (vR i q21).2.2.symm,⟨λ_=>(vR i q21).1,λ_=>rfl⟩⟩;apply un χ R6 (by simp[q21]);apply(zG);apply sC (PM _ _ _ j.dd Z);rintro _ am b7⟨L,J,S,N,rfl,P⟩ co cf;apply(zG);apply sS [U q,Y p w u,U L,Y J S N];intro an c1 bj;apply(zG);apply sC (gcdX _ g.x D.t P.t (kQ j.dm Z) (kQ j.dd Z));rintro _ ao b8⟨a5,a3,b3,a9,rfl,a0⟩ cp cg;apply sC (tU _ a0);rintro _ ap b9⟨a6,rfl,V⟩ cq ch;obtain⟨rfl,G⟩|⟨rfl,G⟩:=J7 V;apply(zG);apply sT #[U χ,η,U χ,η];apply sS [U χ,η,U χ,η];intro aq c2 bk;apply(zq);exact⟨_,_,_,_,_,_,_,_,_,ω,(EN _ _).as (by rw[xX (qp i q21 aD)];rfl),(EN _ _).as (by rw[xX (qp i q21 aD)];rfl),⟨λm=>(by cases m),λm=>Cu m (qp i q21 aD)⟩⟩;apply(zG);apply sS [U q,Y p w u,U L,Y J S N];intro ar c3 bl;apply(zq);exact⟨_,_,_,_,_,_,_,_,_,ω,D.t.as (by rw[(tk i q21 sn).2.1,<-z12];rfl),P.t.as (tk i q21 sn).2.2.symm,⟨λ_=>(tk i q21 sn).1,λ_=>rfl⟩⟩;apply(zG);apply sC (negX _ D.t);rintro _ au ba⟨A,y,F,B,rfl,I⟩ cr ci;apply(zG);apply sS [U A,Y y F B,U χ,η];intro av c4 bm;apply(zG);by_cases q31:C=[];apply un φ R6 (by simp[q31]);apply(zG);apply sS [U A,Y y F B,U χ,η];intro aw c5 bn;apply(zq);exact⟨_,_,_,_,_,_,_,_,_,ω,I.t.as (by rw[(vR i q31).2.1,<-z12];rfl),(EN _ _).as (vR i q31).2.2.symm,⟨λ_=>(vR i q31).1,λ_=>rfl⟩⟩;apply un χ R6 (by simp[q31]);apply(zG);apply sC (PM _ _ _ j.dd Z);rintro _ ax bb⟨M,K,T,Z1,rfl,R⟩ cs cj;apply(zG);apply sS [U A,Y y F B,U M,Y K T Z1];intro ay c6 bo;apply(zG);apply sC (gcdX _ g.x I.t R.t (by rw[E2];exact(kQ j.dm Z)) (kQ j.dd Z));rintro _ az bc⟨a7,a4,b4,aa,rfl,a1⟩ ct ck;apply sC (tU _ a1);rintro _ b0 bd⟨a8,rfl,W⟩ cu cl;obtain⟨rfl,H⟩|⟨rfl,H⟩:=J7 W;apply(zG);apply sT #[U χ,η,U χ,η];apply sS [U χ,η,U χ,η];intro b1 c7 bp;apply(zq);exact⟨_,_,_,_,_,_,_,_,_,ω,(EN _ _).as (by rw[xX (qp i q31 aD)];rfl),(EN _ _).as (by rw[xX (qp i q31 aD)];rfl),⟨λm=>(by cases m),λm=>Cu m (qp i q31 aD)⟩⟩;apply(zG);apply sS [U A,Y y F B,U M,Y K T Z1];intro b2 c8 bq;apply(zq);exact⟨_,_,_,_,_,_,_,_,_,ω,I.t.as (by rw[(tk i q31 sN).2.1,<-z12];rfl),R.t.as (tk i q31 sN).2.2.symm,⟨λ_=>(tk i q31 sN).1,λ_=>rfl⟩⟩
def SD(k)(g:GG h n)(m:O s<500):CX (J4 (k+9)) 74 [CG ⟨⟨s⟩⟩] h n λv i j=>∃b a l c d e f g ok,v=.tuple #[.agg #[U b,Y a l c,U d,Y e f g],U ok]/\IW i j b a l c (zj s).num/\IW i j d e f g (denZ (zj s))/\(ok=φ↔vF s):=SC k g (.of m)
def bdOk(s:List UInt8):Prop:=s=[]\/vF s
def so:¬vF []:=by rw[oP];rintro⟨h,_⟩;revert h;decide
def pairOk(lo hi:List UInt8):Prop:=bdOk lo/\bdOk hi/\(lo=[]\/hi=[]\/zj lo<=zj hi)
def qi(k)(g:GG h n)(hs:O s<500):CX (J4 (k+10)) 93 [CG ⟨⟨s⟩⟩] h n λv F G=>∃x b a l c d e f g ok,v=.tuple #[.agg #[U x,U b,Y a l c,U d,Y e f g],U ok]/\(x=φ↔s≠[])/\IW F G b a l c (zj s).num/\IW F G d e f g (denZ (zj s))/\(ok=φ↔bdOk s):=by apply zw R4;apply(Zk);intro I Z0 a7;apply(zG);by_cases q12:s=[];apply un φ R6 AZ;apply(zG);apply sT #[U χ,U χ,η,U χ,η];apply sS [U χ,U χ,η,U χ,η];intro J a0 T;apply(zq);exact⟨_,_,_,_,_,_,_,_,_,_,ω,⟨λi=>(by cases i),λi=>Cu q12 i⟩,(EN _ _).as (by rw[q12,xX so];rfl),(EN _ _).as (by rw[q12,xX so];rfl),⟨λ_=>.inl q12,λ_=>rfl⟩⟩;apply un χ R6 AZ;apply(zG);apply sC (SD _ g.x hs);rintro _ K S⟨m,j,y,o,p,q,u,w,H,rfl,B,C,D⟩ ab a8;obtain⟨rfl,A⟩|⟨rfl,A⟩:=J7 D;apply(Zk);intro L a1 a9;apply sS [U m,Y j y o,U p,Y q u w];intro M a2 Z4;apply(zG);apply sT #[U φ,U m,Y j y o,U p,Y q u w];apply(zG);apply sS [U φ,U m,Y j y o,U p,Y q u w];intro N a3 V;apply(zq);exact⟨_,_,_,_,_,_,_,_,_,_,ω,⟨λ_=>q12,λ_=>rfl⟩,B.t,C.t,⟨λi=>(by cases i),λi=>by obtain i|i:=i;exact Cu i q12;exact Cu i A⟩⟩;apply(Zk);intro Z1 a4 aa;apply sS [U m,Y j y o,U p,Y q u w];intro P a5 W;apply(zG);apply sT #[U φ,U m,Y j y o,U p,Y q u w];apply(zG);apply sS [U φ,U m,Y j y o,U p,Y q u w];intro R a6 Z3;apply(zq);exact⟨_,_,_,_,_,_,_,_,_,_,ω,⟨λ_=>q12,λ_=>rfl⟩,B.t,C.t,⟨λ_=>.inr A,λ_=>rfl⟩⟩
def jP(k)(g:GG h n){lo}(a8:O lo<500)(a3:O hi<500)(ab:Sz a (zj lo))(aa:Sz b (zj hi))(b8:a+b<=2496):CX (J4 (k+11)) 40 [CG ⟨⟨lo⟩⟩,CG ⟨⟨hi⟩⟩] h n λv R S=>∃x1 b1 a1 l1 c1 d1 e1 f1 g1 x2 b2 a2 l2 c2 d2 e2 f2 g2 ok,v=.tuple #[.agg #[η,U x1,U b1,Y a1 l1 c1,U d1,Y e1 f1 g1,U x2,U b2,Y a2 l2 c2,U d2,Y e2 f2 g2],U ok]/\(ok=φ↔pairOk lo hi)/\(ok=φ->(x1=φ↔lo≠[])/\IW R S b1 a1 l1 c1 (zj lo).num/\IW R S d1 e1 f1 g1 (denZ (zj lo))/\(x2=φ↔hi≠[])/\IW R S b2 a2 l2 c2 (zj hi).num/\IW R S d2 e2 f2 g2 (denZ (zj hi))):=by apply zw R4;apply(Zk);intro af bt cj;apply(zG);apply sC (qi _ g.x a8);rintro _ ag bb⟨Z1,f,d,B,j,m,p,u,y,ac,rfl,I,K,M,a5⟩ cu ck;obtain⟨rfl,F⟩|⟨rfl,F⟩:=J7 a5;apply(Zk);intro ah bu cl;apply sS [U Z1,U f,Y d B j,U m,Y p u y];intro ai bv bf;apply(zG);apply sC (qi _ g.x a3);rintro _ aj bc⟨P,Z4,T,a4,V,W,Z3,Z0,a0,ad,rfl,ci,b9,ba,a6⟩ cv cm;obtain⟨rfl,a9⟩|⟨rfl,a9⟩:=J7 a6;apply(Zk);intro ak bw cn;apply sS [U P,U Z4,Y T a4 V,U W,Y Z3 Z0 a0];intro al bx bg;apply(zG);apply sT #[η,U χ,U χ,η,U χ,η,U χ,U χ,η,U χ,η];apply sS [η,U χ,U χ,η,U χ,η,U χ,U χ,η,U χ,η];intro am bz bh;exact BN;apply(Zk);intro an c0 co;apply sS [U P,U Z4,Y T a4 V,U W,Y Z3 Z0 a0];intro ao c3 bi;apply(zG);apply sT #[η,U χ,U χ,η,U χ,η,U χ,U χ,η,U χ,η];apply sS [η,U χ,U χ,η,U χ,η,U χ,U χ,η,U χ,η];intro ap c4 bj;exact BN;apply(Zk);intro aq c5 cp;apply sS [U Z1,U f,Y d B j,U m,Y p u y];intro ar c6 bk;apply(zG);apply sC (qi _ g.x a3);rintro _ au bd⟨D,i,e,C,l,o,q,w,A,ae,rfl,J,L,N,a7⟩ cw cq;obtain⟨rfl,H⟩|⟨rfl,H⟩:=J7 a7;apply(Zk);intro av c7 cr;apply sS [U D,U i,Y e C l,U o,Y q w A];intro aw c8 bl;apply(zG);apply sT #[η,U χ,U χ,η,U χ,η,U χ,U χ,η,U χ,η];apply sS [η,U χ,U χ,η,U χ,η,U χ,U χ,η,U χ,η];intro ax c9 bm;apply(zq);exact⟨_,_,_,_,_,_,_,_,_,_,_,_,_,_,_,_,_,_,_,ω,⟨λc=>AW,λc=>Cu c.2.1 H⟩,λc=>AW⟩;apply(Zk);intro ay ca cs;apply sS [U D,U i,Y e C l,U o,Y q w A];intro az cb bn;apply(zG);cases Z1;apply(zG);apply sT #[η,U χ,U f,Y d B j,U m,Y p u y,U D,U i,Y e C l,U o,Y q w A];apply sS [η,U χ,U f,Y d B j,U m,Y p u y,U D,U i,Y e C l,U o,Y q w A];intro b0 cc bo;apply(zq);exact⟨_,_,_,_,_,_,_,_,_,_,_,_,_,_,_,_,_,_,_,ω,⟨λ_=>⟨F,H,.inl (CW λc=>by cases I.2 c)⟩,λ_=>rfl⟩,λ_=>⟨I,K.t,M.t,J,L.t,N.t⟩⟩;apply(zG);cases D;apply(zG);apply sT #[η,U φ,U f,Y d B j,U m,Y p u y,U χ,U i,Y e C l,U o,Y q w A];apply sS [η,U φ,U f,Y d B j,U m,Y p u y,U χ,U i,Y e C l,U o,Y q w A];intro b3 cd bp;apply(zq);exact⟨_,_,_,_,_,_,_,_,_,_,_,_,_,_,_,_,_,_,_,ω,⟨λ_=>⟨F,H,.inr (.inl (CW λc=>by cases J.2 c))⟩,λ_=>rfl⟩,λ_=>⟨I,K.t,M.t,J,L.t,N.t⟩⟩;apply(zG);apply sC ((xp _ K.t M.t L.t N.t ab aa Z).cx);rintro _ b4 be⟨ch,rfl,G⟩ cy ct;obtain⟨rfl,G⟩|⟨rfl,G⟩|⟨rfl,G⟩:=G;apply(zG);apply sT #[η,U φ,U f,Y d B j,U m,Y p u y,U φ,U i,Y e C l,U o,Y q w A];apply sS [η,U φ,U f,Y d B j,U m,Y p u y,U φ,U i,Y e C l,U o,Y q w A];intro b5 ce bq;apply(zq);exact⟨_,_,_,_,_,_,_,_,_,_,_,_,_,_,_,_,_,_,_,ω,⟨λ_=>⟨F,H,.inr (.inr (Rat.le_of_lt G))⟩,λ_=>rfl⟩,λ_=>⟨I,K.t,M.t,J,L.t,N.t⟩⟩;apply(zG);apply sT #[η,U φ,U f,Y d B j,U m,Y p u y,U φ,U i,Y e C l,U o,Y q w A];apply sS [η,U φ,U f,Y d B j,U m,Y p u y,U φ,U i,Y e C l,U o,Y q w A];intro b6 cf br;apply(zq);exact⟨_,_,_,_,_,_,_,_,_,_,_,_,_,_,_,_,_,_,_,ω,⟨λ_=>⟨F,H,.inr (.inr (by rw[G];exact Rat.le_refl))⟩,λ_=>rfl⟩,λ_=>⟨I,K.t,M.t,J,L.t,N.t⟩⟩;apply(zG);apply sT #[η,U χ,U χ,η,U χ,η,U χ,U χ,η,U χ,η];apply sS [η,U χ,U χ,η,U χ,η,U χ,U χ,η,U χ,η];intro b7 cg bs;apply(zq);exact⟨_,_,_,_,_,_,_,_,_,_,_,_,_,_,_,_,_,_,_,ω,⟨λc=>AW,λc=>by obtain c|c|c:=c.2.2;exact Cu c (I.1 ω);exact Cu c (J.1 ω);exact Cu c (Rat.not_le.2 G)⟩,λc=>AW⟩
end
section
variable{h h':HF}{len lo n n':Nat}
structure StayO {D:Type}(P:List ψ->D->HF->Nat->Prop):Prop where
 go:∀c d h h' n b cs e,P c d h n->h b=ξ (.row cs e)->cs.all nu=φ->Only b h h'->P c d h' n
def ratP.stayO:StayO ratP:=⟨λ_ _ _ _ _ _ _ _ ⟨b,a,l,k,d,e,f,g,q,i,j⟩ o p c=>⟨b,a,l,k,d,e,f,g,q,i.only o p c,j.only o p c⟩⟩
def numP.stayO:StayO numP:=⟨λ_ _ _ _ _ _ _ _ ⟨b,a,l,k,d,e,f,g,q,i,j⟩ o p c=>⟨b,a,l,k,d,e,f,g,q,i.only o p c,j.only o p c⟩⟩
structure Fil {D:Type}(P:List ψ->D->HF->Nat->Prop)(h:HF)(n B:Nat)(cs:List ψ)(e:TypeId)(S:List D)(j:Nat):Prop where
 row:h B=ξ (.row cs e)
 len:O cs=O S*4
 nus:cs.all nu=φ
 rcs:Rec 4 (λc d=>P c d h n) (cs.take (j*4)) (S.take j)
theorem pU{c}{o}(h:o+O c<=O cs):(zu cs o c).take (o+O c)=cs.take o++c/\O (zu cs o c)=O cs:=by grind [zu,only]
theorem za5{c}{o}(a:cs.all nu=φ)(b:c.all nu=φ):(zu cs o c).all nu=φ:=by grind [zu,only]
section
variable{P:List ψ->D->HF->Nat->Prop}
def Fil.ext(b:Stay P){S}(f:Fil P h n B cs e S j)(x:J3 n h h')(g:n<=n')(a:B<3*n):Fil P h' n' B cs e S j:=
 ⟨(x B a).trans f.row,f.len,f.nus,f.rcs.mono λc d i=>b.go c d _ _ _ _ i x g⟩
def Fil.step(l:StayO P){c}{S}{d}(f:Fil P h n B cs e S j)(hj:S[j]?=ξ d)(a:O c=4)(s:c.all nu=φ)(i:P c d h n):Fil P (upd h B (ξ (.row (zu cs (j*4) c) e))) n B (zu cs (j*4) c) e S (j+1):=by
 have w:=(CK.1 hj).1;have g:j*4+O c<=O cs:=by rw[f.len,a];omega
 have⟨p,u⟩:=pU g;have o:Only B h (upd h B (ξ (.row (zu cs (j*4) c) e))):=λb q=>zm q;refine⟨zg _ _ _,u.trans f.len,za5 f.nus s,?_⟩;rw[a]at p;rw[EI,p,xa hj];exact(f.rcs.mono λc d i=>l.go c d _ _ _ _ _ _ i f.row f.nus o).snoc a (l.go c d _ _ _ _ _ _ i f.row f.nus o)
theorem Fil.start{z}{S}(a:h B=ξ (.row (rep m z) e))(c:O z=4)(b:z.all nu=φ)(hm:m=O S):Fil P h n B (rep m z) e S 0:=by
 refine⟨a,by rw[zmo,c,hm],?_,by rw[DU,EK,EK];exact .nil⟩;clear a hm;induction m with
 |zero=>rfl
 |succ m ih=>rw[rep,Hv,b,ih];rfl
def Fil.rs{S}(f:Fil P h n B cs e S (O S))(b:B<3*n):RS 4 P h n (Y (ξ ⟨B,0,θ⟩) (O S) (O S)) S:=by have c:=f.len;have a:=f.rcs;rw[C3,<-c,C3]at a;exact⟨cs,.at_ b f.row ω Cy Z aD,a⟩
end
def KH(lo:Nat)(h:HF)(n:Nat)(v:ψ)(l:List Rat):Prop:=QS h n v l/\∀ad len cap,v=Y (ξ ad) len cap->3*lo<=ad.block/\gro ad.block=χ
def KH.ext{l}(r:KH lo h n v l)(x:J3 n h h')(a:n<=n'):KH lo h' n' v l:=⟨r.1.ext x a,r.2⟩
def KH.x{l}(r:KH lo h n v l)(t:Tx n h n' h':=by exact zx):KH lo h' n' v l:=r.ext t.2 t.1
theorem rC(k)(g:GG h n){a}(F:Sl h n 1 (Y a len cap) (strs S))(hl:∀s∈S,O s<500)(hb:O S<1000000):
  CX (J4 (k+10)) 39 [Y a len cap] h n λv h' n'=>∃a' l' c' C,v=.tuple #[Y a' l' c',U C]/\(C=φ↔∀s∈S,vF s)/\(C=φ->KH n h' n' (Y a' l' c') (S.map zj)):=by
 apply zw R4;have e1:=z8 F;subst e1;apply(Zu);apply vB R9 Z;apply(Zn);generalize hh:upd h (3*n+2) _=h1;have Z0:∃cs,Fil ratP h1 (n+1) (3*n+2) cs 68 (S.map zj) 0:=⟨_,.start gZ ω ω (by rw[CN])⟩;have a0:J3 n h h1:=by grind [E9]
 refine ye (α:=Nat) (λz=>[(4,Y (ξ ⟨3*n+2,0,θ⟩) (O S) (O S)),(12,Y a (O S) cap),(13,υ (O S:Int)),(14,υ (z:Int))])
  (λz h' n' w'=>w'=[]/\n+1<=n'/\J3 n h h'/\(∃cs,Fil ratP h' n' (3*n+2) cs 68 (S.map zj) z)/\z<=O S/\∀s∈S.take z,vF s) (λz=>O S-z)
  0 P4 ⟨ω,Cy,a0,Z0,Cz,λs F=>Cu F eC⟩ (by show O S-0<LL;unfold LL;omega) ?_
 rintro z t h2 G _⟨rfl,a2,p,⟨cs,Z4⟩,hz,i⟩;apply(zN);by_cases hze:z=O S;apply(Zp);rw[hze,C3]at i;have K:=Z4;rw[hze,<-CN]at K;have Z3:=K.rs (show 3*n+2<3*G from Z);rw[CN]at Z3;exact retX [Y (ξ ⟨3*n+2,0,θ⟩) (O S) (O S),U φ] R3 (show n<=G from Z) p ⟨_,_,_,_,ω,⟨λ_=>i,λ_=>rfl⟩,λ_=>⟨Z3,λad l c e=>by cases e;exact⟨bJ,zB n⟩⟩⟩;obtain⟨s,w⟩:∃s,S[z]?=ξ s:=⟨S[z]'Z,CD Z⟩;have u:s∈S:=CE w;apply(ZD);refine yE R7 (F.ext p (show n<=G from Z)) R2 w (λ_=>rfl) R4 λ_=>?_;apply(kG);apply(zM);apply gJ R5 (SD k (g.ext p (show n<=G from Z)) (hl s u));rintro _ h3 H⟨b,R,l,c,d,e,f,T,C,rfl,i3,j3,L⟩ W N;repeat apply(zR)
 refine wt [U χ,η,U χ,η] R6 λh4 I J=>?_;refine mq [U b,Y R l c,U d,Y e f T] R5 I R3 zb ω eF λZ1 p5 A=>?_;have o:=(Z4.ext ratP.stay N W Z).ext ratP.stay J Zq Z;have x5:J3 H h4 Z1:=λb hb=>A b Z;have i5:=(i3.ext J Zq).only I ω A;have j5:=(j3.ext J Zq).only I ω A;have q:Fil ratP Z1 (H+1) (3*n+2) cs 68 (S.map zj) z:=⟨(A _ Z).trans o.row,o.len,o.nus,o.rcs.mono λc d hp=>ratP.stayO.go c d _ _ _ _ _ _ hp I ω A⟩;have y:J3 n h Z1:=λb hb=>(x5 b Z).trans ((J b Z).trans ((N b Z).trans (p b hb)));apply(kG);cases C with
 |false=>
  apply(Zr);exact retX [η,U χ] R3 (show n<=H+1 from Z) y ⟨_,_,_,_,ω,⟨λh=>Cu h eC,λh=>L.2 (h s u)⟩,λh=>Cu h eC⟩
 |true=>
 apply(ZE);refine z7 R5 (yw R2 p5 ω zb ω)<|PL R9 Z<|yF ⟨ω,ω,ω,ω,AK,ω,ω,ω⟩ q.row (by rw[q.len,CN];omega) eF ?_;have V:=q.step ratP.stayO (j:=z) (c:=[U b,Y R l c,U d,Y e f T]) aD ω ω ⟨_,_,_,_,_,_,_,_,ω,i5,j5⟩;apply(Za);refine goOn (z+1) Z P4 ⟨ω,by show n+1<=H+1;omega,λb hb=>(zm Z).trans (y b hb),⟨_,V⟩,by show z+1<=O S;omega,?_⟩;intro s' M;rw[xa w]at M;obtain h'|h':=DQ.1 M;exact i s' h';rw[CV.1 h'];exact L.1 rfl
theorem OC(k){a}(G:Sl h n 1 (Y a len cap) (strs S))(hl:∀s∈S,O s<500)(hb:O S<1000000):
  CX (J4 (k+7)) 31 [Y a len cap] h n λv h' n'=>∃a' l' c' C,v=.tuple #[Y a' l' c',U C]/\(C=φ↔∀s∈S,vF s)/\(C=φ->NS h' n' (Y a' l' c') (S.map zj)):=by
 apply zw R4;have e1:=z8 G;subst e1;apply(Zu);apply vB R9 Z;apply(Zn);generalize hh:upd h (3*n+2) _=h1;have a0:∃cs,Fil numP h1 (n+1) (3*n+2) cs 119 (S.map zj) 0:=⟨_,.start gZ ω ω (by rw[CN])⟩;have a2:J3 n h h1:=by grind [E9]
 refine ye (α:=Nat) (λz=>[(0,Y a (O S) cap),(4,Y (ξ ⟨3*n+2,0,θ⟩) (O S) (O S)),(5,υ (z:Int))])
  (λz h' n' w'=>w'=[]/\n+1<=n'/\J3 n h h'/\(∃cs,Fil numP h' n' (3*n+2) cs 119 (S.map zj) z)/\z<=O S/\∀s∈S.take z,vF s) (λz=>O S-z)
  0 P3 ⟨ω,Cy,a2,a0,Cz,λs G=>Cu G eC⟩ (by show O S-0<LL;unfold LL;omega) ?_
 rintro z t h2 R _⟨rfl,a3,y,⟨cs,V⟩,hz,g⟩;apply(zN);by_cases hze:z=O S;apply(Zp);rw[hze,C3]at g;have K:=V;rw[hze,<-CN]at K;have F:=K.rs (show 3*n+2<3*R from Z);rw[CN]at F;exact retX [Y (ξ ⟨3*n+2,0,θ⟩) (O S) (O S),U φ] R3 (show n<=R from Z) y ⟨_,_,_,_,ω,⟨λ_=>g,λ_=>rfl⟩,λ_=>F⟩;obtain⟨s,u⟩:∃s,S[z]?=ξ s:=⟨S[z]'Z,CD Z⟩;have p:s∈S:=CE u;apply(Zx);refine yE R7 (G.ext y (show n<=R from Z)) R2 u (λ_=>rfl) R4 λ_=>?_;apply gJ R5 (PI k _ _ s (by have:=hl s p;omega));rintro _ h3 H⟨b,T,l,c,d,e,f,Z4,C,q,rfl,i3,j3,L,Z3⟩ Z0 N;repeat apply(zR)
 refine wt [U χ,η,U χ,η] R6 λh4 I J=>?_;refine mq [U b,Y T l c,U d,Y e f Z4] R5 I R3 zb ω eF λZ1 p5 A=>?_;have i:=(V.ext numP.stay N Z0 Z).ext numP.stay J Zq Z;have x5:J3 H h4 Z1:=λb hb=>A b Z;have i5:=(i3.ext J Zq).only I ω A;have j5:=(j3.ext J Zq).only I ω A;have o:Fil numP Z1 (H+1) (3*n+2) cs 119 (S.map zj) z:=⟨(A _ Z).trans i.row,i.len,i.nus,i.rcs.mono λc d hp=>numP.stayO.go c d _ _ _ _ _ _ hp I ω A⟩;have w:J3 n h Z1:=λb hb=>(x5 b Z).trans ((J b Z).trans ((N b Z).trans (y b hb)));apply(kG);cases C with
 |false=>
  apply(Zr);exact retX [η,U χ] R3 (show n<=H+1 from Z) w ⟨_,_,_,_,ω,⟨λh=>Cu h eC,λh=>Z3 (h s p)⟩,λh=>Cu h eC⟩
 |true=>
 have F:=pA (L ω);subst F;apply(ZE);refine z7 R5 (yw R2 p5 ω zb ω)<|PL R9 Z<|yF ⟨ω,ω,ω,ω,AK,ω,ω,ω⟩ o.row (by rw[o.len,CN];omega) eF ?_;have W:=o.step numP.stayO (j:=z) (c:=[U b,Y T l c,U d,Y e f Z4]) aD ω ω ⟨_,_,_,_,_,_,_,_,ω,i5,j5⟩;apply(Za);refine goOn (z+1) Z P3 ⟨ω,by show n+1<=H+1;omega,λb hb=>(zm Z).trans (w b hb),⟨_,W⟩,by show z+1<=O S;omega,?_⟩;intro s' M;rw[xa u]at M;obtain h'|h':=DQ.1 M;exact g s' h';rw[CV.1 h'];exact⟨_,L ω⟩
end
theorem SE{x:Int}:((x:Rat)=0)↔x=0:=by simp_all [Rat.intCast_inj.1]
section
variable{n:Nat}{T0 T:Nat->Nat->Int}{s:Nat->Rat}{a:Nat->Nat->Rat}
end
section
variable{h:HF}{n:Nat}{d:Tmp}
end
theorem tI:∀(l w:List Nat),∀c∈addW n0 l w,(c∈l/\c<3*n0)\/c∈w:=by
 intro l;induction l with
 |nil=>intro w c a;exact Or.inr a
 |cons b l ih=>
  intro w c a;unfold addW at a;cases hb:Dd (3*n0) b with
  |true=>
   grind
  |false=>
   grind [only,EB,CP,EV,De.1,D4]
theorem nM:∀(l w:List Nat),∀c∈w,c∈addW n0 l w:=by
 intro l;induction l with
 |nil=>intro w c a;exact a
 |cons b l ih=>
  grind [addW,Dd,EV]
theorem wQ(a:c<3*n0):∀{l w:List Nat},c∈l->c∈addW n0 l w:=by
 intro l;induction l with
 |nil=>intro w h;exact Cu h CO
 |cons b l ih=>
  intro w h;unfold addW;cases hb:Dd (3*n0) b with
  |true=>
   obtain rfl|h:=De.1 h;have:=Da hb;omega;exact ih h
  |false=>
   grind [nM,De.1,D4]
section
variable{len off:Nat}{ty:TypeId}{x:Operand}
structure KP {D:Type}(sz:Nat)(P:List ψ->D->HF->Nat->Prop):Prop where
 t:∀{c d h n h' n'},P c d h n->Tr n h n' h'->P c d h' n'
 c:∀{c d h n},P c d h n->O c=sz/\c.all nu=φ/\ones c=φ
def OR{D:Type}(sz:Nat)(P:List ψ->D->HF->Nat->Prop)(h:HF)(n b:Nat)(ds:List D):Prop:=b<3*n/\∃C e,h b=ξ (.row C e)/\C.all nu=φ/\Rec sz (λc d=>P c d h n) C ds
theorem Rec.set2{D}{sz}{P}{ds}(r:Rec sz P cs ds){c}{d:D}(f:O c=sz)(g:P c d):∀{j:Nat},j<O ds->Rec sz P (zu cs (j*sz) c) (ds.set j d):=by
 induction r with
 |nil=>intro j a;cases a
 | @cons c1 cs d1 ds hl hp1 hr ih=>
  intro j a;cases j with
  |zero=>
   have e:zu (c1++cs) (0*sz) c=c++cs:=(by unfold zu;rw[DU,EK,Dt,C9,f,<-hl,List.drop_left]);rw[e];exact .cons f g hr
  |succ j=>
   have e:zu (c1++cs) ((j+1)*sz) c=c1++zu cs (j*sz) c:=by grind [zu,EI,D6,Jc,CL,ER,Dh,Nat.add_assoc,Jb,EX]
   rw[e];exact .cons hl hp1 (ih (by simpa using a))
theorem dF{c}{o}(h:cs.all nu=φ)(a:c.all nu=φ):(zu cs o c).all nu=φ:=by grind [zu]
section
variable{P:List ψ->D->HF->Nat->Prop}{h h':HF}{n n':Nat}{ds:List D}
def OR.go(o:OR sz P h n b ds)(l:KP sz P)(t:Tr n h n' h')(e:h' b=h b):OR sz P h' n' b ds:=by have⟨p,C,a,c,f,g⟩:=o;exact⟨Bm,C,a,e.trans c,f,g.mono λ_ _ r=>l.t r t⟩
def OR.ext(o:OR sz P h n b ds)(g:KP sz P)(x:J3 n h h')(f:n<=n'):OR sz P h' n' b ds:=o.go g ⟨f,λc a=>.inl (x c a)⟩ (x b o.1)
def OR.xx(o:OR sz P h n b ds)(a:KP sz P)(t:Tx n h n' h'):OR sz P h' n' b ds:=o.ext a t.2 t.1
def OR.as{a}(o:OR sz P h n b ds)(e:ds=a):OR sz P h n b a:=e▸o
def OR.get{d}(o:OR sz P h n b ds)(hj:ds[j]?=ξ d)(q:off=j*sz):∃c,P c d h n/\O c=sz/\At h b off c:=by have⟨y,C,s,l,v,p⟩:=o;have⟨c,a,f,g,u⟩:=p.get hj;subst q;exact⟨c,f,a,⟨_,C,l,ω,Z,by rw[a];exact g⟩⟩
def OR.set{d}{c C}(o:OR sz P h n b ds)(a:KP sz P)(l:h b=ξ (.row C e))(hj:j<O ds)(r:P c d h n)(v:h' b=ξ (.row (zu C (j*sz) c) e))(B:Only b h h'):OR sz P h' n b (ds.set j d)/\Kp b h h':=by have⟨A,F,G,f,g,y⟩:=o;rw[l]at f;cases f;have p:Kp b h h':=⟨B,_,_,l,g⟩;have t:Tr n h n h':=Tr.s p (Tr.refl _ _);have⟨q,u,_⟩:=a.c r;exact⟨⟨A,_,_,v,dF g u,(y.mono λ_ _ r=>a.t r t).set2 q (a.t r t) hj⟩,p⟩
def OR.sl(o:OR sz P h n b ds)(l:len=O ds)(g:len<=cap):RS sz P h n (Y (ξ ⟨b,0,θ⟩) len cap) ds:=by have⟨f,C,p,c,q,a⟩:=o;have:=a.len;subst l;exact⟨C,.at_ f c ω g Z aD,a⟩
theorem OR.fill{z}{d}(hb:b<3*n)(a:h b=ξ (.row (rep L z) e))(g:KP sz P)(f:P z d h n):OR sz P h n b (CI L d):=by
 refine⟨hb,_,_,a,?_,?_⟩
 .clear a;induction L with
  |zero=>rfl
  |succ L ih=>show List.all (z++rep L z) nu=φ;rw[Hv,ih,(g.c f).2.1];rfl
 clear a;induction L with
 |zero=>exact .nil
 |succ L ih=>exact .cons (g.c f).1 f ih
end
def KR(h:HF)(b:Nat)(e:TypeId):Prop:=∃C,h b=ξ (.row C e)
def intP(c:List ψ)(z:Int)(h:HF)(n:Nat):Prop:=∃b a l k,c=[U b,Y a l k]/\IW h n b a l k z
def intP.kp:KP 2 intP:=⟨λ⟨b,a,l,k,e,i⟩ t=>⟨b,a,l,k,e,i.t t⟩,λ⟨b,a,l,k,e,i⟩=>by subst e;exact R3⟩
def ratP.kp:KP 4 ratP:=⟨λ⟨b,a,l,k,d,e,f,g,c,i,j⟩ t=>⟨b,a,l,k,d,e,f,g,c,i.t t,j.t t⟩,λ⟨b,a,l,k,d,e,f,g,c,i,j⟩=>by subst c;exact R3⟩
abbrev OZ(h:HF)(n b:Nat)(zs:List Int):Prop:=OR 2 intP h n b zs
section
variable{h:HF}{n:Nat}{ld:List (Nat×Nat)}{d:Tmp}
def PO{a}{b sz}{c}(c')(hb:h b=ξ (.row c e))(k:∀h',h' b=ξ (.row c' e)->Kp b h h'->EO X ops r ⟨t,h',n,addW n0 [b] w⟩ Q)(g:zh ops t o=φ:=by rfl)(hd:o.dst=θ:=by rfl)(ho:o.op=.store ty a x:=by rfl)(hi:X.E.inf ty=ξ (sz,bt,z):=by rfl)(ha:J2 t a=.pointer (ξ ⟨b,off,θ⟩):=by rfl)(hu:c.all nu=φ:=by rfl)(hx:zn (J2 t x)=cs:=by rfl)(hs:cs.length=sz:=by rfl)(h1:ones cs=φ:=by rfl)(hl:off+sz<=c.length:=by exact zb)(hsp:zu c off cs=c':=by rfl)(hX:X.n0=n0:=by rfl):EO X ops (o::r) ⟨t,h,n,w⟩ Q:=by subst hsp hx;rw[rS g (by rw[hd];rfl) (by rw[ho];rfl) (by rw[ho];exact xn hi ha hs h1 hb hl),hd,hX];exact k _ (zg _ _ _) ⟨λc f=>zm f,_,_,hb,hu⟩
def ME{a}{b sz}{c}(c')(hb:h b=ξ (.row c e))(g:zh ops t o=φ:=by rfl)(hd:o.dst=θ:=by rfl)(ho:o.op=.store ty a x:=by rfl)(hi:X.E.inf ty=ξ (sz,bt,z):=by rfl)(ha:J2 t a=.pointer (ξ ⟨b,off,θ⟩):=by rfl)(hu:c.all nu=φ:=by rfl)(hx:zn (J2 t x)=cs:=by rfl)(hs:cs.length=sz:=by rfl)(h1:ones cs=φ:=by rfl)(hl:off+sz<=c.length:=by exact zb)(hsp:zu c off cs=c':=by rfl)(hX:X.n0=n0:=by rfl)(g1:xq m ef=φ:=by rfl)(g2:xJ m al=φ:=by rfl)(g3:ya m [b] ld=φ:=by rfl)(k:∀h',h' b=ξ (.row c' e)->Kp b h h'->ED X ops r ms (i+1) ⟨⟨t,h',n,addW n0 [b] w⟩,al,ld,(i,h,[b])::ef⟩ Q):ED X ops (o::r) (m::ms) i ⟨⟨t,h,n,w⟩,al,ld,ef⟩ Q:=by subst hsp hx;apply mX g (by rw[hd];rfl) (by rw[ho];rfl) (by rw[ho];exact xn hi ha hs h1 hb hl) g1 g2 g3 (Nat.le_refl _);rw[hd,hX];exact k _ (zg _ _ _) ⟨λc f=>zm f,_,_,hb,hu⟩
def dZ{D}{sz}{P}{a}{b}{zs}{q:D}(c)(v:OR sz P h n b zs)(u:KP sz P)(hj:j<zs.length)(g:off=j*sz)(p:P c q h n)(k:∀h',OR sz P h' n b (zs.set j q)->Kp b h h'->(∀e,KR h b e->KR h' b e)->ED X ops r ms (i+1) ⟨⟨t,h',n,addW n0 [b] w⟩,al,ld,(i,h,[b])::ef⟩ Q)(H:zh ops t o=φ:=by rfl)(hd:o.dst=θ:=by rfl)(ho:o.op=.store ty a x:=by rfl)(hi:X.E.inf ty=ξ (sz,bt,z):=by rfl)(ha:J2 t a=.pointer (ξ ⟨b,off,θ⟩):=by rfl)(hx:zn (J2 t x)=c:=by rfl)(h1:xq m ef=φ:=by rfl)(f:xJ m al=φ:=by rfl)(h3:ya m [b] ld=φ:=by rfl)(hX:X.n0=n0:=by rfl):ED X ops (o::r) (m::ms) i ⟨⟨t,h,n,w⟩,al,ld,ef⟩ Q:=by have y:=v;have⟨Z1,C,e,l,R,I⟩:=v;have G:=I.len;have⟨A,M,B⟩:=u.c p;have J:j*sz+sz<=zs.length*sz:=(by have:=Nat.mul_le_mul_right sz (show j+1<=zs.length from hj);rw[Nat.add_mul,Nat.one_mul]at this;exact this);subst g;apply mX H (by rw[hd];rfl) (by rw[ho];rfl) (by rw[ho];exact xn hi ha (by rw[hx];exact A) (by rw[hx];exact B) l Z) h1 f h3 (Nat.le_refl _);rw[hd,hx,hX];have s:=y.set u l hj p (zg _ _ _) (λc F=>zm F);exact k _ s.1 s.2 λN⟨K,f⟩=>⟨_,by rw[l]at f;cases f;exact zg _ _ _⟩
end
end
section
variable{h' h0:HF}{len:Nat}{sT ty:TypeId}{x:Operand}
def BkOf(v:ψ)(b:Nat):Prop:=∃o l c,v=Y (ξ ⟨b,o,θ⟩) l c
def GroU(h:HF)(n:Nat)(v:ψ)(T:List Nat):Prop:=Gro h 0 n 152 1 v (O T) (u64s T)
structure AU (h0:HF)(n0:Nat)(v0:ψ)(h:HF)(n:Nat)(w:List Nat)(v:ψ)(T:List Nat):Prop where
 hn:n0<=n
 keep:Keep v0 n0 h0 h
 hw:∀b∈w,BkOf v0 b
 g:GroU h n v T
 or:v=v0\/xC n0 v
 wd:J5 T
def AU.refl(g:GroU h0 n0 v0 T)(a:J5 T):AU h0 n0 v0 h0 n0 [] v0 T:=⟨Cy,λ_ _ _=>rfl,λb c=>Cu c CO,g,Or.inl ω,a⟩
def AU.trans{s u}{p A}{B w2}{v1 v2}{C q}(a:AU h0 n0 v0 s p B v1 C)(b:AU s p v1 u A w2 v2 q):AU h0 n0 v0 u A (addW n0 w2 B) v2 q:=by
 have F:=a.hn;refine⟨CU a.hn b.hn,λk m i=>(b.keep k Z λo l c e=>?_).trans (a.keep k m i),λk m=>?_,b.g,?_,b.wd⟩;obtain h|h:=a.or;exact i o l c (h▸e);rw[e]at h;have h:3*n0<=k:=h;omega;obtain h|⟨h,D⟩:=yN.1 m;exact a.hw k h;have⟨o,l,c,e⟩:=b.hw k h;obtain f|f:=a.or;exact⟨o,l,c,f▸e⟩;rw[e]at f;have f:3*n0<=k:=f;omega;obtain h|h:=b.or;rw[h];exact a.or;right;cases v2 with
 |slice ad l c=>
  cases ad with
  |none=>trivial
  |some ad=>have h:3*p<=ad.block:=h;show 3*n0<=ad.block;omega
 |_=>trivial
def AU.sl{h}{n}{w}{u}{c}(a:AU h0 n0 v0 h n w v T)(s:Sl h0 n0 1 u c)(p:∀b,BkOf v0 b->Ks b u):Sl h n 1 u c:=
 s.keep (λf l cap i=>by
  have m:=s.below;subst i;refine a.keep f.block m λo q g e=>?_;have:=p f.block ⟨o,q,g,e⟩;exact this ω) a.hn
def AU.off{h}{n}{w}{u}{c}(a:AU h0 n0 v0 h n w v T)(s:Sl h0 n0 1 u c)(g:∀b,BkOf v0 b->Ks b u):∀b,BkOf v b->Ks b u:=by rintro b⟨o,l,k,rfl⟩;obtain e|f:=a.or;exact g b ⟨o,l,k,e.symm⟩;have f:3*n0<=b:=f;exact s.below.off f
def GroU.row{h}{n}(g:GroU h n v T)(h0:O T≠0):∃b,v=Y (ξ ⟨b,0,θ⟩) (O T) (O T)/\gro b=φ/\b<3*n/\h b=ξ (.row (u64s T) 152):=by have⟨b,a,c,_,f,i,_⟩:=Gro.inv2 g h0;exact⟨b,a,c,f,i⟩
def AU.row{L}{w}(a:gro b=φ)(hb:b<3*n0)(hx:ExtT n0 b h0 h')(q:∀c∈w,c=b)(p:h' b=ξ (.row (u64s L) 152))(m:O L=O T)(g:J5 L):AU h0 n0 (Y (ξ ⟨b,0,θ⟩) (O T) (O T)) h' n0 w (Y (ξ ⟨b,0,θ⟩) (O T) (O T)) L:=by refine⟨Cy,λk l f=>hx k l λe=>f 0 (O T) (O T) (by rw[e]),λc i=>⟨0,O T,O T,by rw[q c i]⟩,?_,.inl ω,g⟩;rw[<-m];exact .at_ a Z hb p (by rw[zL,DD]) (xW _)
section
variable{h:HF}{n:Nat}{d:Tmp}
theorem SF{s}(a:AU h0 n0 v0 h n w (J2 t s) T)(i:X.n0=n0/\zh ops t o=φ/\o.dst=ξ d/\zv X.nt (ξ d)=φ/\o.op=.call {callee:=.builtin .append,args:=#[s,x],argTypes:=#[sT,xT]}/\(match X.E.und xT with|some (.int _)=>χ|none=>χ|_=>φ)=φ/\X.E.und sT=ξ (.slice 152)/\X.E.inf 152=ξ (1,8,z)/\O (zn z)=1)(hx:argS h 1 (J2 t x) 1 (u64s [0]))(hb:O T<1000000000)
  (k:∀u h' w',AU h0 n0 v0 h' (n+1) w' u (T++[0])->EO X ops r ⟨upd t d u,h',n+1,w'⟩ Q):EO X ops (o::r) ⟨t,h,n,w⟩ Q:=by
 have⟨i,D,hd,hn,m,A,p,l,q⟩:=i;have⟨u,h',W,c,F,_,B,G,C⟩:=uf p l q ⟨Cy,Z⟩ a.g hx Cy Z (by rw[zL];rfl) (xW _) Cz;apply yM ⟨D,hd,hn,m,A⟩ c;rw[i];refine k _ _ _ (a.trans ⟨Z,B,?_,?_,.inr C,?_⟩);intro b hb;have f:Gro h 0 n 152 1 (J2 t s) (O T) (u64s T):=a.g;have hv:∃v,v=J2 t s:=⟨_,ω⟩;have⟨v,hv⟩:=hv;rw[<-hv]at f c⊢;generalize hTl:O T=tl at f;generalize hTc:u64s T=tc at f;cases f with
 |nil=>
  have e:=append_nil (n:=n) p l q Cy Z hx Cy Z;grind
 |at_ f hlo hb2 hr hl m=>
  have e:=ue (n:=n) p l q Cy Z hx Cy Z f hr hl (yZ m (xW _)) (by rw[zL];rfl);rw[e]at c;injection c with c;injection c with _ _ _ c;rw[<-c]at hb;rw[CV.1 hb];exact⟨_,_,_,ω⟩
 grind [GroU,u64s,CJ];exact J5.snoc a.wd zd
theorem zl6{c}{i}{f}{a}{s}(m:zh ops t o=φ/\o.dst=ξ a/\zv X.nt (ξ a)=φ/\o.op=.indexAddr ty x i/\X.E.und ty=ξ (.slice e)/\X.E.inf e=ξ (1,bt,z)/\J2 t x=Y (ξ ⟨b,0,θ⟩) len cap/\J2 t i=CC ik ji/\ji=(j:Int))(B:j<len/\j<O c)(hb:h b=ξ (.row c e3))
  (C:∀p,zh ops (upd t a p) f=φ)(g:f.dst=θ)(l:f.op=.store e2 (.tmp a) y)(u:X.E.inf e2=ξ (1,s,z2))(q:∀p,zn (J2 (upd t a p) y)=[v])(D:ones [v]=φ)
  (k:∀p,EO X ops r ⟨upd t a p,upd h b (ξ (.row (c.set j v) e3)),n,addW X.n0 [b] w⟩ Q):EO X ops (o::f::r) ⟨t,h,n,w⟩ Q:=by
 obtain⟨m,F,J,K,L,H,M,I,A⟩:=m;subst A;apply Lw ⟨m,F,J,K,L,H,M,I⟩ Z;have G:=xn (t:=upd t a (CH (ξ ⟨b,0+(j:Int).toNat*1,θ⟩))) (h:=h) (n:=n) (a:=.tmp a) (x:=y) (b:=b) (off:=0+(j:Int).toNat*1) u (zg _ _ _) (by rw[q];rfl) (by rw[q];exact D) hb Z;rw[rS (C _) Av (by rw[l];rfl) (by rw[l];exact G),g];rw[q,Ef,DD,C9,splice_one _ _ _ B.2];exact k _
end
end
section
variable{h':HF}{c n':Nat}
structure SideD where
 A:List Rat
 lo:List UInt8
 hi:List UInt8
def uK(lo:Nat)(c:List ψ)(d:SideD)(h:HF)(n:Nat):Prop:=∃aA lA kA x1 b1 a1 l1 c1 d1 e1 f1 g1 x2 b2 a2 l2 c2 d2 e2 f2 g2,c=[Y aA lA kA,U x1,U b1,Y a1 l1 c1,U d1,Y e1 f1 g1,U x2,U b2,Y a2 l2 c2,U d2,Y e2 f2 g2]/\KH lo h n (Y aA lA kA) d.A/\(x1=φ↔d.lo≠[])/\IW h n b1 a1 l1 c1 (zj d.lo).num/\IW h n d1 e1 f1 g1 (denZ (zj d.lo))/\(x2=φ↔d.hi≠[])/\IW h n b2 a2 l2 c2 (zj d.hi).num/\IW h n d2 e2 f2 g2 (denZ (zj d.hi))
def uK.stay(lo):Stay (uK lo):=⟨λ_ _ _ _ _ _ ⟨i,T,P,Z4,m,f,R,q,u,A,C,F,V,p,g,S,s,y,B,D,G,H,I,J,K,L,M,N,Z1⟩ x a=>⟨i,T,P,Z4,m,f,R,q,u,A,C,F,V,p,g,S,s,y,B,D,G,H,I.ext x a,J,K.ext x a,L.ext x a,M,N.ext x a,Z1.ext x a⟩⟩
def uK.nus{lo}{c}{d}{h}{n}(s:uK lo c d h n):c.all nu=φ/\ones c=φ/\O c=11:=by obtain⟨g,K,H,L,i,a,I,p,u,A,C,F,M,m,f,J,q,y,B,D,G,rfl,_⟩:=s;exact R3
def MF(lo n:Nat)(h h':HF):Prop:=∀b,b<3*n->h' b=h b\/((b<3*lo\/gro b=φ)/\∃cs e,h b=ξ (.row cs e)/\cs.all nu=φ)
theorem Sl.chgG{lo}{h}{n}(s:Sl h n 1 v cl)(f:∀x∈cl,nu x=χ)(m:MF lo n h h')(q:n<=n'):Sl h' n' 1 v cl:=by
 cases s with
 |nil ha=>exact .nil (uw ha q)
 | @at_ b2 off len cap x cs2 c2 hb hx hc2 hcap hl he=>
  obtain g|⟨_,cs,e,u,y⟩:=m b2 hb;exact .at_ Z (g.trans hx) hc2 hcap hl he;by_cases h0:len=0;subst h0;have:cl=[]:=by rw[<-he];simp
  subst this;exact .nil (.inr ⟨_,_,_,ω,Z⟩);exfalso;rw[u]at hx;cases hx;injection hc2 with hc2;subst hc2;have i:O cl=len:=by grind
  obtain⟨d,a,rfl⟩:∃d a,cl=d::a:=by
   cases cl with
   |nil=>exact Cu i.symm h0
   |cons d a=>exact⟨d,a,ω⟩
  have p:d∈cs:=by grind
  have:=E3.1 y _ p;rw[f d D4]at this;cases this
def IW.chg{lo}{h}{n}{b}{a}{x}(i:IW h n b a l c x)(p:MF lo n h h')(q:n<=n'):IW h' n' b a l c x:=by have⟨e,L,f,g,m⟩:=i;exact⟨e,L,f.chgG (λx s=>by obtain⟨d,_,rfl⟩:=DL.1 s;rfl) p q,g,m⟩
def KH.chg{lo}{h}{n}{l}(r:KH lo h n v l)(s:MF lo n h h')(u:n<=n'):KH lo h' n' v l:=by
 have⟨⟨p,B,C⟩,y⟩:=r;refine⟨⟨p,?_,C.mono λc d⟨b,a,l,k,d,e,f,g,A,i,j⟩=>⟨b,a,l,k,d,e,f,g,A,i.chg s u,j.chg s u⟩⟩,y⟩;cases B with
 |nil ha=>exact .nil (uw ha u)
 |at_ hb hx hcs hcap hl he=>
  refine .at_ Z ?_ hcs hcap hl he;have:=y _ _ _ rfl;obtain m|⟨m|m,_⟩:=s _ hb;exact m.trans hx;have q:=this.1;simp only at q;omega;have q:=this.2;simp only at q;rw[q]at m;cases m
def uK.chg{lo}{c}{d}{h}{n}(s:uK lo c d h n)(a:MF lo n h h')(f:n<=n'):uK lo c d h' n':=by have⟨m,V,S,W,p,g,T,u,A,C,F,H,Z3,q,i,Z4,y,B,D,G,I,J,K,L,M,N,Z1,P,R⟩:=s;exact⟨m,V,S,W,p,g,T,u,A,C,F,H,Z3,q,i,Z4,y,B,D,G,I,J,K.chg a f,L,M.chg a f,N.chg a f,Z1,P.chg a f,R.chg a f⟩
def Gro.same{lo n len}{h}{C}(g:Gro h lo n e sz v len C)(a:∀b,3*lo<=b->b<3*n->gro b=φ->h' b=h b):Gro h' lo n e sz v len C:=by
 cases g with
 |nil=>exact .nil
 |at_ hg hlo hb hr hl ho=>exact .at_ hg hlo hb ((a _ hlo hb hg).trans hr) hl ho
structure GSL (lo:Nat)(h:HF)(n:Nat)(v:ψ)(ds:List SideD):Prop where
 ex:∃C,Gro h lo n 93 11 v (O ds) C/\Rec 11 (λc d=>uK lo c d h n) C ds/\C.all nu=φ
def GSL.nil(lo)(h)(n):GSL lo h n (η) []:=⟨[],.nil,.nil,ω⟩
def GSL.ext{lo}{h}{n}{a}(g:GSL lo h n v a)(x:J3 n h h')(f:n<=n'):GSL lo h' n' v a:=by have⟨C,i,m,p⟩:=g.ex;exact⟨C,i.ext x f,m.mono λc d q=>(uK.stay lo).go c d _ _ _ _ q x f,p⟩
def GSL.x{lo}{h}{n}{a}(g:GSL lo h n v a)(t:Tx n h n' h':=by exact zx):GSL lo h' n' v a:=g.ext t.2 t.1
def GSL.st{lo}{h}{n}{a}(g:GSL lo h n v a)(y:h b=ξ (.row cs e))(A:cs.all nu=φ)(f:Only b h h')(hb:b<3*lo):GSL lo h' n v a:=by have⟨C,i,m,p⟩:=g.ex;have q:MF lo n h h':=λk u=>(by by_cases e2:k=b;subst e2;exact .inr ⟨.inl hb,cs,e,y,A⟩;exact .inl (f k e2));exact⟨C,i.same λk u _ _=>f k Z,m.mono λc d s=>s.chg q Cy,p⟩
def GSL.sto{lo}{h}{n}{a}(g:GSL lo h n v a)(o:Kp b h h')(hb:b<3*lo):GSL lo h' n v a:=by have⟨o,_,_,f,i⟩:=o;exact g.st f i o hb
def Keep.chg{lo n len}{h}{C}(k:Keep v n h h')(g:Gro h lo n e sz v len C)(f:C.all nu=φ):MF lo n h h':=λb a=>by
 cases g with
 |nil=>exact .inl (k b a λo l c e=>by cases e)
 | @at_ b2 _ _ hg hlo hb2 hr hl ho2=>
  by_cases e2:b=b2
  .subst e2;exact .inr ⟨.inr hg,_,_,hr,f⟩
  exact .inl (k b a λo l c e=>by cases e;exact e2 ω)
def KH.st{lo}{h}{n}{l}(g:KH lo h n v l)(f:h b=ξ (.row cs e))(i:cs.all nu=φ)(a:Only b h h')(hb:b<3*lo):KH lo h' n v l:=
 g.chg (λk m=>by
  by_cases e2:k=b
  .subst e2;exact .inr ⟨.inl hb,cs,e,f,i⟩
  .exact .inl (a k e2)) Cy
def KH.sto{lo}{h}{n}{l}(g:KH lo h n v l)(o:Kp b h h')(hb:b<3*lo):KH lo h' n v l:=by have⟨o,_,_,a,f⟩:=o;exact g.st a f o hb
def KH.lo{lo}{h}{n}{l}(r:KH lo h n v l)(g:lo'<=lo):KH lo' h n v l:=⟨r.1,λf a cap e=>⟨by have:=(r.2 f a cap e).1;omega,(r.2 f a cap e).2⟩⟩
def KH.nil(lo)(h)(n):KH lo h n (η) []:=⟨⟨[],.nil (.inl ω),.nil⟩,λf a cap e=>by cases e⟩
def uK.lo{lo}{c}{d}{h}{n}(s:uK lo c d h n)(P:lo'<=lo):uK lo' c d h n:=by have⟨g,Z4,R,V,i,a,S,p,u,A,C,F,W,m,f,T,q,y,B,D,G,H,I,J,K,L,M,N,Z1⟩:=s;exact⟨g,Z4,R,V,i,a,S,p,u,A,C,F,W,m,f,T,q,y,B,D,G,H,I.lo P,J,K,L,M,N,Z1⟩
def GSL.app{lo}{h}{n}{v'}{a}{d}{C c}(i:Gro h lo n 93 11 v (O a) C)(m:Rec 11 (λc d=>uK lo c d h n) C a)(h3:C.all nu=φ)(s:uK lo c d h n)(k:Keep v n h h')(g:Gro h' lo (n+1) 93 11 v' (O a+1) (C++c)):GSL lo h' (n+1) v' (a++[d]):=by have f:=k.chg i h3;refine⟨C++c,by rw[CJ];exact g,(m.mono λc d s=>s.chg f Zq).snoc s.nus.2.2 (s.chg f Zq),?_⟩;rw[Hv,h3,s.nus.1];rfl
def Kx(h:HF)(n:Nat)(v:ψ)(ds:List SideD):Prop:=RS 11 (uK 0) h n v ds
def GSL.sds{lo}{h}{n}{a}(g:GSL lo h n v a):Kx h n v a:=by have⟨C,f,i,m⟩:=g.ex;exact⟨C,f.sl,i.mono λc d s=>s.lo Cz⟩
def Kx.ext{h}{n}{l}(r:Kx h n v l)(x:J3 n h h')(a:n<=n'):Kx h' n' v l:=RS.ext' (uK.stay 0) r x a
def Kx.x{h}{n}{l}(r:Kx h n v l)(t:Tx n h n' h':=by exact zx):Kx h' n' v l:=r.ext t.2 t.1
def Kx.len{h}{n}{a}{len}{l}(r:Kx h n (Y a len cap) l):len=O l:=RS.len' zd r
def Kx.at{h}{n}{a}{len}{l}{d}(r:Kx h n (Y a len cap) l)(hj:l[j]?=ξ d):∃g f p N K Z1 q i L u B D G I P s m M y C F H J,a=ξ ⟨g,f,θ⟩/\g<3*n/\j<len/\At h g (f+j*11) [Y p N K,U Z1,U q,Y i L u,U B,Y D G I,U P,U s,Y m M y,U C,Y F H J]/\QS h n (Y p N K) d.A/\(Z1=φ↔d.lo≠[])/\IW h n q i L u (zj d.lo).num/\IW h n B D G I (denZ (zj d.lo))/\(P=φ↔d.hi≠[])/\IW h n s m M y (zj d.hi).num/\IW h n C F H J (denZ (zj d.hi)):=by obtain⟨g,f,c,Z0,p2,p3,p4,_,p,N,K,Z1,q,i,L,u,B,D,G,I,P,s,m,M,y,C,F,H,J,rfl,R,S,T,Z4,V,W,Z3⟩:=RS.at' zd r hj;exact⟨g,f,p,N,K,Z1,q,i,L,u,B,D,G,I,P,s,m,M,y,C,F,H,J,Z0,p2,p3,p4,R.1,S,T,Z4,V,W,Z3⟩
section
variable{h:HF}{n:Nat}{d:Tmp}
def wE(cs)(a:qt X ops t o d (Kd o.op=2/\Kl X.E o.op (J2 t)=ξ ⟨cs,e,χ,ξ (l,c)⟩))
  (k:∀h',h' (3*n+2)=ξ (.row cs e)->J3 n h h'->EO X ops r ⟨upd t d (Y (ξ ⟨3*n+2,0,θ⟩) l c),h',n+1,w⟩ Q):EO X ops (o::r) ⟨t,h,n,w⟩ Q:=by have⟨a,g,m,f,i⟩:=a;exact pZ ⟨a,g,m,f,i⟩ (k _ (zg _ _ _) (E9 Z))
end
end
section
variable{h h':HF}{lo n n':Nat}{ds:List SideD}
structure RowD where
 A:List (List UInt8)
 lo:List UInt8
 hi:List UInt8
structure LPD where
 obj:List (List UInt8)
 rows:List RowD
 lower:List (List UInt8)
 upper:List (List UInt8)
def rowP(c:List ψ)(d:RowD)(h:HF)(n:Nat):Prop:=∃a l k,c=[Y a l k,CG ⟨⟨d.lo⟩⟩,CG ⟨⟨d.hi⟩⟩]/\Sl h n 1 (Y a l k) (strs d.A)
def rowP.stay:Stay rowP:=⟨λ_ _ _ _ _ _ ⟨a,l,k,e,s⟩ x c=>⟨a,l,k,e,s.ext x c⟩⟩
def Kt(h:HF)(n:Nat)(v:ψ)(ds:List RowD):Prop:=RS 3 rowP h n v ds
def Kt.ext{l}(r:Kt h n v l)(x:J3 n h h')(a:n<=n'):Kt h' n' v l:=RS.ext' rowP.stay r x a
def Kt.x{l}(r:Kt h n v l)(t:Tx n h n' h':=by exact zx):Kt h' n' v l:=r.ext t.2 t.1
def Kt.len{a}{len}{l}(r:Kt h n (Y a len cap) l):len=O l:=RS.len' zd r
theorem Kt.at{a}{len}{l}{d}(r:Kt h n (Y a len cap) l)(hj:l[j]?=ξ d):∃g f i o m,a=ξ ⟨g,f,θ⟩/\g<3*n/\j<len/\At h g (f+j*3) [Y i o m,CG ⟨⟨d.lo⟩⟩,CG ⟨⟨d.hi⟩⟩]/\Sl h n 1 (Y i o m) (strs d.A):=by obtain⟨g,f,c,p,q,u,w,_,i,o,m,rfl,s⟩:=RS.at' zd r hj;grind
structure VLP (p:LPD):Prop where
 n1:1<=O p.obj
 n2:O p.obj<=64
 ll:O p.lower=O p.obj
 lu:O p.upper=O p.obj
 lr:O p.rows<=64
 ob:∀s∈p.obj,vF s
 bd:∀(j:Nat) lo hi,p.lower[j]?=ξ lo->p.upper[j]?=ξ hi->pairOk lo hi
 rw:∀r∈p.rows,pairOk r.lo r.hi/\(∀s∈r.A,vF s)/\O r.A=O p.obj
def Kg(a:Nat)(s:List UInt8):Prop:=O s<500/\Sz a (zj s)
structure LPB (a:Nat)(p:LPD):Prop where
 ob:∀s∈p.obj,Kg a s
 lw:∀s∈p.lower,Kg a s
 up:∀s∈p.upper,Kg a s
 rl:∀r∈p.rows,Kg a r.lo/\Kg a r.hi/\O r.A<1000000/\∀s∈r.A,Kg a s
 n1:O p.obj<1000000
 n2:O p.rows<1000000
 n3:O p.lower<1000000
 n4:O p.upper<1000000
def rowS(r:RowD):SideD:=⟨r.A.map zj,r.lo,r.hi⟩
def zk(p:LPD):List SideD:=p.rows.map rowS
def zC(p:LPD):List SideD:=List.zipWith (λlo hi=>⟨[],lo,hi⟩) p.lower p.upper
def gj{p}{lo}(a:p.lower[j]?=ξ lo)(c:p.upper[j]?=ξ hi):(zC p)[j]?=ξ ⟨[],lo,hi⟩:=by unfold zC;rw[List.getElem?_zipWith,a,c]
def LF{p}{r}(a:p.rows[j]?=ξ r):(zk p)[j]?=ξ (rowS r):=by unfold zk;rw[Dx,a];rfl
theorem GSL.extB{B}(g:GSL lo h n v ds)(x:ExtB n B h h')(l:n<=n')(u:∀b∈B,b<3*lo/\∃cs e,h b=ξ (.row cs e)/\cs.all nu=φ):GSL lo h' n' v ds:=by
 have⟨C,m,o,p⟩:=g.ex;have w:MF lo n h h':=λk f=>(by by_cases a:k∈B;grind;exact .inl (x k f a));have q:=m.same λk f i _=>x k i λa=>by have:=(u k a).1;omega
 refine⟨C,?_,o.mono λc d s=>s.chg w l,p⟩;exact q.ext (Fy n h') l
def Keep.blk{len}{C}(k:Keep v n h h')(g:Gro h lo n e sz v len C)(hb:gro b=χ)(a:b<3*n):h' b=h b:=by
 refine k b a λo l c e=>?_;cases g with
 |nil=>cases e
 |at_ hg hlo hb2 hr a ho=>cases e;rw[hg]at hb;cases hb
end
section
variable{c len off:Nat}{sT ty:TypeId}{x:Operand}
def GR{D:Type}(sz:Nat)(P:List ψ->D->HF->Nat->Prop)(lo:Nat)(h:HF)(n:Nat)(e:TypeId)(v:ψ)(ds:List D):Prop:=∃C,Gro h lo n e sz v (O ds) C/\Rec sz (λc d=>P c d h n) C ds/\C.all nu=φ
section
variable{P:List ψ->D->HF->Nat->Prop}{lo n n':Nat}{h h':HF}{ds:List D}
def GR.nil:GR sz P lo h n e (η) ([]:List D):=⟨[],.nil,.nil,ω⟩
def GR.go(g:GR sz P lo h n e v ds)(q:KP sz P)(t:Tr n h n' h')(p:∀b,BkOf v b->h' b=h b):GR sz P lo h' n' e v ds:=by
 have⟨C,a,f,j⟩:=g;refine⟨C,?_,f.mono λ_ _ r=>q.t r t,j⟩;generalize (O ds)=L at a;cases a with
 |nil=>exact .nil
 |at_ hg hlo hb hr hl ho=>exact .at_ hg hlo Bm ((p _ ⟨_,_,_,ω⟩).trans hr) hl ho
def GR.bk(g:GR sz P lo h n e v ds):∀b,BkOf v b->3*lo<=b/\b<3*n/\gro b=φ/\Ol (h b):=by
 have⟨C,a,j,f⟩:=g;generalize (O ds)=L at a;rintro b⟨o,l,c,rfl⟩;cases a with
 |at_ hg hlo hb hr hl ho=>exact⟨hlo,hb,hg,.row hr f⟩
def GR.shape(g:GR sz P lo h n e v ds)(j:O ds=L):∃a,v=Y a L L:=by have⟨C,f,p,q⟩:=g;subst j;have⟨a,e,_⟩:=f.shape;exact⟨a,e⟩
def GR.or(g:GR sz P lo h n e v ds)(q:O ds=L)(p:L≠0):∃b,v=Y (ξ ⟨b,0,θ⟩) L L/\gro b=φ/\3*lo<=b/\OR sz P h n b ds/\KR h b e:=by
 have⟨C,a,f,j⟩:=g;rw[q]at a;cases a with
 |nil=>exact Cu ω p
 |at_ hg hlo hb hr hl ho=>exact⟨_,ω,hg,hlo,⟨hb,_,_,hr,j,f⟩,_,hr⟩
theorem OR.gr(o:OR sz P h n b ds)(B:KP sz P)(A:KR h b e)(y:gro b=φ)(p:3*lo<=b)(s:O ds=L):GR sz P lo h n e (Y (ξ ⟨b,0,θ⟩) L L) ds:=by
 obtain⟨u,C,G,g,j,a⟩:=o;obtain⟨F,f⟩:=A;rw[f]at g;cases g;subst s;have q:ones C=φ:=by
  clear f j;induction a with
  |nil=>rfl
  |cons hl hp hr ih=>exact yZ (B.c hp).2.2 ih
 exact⟨_,.at_ y p u f a.len q,a,j⟩
end
def rF{m i}{r}(hm:m.testBit i=φ)(k:ya m W r=φ):ya m W ((i,b)::r)=φ:=by unfold ya;rw[hm,Bool.true_or];exact k
section
variable{h:HF}{n:Nat}{ld:List (Nat×Nat)}{d:Tmp}
def MG{D}{sz}{P}{e}{s}{lo}{ds}{q:D}{v}(c)(g:GR sz P lo h n e v ds)(u:KP sz P)(p:P c q h n)(hx:argS h sz (J2 t x) 1 c)(T:ds.length<1000000)(G:lo<=n)(F:∀W:List Nat,(∀b∈W,3*lo<=b)->ya m W ld=φ)
  
  (Z4:zh ops t o=φ:=by rfl)(hd:o.dst=ξ d:=by rfl)(hn:zv X.nt (ξ d)=φ:=by rfl)(ho:o.op=.call {callee:=.builtin .append,args:=#[s,x],argTypes:=#[sT,xT]}:=by rfl)(hv:J2 t s=v:=by rfl)(hxT:(match X.E.und xT with|some (.int _)=>χ|none=>χ|_=>φ)=φ:=by rfl)(hu:X.E.und sT=ξ (.slice e):=by rfl)(hi:X.E.inf e=ξ (sz,bytes,z):=by rfl)(hz:(zn z).length=sz:=by rfl)(h1:1<=sz/\1<=bytes/\bytes<=1000:=by decide)(g1:xq m ef=φ:=by rfl)(g2:xJ m al=φ:=by rfl)(hX:X.n0=n0:=by rfl)(k:∀f h' W,(∀b∈W,3*lo<=b)->GR sz P lo h' (n+1) e f (ds++[q])->Tr n h (n+1) h'->Exa lo h h'->(∀b,b<3*n->¬BkOf v b->h' b=h b)->(∀b,BkOf f b->3*n<=b)->ED X ops r ms (i+1) ⟨⟨upd t d f,h',n+1,addW n0 W w⟩,al,ld,(i,h,W)::ef⟩ Q):ED X ops (o::r) (m::ms) i ⟨⟨t,h,n,w⟩,al,ld,ef⟩ Q:=by
 have S:=g;have⟨C,J,Z3,V⟩:=g;subst hv;have⟨y,H,I⟩:=u.c p;have a:(ds.length+1)*bytes<=1099511627776:=Nat.le_trans (Nat.mul_le_mul (show ds.length+1<=1000000 from Z) h1.2.2) zd;have⟨f,h',W,K,M,N,Z1,A,R⟩:=uf hu hi hz ⟨h1.1,h1.2.1⟩ J hx (Nat.le_refl _) a (by rw[Nat.one_mul];exact y) I G;apply iV Z4 hd hn ho hxT K g1 g2 (F W A) Zq;rw[hX];have B:∀b,b<3*n->¬BkOf (J2 t s) b->h' b=h b:=λb a hn=>Z1 b a λo l c e=>hn ⟨o,l,c,e⟩;have j:Tr n h (n+1) h':=⟨Nat.le_succ _,λb a=>by
  by_cases hB:BkOf (J2 t s) b;exact .inr (S.bk b hB).2.2.2;exact .inl (B b a hB)⟩
 refine k f h' W A ⟨C++c,by rw[List.length_append];exact M,(Z3.mono λ_ _ r=>u.t r j).snoc y (u.t p j),by rw[List.all_append,V,H];rfl⟩ j ⟨N⟩ B λb⟨o,l,Z0,e⟩=>?_;subst e;exact R
def NJ{a}{sz}{c}{e}(c')(f:zh ops t o=φ:=by rfl)(hd:o.dst=θ:=by rfl)(ho:o.op=.store ty a x:=by rfl)(hi:X.E.inf ty=ξ (sz,bt,z):=by rfl)(ha:J2 t a=.pointer (ξ ⟨b,off,θ⟩):=by rfl)(hb:h b=ξ (.row c e):=by exact zp)(hu:c.all nu=φ:=by rfl)(hx:zn (J2 t x)=cs:=by rfl)(hs:cs.length=sz:=by rfl)(h1:ones cs=φ:=by rfl)(hl:off+sz<=c.length:=by exact zb)(hsp:zu c off cs=c':=by rfl)(hX:X.n0=n0:=by rfl)(hnew:3*n0<=b:=by omega)(k:∀h',h' b=ξ (.row c' e)->Kp b h h'->EO X ops r ⟨t,h',n,w⟩ Q):EO X ops (o::r) ⟨t,h,n,w⟩ Q:=
 PO c' hb (λh' p q=>by rw[wD hnew];exact k h' p q) f hd ho hi ha hu hx hs h1 hl hsp hX
def MH{e}(cs)(a:zh ops t o=φ:=by rfl)(hd:o.dst=ξ d:=by rfl)(hn:zv X.nt (ξ d)=φ:=by rfl)(hc:Kd o.op=2:=by rfl)(hm:Kl X.E o.op (J2 t)=ξ ⟨cs,e,χ,ξ (l,c)⟩:=by rfl)(k:∀h',h' (3*n+2)=ξ (.row cs e)->J3 n h h'->ED X ops r ms (i+1) ⟨⟨upd t d (.slice (ξ ⟨3*n+2,0,θ⟩) l c),h',n+1,w⟩,(i,3*n+2)::al,ld,ef⟩ Q):ED X ops (o::r) (m::ms) i ⟨⟨t,h,n,w⟩,al,ld,ef⟩ Q:=
 Q9 a hd hn hc hm (k _ (zg _ _ _) (J3.upd (show 3*n<=3*n+2 from Z)))
end
def yL{l w}{p:Nat->Prop}(a:∀c∈l,p c)(f:∀c∈w,p c):∀c∈addW n0 l w,p c:=λc g=>by
 obtain⟨h,_⟩|h:=tI _ _ c g
 .exact a c h
 exact f c h
def RS.sub{D}{sz}{P}(u:0<sz){h}{n}{l:List D}(q:RS sz P h n (Y (ξ ⟨b,off,θ⟩) len cap) l){m cap'}(hm:m+c<=len)(y:c<=cap'):RS sz P h n (Y (ξ ⟨b,off+m*sz,θ⟩) c cap') ((l.drop m).take c):=by
 have F:=q.len' u;have⟨a,s,r⟩:=q;by_cases h0:len=0;have g:c=0:=Z;have f:=s.below;subst g;rw[EK];exact⟨[],.nil (.inr ⟨_,_,_,ω,f⟩),.nil⟩;have⟨_,_,x,cs,e,f,H,j,A,I,C⟩:=s.inv h0;injection e with e;injection e with e1 e2;subst e1 e2;have p:=CM sz hm;rw[Nat.add_mul]at p;refine⟨(a.drop (m*sz)).take (c*sz),.at_ f H j y Z (Xx C Z),?_⟩;have B:∀{m:Nat} {a:List ψ} {l:List D},Rec sz (λc d=>P c d h n) a l->Rec sz (λc d=>P c d h n) (a.drop (m*sz)) (l.drop m):=by
  intro m;induction m with
  |zero=>intro a l r;rw[DU];exact r
  |succ m ih=>
   intro a l r;cases r with
   |nil=>rw[al0,al0];exact .nil
   | @cons c1 cs1 d1 ds1 hl hp hr=>
    rw[Im,EI,D6 (m*sz) sz,<-Ey,List.drop_left' hl];exact ih hr
 have G:∀{c:Nat} {a:List ψ} {l:List D},Rec sz (λc d=>P c d h n) a l->Rec sz (λc d=>P c d h n) (a.take (c*sz)) (l.take c):=by
  intro c;induction c with
  |zero=>intro a l r;rw[DU,EK,EK];exact .nil
  |succ c ih=>
   intro a l r;cases r with
   |nil=>rw[al1,al1];exact .nil
   | @cons c1 cs1 d1 ds1 hl hp hr=>
    rw[JS,EI,D6 (c*sz) sz,Jc,CL Z,hl,ER];exact .cons hl hp (ih hr)
 exact G (B r)
section
variable{h:HF}{n:Nat}{ld:List (Nat×Nat)}{d:Tmp}
def OE{e}{hi}{sz}{j}(mm:Nat)(a:qt X ops t o d (o.op=.slice ty x θ (ξ hi) θ/\X.E.und ty=ξ (.slice e)/\X.E.inf e=ξ (sz,bt,z)))
  (hx:J2 t x=Y (ξ ⟨b,off,θ⟩) len cap)(hj:J2 t hi=CC ik j)(hm:j=(mm:Int))(A:mm<=cap)(k:ED X ops r ms (i+1) ⟨⟨upd t d (Y (ξ ⟨b,off,θ⟩) mm cap),h,n,w⟩,al,ld,ef⟩ Q):ED X ops (o::r) (m::ms) i ⟨⟨t,h,n,w⟩,al,ld,ef⟩ Q:=by
 have⟨a,s,u,g,y,f⟩:=a;refine yQ ⟨a,s,u,Av,?_⟩ k;rw[g];subst hm;show xc X.E ty (J2 t x) θ (ξ (J2 t hi))=_;rw[hx,hj];have p:(0:Int)<=(mm:Int)/\(mm:Int)<=cap:=Z;have q:(gro b&&(Dd 1 0&&Dd cap 0))=χ:=by cases gro b<;>rfl
 simp only[xc,y,f,bnd,Cw p,Ef,q,Q3,GN]
end
end
section
variable{off:Nat}{ty:TypeId}{x:Operand}
def mY{n}:(KC k n nt).n0=n:=rfl
section
variable{h:HF}{n:Nat}{d:Tmp}
theorem NK{l c}(zs)(k:∀h',h' (3*n+2)=ξ (.row (rep L zs) e)->J3 n h h'->EO X ops r ⟨upd t d (.slice (ξ ⟨3*n+2,0,θ⟩) L L),h',n+1,w⟩ Q)(f:zh ops t o=φ:=by rfl)(hd:o.dst=ξ d:=by rfl)(hn:zv X.nt (ξ d)=φ:=by rfl)(ho:o.op=.makeSlice ty l c:=by rfl)(hu:X.E.und ty=ξ (.slice e):=by rfl)(hi:X.E.inf e=ξ (sz,bt,z):=by rfl)(hz:zn z=zs:=by rfl)(hl:J2 t l=.int ik (L:Int):=by rfl)(hc:J2 t c=.int ik' (L:Int):=by rfl)(hs:zs.length=sz:=by rfl)(hb:bt<=1000:=by exact Nat.le_of_ble_eq_true ω)(a:L<=1000):EO X ops (o::r) ⟨t,h,n,w⟩ Q:=
 vB ⟨f,hd,hn,ho,hu,hi,hl,hc,(by rw[hz];exact hs)⟩ ⟨Nat.le_refl _,Nat.le_trans (Nat.mul_le_mul a hb) zd,Z⟩ (k _ (by grind [zg]) (J3.upd Z))
end
section
variable{h:HF}{n:Nat}{ld:List (Nat×Nat)}{d:Tmp}
def PQ{P}{a}{zs}{q:D}(c)(y:OR sz P h n b zs)(u:KP sz P)(hj:j<zs.length)(l:off=j*sz)(s:P c q h n)(g:3*n0<=b)(p:zh ops t o=φ:=by rfl)(hd:o.dst=θ:=by rfl)(ho:o.op=.store ty a x:=by rfl)(hi:X.E.inf ty=ξ (sz,bt,z):=by rfl)(ha:J2 t a=.pointer (ξ ⟨b,off,θ⟩):=by rfl)(hx:zn (J2 t x)=c:=by rfl)(h1:xq m ef=φ:=by rfl)(h2:xJ m al=φ:=by rfl)(h3:ya m [b] ld=φ:=by rfl)(hX:X.n0=n0:=by rfl)(k:∀f,OR sz P f n b (zs.set j q)->Kp b h f->ED X ops r ms (i+1) ⟨⟨t,f,n,w⟩,al,ld,(i,h,[b])::ef⟩ Q):ED X ops (o::r) (m::ms) i ⟨⟨t,h,n,w⟩,al,ld,ef⟩ Q:=
 dZ c y u hj l s (λf v A _=>by rw[wD g];exact k f v A) p hd ho hi ha hx h1 h2 h3 hX
end
def SG(k)(h)(n):CX (J4 (k+3)) 43 [υ 1] h n (QV 1):=by apply zw R4;apply(Zk);intro h1 v A;apply(zG);apply sC (NH _ _ _);rintro _ p s⟨c,a,g,f,rfl,l⟩ C B;apply sT #[U c,Y a g f,U χ,η];apply sS [U c,Y a g f,U χ,η];intro q y u;apply(zq);exact⟨_,_,_,_,_,_,_,_,ω,(l.t zt:IW _ _ _ _ _ _ 1),EN _ _⟩
end
section
variable{P:List ψ->D->Prop}
def Rec.app{cs a}{c b}(r:Rec sz P cs c)(s:Rec sz P a b):Rec sz P (cs++a) (c++b):=by
 induction r with
 |nil=>exact s
 |cons hl hp hr ih=>rw[Dh];exact .cons hl hp ih
end
section
variable{h:HF}{n:Nat}{ld:List (Nat×Nat)}{d:Tmp}
def OF{D}{sz}{P}{xT sT e}{s x}{lo a}{z}{q}{v}{n0}(c)(p:List D)(g:GR sz P lo h n e v q)(G:KP sz P)(I:Rec sz (λc d=>P c d h n) c p)(F:c.all nu=φ/\ones c=φ){K}(hx:argS h sz K p.length c)(hm:1<=p.length)(V:q.length+p.length<1000000)(B:n0<=lo/\lo<=n)
  
  (Z3:zh ops t o=φ:=by rfl)(hd:o.dst=ξ d:=by rfl)(hn:zv X.nt (ξ d)=φ:=by rfl)(ho:o.op=.call {callee:=.builtin .append,args:=#[s,x],argTypes:=#[sT,xT]}:=by rfl)(hv:J2 t s=v:=by rfl)(hux:J2 t x=K:=by rfl)(hxT:(match X.E.und xT with|some (.int _)=>χ|none=>χ|_=>φ)=φ:=by rfl)(hus:X.E.und sT=ξ (.slice e):=by rfl)(hi:X.E.inf e=ξ (sz,a,z):=by rfl)(hz:(zn z).length=sz:=by rfl)(h1:1<=sz/\1<=a/\a<=1000:=by decide)(hX:X.n0=n0:=by rfl)(k:∀u f,GR sz P lo f (n+1) e u (q++p)->Tr n h (n+1) f->J3 lo h f->(∀b,b<3*n->¬BkOf v b->f b=h b)->(∀b,BkOf u b->3*n<=b)->EO X ops r ⟨upd t d u,f,n+1,w⟩ Q):EO X ops (o::r) ⟨t,h,n,w⟩ Q:=by
 have Z4:=g;have⟨C,L,J,H⟩:=g;subst hv hux;have j:(q.length+p.length)*a<=1099511627776:=Nat.le_trans (Nat.mul_le_mul (show q.length+p.length<=1000000 from Z) h1.2.2) zd;have⟨u,f,W,M,N,Z1,S,R,T⟩:=uf hus hi hz ⟨h1.1,h1.2.1⟩ L hx hm j I.len F.2 B.2;apply yM ⟨Z3,hd,hn,ho,hxT⟩ M;rw[hX,my λb j=>by have:=R b j;omega];have A:∀b,b<3*n->¬BkOf (J2 t s) b->f b=h b:=λb j hn=>S b j λo l c e=>hn ⟨o,l,c,e⟩;have y:Tr n h (n+1) f:=⟨Nat.le_succ _,λb j=>by
  by_cases hB:BkOf (J2 t s) b;exact .inr (Z4.bk b hB).2.2.2;exact .inl (A b j hB)⟩
 refine k u f ⟨C++c,by rw[List.length_append];exact N,(J.mono λ_ _ r=>G.t r y).app (I.mono λ_ _ r=>G.t r y),by rw[List.all_append,H,F.1];rfl⟩ y Z1 A λb⟨o,l,Z0,e⟩=>?_;subst e;exact T
end
def pOps(E:Env):List Oper->List Nat->Nat->List Nat->Bool
 |[],_,_,_=>φ
 |o::r,m::ms,i,es=>match o.op with
  | .store _ _ _=>es.all (λj=>m.testBit j)&&pOps E r ms (i+1) (i::es)
  |_=>(MD E o.op&& !(DK (Kd o.op) 1))&&pOps E r ms (i+1) es
 |_::_,[],_,_=>χ
theorem zgl{m}:∀{a:List (Nat×HF×List Nat)},(∀y∈a,m.testBit y.1=φ)->xq m a=φ:=by
 intro a;induction a with
 |nil=>intro _;rfl
 |cons y a ih=>
  grind [xq]
theorem ziv{X}{j}:∀(l:List Oper) (ms:List Nat) (i:Nat) (s:SV) (e:List (Nat×HF×List Nat)) (es:List Nat),(∀y∈e,y.1∈es)->pOps X.E l ms i es=φ->mL X j l ms i ⟨s,[],[],e⟩=seqF X j l s:=by
 intro l;induction l with
 |nil=>intro ms i s e es _ _;simp[mL,seqF]
 |cons o l ih=>
  intro ms i s e es g b;cases ms with
  |nil=>simp[pOps]at b
  |cons m ms=>
   unfold pOps at b;unfold mL seqF;simp only;split at b;rename_i ty a x f;rw[DI]at b;cases hw:zh j s.t o with
   |false=>
    simp only;congr 1;grind
   |true=>
    simp only;have p:Kd o.op=3:=by rw[f];rfl
    unfold rL KO;have u:xq m e=φ:=zgl λy D=>E3.1 b.1 _ (g y D);simp only[p,u,xJ,DT];unfold mf;have A:effF X.E o.op (J2 s.t) s.h s.n=uG X.E ty (J2 s.t a) (J2 s.t x) s.h s.n:=by rw[f];rfl
    rw[A];cases he:uG X.E ty (J2 s.t a) (J2 s.t x) s.h s.n with
    |none=>rfl
    |some r=>
     obtain⟨v,G,H,W,rfl⟩:=jz he;have B:=RA he;subst B;simp only;have w:ya m W []=φ:=rfl;unfold xH;split;simp only[w,CP Cy,DT];grind;rfl
   rw[DI,DI]at b;cases hw:zh j s.t o with
   |false=>
    simp only;congr 1;funext s1;exact ih ms (i+1) s1 e es g b.2
   |true=>
    simp only;unfold rL KO;obtain F|⟨t,d,x,k,f,q⟩:=Ps b.1.1;cases p:Kd o.op with
    |zero=>
     simp only[p];cases yy X.E o.op (J2 s.t)with
     |none=>rfl
     |some v=>
      simp only;congr 1;funext s1;exact ih ms (i+1) s1 e es g b.2
    |succ c=>
     cases c with
     |zero=>rw[p]at b;simp at b
     |succ c=>omega
    have p:Kd o.op=4:=by rw[f];rfl
    have C:Kl X.E o.op (J2 s.t)=θ:=by rw[f];exact sQ q _
    simp only[p,C];cases hpu:yy X.E o.op (J2 s.t)with
    |none=>
     rw[f];simp only[vJ q]
    |some v=>
     rw[f];simp only[vJ q];congr 1;funext s1;exact ih ms (i+1) s1 e es g b.2
theorem iU{X}{d}{a}{s}{Q}(b:pOps X.E a.toList (xA a.toList []) 0 []=φ):EC X (.region d a φ) s Q↔EO X a.toList a.toList s (Q .normal):=by unfold EC EO;rw[xk];have e:mL X a.toList a.toList (xA a.toList []) 0 ⟨s,[],[],[]⟩=seqF X a.toList a.toList s:=ziv _ _ _ _ _ _ (λy c=>Cu c CO) b;grind
section
variable{ty:TypeId}{x:Operand}{s:List UInt8}
def yP:List UInt8:=[48,48,48,49,48,50,48,51,48,52,48,53,48,54,48,55,48,56,48,57,49,48,49,49,49,50,49,51,49,52,49,53,49,54,49,55,49,56,49,57,50,48,50,49,50,50,50,51,50,52,50,53,50,54,50,55,50,56,50,57,51,48,51,49,51,50,51,51,51,52,51,53,51,54,51,55,51,56,51,57,52,48,52,49,52,50,52,51,52,52,52,53,52,54,52,55,52,56,52,57,53,48,53,49,53,50,53,51,53,52,53,53,53,54,53,55,53,56,53,57,54,48,54,49,54,50,54,51,54,52,54,53,54,54,54,55,54,56,54,57,55,48,55,49,55,50,55,51,55,52,55,53,55,54,55,55,55,56,55,57,56,48,56,49,56,50,56,51,56,52,56,53,56,54,56,55,56,56,56,57,57,48,57,49,57,50,57,51,57,52,57,53,57,54,57,55,57,56,57,57]
def wI(m)(hm:m<100):∃b1 b2,yP[m*2]?=ξ b1/\yP[m*2+1]?=ξ b2/\b1.toNat=48+m/10/\b2.toNat=48+m%10/\(yP.drop (m*2)).take 2=[b1,b2]:=by
 have h:∀i:Fin 100,(match yP[i.val*2]?,yP[i.val*2+1]? with|some b1,ξ b2=>decide (b1.toNat=48+i.val/10/\b2.toNat=48+i.val%10/\(yP.drop (i.val*2)).take 2=[b1,b2])|_,_=>χ)=φ:=by decide+kernel
 have:=h ⟨m,hm⟩;simp only at this;split at this;rename_i b1 b2 h1 h2;have b:=of_decide_eq_true this;exact⟨b1,b2,h1,h2,b.1,b.2.1,b.2.2⟩;cases this
section
variable{h:HF}{n:Nat}{d:Tmp}
def jB{i l}(b:qt X ops t o d (o.op=.slice ty x (ξ i) (ξ l) θ/\X.E.und ty=ξ .string/\J2 t x=CG ⟨⟨s⟩⟩/\J2 t i=CC ik (j:Int)/\J2 t l=CC ik' (m:Int)))(B:j<=m/\m<=O s)
  (k:EO X ops r ⟨upd t d (CG ⟨⟨(s.drop j).take (m-j)⟩⟩),h,n,w⟩ Q):EO X ops (o::r) ⟨t,h,n,w⟩ Q:=by have⟨b,g,u,c,v,A,p,q⟩:=b;refine zZ ⟨b,g,u,(by rw[c];rfl)⟩ ?_ k;rw[c];show xc X.E ty (J2 t x) (ξ (J2 t i)) (ξ (J2 t l))=_;rw[A,p,q];have e:(0:Int)<=(j:Int)/\(j:Int)<=(m:Int):=Z;have f:(0:Int)<=(m:Int)/\(m:Int)<=(O s:Int):=Z;simp only[xc,v,bnd,Cw e,Cw f,Ef]
end
section
variable{h:HF}{n:Nat}{d:Tmp}
def zap{s:Nat}(l:zh ops t o=φ)(f:o.dst=ξ d)(g:zv X.nt (ξ d)=φ)(b:o.op=.binOp .shr ty x y ty')(hx:J2 t x=υ (a:Int))(p:J2 t y=CC ik (s:Int))(q:s<=64)
  (k:EO X ops r ⟨upd t d (υ ((a/2^s:Nat):Int)),h,n,w⟩ Q):EO X ops (o::r) ⟨t,h,n,w⟩ Q:=by
 refine zZ ⟨l,f,g,(by rw[b];rfl)⟩ ?_ k;rw[b];show binE X.E .shr ty (J2 t x) (J2 t y)=_;rw[hx,p];have c:¬(s:Int)<0:=Z;have e:min (s:Int).toNat (Em .i64)=s:=by simp[Em];omega
 exact Bz
end
def zbs(h:i<10):decT i=[Ec (48+i)]:=by
 have c:(Ec (48+i)).toNat=48+i:=Oi h;by_cases h0:i=0;subst h0;rfl;have:=qC (d:=[Ec (48+i)]) (λb f=>by rw[CV.1 f,c];omega) eC (by
  intro e;injection e with e;have:=congrArg ap2 e;rw[c]at this;have g:(48:UInt8).toNat=48:=rfl;omega)
 rw[<-this];congr 1;show i=10*0+((Ec (48+i)).toNat-48);rw[c];omega
def zi2{c f}(u:10<=i/\i<100)(p:c.toNat=48+i/10)(q:f.toNat=48+i%10):decT i=[c,f]:=by
 have:=qC (d:=[c,f]) (λb g=>by
  simp only[De,CO,or_false]at g;obtain rfl|rfl:=g<;>omega) eC (by
  intro e;injection e with e;have:=congrArg ap2 e;have l:(48:UInt8).toNat=48:=rfl;omega)
 rw[<-this];congr 1;show i=10*(10*0+(c.toNat-48))+(f.toNat-48);omega
def PR:List UInt8:=[48,49,50,51,52,53,54,55,56,57,97,98,99,100,101,102,103,104,105,106,107,108,109,110,111,112,113,114,115,116,117,118,119,120,121,122]
def znu(m)(hm:m<10):(PR.drop m).take 1=[Ec (48+m)]:=by
 have h:∀i:Fin 10,(PR.drop i.val).take 1=[Ec (48+i.val)]:=by decide+kernel
 exact h ⟨m,hm⟩
def ka(k)(h)(n)(hi:i<100):VF (J4 (k+1)) 156 [υ (i:Int)] h n λv=>v=CG ⟨⟨decT i⟩⟩:=by apply zO R4;apply(Za);by_cases h10:i<10;apply(Zx);apply(zR);apply jB (s:=PR) (j:=i) (m:=i+1) R8 ⟨Z,by show i+1<=36;omega⟩;rw[show i+1-i=1 by omega,znu i h10,<-zbs h10];apply(Zm);exact Bv;apply(Zj);have⟨g,l,_,_,c,e,f⟩:=wI i hi;apply(zM);refine st_mul (a:=(i:Int)) (b:=2) ω ω ω ω ω ω Z ?_;apply(zM);refine st_mul (a:=(i:Int)) (b:=2) ω ω ω ω ω ω Z ?_;apply(zR);apply jB (s:=yP) (j:=i*2) (m:=i*2+2) R8 ⟨Z,by show i*2+2<=200;omega⟩;rw[show i*2+2-i*2=2 by omega,f,<-zi2 Z c e];apply(Zm);exact Bv
def aI(k)(h)(n)(b):VF (J4 (k+1)) 185 [U b] h n λv=>v=υ (if b then 1 else 0):=by apply zO R4;apply(ZA);cases b;rw[za rfl];apply(Za);exact Bv;rw[ze rfl];apply(Za);exact Bv
def zh6(k)(h)(n)(hm:m<=64):VF (J4 (k+1)) 183 [υ (m:Int)] h n λv=>v=υ ((m*78913/262144:Nat):Int):=by apply zO R4;apply(Zi);apply(Zi);refine st_mul ω ω ω ω ω ω Z ?_;apply zap (s:=18) ω ω ω ω ω ω Z;apply(Zm);exact Bv
def zpx(hm:m<20):GK.p10[0+(m:Int).toNat*1]?=ξ (CC .u64 ((10^m:Nat):Int)):=by
 rw[show 0+(m:Int).toNat*1=m from Z];have h:∀i:Fin 20,(match GK.p10[i.val]? with|some (CC .u64 x)=>decide (x=((10^i.val:Nat):Int))|_=>χ)=φ:=by decide+kernel
 have:=h ⟨m,hm⟩;simp only at this;split at this;rename_i x hx;rw[hx,of_decide_eq_true this];cases this
def zbb(hm:m<=64):m*78913/262144<20/\2^m<=10^(m*78913/262144+1)/\10^(m*78913/262144)<=5*2^m:=by
 have h:∀i:Fin 65,decide (i.val*78913/262144<20/\2^i.val<=10^(i.val*78913/262144+1)/\10^(i.val*78913/262144)<=5*2^i.val)=φ:=by decide+kernel
 exact of_decide_eq_true (h ⟨m,Z⟩)
theorem vy(k){h}(C:GK.G h)(n){x:Nat}(hx:x<18446744073709551616)(B:x≠0):VF (J4 (k+2)) 157 [ι (x:Int)] h n λv=>∃m:Nat,v=υ (m:Int)/\1<=m/\m<=20/\x<10^m/\10^(m-1)<=x:=by
 apply zO R4;apply(Za);apply(zM);apply yi _ R5 (bi k _ _ hx);rintro _⟨m,rfl,e,f,g⟩;apply yi _ R5 (zh6 k _ _ e);rintro _ rfl;have⟨c,u,A⟩:=zbb e;have F:=g B;generalize m*78913/262144=q at c u A⊢;apply(Zm);apply(Zw);apply fk R8 ⟨Int.natCast_nonneg _,Int.ofNat_lt.2 c⟩;apply zT R6 C.2.1 ⟨ω,(zpx c)⟩;by_cases hge:10^q<=x;refine jD R6 (ac5.2 hge)<|yi _ R5 (aI (k+1) _ _ φ) ?_;rintro _ rfl;apply uI (a:=(q:Int)) (b:=1) R6 Z;apply(Zm);exact retF _ ω (zi ω) R2 ⟨q+1,ω,Z,Z,CS f u,hge⟩;apply Nz R6 (λD=>hge (ac5.1 D));apply yi _ R5 (aI (k+1) _ _ χ);rintro _ rfl;apply uI (a:=(q:Int)) (b:=0) R6 Z;rw[Int.add_zero];apply(Zm);have l:1<=q:=by grind
 refine retF _ ω (zi ω) R2 ⟨q,ω,l,Z,Z,?_⟩;obtain⟨p,rfl⟩:∃p,q=p+1:=⟨q-1,Z⟩;rw[C5]at A;show 10^p<=x;omega
end
section
variable{h h0:HF}{n:Nat}
def Dg(c:List ψ)(o L Z4 i:Nat):Prop:=∀j,i<=j->j<L->c[o+j]?=ξ (Γ ((48+Z4/10^(L-1-j)%10:Nat):Int))
structure FbI (h0:HF)(B:Nat)(e:TypeId)(o L Z4:Nat)(c0:List ψ)(h:HF)(w:List Nat)(c:List ψ)(i:Nat):Prop where
 w1:∀b∈w,b=B
 w2:w=[]->h=h0
 oth:Only B h0 h
 row:h B=ξ (.row c e)
 len:O c=O c0
 dg:Dg c o L Z4 i
 out:∀k,(k<o\/o+L<=k)->c[k]?=c0[k]?
def FbI.put{o}{c}{v}(f:FbI h0 B e o L Z4 c0 h w c i)(hi:i=m+1)(p:i<=L)(q:o+L<=O c0)(hv:v=48+Z4/10^(L-i)%10):FbI h0 B e o L Z4 c0 (upd h B (ξ (.row (c.set (o+m) (Γ (v:Int))) e))) (B::w) (c.set (o+m) (Γ (v:Int))) m:=by refine⟨λb a=>?_,λh=>Aa,λb a=>(zm a).trans (f.oth b a),zg _ _ _,by rw[DH,f.len],λj l d=>?_,λk g=>?_⟩;obtain h|h:=De.1 a;exact h;exact f.w1 b h;by_cases e2:j=m;subst e2;rw[List.getElem?_set_self (by rw[f.len];omega),hv,show L-1-j=L-i by omega];rw[JI Z];exact f.dg j Z d;rw[JI Z];exact f.out k g
def FbP(h:HF)(n B:Nat)(e:TypeId)(o L Z4:Nat)(c0:List ψ)(h':HF)(n':Nat)(w:List Nat):Prop:=n'=n/\(∀b∈w,b=B)/\∃c,FbI h B e o L Z4 c0 h' w c 0
def kN(k){o}(hB:B<3*n)(a0:h B=ξ (.row c0 e))(D:o+L<=O c0)(hL:1<=L/\L<=20)(hU:Z4<10^L)(a2:Z4<18446744073709551616):
  CF (J4 (k+1)) 158 [Y (ξ ⟨B,o,θ⟩) L cap,ι (Z4:Int)] h n λ_ K N w=>FbP h n B e o L Z4 c0 K N w:=by
 apply Lg R4;have f0:FbI h B e o L Z4 c0 h [] c0 L:=⟨λb hb=>Cu hb CO,λ_=>rfl,λ_ _=>rfl,a0,ω,λj M h2=>Cu M Z,λ_ _=>rfl⟩;apply(Za);refine ye (α:=Nat×Nat×List ψ) (λz=>[(0,Y (ξ ⟨B,o,θ⟩) L cap),(1,ι (z.2.1:Int)),(4,υ (z.1:Int))])
  (λz K N w=>n=N/\FbI h B e o L Z4 c0 K w z.2.2 z.1/\z.1<=L/\z.2.1=Z4/10^(L-z.1)) (λz=>z.1) (L,Z4,c0) P3 ⟨ω,f0,Cy,by show Z4=Z4/10^(L-L);rw[DY,EA,HD]⟩ (by show L<LL;unfold LL;omega) ?_
 rintro⟨i,u,c⟩ t M _ w ⟨rfl,d,G,A⟩;dsimp only at d G A;have C:∀q,Z4/10^(L-i+q)=u/10^q:=λq=>by rw[A,Fm,<-DV]
 have a6:u<18446744073709551616:=by rw[A];exact C7 (Ei _ _) a2
 have f:u<10^i:=(by rw[A];refine Ie ?_;rw[<-DV,show L-i+i=L by omega];exact hU);apply(zN);by_cases h8:8<=i;apply(ZD);apply vO (a:=u) (b:=100000000) R6 Z;apply MY (c:=u%100000000) R7 Z;apply(Zv);apply xN (a:=u) (b:=100000000) R6 ⟨Z,Z⟩;apply(Zm);generalize hus:u%100000000=us;apply(zM);apply LW (a:=us) (b:=10000) R6 ⟨Z,Z⟩;apply(zM);apply wR (a:=us) (b:=10000) R6 Z;apply(Zb);apply(zN);generalize hlo:us%10000=lo;generalize hhi:us/10000=hg;have a3:lo%100=u%100:=Z;apply(zM);apply LW (a:=lo) (b:=100) R6 ⟨Z,Z⟩;apply xM (a:=lo/100) (b:=2) R6 Z;apply(zM);apply wR (a:=lo) (b:=100) R6 Z;apply xM (a:=lo%100) (b:=2) R6 Z;apply(Zb);apply(Zi);apply LW (a:=hg) (b:=100) R6 ⟨Z,Z⟩;apply xM (a:=hg/100) (b:=2) R6 Z;apply(zM);apply wR (a:=hg) (b:=100) R6 Z;apply xM (a:=hg%100) (b:=2) R6 Z;apply(Zb);apply(zN);generalize hm1:lo%100=m1;generalize hm2:lo/100=m2;generalize hm3:hg%100=m3;generalize hm4:hg/100=m4;have I:m1%10=u%10/\m1/10=u/10%10:=Z;have T:m2%10=u/100%10/\m2/10=u/1000%10:=Z;have k2:m3%10=u/10000%10/\m3/10=u/100000%10:=Z;have k3:m4%10=u/1000000%10/\m4/10=u/10000000%10:=Z;have l1:m1<100/\m2<100/\m3<100/\m4<100:=Z;rw[iU rfl];have⟨Z1,P,g,l,p,y,_⟩:=wI (m1) Z;apply(Zy);apply(Zy);apply(zM);refine xu (a:=m1*2) (b:=1) R6 Z<|yH (s:=yP) (j:=m1*2+1) R8 l ?_;rw[y];apply(zM);apply yH (s:=yP) (j:=m1*2) R8 g;rw[p];refine yG (j:=i-1) R8 Z ⟨Z,Bg⟩ d.row gP (λ_=>rfl) R3 (λ_=>rfl) ω λ_=>?_;have F:=d.put (m:=i-1) (v:=48+(m1)%10) Z Z D (by rw[<-A,I.1]);refine yG (j:=i-2) R8 Z ⟨Z,by rw[F.len];omega⟩ F.row gP (λ_=>rfl) R3 (λ_=>rfl) ω λ_=>?_;have H:=F.put (m:=i-2) (v:=48+(m1)/10) Z Z D Aw;apply(zN);rw[iU rfl];have⟨Z1,P,g,l,p,y,_⟩:=wI (m2) Z;apply(Zy);apply(Zy);apply(zM);refine xu (a:=m2*2) (b:=1) R6 Z<|yH (s:=yP) (j:=m2*2+1) R8 l ?_;rw[y];apply(zM);apply yH (s:=yP) (j:=m2*2) R8 g;rw[p];refine yG (j:=i-3) R8 Z ⟨Z,by rw[H.len];omega⟩ H.row gP (λ_=>rfl) R3 (λ_=>rfl) ω λ_=>?_;have J:=H.put (m:=i-3) (v:=48+(m2)%10) Z Z D (by rw[show L-(i-2)=L-i+2 by omega,C 2,T.1]);refine yG (j:=i-4) R8 Z ⟨Z,by rw[J.len];omega⟩ J.row gP (λ_=>rfl) R3 (λ_=>rfl) ω λ_=>?_;have R:=J.put (m:=i-4) (v:=48+(m2)/10) Z Z D (by rw[show L-(i-3)=L-i+3 by omega,C 3,T.2]);apply(zN);rw[iU rfl];have⟨Z1,P,g,l,p,y,_⟩:=wI (m3) Z;apply(Zy);apply(Zy);apply(zM);refine xu (a:=m3*2) (b:=1) R6 Z<|yH (s:=yP) (j:=m3*2+1) R8 l ?_;rw[y];apply(zM);apply yH (s:=yP) (j:=m3*2) R8 g;rw[p];refine yG (j:=i-5) R8 Z ⟨Z,by rw[R.len];omega⟩ R.row gP (λ_=>rfl) R3 (λ_=>rfl) ω λ_=>?_;have W:=R.put (m:=i-5) (v:=48+(m3)%10) Z Z D (by rw[show L-(i-4)=L-i+4 by omega,C 4,k2.1]);refine yG (j:=i-6) R8 Z ⟨Z,by rw[W.len];omega⟩ W.row gP (λ_=>rfl) R3 (λ_=>rfl) ω λ_=>?_;have Z3:=W.put (m:=i-6) (v:=48+(m3)/10) Z Z D (by rw[show L-(i-5)=L-i+5 by omega,C 5,k2.2]);apply(zN);rw[iU rfl];have⟨Z1,P,g,l,p,y,_⟩:=wI (m4) Z;apply(Zy);apply(Zy);apply(zM);refine xu (a:=m4*2) (b:=1) R6 Z<|yH (s:=yP) (j:=m4*2+1) R8 l ?_;rw[y];apply(zM);apply yH (s:=yP) (j:=m4*2) R8 g;rw[p];refine yG (j:=i-7) R8 Z ⟨Z,by rw[Z3.len];omega⟩ Z3.row gP (λ_=>rfl) R3 (λ_=>rfl) ω λ_=>?_;have Z0:=Z3.put (m:=i-7) (v:=48+(m4)%10) Z Z D (by rw[show L-(i-6)=L-i+6 by omega,C 6,k3.1]);refine yG (j:=i-8) R8 Z ⟨Z,by rw[Z0.len];omega⟩ Z0.row gP (λ_=>rfl) R3 (λ_=>rfl) ω λ_=>?_;have f9:=Z0.put (m:=i-8) (v:=48+(m4)/10) Z Z D (by rw[show L-(i-7)=L-i+7 by omega,C 7,k3.2]);apply(Za);exact goOn (i-8,u/100000000,_) (by show i-8<i;omega) ⟨ω,ω,by show υ _=υ _;congr 1;show(i:Int)-8=((i-8:Nat):Int);omega,Cx⟩ ⟨ω,f9,by show i-8<=L;omega,by show u/100000000=Z4/10^(L-(i-8));rw[show L-(i-8)=L-i+8 by omega,C 8]⟩;apply(Zj);have a5:u<100000000:=CS f (CQ zd (show i<=8 from Z));apply(zM);apply MY (c:=u) R7 Z;apply(Zv);apply MA R6;apply(zN);refine yj (α:=Nat×Nat×List ψ) (λz=>[(0,Y (ξ ⟨B,o,θ⟩) L cap),(4,υ (z.1:Int)),(12,ν (z.2.1:Int))]) (λz K N w=>n=N/\FbI h B e o L Z4 c0 K w z.2.2 z.1/\z.1<=L/\z.2.1=Z4/10^(L-z.1)/\z.2.1<10^z.1/\z.1<4) ?_ ?_;by_cases h4:4<=i;rw[Ct (show(i:Int)>=4 from Z)];rw[ze rfl];apply(Zi);apply wR (a:=u) (b:=10000) R6 Z;apply(Zv);apply LW (a:=u) (b:=10000) R6 ⟨Z,Z⟩;apply(Zm);generalize hlo:u%10000=lo;apply(zM);apply LW (a:=lo) (b:=100) R6 ⟨Z,Z⟩;apply xM (a:=lo/100) (b:=2) R6 Z;apply(zM);apply wR (a:=lo) (b:=100) R6 Z;apply xM (a:=lo%100) (b:=2) R6 Z;apply(Zb);apply(zN);generalize hm1:lo%100=m1;generalize hm2:lo/100=m2;have I:m1%10=u%10/\m1/10=u/10%10:=Z;have T:m2%10=u/100%10/\m2/10=u/1000%10:=Z;have l1:m1<100/\m2<100:=Z;rw[iU rfl];have⟨Z1,P,g,l,p,y,_⟩:=wI (m1) Z;apply(Zy);apply(Zy);apply(zM);refine xu (a:=m1*2) (b:=1) R6 Z<|yH (s:=yP) (j:=m1*2+1) R8 l ?_;rw[y];apply(zM);apply yH (s:=yP) (j:=m1*2) R8 g;rw[p];refine yG (j:=i-1) R8 Z ⟨Z,Bg⟩ d.row gP (λ_=>rfl) R3 (λ_=>rfl) ω λ_=>?_;have F:=d.put (m:=i-1) (v:=48+(m1)%10) Z Z D (by rw[<-A,I.1]);refine yG (j:=i-2) R8 Z ⟨Z,by rw[F.len];omega⟩ F.row gP (λ_=>rfl) R3 (λ_=>rfl) ω λ_=>?_;have H:=F.put (m:=i-2) (v:=48+(m1)/10) Z Z D Aw;apply(zN);rw[iU rfl];have⟨Z1,P,g,l,p,y,_⟩:=wI (m2) Z;apply(Zy);apply(Zy);apply(zM);refine xu (a:=m2*2) (b:=1) R6 Z<|yH (s:=yP) (j:=m2*2+1) R8 l ?_;rw[y];apply(zM);apply yH (s:=yP) (j:=m2*2) R8 g;rw[p];refine yG (j:=i-3) R8 Z ⟨Z,by rw[H.len];omega⟩ H.row gP (λ_=>rfl) R3 (λ_=>rfl) ω λ_=>?_;have J:=H.put (m:=i-3) (v:=48+(m2)%10) Z Z D (by rw[show L-(i-2)=L-i+2 by omega,C 2,T.1]);refine yG (j:=i-4) R8 Z ⟨Z,by rw[J.len];omega⟩ J.row gP (λ_=>rfl) R3 (λ_=>rfl) ω λ_=>?_;have R:=J.put (m:=i-4) (v:=48+(m2)/10) Z Z D (by rw[show L-(i-3)=L-i+3 by omega,C 3,T.2]);apply(Za);refine zA (i-4,u/10000,_) ⟨ω,by show υ _=υ _;congr 1;show(i:Int)-4=((i-4:Nat):Int);omega,ω,Cx⟩ ⟨ω,R,by show i-4<=L;omega,by show u/10000=Z4/10^(L-(i-4));rw[show L-(i-4)=L-i+4 by omega,C 4],?_,by show i-4<4;omega⟩;show u/10000<10^(i-4);refine Ie ?_;rw[show(10000:Nat)=10^4 from ω,<-DV,show 4+(i-4)=i by omega];exact f;rw[BG (show ¬(i:Int)>=4 from Z)];rw[za rfl];try apply(zN)
 exact zA (i,u,c) P3 ⟨ω,d,G,A,f,by show i<4;omega⟩;rintro⟨i,u,c⟩ t M _ w ⟨rfl,d,G,A,f,S⟩;dsimp only at d G A f S;have C:∀q,Z4/10^(L-i+q)=u/10^q:=λq=>by rw[A,Fm,<-DV]
 have a4:u<10000:=CS f (CQ zd (show i<=4 from Z));apply(Zi);apply MA R6;apply(zN);refine yj (α:=Nat×Nat×List ψ) (λz=>[(0,Y (ξ ⟨B,o,θ⟩) L cap),(4,υ (z.1:Int)),(12,ν (z.2.1:Int))]) (λz K N w=>n=N/\FbI h B e o L Z4 c0 K w z.2.2 z.1/\z.1<=L/\z.2.1=Z4/10^(L-z.1)/\z.2.1<10^z.1/\z.1<2) ?_ ?_;by_cases h2:2<=i;rw[Ct (show(i:Int)>=2 from Z)];rw[ze rfl];apply(Zi);apply wR (a:=u) (b:=100) R6 Z;apply xM (a:=u%100) (b:=2) R6 Z;apply(Zv);apply LW (a:=u) (b:=100) R6 ⟨Z,Z⟩;apply(Zm);generalize hm1:u%100=m1;have I:m1%10=u%10/\m1/10=u/10%10:=Z;have l1:m1<100:=Z;rw[iU rfl];have⟨Z1,P,g,l,p,y,_⟩:=wI (m1) Z;apply(Zy);apply(Zy);apply(zM);refine xu (a:=m1*2) (b:=1) R6 Z<|yH (s:=yP) (j:=m1*2+1) R8 l ?_;rw[y];apply(zM);apply yH (s:=yP) (j:=m1*2) R8 g;rw[p];refine yG (j:=i-1) R8 Z ⟨Z,Bg⟩ d.row gP (λ_=>rfl) R3 (λ_=>rfl) ω λ_=>?_;have F:=d.put (m:=i-1) (v:=48+(m1)%10) Z Z D (by rw[<-A,I.1]);refine yG (j:=i-2) R8 Z ⟨Z,by rw[F.len];omega⟩ F.row gP (λ_=>rfl) R3 (λ_=>rfl) ω λ_=>?_;have H:=F.put (m:=i-2) (v:=48+(m1)/10) Z Z D Aw;apply(Za);refine zA (i-2,u/100,_) ⟨ω,by show υ _=υ _;congr 1;show(i:Int)-2=((i-2:Nat):Int);omega,ω,Cx⟩ ⟨ω,H,by show i-2<=L;omega,by show u/100=Z4/10^(L-(i-2));rw[show L-(i-2)=L-i+2 by omega,C 2],?_,by show i-2<2;omega⟩;show u/100<10^(i-2);refine Ie ?_;rw[show(100:Nat)=10^2 from ω,<-DV,show 2+(i-2)=i by omega];exact f;rw[BG (show ¬(i:Int)>=2 from Z)];rw[za rfl];try apply(zN)
 exact zA (i,u,c) P3 ⟨ω,d,G,A,f,by show i<2;omega⟩;rintro⟨i,u,c⟩ t M _ w ⟨rfl,d,G,A,f,V⟩;dsimp only at d G A f V;apply(zN);by_cases h0:i=0;subst h0;apply(Zc);try apply(zN)
 refine⟨ω,[],ω,⟨ω,d.w1,c,d⟩,λhw=>?_⟩;subst hw;have:=d.w2 rfl;subst this;exact⟨ω,d.w1,c,d⟩;have a1:i=1:=Z;subst a1;have a7:u<10:=f;apply(Zx);refine xu (a:=48) (b:=u) R6 Z<|mE (a:=48+u) R7 ?_;rw[C1 (show 48+u<256 from Z)];refine yG (j:=0) R8 ω ⟨Z,Bg⟩ d.row gP (λ_=>rfl) R3 (λ_=>rfl) ω λ_=>?_;have F:=d.put (m:=0) (v:=48+u) ω G D Z;apply(zN);exact⟨ω,[],ω,⟨ω,F.w1,_,F⟩,λhw=>(by cases hw)⟩
end
section
variable{h0:HF}{len:Nat}{ty:TypeId}{x:Operand}
theorem ak:∀(L Z4:Nat),1<=L->Z4<10^L->10^(L-1)<=Z4->O (decD Z4)=L/\∀j,j<L->(decD Z4)[j]?=ξ (Z4/10^(L-1-j)%10):=by
 intro L;induction L with
 |zero=>intro Z4 h;omega
 |succ L ih=>
  intro Z4 _ m f;have p:0<10^L:=Ds zd;rw[FI]at f;have a:=wy (V:=Z4) Z;by_cases hL:L=0;subst hL;have e:Z4/10=0:=Z;rw[e,xo]at a;rw[a];refine⟨ω,λj l=>?_⟩;have:j=0:=Z;subst this;rw[show 0+1-1-0=0 by omega,EA,HD];rfl;have⟨c,g⟩:=ih (Z4/10) Z Z (by
   obtain⟨q,rfl⟩:∃q,L=q+1:=⟨L-1,Z⟩;rw[C5]at f;rw[FI];omega)
  rw[a];refine⟨by rw[CJ,c];rfl,λj l=>?_⟩;by_cases h3:j<L;rw[List.getElem?_append_left Z,g j h3,Fm,CY 10,<-C5,show(L-1-j).succ=L+1-1-j by omega];have:j=L:=Z;subst this;rw[List.getElem?_append_right Z,c,DY,FI,DY,EA,HD];rfl
theorem FbI.cells{o}{h}{w}{c}(f:FbI h0 B e o L Z4 c0 h w c 0)(s:o+L<=O c0)(m:1<=L)(g:Z4<10^L)(l:10^(L-1)<=Z4):(c.drop o).take L=Kn (decB Z4):=by have⟨p,a⟩:=ak L Z4 m g l;have q:=f.len;refine List.ext_getElem? λj=>?_;by_cases hj:j<L;rw[List.getElem?_take_of_lt hj,List.getElem?_drop,f.dg j Cz hj];unfold Kn decB;rw[Dx,Dx,a j hj];rfl;rw[Dc aD,Dc (by grind [rU,decB,CN])]
section
variable{h:HF}{n:Nat}{d:Tmp}
theorem oh{lo hi}(a:qt X ops t o d (o.op=.slice ty x (ξ lo) (ξ hi) θ/\X.E.und ty=ξ (.array len e)/\X.E.inf e=ξ (sz,bt,z)/\J2 t x=ε b/\J2 t lo=CC ik (i:Int)/\J2 t hi=CC ik' ji))(g:ji=(j:Int))(hb:gro b=χ)(C:i<=j/\j<=len/\i<len)
  (k:EO X ops r ⟨upd t d (Y (ξ ⟨b,0+i*sz,θ⟩) (j-i) (len-i)),h,n,w⟩ Q):EO X ops (o::r) ⟨t,h,n,w⟩ Q:=by
 obtain⟨a,u,v,m,y,f,A,l,c⟩:=a;subst g;refine zZ ⟨a,u,v,(by rw[m];rfl)⟩ ?_ k;rw[m];show xc X.E ty (J2 t x) (ξ (J2 t lo)) (ξ (J2 t hi))=_;rw[A,l,c];have p:(0:Int)<=(i:Int)/\(i:Int)<=(j:Int):=Z;have q:(0:Int)<=(j:Int)/\(j:Int)<=(len:Int):=Z;have s:DK len i=χ:=by grind [DK,DC]
 simp only[xc,y,f,bnd,Cw p,Cw q,Ef,hb,IC,ac6,offA,s,wO]
theorem te{hi}(a:qt X ops t o d (o.op=.slice ty x θ (ξ hi) θ/\X.E.und ty=ξ (.array len e)/\X.E.inf e=ξ (sz,bt,z)/\J2 t x=ε b/\J2 t hi=CC ik' ji))(g:ji=(j:Int))(hb:gro b=χ)(y:j<=len/\0<len)
  (k:EO X ops r ⟨upd t d (Y (ξ ⟨b,0,θ⟩) j len),h,n,w⟩ Q):EO X ops (o::r) ⟨t,h,n,w⟩ Q:=by
 obtain⟨a,q,s,l,u,f,v,c⟩:=a;subst g;refine zZ ⟨a,q,s,(by rw[l];rfl)⟩ ?_ k;rw[l];show xc X.E ty (J2 t x) θ (ξ (J2 t hi))=_;rw[v,c];have m:(0:Int)<=(j:Int)/\(j:Int)<=(len:Int):=Z;have p:DK len 0=χ:=by grind [DK,DC]
 simp only[xc,u,f,bnd,Cw m,Ef,hb,IC,ac6,offA,p,wO,DU,GN]
end
def intT(x:Int):List UInt8:=(if x<0 then[45]else[])++decT x.natAbs
def ae(h:Z4≠0):(decB Z4).map Ec=decT Z4:=by unfold decT;rw[Cv h]
def dW(d)(l):Kn (d::l)=Γ (d:Int)::Kn l:=rfl
def wV{h}{o}{c}(g:h b=ξ (.row c e))(f:(c.drop o).take L=cl)(l:o+L<=O c)(a:L<=cap):argS h 1 (Y (ξ ⟨b,o,θ⟩) L cap) L cl:=
 uX (n:=b+1) (.at_ Z g ω a Z (by rw[DD];exact f))
def ze6(k){h}(F:GK.G h){n}(K:20<=n){x}(hx: -9223372036854775808<=x/\x<9223372036854775808):VF (J4 (k+3)) 117 [υ x,υ 10] h n λv=>v=CG ⟨⟨intT x⟩⟩:=by
 apply zO R4;apply(Za);apply(Zo);by_cases hsm:0<=x/\x<100;obtain⟨i,rfl⟩:∃i:Nat,x=(i:Int):=⟨x.natAbs,Z⟩;apply(ZD);apply yi _ R5 (ka (k+1) _ _ Z);rintro _ rfl;apply(Zm);apply retF _ ω (zi ω) R2;show CG _=_;unfold intT;rw[Cv Z];rfl;obtain⟨m,J⟩:∃m,m=x.natAbs:=⟨_,ω⟩;have l:m≠0:=Z;by_cases hneg:x<0;apply(Zj);refine wt (CI 24 (Γ 0)) R6 λu C D=>?_;apply(Zi);refine wm (ik:=.u64) (a:=((18446744073709551616-m:Nat):Int)) R6 ?_ ?_;show ξ (ι (Df .u64 x))=_;rw[show x= -(m:Int)from Z,qK m Z];apply(zM);apply(Za);rw[ze rfl];apply(Zi);refine zZ (v:=ι (m:Int)) R4 ?_ ?_;show ξ (ι (Df .u64 (0-((18446744073709551616-m:Nat):Int))))=_;rw[ra _ Z];congr 3;omega;apply(Zv);apply yi _ R5 (vy k (rR F D K) _ Z l);rintro _⟨L,rfl,p,H,g,q⟩;apply(Zv);refine uI R6 Z<|oh (i:=1) (j:=1+L) R9 Z (zB n) Z ?_;rw[show 1+L-1=L by omega];apply(zM);apply zF _ R5 (kN (k+1) (h:=u) (n:=n+1) (B:=3*n+2) (o:=1) (L:=L) (Z4:=m) Z C aD Z g Z);rintro v M _ W⟨rfl,y,c,f⟩;rw[my λb A=>by rw[y b A];show 3*n<=_;omega];have s:O c=24:=by rw[f.len,Dk]
 apply(Za);rw[ze rfl];apply(zN);refine fk R8 Z<|mq (c.set 0 (Γ 45)) R5 f.row R3 (by rw[s];omega) (splice_one c 0 _ Z) eF ?_;intro Z1 N P;apply(Zi);refine uI R6 Z<|te (j:=1+L) R8 Z (zB n) Z ?_;have I:((c.set 0 (Γ 45)).drop 0).take (1+L)=Kn (45::decB m):=by
  rw[dW,<-f.cells aD p g q,Dy];cases c with
  |nil=>simp at s
  |cons c1 c2=>rw[Hx,D6,JS,Im,Dy];rfl
 apply pY R5 (rg R3 (wV N I (by rw[DH];omega) Z));apply(Zm);apply retF _ ω (zi ω) R2;show CG _=_;unfold intT;rw[Cw hneg,<-J,<-ae l];rfl;apply(Zj);refine wt (CI 24 (Γ 0)) R6 λu C D=>?_;apply(Zi);refine wm (ik:=.u64) (a:=(m:Int)) R6 ?_ ?_;show ξ (ι (Df .u64 x))=_;rw[show x=(m:Int)from Z,xR,C1 Z];apply(zM);apply(Za);rw[za rfl];apply(Zi);apply yi _ R5 (vy k (rR F D K) _ Z l);rintro _⟨L,rfl,p,H,g,q⟩;apply(Zv);refine uI R6 Z<|oh (i:=1) (j:=1+L) R9 Z (zB n) Z ?_;rw[show 1+L-1=L by omega];apply(zM);apply zF _ R5 (kN (k+1) (h:=u) (n:=n+1) (B:=3*n+2) (o:=1) (L:=L) (Z4:=m) Z C aD Z g Z);rintro v M _ W⟨rfl,y,c,f⟩;rw[my λb A=>by rw[y b A];show 3*n<=_;omega];have s:O c=24:=by rw[f.len,Dk]
 apply(Za);rw[za rfl];apply(Zi);refine uI R6 Z<|oh (i:=1) (j:=1+L) R9 Z (zB n) Z ?_;rw[show 1+L-1=L by omega];apply pY R5 (rg (B:=decB m) R3 (wV f.row (f.cells aD p g q) Z Z));apply(Zm);apply retF _ ω (zi ω) R2;show CG _=_;unfold intT;rw[Cv hneg,<-J,<-ae l];rfl
def mV(k){h}(a:GK.G h){n}(c:20<=n){x}(hx: -9223372036854775808<=x/\x<9223372036854775808):VF (J4 (k+4)) 72 [υ x,υ 10] h n λv=>v=CG ⟨⟨intT x⟩⟩:=by apply zO R4;apply(Zi);apply(Zt);apply yi _ R5 (ze6 k a c hx);rintro _ rfl;apply(Zm);exact Bv
def oT(k){h}(a:GK.G h){n}(c:20<=n){x}(hx: -9223372036854775808<=x/\x<9223372036854775808):VF (J4 (k+5)) 63 [CC .i64 x] h n λv=>v=CG ⟨⟨intT x⟩⟩:=by apply zO R4;apply(Zi);apply(Zi);apply yi _ R5 (mV k a c hx);rintro _ rfl;apply(Zm);exact Bv
end
section
variable{c len lo n' u:Nat}{sT:TypeId}{h' h0:HF}{x:Operand}
def decN(V:Nat):List Nat:=if V=0 then[48]else decB V
theorem np(V):decT V=(decN V).map Ec:=by unfold decT decN;split<;>rfl
def znz:∀V,∀d∈decD V,d<10:=by
 intro V;induction V using Gf with
 |_ V ih=>
  intro d a;by_cases h0:V=0;subst h0;rw[xo]at a;exact Cu a CO;rw[wy h0]at a;obtain h|h:=DQ.1 a;exact ih (V/10) Z d h;rw[CV.1 h];omega
def zny(V):∀d∈decN V,d<256:=by intro d a;unfold decN at a;split at a;rw[CV.1 a];decide;obtain⟨q,f,rfl⟩:=DL.1 a;have:=znz V q f;show 48+q<256;omega
theorem di(V):decN V≠[]:=by unfold decN;split;simp;rename_i h;intro e;unfold decB at e;rw[wy h]at e;simp at e
def zb7{l}(h:∀d∈l,d<256):(l.map Ec).map (λb:UInt8=>Γ (b.toNat:Int))=Kn l:=by
 induction l with
 |nil=>rfl
 |cons d l ih=>
  rw[Gq,Gq,ih λx a=>h x A1,dW];have:=h d eC;rw[show(Ec d).toNat=d from by rw[UInt8.toNat_ofNat'];omega]
def aZ{h}:argS h 1 (CG ⟨⟨decT V⟩⟩) (O (decN V)) (Kn (decN V)):=by refine⟨?_,?_⟩;show ξ (O (decT V))=_;rw[np,CN];show ξ (((decT V).take (O (decN V))).map λb:UInt8=>Γ (b.toNat:Int))=_;rw[np,CL aD,zb7 (zny V)]
theorem aj(g:1<=L)(a:Z4<10^L)(f:10^(L-1)<=Z4):O (decB Z4)=L:=by grind [decB,ak]
def Nf(v:ψ)(b:Nat):Prop:=∃o l c,v=Y (ξ ⟨b,o,θ⟩) l c
def GroT(h:HF)(n:Nat)(v:ψ)(T:List Nat):Prop:=Gro h 0 n 5 1 v (O T) (Kn T)
def nH{h}{n}{x}{new}(y:E.und sT=ξ (.slice e))(B:e=5)(hi:E.inf e=ξ (1,bytes,z))(A:O (zn z)=1)(j:1<=bytes)(i:GroT h n v T)(hx:argS h 1 x m (Kn new))(hm:1<=m)(q:O new=m)(hb:(O T+m)*bytes<=1099511627776):
  ∃v' h' W,yW E h n sT v x=ξ (.val v' h' (n+1) W)/\GroT h' (n+1) v' (T++new)/\Keep v n h h'/\(∀b∈W,Nf v b)/\xC n v':=by
 subst B;unfold GroT at*;have a:O (Kn new)=m*1:=by rw[rU,q,DD]
 have f:O T+m=O (T++new):=by rw[CJ,q]
 have g:Kn T++Kn new=Kn (T++new):=by unfold Kn;rw[Eu]
 generalize hT:O T=tl at i hb f;generalize hc:Kn T=cc at i g;cases i with
 |nil=>
  refine⟨_,_,_,append_nil y hi A Cy j hx hm (by rw[C9]at hb;exact hb),?_,λb hb _=>zm Z,λb hb=>Cu hb CO,rp⟩;rw[<-g,<-f,C9,Dt];exact .at_ (uD n) Z Z (zg _ _ _) a (rE _)
 | @at_ b len _ hg2 hlo hb2 hr hl2 ho2=>
  refine⟨_,_,_,ue y hi A Cy j hx hm hb hg2 hr hl2 (yZ ho2 (rE _)) a,?_,λk p s=>?_,λk p=>?_,rp⟩;rw[<-g,<-f];exact .at_ (uD n) Z Z (zg _ _ _) (by rw[CJ,hl2,a];omega) (yZ ho2 (rE _));rw[zm Z,zm (λe=>s 0 tl tl (by rw[e]))];rw[CV.1 p];exact⟨_,_,_,ω⟩
structure AS (h0:HF)(n0:Nat)(v0:ψ)(h:HF)(n:Nat)(w:List Nat)(v:ψ)(T:List Nat):Prop where
 hn:n0<=n
 keep:Keep v0 n0 h0 h
 hw:∀b∈w,Nf v0 b
 g:GroT h n v T
 or:v=v0\/xC n0 v
def AS.refl(g:GroT h0 n0 v0 T):AS h0 n0 v0 h0 n0 [] v0 T:=⟨Cy,λ_ _ _=>rfl,λb a=>Cu a CO,g,Or.inl ω⟩
def AS.ext{h}{n}{w}(a:AS h0 n0 v0 h n w v T)(x:J3 n h h')(f:n<=n'):AS h0 n0 v0 h' n' w v T:=
 ⟨CU a.hn f,λb j i=>(x b (by have:=a.hn;omega)).trans (a.keep b j i),a.hw,a.g.ext x f,a.or⟩
def AS.only{h}{n}{w}(a:AS h0 n0 v0 h n w v T)(o:Only b h h')(hb:3*n0<=b)(j:gro b=χ):AS h0 n0 v0 h' n w v T:=
 ⟨a.hn,λk f i=>(o k Z).trans (a.keep k f i),a.hw,a.g.same λk _ _ f=>o k λe=>(by rw[e,j]at f;cases f),a.or⟩
theorem Gro.blk{n o}{h}{C}(g:Gro h lo n e sz v len C)(hv:v=Y (ξ ⟨b,o,θ⟩) l c):gro b=φ/\b<3*n:=by cases g<;>grind [hv]
def AS.trans{q s}{y A}{B w2}{v1 v2}{C p}(a:AS h0 n0 v0 q y B v1 C)(b:AS q y v1 s A w2 v2 p):AS h0 n0 v0 s A (addW n0 w2 B) v2 p:=by have D:=a.hn;refine⟨CU a.hn b.hn,λk j i=>(b.keep k Z λo l c e=>?_).trans (a.keep k j i),λk j=>?_,b.g,?_⟩;obtain h|h:=a.or;exact i o l c (h▸e);rw[e]at h;have h:3*n0<=k:=h;omega;obtain h|⟨h,F⟩:=yN.1 j;exact a.hw k h;have⟨o,l,c,e⟩:=b.hw k h;obtain f|f:=a.or;exact⟨o,l,c,f▸e⟩;rw[e]at f;have f:3*n0<=k:=f;omega;obtain h|h:=b.or;rw[h];exact a.or;exact .inr (h.mono D)
section
variable{h:HF}{n:Nat}{d:Tmp}
def oi{s}{new}(i:qt X ops t o d (o.op=.call {callee:=.builtin .append,args:=#[s,x],argTypes:=#[sT,xT]}/\(match X.E.und xT with|some (.int _)=>χ|none=>χ|_=>φ)=φ/\X.E.und sT=ξ (.slice e)/\e=5/\X.E.inf e=ξ (1,bytes,z)/\O (zn z)=1))(q:1<=bytes)(I:J2 t s=v)(hx:argS h 1 (J2 t x) m (Kn new))(hm:1<=m)(G:O new=m)(hb:(O T+m)*bytes<=1099511627776)(a:AS h0 X.n0 v0 h n w v T)
  (k:∀f h' w',AS h0 X.n0 v0 h' (n+1) w' f (T++new)->Keep v n h h'->EO X ops r ⟨upd t d f,h',n+1,w'⟩ Q):EO X ops (o::r) ⟨t,h,n,w⟩ Q:=by have⟨i,hd,hn,H,p,J,D,F,K⟩:=i;have⟨f,h',W,y,A,j,B,C⟩:=nH J D F K q a.g hx hm G hb;apply yM ⟨i,hd,hn,H,p⟩ (by rw[I];exact y);have b:AS h n v h' (n+1) W f (T++new):=⟨C8 _,j,B,A,.inr C⟩;exact k f h' _ (a.trans b) j
end
def GroT.shape{h}{n}(g:GroT h n v T):∃a,v=Y a (O T) (O T):=by have⟨a,e,_⟩:=Gro.shape g;exact⟨a,e⟩
def GroT.keepB{h}{n}(g:GroT h n v T)(k:Keep v n h h')(hb:gro b=χ)(a:b<3*n):h' b=h b:=k.blk g hb a
theorem zcc(k){h}(K:GK.G h){n}(Z1:20<=n){a}(P:u<18446744073709551616)(g:GroT h n (Y a (O T) (O T)) T)(hT:O T<1000000000):CF (J4 (k+3)) 160 [Y a (O T) (O T),ι (u:Int),υ 10] h n λv h' n' w=>AS h n (Y a (O T) (O T)) h' n' w v (T++decN u):=by
 apply zw R4;have s:=AS.refl g;have a5:O (decN u)<=20:=(by unfold decN;split;decide;unfold decB;rw[CN];exact ws 20 u Z);apply(Zi);apply(Za);rw[ze rfl];apply(zN);by_cases hsm:u<100;apply(Zx);refine vj R7 Z<|yi _ R5 (ka (k+1) _ _ hsm) ?_;rintro _ rfl;apply oi R9 zb ω (aZ) (by have:=di u;cases hh:decN u with|nil=>exact Cu hh this|cons _ _=>simp) ω Z s;intro S h' Z3 y _;obtain⟨q,rfl⟩:=y.g.shape;apply(Zm);exact retH [Y q _ _] R3 y;have F:u≠0:=Z;apply(Zj);refine wt (CI 24 (Γ 0)) R6 λJ R H=>?_;apply(Zi);apply yi _ R5 (vy k (rR K H Z1) _ P F);rintro _⟨L,rfl,i,Z0,j,C⟩;apply(Zv);apply te R8 ω (zB n) Z;apply(zM);apply zF _ R5 (kN (k+1) (h:=J) (n:=n+1) (B:=3*n+2) (o:=0) (L:=L) (Z4:=u) Z R aD Z j Z);rintro v h2 _ W⟨rfl,M,c,f⟩;rw[my λb N=>by rw[M b N];show 3*n<=_;omega];have a4:O c=24:=by rw[f.len,Dk]
 have I:=(s.ext H Zq).only f.oth Z (zB n);have p:=f.cells aD i j C;have D:decN u=decB u:=by grind [decN]
 rw[<-D]at p;apply(Zt);refine te R8 ω (zB n) Z<|oi R9 zb ω (wV f.row p Z Z) i (by grind [aj]) Z I λS h' Z3 A _=>?_;obtain⟨q,rfl⟩:=A.g.shape;apply(Zm);exact retH [Y q _ _] R3 A
def zvn(k){h}(p:GK.G h){n}(s:20<=n){a}(y:u<18446744073709551616)(g:GroT h n (Y a (O T) (O T)) T)(q:O T<1000000000):CF (J4 (k+4)) 144 [Y a (O T) (O T),ι (u:Int),υ 10] h n λv h' n' w=>AS h n (Y a (O T) (O T)) h' n' w v (T++decN u):=by apply zw R4;apply(Zi);apply(Zt);apply(zM);refine zF _ R5 (zcc k p s y g q) λv A B C f=>?_;obtain⟨i,rfl⟩:=f.g.shape;have j:=(AS.refl g).trans f;apply(Zm);exact retH [Y i _ _] R3 j
end
section
variable{len u:Nat}
section
variable{h:HF}{n:Nat}{sT:TypeId}{x:ψ}
theorem tG{c}(a:E.und sT=ξ (.slice e)/\E.inf e=ξ (1,bytes,z)/\O (zn z)=1)(d:1<=bytes)(hx:argS h 1 x m new)(hb:(len+m)*bytes<=1099511627776)(hm:O new=m/\1<=m)(hc:len+m<=cap)(g:h b=ξ (.row c e'))(y:len+m<=O c)(f:ones new=φ):
  yW E h n sT (Y (ξ ⟨b,0,θ⟩) len cap) x=ξ (.val (Y (ξ ⟨b,0,θ⟩) (len+m) cap) (upd h b (ξ (.row (zu c len new) e'))) n [b]):=by
 have⟨a,w,A⟩:=a;have⟨j,i⟩:=hx;have l:Dd ((len+m)*bytes) 1099511627776=φ:=CP hb;have o:DK (O (zn z)) 1=φ:=by simp_all
 have p:Dd 1 1=φ:=rfl;have q:Dd 1 bytes=φ:=CP d;have s:Dd (len+m) cap=φ:=CP hc;have v:LJ h ((⟨b,0,θ⟩:Addr).add (len*1)) new=ξ (upd h b (ξ (.row (zu c len new) e'))):=(by rw[wO,C9,DD,uZ g Z f]);grind [only,yW,uB,DT]
end
def BufT(T:List Nat)(h:HF)(n B cap:Nat)(e:TypeId)(c0:List ψ)(N:List Nat)(v:ψ)(h':HF)(n':Nat)(w:List Nat):Prop:=
 v=Y (ξ ⟨B,0,θ⟩) (O (T++N)) cap/\n<=n'/\(∀b∈w,b=B)/\(∀b,b<3*n->b≠B->h' b=h b)/\∃c,h' B=ξ (.row c e)/\O c=O c0/\c.take (O (T++N))=Kn (T++N)
theorem vp{N}{c}(d:c.take (O T)=Kn T)(a:O T+O N<=O c):(zu c (O T) (Kn N)).take (O (T++N))=Kn (T++N)/\(zu c (O T) (Kn N)).length=O c:=by grind [pU,Kn,rU]
theorem sV(k){h}(P:GK.G h){n}(S:20<=n){e}(D:c0.take (O T)=Kn T)(s:B<3*n)(g:h B=ξ (.row c0 e))(a1:cap=O c0/\O T+20<=cap/\cap<1000000)(Z3:u<18446744073709551616):
  CF (J4 (k+3)) 160 [Y (ξ ⟨B,0,θ⟩) (O T) cap,ι (u:Int),υ 10] h n λv K Z0 w=>BufT T h n B cap e c0 (decN u) v K Z0 w:=by
 apply zw R4;have a3:O (decN u)<=20:=(by unfold decN;split;decide;unfold decB;rw[CN];exact ws 20 u Z);have H:1<=O (decN u):=(by have:=di u;grind);apply(Zi);apply(Za);rw[ze rfl];apply(zN);by_cases hsm:u<100;apply(Zx);refine vj R7 Z<|yi _ R5 (ka (k+1) _ _ hsm) ?_;rintro _ rfl;apply yM R5 (tG R3 zb (aZ (V:=u)) Z ⟨rU _,H⟩ Z g Z (rE _));rw[pN (by show B<3*n;exact s)];apply(Zm);have⟨y,A⟩:=vp (N:=decN u) D Z;refine retH [Y (ξ ⟨B,0,θ⟩) (O T+O (decN u)) cap] R3 ⟨by rw[CJ];rfl,Cy,λb a=>CV.1 a,λb _ d=>zm d,_,zg _ _ _,A,y⟩;have J:u≠0:=Z;apply(Zj);refine wt (CI 24 (Γ 0)) R6 λM p1 C=>?_;apply(Zi);apply yi _ R5 (vy k (rR P C S) _ Z3 J);rintro _⟨L,rfl,j,a0,p,F⟩;apply(Zv);apply te R8 ω (zB n) Z;apply(zM);apply zF _ R5 (kN (k+1) (h:=M) (n:=n+1) (B:=3*n+2) (o:=0) (L:=L) (Z4:=u) Z p1 aD Z p Z);rintro v Z1 _ W⟨rfl,R,c,f⟩;rw[my λb a=>by rw[R b a];show 3*n<=_;omega];have a2:O c=24:=by rw[f.len,Dk]
 have q:=f.cells aD j p F;have I:decN u=decB u:=by grind [decN]
 rw[<-I]at q;have l:O (decN u)=L:=by grind [aj]
 have i:Z1 B=ξ (.row c0 e):=(f.oth B Z).trans ((C B s).trans g);apply(Zt);refine te R8 ω (zB n) Z<|yM R5 (tG R3 zb (wV f.row q Z Z) Z ⟨by rw[rU,l],j⟩ Z i Z (rE _)) ?_;rw[pN (by show B<3*n;exact s)];apply(Zm);have⟨y,A⟩:=vp (N:=decN u) D Z;refine retH [Y (ξ ⟨B,0,θ⟩) (O T+L) cap] R3 ⟨by rw[CJ,l];rfl,Ai,λb a=>CV.1 a,λb a d=>(zm d).trans ((f.oth b Z).trans (C b a)),_,zg _ _ _,A,y⟩
def BufP(h:HF)(n B cap:Nat)(e:TypeId)(c0:List ψ)(u:Nat)(v:ψ)(h':HF)(n':Nat)(w:List Nat):Prop:=
 v=Y (ξ ⟨B,0,θ⟩) (O (decN u)) cap/\n<=n'/\(∀b∈w,b=B)/\(∀b,b<3*n->b≠B->h' b=h b)/\∃c,h' B=ξ (.row c e)/\O c=O c0/\c.take (O (decN u))=Kn (decN u)
theorem gp(k){h}(s:GK.G h){n}(y:20<=n){e}(q:B<3*n)(d:h B=ξ (.row c0 e))(a:cap=O c0/\20<=cap)(f:cap<1000000)(A:u<18446744073709551616):
  CF (J4 (k+4)) 144 [Y (ξ ⟨B,0,θ⟩) 0 cap,ι (u:Int),υ 10] h n λv p C w=>BufP h n B cap e c0 u v p C w:=by apply zw R4;apply(Zi);apply(Zt);apply(zM);apply zF _ R5 (sV (T:=[]) k s y ω q d ⟨a.1,by simpa using a.2,f⟩ A);rintro v F I J⟨rfl,g,D,i,c,j,l,o⟩;apply(Zm);refine retH [Y (ξ ⟨B,0,θ⟩) (O (decN u)) cap] R3 ⟨ω,g,λb H=>?_,i,c,j,l,o⟩;grind [yN]
end
def padD:Nat->Nat->List Nat
 |0,_=>[]
 |k+1,c=>padD k (c/10)++[c%10]
theorem zi4:∀(k c Q:Nat),c<10^k->Q≠0->decD (c+10^k*Q)=decD Q++padD k c:=by
 intro k;induction k with
 |zero=>
  intro c Q a b;have:c=0:=Z;subst this;rw[EA,Nat.one_mul,C9,padD,Dm]
 |succ k ih=>
  intro c Q a b;rw[C5]at a;have d:(c+10^(k+1)*Q)/10=c/10+10^k*Q:=(by rw[C5,GO,CY _ 10];omega);have e:(c+10^(k+1)*Q)%10=c%10:=(by rw[C5,GO,CY _ 10];omega);have f:0<10^(k+1)*Q:=Et (Ds zd) Z;grind [wy,padD,Dh]
theorem zms:∀(k c:Nat),c<10^k->padD k c=CI (k-O (decD c)) 0++decD c:=by
 intro k;induction k with
 |zero=>
  intro c a;have:c=0:=Z;grind [padD,xo]
 |succ k ih=>
  intro c a;rw[C5]at a;rw[padD,ih (c/10) Z];by_cases h0:c=0;subst h0;rw[xo];show CI (k-0) 0++[]++[0]=CI (k+1-0) 0++[];rw[Dm,Dm,GN,GN,<-Fu];have b:=wy h0;grind
theorem dk{c Q B}(l:10^19=B)(a:c<B)(d:Q≠0):decN (c+B*Q)=decN Q++(CI (19-O (decN c)) 48++decN c):=by
 subst l;have b:0<10^19*Q:=Et (Ds zd) Z;generalize hk:(19:Nat)=kk at a b⊢;have m:=zi4 kk c Q a d;have j:=zms kk c a;have e:decN (c+10^kk*Q)=decB (c+10^kk*Q):=by grind [decN]
 have i:decN Q=decB Q:=by unfold decN;rw[Cv d]
 rw[e,i];unfold decB;rw[m,j,Eu,Eu,List.map_replicate];congr 1;by_cases h0:c=0;subst h0;have f:decN 0=[48]:=rfl;rw[f,xo];show CI (kk-0) (48+0)++[]=CI (kk-1) 48++[48];rw[<-Fu,Dm,<-hk];have g:decN c=decB c:=by unfold decN;rw[Cv h0]
 rw[g];unfold decB;rw[CN]
def zbu{c Q}(b:c<10000000000000000000)(a:Q≠0):decN (c+10000000000000000000*Q)=decN Q++(CI (19-O (decN c)) 48++decN c):=dk zd b a
def zbt{c}(a:c<10000000000000000000):O (decN c)<=19:=by unfold decN;split;decide;unfold decB;rw[CN];exact ws 19 c (CS a zd)
section
variable{c len lo n':Nat}{sT ty:TypeId}{h' h0:HF}{x:Operand}
theorem Gro.inv{h}{n}{c}(g:Gro h lo n e 1 v len c)(a:len≠0):∃b,v=Y (ξ ⟨b,0,θ⟩) len len/\3*lo<=b/\b<3*n/\h b=ξ (.row c e)/\gro b=φ:=by cases g<;>grind
def CB:Nat:=10000000000000000000
def zf8{L}{d}(a:J5 L)(f:O L<=30)(u:wv L=d+CB^O C*V)(h0:V≠0):O C<=30:=by
 apply CW;intro y;have g:CB^31<=CB^O C:=CQ zd Z;have l:=EF (CB^O C) (GP h0);have p:=wW a;have q:18446744073709551616^O L<=18446744073709551616^30:=CQ zd f;have s:18446744073709551616^30<=CB^31:=by decide+kernel
 omega
structure TxI (n0:Nat)(v0:ψ)(hL:HF)(nL B:Nat)(eB:TypeId)(h:HF)(n:Nat)(w:List Nat)(a:Option Addr)(T:List Nat):Prop where
 hn:nL<=n
 g:GroT h n (Y a (O T) (O T)) T
 or:Y a (O T) (O T)=v0\/xC nL (Y a (O T) (O T))
 hw:∀b∈w,Nf v0 b
 fr:∀b,b<3*nL->b≠B->¬Nf v0 b->h b=hL b
 buf:∃c,h B=ξ (.row c eB)/\O c=20
def TxI.ext{l}{f}{h}{n}{w}{a}(t:TxI n0 v0 l f B eB h n w a T)(x:J3 n h h')(y:n<=n')(F:B<3*f):TxI n0 v0 l f B eB h' n' w a T:=by have D:=t.hn;have⟨c,q,s⟩:=t.buf;exact⟨Z,t.g.ext x y,t.or,t.hw,λb u p A=>(x b Z).trans (t.fr b u p A),c,(x B Z).trans q,s⟩
def TxI.bufs{q}{p}{h}{n}{w}{a}{c:List Nat}(t:TxI n0 v0 q p B eB h n w a T)(F:n<=n')(J:B<3*p)(u:gro B=χ)(y:∀b,b<3*n->b≠B->h' b=h b)(G:h' B=ξ (.row cs eB))(D:O cs=20):TxI n0 v0 q p B eB h' n' w a T:=by
 have I:=t.hn;refine⟨Z,?_,t.or,t.hw,λb l f H=>(y b Z f).trans (t.fr b l f H),cs,G,D⟩;have A:GroT h' n (Y a (O T) (O T)) T:=t.g.same λb _ l s=>y b l λe=>by rw[e,u]at s;cases s
 exact A.ext (Fy n h') F
section
variable{h:HF}{n:Nat}{d:Tmp}
def SH{s}{H}{u}{m}{a}{new}(G:qt X ops t o d (o.op=.call {callee:=.builtin .append,args:=#[s,x],argTypes:=#[sT,xT]}/\(match X.E.und xT with|some (.int _)=>χ|none=>χ|_=>φ)=φ/\X.E.und sT=ξ (.slice e)/\e=5/\X.E.inf e=ξ (1,bytes,z)/\O (zn z)=1))(N:1<=bytes)(hs:J2 t s=Y a (O T) (O T))(hx:argS h 1 (J2 t x) m (Kn new))(hm:1<=m)(Z3:O new=m)(hb:(O T+m)*bytes<=1099511627776)(p:TxI X.n0 v0 H u B eB h n w a T)(hB:B<3*u)(I:gro B=χ)(h0:X.n0<=u)
  (k:∀A h' w',TxI X.n0 v0 H u B eB h' (n+1) w' A (T++new)->h' B=h B->EO X ops r ⟨upd t d (Y A (O (T++new)) (O (T++new))),h',n+1,w'⟩ Q):EO X ops (o::r) ⟨t,h,n,w⟩ Q:=by
 have⟨G,hd,hn,Z0,M,hu,S,Z4,hz⟩:=G;have⟨v',h',W,Z1,F,f,P,R⟩:=nH hu S Z4 hz N p.g hx hm Z3 hb;obtain⟨A,rfl⟩:=F.shape;have J:=p.hn;have L:∀b,b<3*u->¬Nf v0 b->∀o l c,Y a (O T) (O T)≠Y (ξ ⟨b,o,θ⟩) l c:=λb hb hv o l c q=>(by obtain y|y:=p.or;exact hv ⟨o,l,c,y▸q⟩;rw[q]at y;have y:3*u<=b:=y;omega);have D:h' B=h B:=f B Z λo l c q=>by have:=(p.g.blk q).1;rw[I]at this;cases this
 refine yM ⟨G,hd,hn,Z0,M⟩ (by rw[hs];exact Z1) (k A h' _ ⟨Z,F,.inr (R.mono J),λb hb=>?_,λb hb K hv=>(f b Z (L b hb hv)).trans (p.fr b hb K hv),?_⟩ D);obtain h|⟨h,F⟩:=yN.1 hb;exact p.hw b h;have⟨o,l,c,q⟩:=P b h;obtain f|f:=p.or;exact⟨o,l,c,f▸q⟩;rw[q]at f;have f:3*u<=b:=f;omega;have⟨c,q1,q2⟩:=p.buf;exact⟨c,D.trans q1,q2⟩
end
def TxI.as{f}{q}{h}{n}{w}{a}(t:TxI n0 v0 f q B eB h n w a T)(x:J3 n0 h0 f)(s:n0<=q)(y:3*n0<=B):AS h0 n0 v0 h n w (Y a (O T) (O T)) T:=by refine⟨by have:=t.hn;omega,λb u p=>(t.fr b Z Z λ⟨o,l,c,e⟩=>p o l c e).trans (x b u),t.hw,t.g,?_⟩;obtain h|h:=t.or;exact .inl h;exact .inr (h.mono s)
def G_fr{h}(p:GK.G h)(a:∀b,b<60->gro b=χ->h' b=h b):GK.G h':=by have⟨f,g,l⟩:=p;exact⟨(a _ Z ω).trans f,(a _ Z ω).trans g,(a _ Z ω).trans l⟩
def zcn{h}{s}{S}(f:h b=ξ (.row (u64s S) e))(hj:S[j]?=ξ s):At h b (0+j*1) [ι (s:Int)]:=by have a:=(CK.1 hj).1;refine⟨_,_,f,ω,by show 0+j*1+1<=_;rw[zL];omega,?_⟩;show((u64s S).drop (0+j*1)).take 1=_;rw[C9,DD,rf,EG a,(CK.1 hj).2];rfl
def lH(C:List Nat)(m:Nat):List Nat:=if m=O C then[]else decN (dv CB (C.drop m))
def znr{m}(h:C[m]?=ξ c):dv CB (C.drop m)=c+CB*dv CB (C.drop (m+1)):=by have a:=(CK.1 h).1;rw[EG a,(CK.1 h).2];rfl
def znp{f}{a}(g:C=f++[a])(h0:a≠0){m}(hm:m<O C):dv CB (C.drop m)≠0:=by rw[g,List.drop_append_of_le_length aD,vm];show _+CB^_*(a+CB*0)≠0;have:0<CB^O (f.drop m)*(a+CB*0):=Et (Ds zd) Z;omega
def zai{g}{a m}(l:C=g++[a])(h0:a≠0)(f:C[m]?=ξ c)(hb:c<CB):lH C m=lH C (m+1)++(CI ((if m+1=O C then(decN c).length else 19)-O (decN c)) 48++decN c):=by have p:=(CK.1 f).1;unfold lH;rw[Cv Z,znr f];by_cases he:m+1=O C;rw[Cw he,Cw he,he,EQ,DY];show decN (c+CB*0)=_;rw[Eo,Nat.add_zero];rfl;rw[Cv he,Cv he];exact zbu hb (znp l h0 Z)
section
variable{h:HF}{n:Nat}{ld:List (Nat×Nat)}{d:Tmp}
theorem zix{hi}(a:qt X ops t o d (o.op=.slice ty x θ (ξ hi) θ/\X.E.und ty=ξ (.array len e)/\X.E.inf e=ξ (sz,bt,z)/\J2 t x=ε b/\J2 t hi=CC ik' ji/\ji=(j:Int)))(hb:gro b=χ)(F:j<=len/\0<len)
  (k:ED X ops r ms (i+1) ⟨⟨upd t d (Y (ξ ⟨b,0,θ⟩) j len),h,n,w⟩,al,ld,ef⟩ Q):ED X ops (o::r) (m::ms) i ⟨⟨t,h,n,w⟩,al,ld,ef⟩ Q:=by
 obtain⟨a,u,y,p,A,g,D,f,l⟩:=a;subst l;refine yQ ⟨a,u,y,A2,?_⟩ k;rw[p];show xc X.E ty (J2 t x) θ (ξ (J2 t hi))=_;rw[D,f];have q:(0:Int)<=(j:Int)/\(j:Int)<=(len:Int):=Z;have s:DK len 0=χ:=by grind [DK,DC]
 simp only[xc,A,g,bnd,Cw q,Ef,hb,IC,ac6,offA,s,wO,DU,GN]
end
theorem zag{L q}{r}(a:wv L=dv CB C+CB^O C*wv W)(f:wv W=CB*wv q+r):wv L=dv CB (C++[r])+CB^(O C+1)*wv q:=by grind [vm,dv,CB]
theorem gt(k){h}(hG:GK.G h){n}(hn:20<=n){a}(g:GroT h n (Y a (O T) (O T)) T)(hT:O T<100000000){L}(hs:Sl h n 1 (Y ax lx cx) (u64s L))(nL:NW L)(hl:O L<=30)(h0:L≠[]):
  CF (J4 (k+5)) 180 [Y a (O T) (O T),Y ax lx cx,υ 0] h n λv h' n' w=>AS h n (Y a (O T) (O T)) h' n' w v (T++decN (wv L)):=by
 apply zw R4;have b3:=hs.lenW;subst b3;have af:O L≠0:=λe=>h0 (CT.1 e);apply(Zi);apply(Zi);apply zF _ R5 (ub (k+3) hs Z);rintro vw h1 Z1 _⟨rfl,c6,bo,bk,aj⟩;obtain⟨u,rfl,c1,bc,bj,c3⟩:=(aj h0).inv af;apply(Zv);apply(zN);refine ye (α:=List Nat×List Nat×List Nat×Option Addr) (λz=>[(0,Y a (O T) (O T)),(2,υ 0),(7,Y (ξ ⟨u,0,θ⟩) (O z.1) (O L)),(8,Y z.2.2.2 (O z.2.2.1) (O z.2.2.1))])
  (λz h' n' w=>w=[]/\Z1<=n'/\J3 n h h'/\h' u=ξ (.row (u64s (z.1++z.2.1)) 152)/\O z.1+O z.2.1=O L/\NW z.1/\Gro h' Z1 n' 152 1 (Y z.2.2.2 (O z.2.2.1) (O z.2.2.1)) (O z.2.2.1) (u64s z.2.2.1)/\(∀c∈z.2.2.1,c<CB)/\wv L=dv CB z.2.2.1+CB^O z.2.2.1*wv z.1/\(wv z.1=0->∃C' c,z.2.2.1=C'++[c]/\c≠0)/\O z.2.2.1<=31) (λz=>32-O z.2.2.1)
  (L,[],[],θ) P4 ⟨ω,Cy,bo,by rw[Dm];exact bj,ω,nL,.nil,λc hc=>Cu hc CO,by show wv L=0+CB^0*wv L;rw[EA];omega,λe=>Cu (nL.zero.1 e) h0,by show 0<=31;omega⟩ (by show 32-0<LL;unfold LL;omega) ?_
 rintro⟨W,P,C,a8⟩ t h2 p _ ⟨rfl,c7,au,ac,am,nW,a2,hC,hV,K,a3⟩;dsimp only at ac am nW a2 hC hV K a3;apply(zN);by_cases hW0:W=[];subst hW0;have b9:wv L=dv CB C:=by rw[hV];show _+_*0=_;omega
 have⟨C',cl,b4,az⟩:=K rfl;have b5:O C≠0:=by grind
 apply(Zj);refine wt (CI 20 (Γ 0)) R6 λH pL xL=>?_;apply(Zi);apply(Za);obtain⟨eB,pL⟩:∃e,H (3*p+2)=ξ (.row (CI 20 (CC .u8 0)) e):=⟨_,pL⟩;have ad:J3 n h H:=au.trans xL Z;have gC:Gro H Z1 (p+1) 152 1 (Y a8 (O C) (O C)) (O C) (u64s C):=a2.ext xL Zq;have⟨b8,Z3,bv,av,aw,a4⟩:=gC.inv b5;injection Z3 with Z3;subst Z3;have gT:GroT H (p+1) (Y a (O T) (O T)) T:=g.ext ad Z;have bq:TxI n (Y a (O T) (O T)) H (p+1) (3*p+2) eB H (p+1) [] a T:=⟨Cy,gT,.inl ω,λb I=>Cu I CO,λ_ _ _ _=>rfl,CI 20 (Γ 0),pL,Dk⟩;have ap:∀b,Nf (Y a (O T) (O T)) b->gro b=φ/\b<3*n:=λb⟨o,l,c,e⟩=>g.blk e;refine ye (α:=Nat×Option Addr×List Nat) (λz=>[(0,Y z.2.1 (O z.2.2) (O z.2.2)),(2,υ 0),(8,Y (ξ ⟨b8,0,θ⟩) (O C) (O C)),(11,ε (3*p+2)),(12,U (decide (z.1=O C))),(13,υ ((z.1:Int)-1))])
   (λz h' n' w=>TxI n (Y a (O T) (O T)) H (p+1) (3*p+2) eB h' n' w z.2.1 z.2.2/\z.1<=O C/\z.2.2=T++lH C z.1/\O z.2.2<=O T+19*(O C-z.1)) (λz=>z.1)
   (O C,a,T) ⟨ω,ω,ω,ω,by show U φ=U (decide (O C=O C));rw[Ct rfl],ω,Cx⟩ ⟨bq,Cy,by show T=T++lH C (O C);unfold lH;rw[Cw ω,Dm],Nat.le_add_right _ _⟩ (by show O C<LL;unfold LL;omega) ?_
 rintro⟨m,a1,s⟩ t F n3 w3 ⟨R,hm,Z0,ag⟩;dsimp only at R hm Z0 ag;have c8:=R.hn;apply(zN);cases m with
 |zero=>
  have hf:decide (0=O C)=χ:=BG Z;rw[hf];apply(ZB);apply(zN);rw[za rfl];apply(Zt);apply(zN);have:=R.as ad Z Z;rw[show T++decN (wv L)=s by rw[Z0,b9];unfold lH;rw[Cv Z,Dy]];exact retH [Y a1 _ _] R3 this
 |succ m=>
  obtain⟨c,hc⟩:∃c,C[m]?=ξ c:=⟨C[m]'Z,CD Z⟩;have a6:c<CB:=hC c (CE hc);have ay:c<18446744073709551616:=Ir a6 zd;have bu:=zbt a6;have b6:1<=O (decN c):=by grind [di,decN]
  have bi:F b8=ξ (.row (u64s C) 152):=(R.fr b8 av (λe=>by rw[e,zB]at a4;cases a4) (λhv=>by have:=(ap _ hv).2;omega)).trans aw;have bb:=zcn bi hc;have b7:GK.G F:=G_fr (rR hG ad hn) λb I hg=>R.fr b Z Z λhv=>by have:=(ap _ hv).1;rw[hg]at this;cases this
  have⟨cb,be,a9⟩:=R.buf;apply(Zo);apply(zl);apply zix (j:=0) R9 (zB p) Z;apply(zE);apply(zE);apply SB ω ω ω ω ω ω (aq:=ξ ⟨b8,0,θ⟩) ω (j:=m) dG ω Z;refine yd (v:=ι (c:Int)) R6 (bb.ld1 0 ω ω) R2<|wa _ R7 (gp k b7 Z Z be ⟨a9.symm,Z⟩ Z ay) ?_;rintro v4 h4 n4 W4⟨rfl,an,ba,bg,c4,ao,bf,c2⟩;refine⟨qR ω,an,?_⟩;rw[my λb I=>by rw[ba b I];show 3*n<=_;omega];apply(zE);apply(zN);have br:=R.bufs (c:=[]) an Z (zB _) bg ao (by rw[bf,a9]);obtain⟨S,hS⟩:∃S,S=if m+1=O C then(decN c).length else 19:=⟨_,ω⟩;have bz:O (decN c)<=S/\S<=19:=by rw[hS];split<;>omega
  apply(Zv);apply(zN);refine Mz [(0,Y a1 (O s) (O s)),(2,υ 0),(8,Y (ξ ⟨b8,0,θ⟩) (O C) (O C)),(11,ε (3*p+2)),(12,U (decide (m+1=O C))),(13,υ (((m+1:Nat):Int)-1)),(14,Y (ξ ⟨3*p+2,0,θ⟩) (O (decN c)) 20),(15,υ (S:Int))] (λh' n' w'=>h4=h'/\n4=n'/\w3=w') ?_ ?_;by_cases hf:m+1=O C;rw[ze (by show U (decide (m+1=O C))=_;rw[Ct hf])];apply(Zt);apply(Zb);refine st_mul (a:=19) (b:=((m+1:Nat):Int)-1) ω ω ω ω ω ω Z ?_;refine qO (a:=0) (b:=19*(((m+1:Nat):Int)-1)) R6 Z<|st_I (ik:=.i64) (a:=(S:Int)) ⟨ω,ω,ω,ω,?_⟩ ?_;show ξ (υ (if((O (decN c):Nat):Int)<0-19*(((m+1:Nat):Int)-1)then 0-19*(((m+1:Nat):Int)-1)else((O (decN c):Nat):Int)))=_;rw[Cv Z,hS,Cw hf];apply(Zm);exact Le P8 R3;rw[za (by show U (decide (m+1=O C))=_;rw[BG hf])];apply(zN);exact Le ⟨ω,ω,ω,ω,ω,ω,ω,by show υ 19=υ (S:Int);rw[hS,Cv hf];rfl,Cx⟩ R3;rintro t _ _ _⟨rfl,rfl,rfl⟩;apply(Zt);apply(zM);apply qO (a:=(S:Int)) (b:=((O (decN c):Nat):Int)) R6 Z;obtain⟨N,hN⟩:∃N,N=S-O (decN c):=⟨_,ω⟩;rw[show(S:Int)-((O (decN c):Nat):Int)=(N:Int)by omega];apply(Zm);refine ye (α:=Nat×Option Addr×List Nat) (λz=>[(0,Y z.2.1 (O z.2.2) (O z.2.2)),(2,υ 0),(8,Y (ξ ⟨b8,0,θ⟩) (O C) (O C)),(11,ε (3*p+2)),(12,U (decide (m+1=O C))),(13,υ (((m+1:Nat):Int)-1)),(14,Y (ξ ⟨3*p+2,0,θ⟩) (O (decN c)) 20),(70,υ (N:Int)),(71,υ (z.1:Int))])
    (λz h' n' w=>TxI n (Y a (O T) (O T)) H (p+1) (3*p+2) eB h' n' w z.2.1 z.2.2/\h' (3*p+2)=h4 (3*p+2)/\z.1<=N/\z.2.2=s++CI z.1 48) (λz=>N-z.1)
    (0,a1,s) P9 ⟨br,ω,Cz,by show s=s++[];rw[Dm]⟩ (by show N-0<LL;unfold LL;omega) ?_
  rintro⟨A,a5,M⟩ t h5 n5 w5 ⟨Z4,ah,aa,a0⟩;dsimp only at Z4 aa a0;have c5:O M=O s+A:=by grind
  have c9:=Z4.hn;apply(zN);by_cases hlt:A<N;apply(ZD);refine wE [Γ 48] (l:=1) (c:=1) R5 λh6 p6 x6=>?_;apply SH (m:=1) (new:=[48]) R9 zb ω (yp p6 R2) Cy ω Z (Z4.ext x6 Zq Z) Z (zB _) (by show n<=p+1;omega);intro a7 h7 w7 ae ai;apply(Zm);apply(zR);apply(Zm);exact goOn (A+1,a7,M++[48]) Z P9 ⟨ae,ai.trans ((x6 _ Z).trans ah),by show A+1<=N;omega,by show M++[48]=s++CI (A+1) 48;rw[a0,Dh,<-Fu]⟩;have bd:A=N:=Z;apply(ZE);apply SH (m:=O (decN c)) (new:=decN c) R9 zb ω (wV (ah.trans ao) aD Z Z) b6 ω Z Z4 Z (zB _) (by show n<=p+1;omega);intro a7 h7 w7 ae ai;apply(Zv);apply(Zi);apply qO (a:=((m+1:Nat):Int)-1) (b:=1) R6 Z;apply(Zm);refine goOn (m,a7,M++decN c) (by show m<m+1;omega) ⟨ω,ω,ω,ω,by show U χ=U (decide (m=O C));rw[BG Z],dG,Cx⟩ ⟨ae,by show m<=O C;omega,?_,?_⟩;show M++decN c=T++lH C m;rw[zai b4 az hc a6,a0,Z0,bd,hN,hS];simp only[Dh];show(M++decN c).length<=O T+19*(O C-m);rw[CJ];omega
 have c0:O W≠0:=λe=>hW0 (CT.1 e);have b2:wv W≠0:=λe=>hW0 (nW.zero.1 e);have bs:=zf8 nL.1 hl hV b2;apply(ZD);apply(Za);refine ye (α:=Nat×List Nat×Nat) (λx=>[(0,Y a (O T) (O T)),(2,υ 0),(7,Y (ξ ⟨u,0,θ⟩) (O W) (O L)),(8,Y a8 (O C) (O C)),(9,ι (x.2.2:Int)),(10,υ ((x.1:Int)-1))])
  (λx h' n' w=>w=[]/\p=n'/\Only u h2 h'/\h' u=ξ (.row (u64s (W.take x.1++(x.2.1++P))) 152)/\x.1+O x.2.1=O W/\J5 x.2.1/\x.2.2<CB/\wv (W.drop x.1)=CB*wv x.2.1+x.2.2) (λx=>x.1)
  (O W,[],0) P6 ⟨ω,ω,λ_ _=>rfl,by rw[C3,Dt];exact ac,ω,J5.nil,by show 0<CB;decide,by rw[EQ];rfl⟩ (by show O W<LL;unfold LL;omega) ?_
 rintro⟨j,q,r⟩ t F _ _ ⟨rfl,rfl,ab,D,ak,hq,hr,J⟩;dsimp only at D ak hq hr J;have bp:J3 n h F:=au.st ab Z;apply(zN);cases j with
 |succ j=>
  obtain⟨x,hx⟩:∃x,W[j]?=ξ x:=⟨W[j]'Z,CD Z⟩;have ar:=nW.1.get hx;have bl:Sl F p 1 (Y (ξ ⟨u,0,θ⟩) (O W) (O L)) (u64s (W.take (j+1)++q)):=.at_ Z D ω Z Az (by
   rw[Dy,DD,re,<-Dh,EU eP,CL eP])
  have b1:(W.take (j+1)++q)[j]?=ξ x:=by grind
  apply(Zs);refine yE (f:=λd:Nat=>ι (d:Int)) (j:=j) R7 bl ⟨ω,Z⟩ b1 (λ_=>rfl) R4 λ_=>?_;apply yi _ R5 (pH (k+1) F p (y:=CB) hr ar zd);rintro _ rfl;repeat apply(zR)
  refine uH (j:=j) (v:=ι (((r*18446744073709551616+x)/CB:Nat):Int)) R8 Z ⟨Z,Az⟩ D (by show 3*n<=u;omega) (λ_=>rfl) R3 (λ_=>rfl) ω λ_=>?_;rw[yk,List.set_append_left _ _ eP,ac4,hx,Option.toList_some,List.set_append_right _ _ aD,DA,DR Z,DY,Hx,Dh,List.singleton_append];apply(Zn);have⟨g1,g2⟩:=pQ (V:=wv (W.drop (j+1))) (Vq:=wv q) (r:=r) (a:=x) (d:=CB) zd J;refine goOn (j,(r*18446744073709551616+x)/CB::q,(r*18446744073709551616+x)%CB) AE ⟨ω,ω,ω,ω,ω,dG,Cx⟩ ⟨ω,ω,λb I=>(zm I).trans (ab b I),(zg _ _ _).trans (by rw[F6]),by show j+O (_::q)=_;simp;omega,?_,Dz _ zd,?_⟩;intro y hy;obtain rfl|hy:=De.1 hy;exact RP hr ar;exact hq y hy;show wv (W.drop j)=CB*wv (_::q)+_;rw[gI hx,<-g2];have:=Nat.div_add_mod (x+18446744073709551616*wv (W.drop (j+1))) CB;rw[g1]at this;exact this.symm
 |zero=>
  rw[EK,Dt]at D;rw[Dy]at J;have ca:O q=O W:=Z;apply(ZB);have bm:Sl F p 1 (Y (ξ ⟨u,0,θ⟩) (O W) (O L)) (u64s q):=.at_ Z D ω Z Az (by
   rw[Dy,DD,re,EU Z,CL Z])
  apply zF _ R5 (xi (k+3) (l:=q) Z (λ_ e=>by injection e with e;rw[<-e]) bm);rintro _ F p _⟨rfl,rfl,rfl,rfl,bx⟩;apply(Zm);apply(Zb);refine wE [ι (r:Int)] (l:=1) (c:=1) R5 λh4 p4 x4=>?_;have b0:Gro h4 Z1 (p+1) 152 1 (Y a8 (O C) (O C)) (O C) (u64s C):=(a2.same λb I _ _=>ab b Z).ext x4 Zq;refine MX (lo:=Z1) (m:=1) R8 ⟨Da ω,Da ω⟩ b0 (yp p4 R2) Cy Z ω ω ⟨Bf,Z⟩ λv5 h5 g5 x5 k5=>?_;obtain⟨a5,rfl,_⟩:=g5.shape;have bh:h5 u=_:=(x5 u bc).trans ((x4 u Z).trans D);apply(Zm);have bn:=zag (C:=C) (r:=r) hV J;refine goOn (yf q,q.drop (O (yf q))++P,C++[r],a5) aD ⟨ω,ω,ω,by show Y a5 _ _=Y a5 _ _;rw[CJ];rfl,Cx⟩ ⟨ω,by show Z1<=p+1+1;omega,?_,?_,?_,NW.trim hq,?_,?_,?_,?_,?_⟩;exact λb I=>(x5 b Z).trans ((x4 b Z).trans (bp b I));.refine bh.trans ?_;show ξ (BF.row (u64s (q++P)) _)=ξ (BF.row (u64s (yf q++(q.drop (O (yf q))++P))) _);rw[<-Dh];conv=>rhs;rw[<-rV q,DA,DR (xU q),List.take_append_drop]
  show(yf q).length+(q.drop (O (yf q))++P).length=O L;have:=xU q;exact Al;show Gro h5 Z1 (p+1+1) _ 1 (Y a5 (O (C++[r])) (O (C++[r]))) (O (C++[r])) (u64s (C++[r]));rw[vg,CJ];exact g5;intro c hc;obtain h|h:=DQ.1 hc;exact hC c h;rw[CV.1 h];exact hr;show wv L=dv CB (C++[r])+CB^O (C++[r])*wv (yf q);rw[show wv (yf q)=wv q from Og _ _,CJ];exact bn;intro e;dsimp only at e;rw[show wv (yf q)=wv q from Og _ _]at e;rw[e,Eo,C9]at J;exact⟨C,r,ω,Z⟩;show(C++[r]).length<=31;rw[CJ];show (O C)+1<=31;omega
end
section
variable{h h':HF}{c n n':Nat}
def dE(k)(q:GK.G h)(y:20<=n){a}(g:GroT h n (Y a (O T) (O T)) T)(s:O T<100000000){j}{o}{L}(e:Sl h n 1 (Y ax lx cx) (u64s L))(A:NW L)(u:O L<=30)(p:L≠[]):
  CF (J4 (k+6)) 145 [Y a (O T) (O T),Y ax lx cx,υ 0,Y j 1 o] h n λv h' n' w=>AS h n (Y a (O T) (O T)) h' n' w v (T++decN (wv L)):=by apply zw R4;have d:=e.lenW;subst d;apply(Zi);apply(Za);apply(Zo);apply(Zw);refine zF _ R5 (gt k q y g s e A u p) λv B C D b=>?_;obtain⟨f,rfl⟩:=b.g.shape;have i:=(AS.refl g).trans b;apply(Zm);exact retH [Y f _ _] R3 i
def nI(k)(y:GK.G h)(A:20<=n){a}(g:GroT h n (Y a (O T) (O T)) T)(F:O T<100000000){L}(o:Sl h n 1 (Y ax lx cx) (u64s L))(B:NW L)(H:O L<=30):
  CF (J4 (k+7)) 109 [Y a (O T) (O T),Y ax lx cx] h n λv h' n' w=>AS h n (Y a (O T) (O T)) h' n' w v (T++decN (wv L)):=by refine zw R4 ?_;have s:=o.lenW;subst s;refine Zi (k:=?_);refine zN (k:=?_);by_cases h0:L=[];subst h0;refine ZD (k:=?_);refine wE [CC .u8 48] (l:=1) (c:=1) R5 λi C q=>?_;refine oi (new:=[48]) R9 zb ω (yp C R2) Cy ω Z ((AS.refl g).ext q Zq) λZ1 h' P b _=>?_;obtain⟨f,rfl⟩:=b.g.shape;refine Zm (k:=?_);exact retH [Y f _ _] R3 b;have D:O L≠0:=λe=>h0 (CT.1 e);refine Zj (k:=?_);by_cases i:O L=1;obtain⟨w,rfl⟩:=List.length_eq_one_iff.1 i;have p:w<18446744073709551616:=B.1 w eC;refine Zx (k:=?_);refine yE R7 o R2 ω (λ_=>rfl) R4 λ_=>?_;refine zF _ R5 (zvn (k+2) y A p g Z) λv i K R b=>?_;obtain⟨f,rfl⟩:=b.g.shape;have j:=(AS.refl g).trans b;refine Zm (k:=?_);rw[pP];exact retH [Y f _ _] R3 j;refine Zj (k:=?_);refine wE [CC .u64 10000000000000000000] (l:=1) (c:=1) R5 λi C q=>?_;refine wE [Y (ξ ⟨3*n+2,0,θ⟩) 1 1] (l:=1) (c:=1) R5 λu N I=>?_;refine Zm (k:=?_);have d:J3 n h u:=q.trans I Z;refine ye (α:=Nat) (λ_=>[(0,Y a (O T) (O T)),(1,Y ax (O L) cx),(5,Y (ξ ⟨3*(n+1)+2,0,θ⟩) 1 1)]) (λ_ h' n' w=>u=h'/\n+1+1=n'/\w=[]) (λz=>z) 0 P3 R3 (by show 0<LL;unfold LL;omega) ?_;rintro _ t _ _ _⟨rfl,rfl,rfl⟩;refine Za (k:=?_);rw[za rfl];refine Zt (k:=?_);refine zM (k:=?_);refine zF _ R5 (dE k (rR y d A) (n:=n+1+1) Z (g.ext d Z) F (o.ext d Z) B H h0) λv J M S b=>?_;obtain⟨f,rfl⟩:=b.g.shape;have j:=((AS.refl g).ext d Z).trans b;refine Zm (k:=?_);exact retH [Y f _ _] R3 j
def intN(x:Int):List Nat:=(if x<0 then[45]else[])++decN x.natAbs
theorem SI(x):(intN x).map Ec=intT x:=by grind [intN,intT,np]
def IW.few{b}{a}{x}(i:IW h n b a l c x)(hx:x.natAbs<2^m)(hm:m<=1920):∃L,Sl h n 1 (Y a l c) (u64s L)/\NW L/\O L<=30/\wv L=x.natAbs:=by have⟨_,L,f,d,e⟩:=i;refine⟨L,f,d,d.len_le (k:=30) ?_,e⟩;rw[e];refine CS hx (CU (CQ zd hm) ?_);decide+kernel
def zlv{L}{o}(hm:m≠0)(g:O L=m)(h:((Kn T).drop o).take m=u64s L):False:=by
 obtain⟨d,a,rfl⟩:∃d a,L=d::a:=by
  cases L with
  |nil=>exact Cu g.symm hm
  |cons d a=>exact⟨d,a,ω⟩
 have b:ι (d:Int)∈((Kn T).drop o).take m:=by rw[h];exact D4
 have f:=List.mem_of_mem_drop (Dp b);have⟨q,_,e⟩:=DL.1 f;cases e
theorem Sl.kept{u}{L}(s:Sl h n 1 v (u64s L))(k:Keep u n h h')(g:GroT h n u T)(d:n<=n'):Sl h' n' 1 v (u64s L):=by
 generalize hL:u64s L=cl at s;cases s with
 |nil ha=>exact .nil (uw ha d)
 | @at_ b off len cap x cs c2 hb hx hc hcap hl he=>
  by_cases h0:len=0;subst h0;have:cl=[]:=by rw[<-he];simp
  subst this;exact .nil (.inr ⟨_,_,_,ω,Z⟩);refine .at_ Z ((k b hb λo l c e=>?_).trans hx) hc hcap hl he;unfold GroT at g;generalize (O T)=tl at g;generalize hT:Kn T=tc at g;cases g with
  |nil=>cases e
  |at_ hg hlo hb2 hr hl2 ho=>
   cases e;rw[hr]at hx;cases hx;injection hc with hc;subst hc;have a:O L=len*1:=by grind [zL,O,DA,List.length_drop]
   rw[<-hT,<-hL]at he;exact zlv Z a he
def nF(k)(H:GK.G h)(K:20<=n){a}(g:GroT h n (Y a (O T) (O T)) T)(hT:O T<10000000){b}{x}(i:IW h n b ax lx cx x)(hx:x.natAbs<2^m)(hm:m<=1920):
  CF (J4 (k+8)) 65 [.agg #[U b,Y ax lx cx],Y a (O T) (O T)] h n λv h' n' w=>AS h n (Y a (O T) (O T)) h' n' w v (T++intN x):=by apply zw R4;apply(zN);refine tK [U b,Y ax lx cx] R5 λZ0 y e=>?_;have V:=i.ext e Zq;have⟨L,M,Z1,J,o⟩:=V.few hx hm;have q:=(AS.refl g).ext e Zq;apply(Zv);apply z7 R5 (nJ ω y R2);apply(zN);cases b;have p:=i.ge;rw[za rfl];apply(Zt);refine z7 R5 (nJ ω y R2)<|zF _ R5 (nI k (rR H e K) Z q.g Z M Z1 J) λv j n3 Z3 d=>?_;obtain⟨A,rfl⟩:=d.g.shape;have B:=q.trans d;rw[o]at B;apply(Zm);rw[show intN x=decN x.natAbs by unfold intN;rw[Cv Z];rfl];exact retH [Y A _ _] R3 (by rw[o];exact B);have p:=i.lt;rw[ze rfl];apply(Zi);refine wE [Γ 45] R5 λF W f=>?_;have P:F (3*n+2)=_:=(f _ Z).trans y;refine oi (new:=[45]) R9 zb ω (yp W R2) Cy ω Z (q.ext f Zq) λv' j Z3 d u=>?_;obtain⟨A,rfl⟩:=d.g.shape;have s:GroT F (n+1+1) (Y a (O T) (O T)) T:=(g.ext e Zq).ext f Zq;have R:j (3*n+2)=_:=(s.keepB u (zB n) Z).trans P;have I:GK.G j:=G_fr (rR H (e.trans f Zq) K) λb hb Z4=>s.keepB u Z4 Z;have N:Sl j (n+1+1+1) 1 (Y ax lx cx) (u64s L):=(M.ext f Zq).kept u s Zq;apply(Zm);apply(Zb);refine z7 R5 (nJ ω R R2)<|zF _ R5 (nI k I (n:=n+1+1+1) Z d.g aD N Z1 J) λv h4 n4 w4 C=>?_;obtain⟨S,rfl⟩:=C.g.shape;have D:=d.trans C;rw[o]at D;apply(Zm);rw[show T++intN x=T++[45]++decN x.natAbs by unfold intN;rw[Cw p,Dh]];exact retH [Y S _ _] R3 (by rw[o];exact D)
end
section
variable{h h0:HF}{c n:Nat}
def GroT.text{a}(g:GroT h n (Y a (O T) (O T)) T):argS h 1 (Y a (O T) (O T)) (O T) (Kn T):=uX (Gro.sl g)
def GroT.nil(h)(n):GroT h n (Y θ (O ([]:List Nat)) (O ([]:List Nat))) []:=Gro.nil
def zi5:∀(m V:Nat),V<2^m->O (decD V)<=m:=by
 intro m;induction m with
 |zero=>(intro V h;have:V=0:=by simpa using h);subst this;simp[decD]
 |succ m ih=>
  intro V h;by_cases h0:V=0;subst h0;simp[decD];rw[decD];simp only[h0,if_false,↓reduceDIte,↓reduceIte,DJ,CJ,C0,Gg];have:=ih (V/10) Z;omega
def zif{x}(h:x.natAbs<2^m):O (intN x)<=m+2:=by have a:O (decN x.natAbs)<=m+1:=(by unfold decN;split;simp;have:=zi5 m _ h;simp only[decB,CN,List.length_reverse];omega);unfold intN;rw[CJ];split<;>simp<;>omega
def AS.w_nil(a:AS h0 n0 (Y θ l c) h n w v T):w=[]:=by
 cases w with
 |nil=>rfl
 |cons b w=>
  have⟨o,l,c,e⟩:=a.hw b D4;cases e
def zcw(k)(j:GK.G h)(o:20<=n){b}{x}(i:IW h n b ax lx cx x)(hx:x.natAbs<2^m)(hm:m<=1920):
  VF (J4 (k+9)) 64 [.agg #[U b,Y ax lx cx]] h n λv=>v=CG ⟨⟨intT x⟩⟩:=by apply zO R4;apply(zN);refine tK [U b,Y ax lx cx] R5 λf s e=>?_;have p:=i.ext e Zq;apply(Zm);refine z7 R5 (yw R2 s ω zb ω)<|zF _ R5 (nF k (rR j e o) Z (GroT.nil f (n+1)) (by show 0<10000000;omega) p hx hm) ?_;intro v y A B a;obtain⟨u,rfl⟩:=a.g.shape;have d:=a.w_nil;subst d;apply pY R5 (rg R3 a.g.text);apply(Zm);apply retF _ ω (zi ω) R2;show CG _=_;rw[Dt,SI]
def js{w}(a:w<=9223372036854775808)(h0:0<w):Df .i64 ((18446744073709551616-w:Nat):Int)= -(w:Int):=by simp only[Df,IntKind.signed,Em];simp;omega
theorem zig(k){b}{x}(i:IW h n b ax lx cx x):
  VF (J4 (k+1)) 62 [.agg #[U b,Y ax lx cx]] h n λv=>∃y ok,v=.tuple #[υ y,U ok]/\(ok=φ->y=x/\ -9223372036854775808<=x/\x<9223372036854775808):=by
 apply zO R4;have⟨p,L,u,D,B⟩:=i;have s:=u.lenW;subst s;apply(zN);refine tK [U b,Y ax (O L) cx] R5 λj d F=>?_;have A:=u.ext F Zq;apply(Zb);apply(Zi);apply z7 R5 (nJ ω d R2);by_cases h0:L=[];subst h0;have f:x=0:=(by have:x.natAbs=0:=B.symm.trans rfl;omega);apply(Zr);exact retF [υ 0,U φ] ω (yX ω (yX ω qP)) R2 ⟨_,_,ω,λ_=>⟨f.symm,Z,Z⟩⟩;have G:O L≠0:=λe=>h0 (CT.1 e);obtain⟨w,a,rfl⟩:∃w a,L=w::a:=by
  cases L with
  |nil=>exact Cu ω h0
  |cons w a=>exact⟨w,a,ω⟩
 have o:w<18446744073709551616:=D.1 w CA;apply(ZB);apply z7 R5 (nJ ω d R2);refine yE R7 A R2 ω (λ_=>rfl) R4 λ_=>?_;apply(Zv);apply z7 R5 (nJ ω d R2);by_cases j:a=[];subst j;rw[pP]at B;have C:w≠0:=D.last (l:=[]);apply(zM);apply MV R6 (by grind);apply(Zm);rw[za rfl];apply(Zi);apply z7 R5 (nJ ω d R2);cases b;have f:0<=x:=JY.1 (of_decide_eq_false p.symm);apply(ZB);apply z7 R5 (nJ ω d R2);by_cases hlt:w<=9223372036854775807;apply(Zw);apply oa R6 Z;apply(Zb);apply(zN);rw[ze rfl];apply(Zi);apply vj R7 Z;apply(Zb);apply(zN);exact retF [υ (w:Int),U φ] ω (yX ω (yX ω qP)) R2 ⟨_,_,ω,λ_=>⟨Z,Z,Z⟩⟩;apply(Zw);apply mD R6 Z;apply(Zb);apply(zN);rw[za rfl];apply(Zt);apply(zN);exact retF [υ 0,U χ] ω (yX ω (yX ω qP)) R2 ⟨_,_,ω,λe=>by cases e⟩;have f:x<0:=of_decide_eq_true p.symm;by_cases hlt:w<=9223372036854775808;apply(Zb);apply oa R6 Z;apply(Zb);apply(zN);rw[ze rfl];apply(Zi);refine zZ R4 (Rq o C)<|wm R6 (by show ξ (υ (Df .i64 _))=_;rw[js hlt Z]) ?_;apply(Zb);apply(zN);exact retF [υ (-(w:Int)),U φ] ω (yX ω (yX ω qP)) R2 ⟨_,_,ω,λ_=>⟨Z,Z,Z⟩⟩;apply(Zb);apply mD R6 Z;apply(Zb);apply(zN);rw[za rfl];apply(Zi);apply z7 R5 (nJ ω d R2);apply(ZE);apply(zN);exact retF [υ 0,U χ] ω (yX ω (yX ω qP)) R2 ⟨_,_,ω,λe=>by cases e⟩;have H:2<=O (w::a):=by
  cases a with
  |nil=>exact Cu ω j
  |cons _ _=>simp
 apply(zM);apply MC R6 Z;apply(Zm);rw[ze rfl];apply(Zt);apply(zN);exact retF [υ 0,U χ] ω (yX ω (yX ω qP)) R2 ⟨_,_,ω,λe=>by cases e⟩
theorem tj(h:denZ q=0):ratT q=intT q.num:=by grind [ratT,intT,yr]
theorem jS(h:¬denZ q=0):ratT q=(intN q.num++[47]++intN (denZ q)).map Ec:=by grind [SI,wq,ratT,intT,yr,only]
theorem OG(k)(hG:GK.G h)(hn:20<=n){b d}{a e}{f}(i:IW h n b a l c q.num)(j:IW h n d e f g (denZ q))(I:Sz m q)(hm:m<=1920):
  VF (J4 (k+10)) 30 [.agg #[U b,Y a l c,U d,Y e f g]] h n λv=>v=CG ⟨⟨ratT q⟩⟩:=by
 apply zO R4;apply(zN);apply tK [U b,Y a l c,U d,Y e f g] R5;intro N C J;have P:=i.ext J Zq;have j1:=j.ext J Zq;have u:=rR hG J hn;apply(Zv);refine z7 R5 (yw R2 C rfl zb rfl)<|yi _ R5 (bj (k+8) j1) ?_;rintro _⟨z,rfl,s⟩;apply(zN);cases z
 .have s:¬denZ q=0:=λe=>by cases s.2 e
  rw[za rfl];apply(Zi);refine z7 R5 (yw R2 C rfl zb rfl)<|zF _ R5 (nF (k+1) u Z (GroT.nil N (n+1)) (by show 0<10000000;omega) P I.1 hm) ?_;intro v h2 B w2 A;obtain⟨a',rfl⟩:=A.g.shape;have Z0:=A.w_nil;subst Z0;have S:J3 (n+1) N h2:=λb p=>A.keep b p λo l c e=>by cases e
  have ab:=A.hn;apply wE [Γ 47] R5;intro H p3 K;have F:GroT H (B+1) _ _:=A.g.ext K Zq;have aa:O (intN q.num)<=1922:=CU (zif I.1) Z;have hA:AS h (KC (k+9) n 0).n0 (η) H (B+1) [] _ ([]++intN q.num):=⟨by show n<=B+1;omega,λb p _=>(K b (by have p:b<3*n:=p;omega)).trans ((S b (by have p:b<3*n:=p;omega)).trans (J b p)),λb p=>Cu p CO,F,by rcases A.or with h|h;exact .inl h;exact .inr (h.mono (C8 n))⟩;apply oi (m:=1) (new:=[47]) R9 zb rfl (yp p3 R2) Cy rfl aD hA;intro v' Z1 w4 D R;obtain⟨a5,rfl⟩:=D.g.shape;have a0:=D.w_nil;subst a0;have p4:Z1 (3*n+2)=_:=(F.keepB R (zB n) Z).trans ((K _ Z).trans ((S _ Z).trans C));have L:J3 (n+1) N H:=S.trans K Z;have Z4:GK.G H:=rR u L Z;have V:GK.G Z1:=G_fr Z4 λb p hg=>F.keepB R hg Z;obtain⟨ej,Lj,W,a9,Z3⟩:=j1.ext L (show n+1<=B+1 by omega);have j4:IW Z1 (B+1+1) d e f g (denZ q):=⟨ej,Lj,W.kept R F Zq,a9,Z3⟩;apply(Zv);apply z7 R5 (yw R2 p4 rfl zb rfl);apply(zM);apply zF _ R5 (nF (k+1) V (n:=B+1+1) Z D.g aD j4 (by rw[wq s,CR];exact I.2) hm);intro v h5 n5 w5 M;obtain⟨a7,rfl⟩:=M.g.shape;have a1:addW (KC (k+9) n 0).n0 w5 []=[]:=(D.trans M).w_nil;apply pY R5 (rg R3 M.g.text);apply(Zm);apply retF _ rfl (zi rfl) ⟨rfl,a1⟩;show CG _=_;rw[Dt,jS s]
 have s:denZ q=0:=s.1 rfl;rw[ze rfl];apply(Zi);refine z7 R5 (yw R2 C rfl zb rfl)<|yi _ R5 (zig (k+8) P) ?_;rintro _⟨y,ok,rfl,hy⟩;apply(Zb);apply(Zb);apply(Zv);apply(zN);cases ok
 .rw[za rfl];apply(Zi);refine z7 R5 (yw R2 C rfl zb rfl)<|yi _ R5 (zcw k u Z P I.1 hm) ?_;exact Cc
 obtain⟨rfl,a3,a8⟩:=hy rfl;rw[ze rfl];apply(Zi);apply yi _ R5 (oT (k+4) u Z ⟨a3,a8⟩);exact Cc
end
section
variable{c len off:Nat}{ty:TypeId}{x:Operand}
section
variable{h:HF}{n:Nat}{d:Tmp}
def sZ{P}{a}{zs}{q:D}(c)(u:OR sz P h n b zs)(p:KP sz P)(hj:j<zs.length)(f:off=j*sz)(g:P c q h n)(k:∀h',OR sz P h' n b (zs.set j q)->Kp b h h'->EO X ops r ⟨t,h',n,addW n0 [b] w⟩ Q)(H:zh ops t o=φ:=by rfl)(hd:o.dst=θ:=by rfl)(ho:o.op=.store ty a x:=by rfl)(hi:X.E.inf ty=ξ (sz,bt,z):=by rfl)(ha:J2 t a=.pointer (ξ ⟨b,off,θ⟩):=by rfl)(hx:zn (J2 t x)=c:=by rfl)(hX:X.n0=n0:=by rfl):EO X ops (o::r) ⟨t,h,n,w⟩ Q:=by have v:=u;have⟨L,C,e,y,M,I⟩:=u;have G:=I.len;have⟨A,K,B⟩:=p.c g;have J:j*sz+sz<=zs.length*sz:=(by have:=Nat.mul_le_mul_right sz (show j+1<=zs.length from hj);rw[Nat.add_mul,Nat.one_mul]at this;exact this);subst f;rw[rS H (by rw[hd];rfl) (by rw[ho];rfl) (by rw[ho];exact xn hi ha (by rw[hx];exact A) (by rw[hx];exact B) y Z),hd,hx,hX];have s:=v.set p y hj g (zg _ _ _) (λc F=>zm F);exact k _ s.1 s.2
def sZn{P}{a}{zs}{q:D}(c)(y:OR sz P h n b zs)(u:KP sz P)(hj:j<zs.length)(g:off=j*sz)(s:P c q h n)(f:3*n0<=b)(p:zh ops t o=φ:=by rfl)(hd:o.dst=θ:=by rfl)(ho:o.op=.store ty a x:=by rfl)(hi:X.E.inf ty=ξ (sz,bt,z):=by rfl)(ha:J2 t a=.pointer (ξ ⟨b,off,θ⟩):=by rfl)(hx:zn (J2 t x)=c:=by rfl)(hX:X.n0=n0:=by rfl)(k:∀e,OR sz P e n b (zs.set j q)->Kp b h e->EO X ops r ⟨t,e,n,w⟩ Q):EO X ops (o::r) ⟨t,h,n,w⟩ Q:=
 sZ c y u hj g s (λe v A=>by rw[wD f];exact k e v A) p hd ho hi ha hx hX
end
section
variable{h:HF}{n:Nat}{d:Tmp}
end
section
variable{h:HF}{n:Nat}{ld:List (Nat×Nat)}{d:Tmp}
end
def strP(c:List ψ)(s:List UInt8)(_:HF)(_:Nat):Prop:=c=[CG ⟨⟨s⟩⟩]
def strP.kp:KP 1 strP:=⟨λe _=>e,λe=>by cases e;exact R3⟩
def Rec.strsE{C}{h}{n}(r:Rec 1 (λc s=>strP c s h n) C ss):C=strs ss:=by
 induction r with
 |nil=>rfl
 |cons h1 h2 h3 ih=>rw[ih,h2];rfl
abbrev OT(h:HF)(n b:Nat)(ss:List (List UInt8)):Prop:=OR 1 strP h n b ss
def OT.sl{h}{n}(o:OT h n b ss)(e:len=O ss)(a:len<=cap):Sl h n 1 (Y (ξ ⟨b,0,θ⟩) len cap) (strs ss):=by have⟨C,s,r⟩:=OR.sl o e a;exact r.strsE▸s
def SJ(k){h}{n}(g:GG h n){b d}{a e}{f}(i:IW h n b a l c q.num)(j:IW h n d e f g1 (denZ q)){m}(p:Sz m q)(hm:m<=1920):CX (J4 (k+10)) 30 [.agg #[U b,Y a l c,U d,Y e f g1]] h n λv _ _=>v=CG ⟨⟨ratT q⟩⟩:=(OG k g.1 g.2 i j p hm).cx
end
section
variable{p:LPD}{n:Nat}{h:HF}{ds:List SideD}
theorem SK{lo}(h:∀i,i<j->∀lo hi,p.lower[i]?=ξ lo->p.upper[i]?=ξ hi->pairOk lo hi)(b:p.lower[j]?=ξ lo)(c:p.upper[j]?=ξ hi)(d:pairOk lo hi):∀i,i<j+1->∀lo hi,p.lower[i]?=ξ lo->p.upper[i]?=ξ hi->pairOk lo hi:=by grind
def ot{l:List α}{P:α->Prop}{r}(h:∀r∈l.take i,P r)(d:l[i]?=ξ r)(e:P r):∀r∈l.take (i+1),P r:=by intro f c;rw[xa d]at c;obtain b|b:=DQ.1 c;exact h f b;rw[CV.1 b];exact e
def GSL.lo{lo}(g:GSL lo h n v ds)(l:lo'<=lo):GSL lo' h n v ds:=by
 have⟨C,b,e,f⟩:=g.ex;refine⟨C,?_,e.mono λc d s=>s.lo l,f⟩;generalize (O ds)=m at b⊢;cases b with
 |nil=>exact .nil
 |at_ hg hlo hb hr hl2 ho=>exact .at_ hg Z hb hr hl2 ho
theorem SL(k)(g:GG h n){lo}(io:Sl h n 1 (Y ao lo co) (strs p.obj))(ir:Kt h n (Y ar lr cr) p.rows)(iw:Sl h n 1 (Y aw lw cw) (strs p.lower))(iu:Sl h n 1 (Y au lu cu) (strs p.upper))(hp:LPB a p)(ha:a+a<=2000):CX (J4 (k+12)) 18 [.agg #[Y ao lo co,Y ar lr cr,Y aw lw cw,Y au lu cu]] h n λv Z1 S=>∃aO lO kO aR lR kR aC lC kC ok,v=.tuple #[.agg #[Y aO lO kO,Y aR lR kR,Y aC lC kC],U ok]/\(ok=φ↔VLP p)/\(ok=φ->KH n Z1 S (Y aO lO kO) (p.obj.map zj)/\GSL n Z1 S (Y aR lR kR) (zk p)/\GSL n Z1 S (Y aC lC kC) (zC p)):=by
 have g9:=z8 io;have ga:=ir.len;have gc:=z8 iw;have gb:=z8 iu;have⟨d5,c1,c2,T,d4,fo,fp,fq⟩:=hp;apply zw R4;apply(zG);apply sB [Y ao lo co,Y ar lr cr,Y aw lw cw,Y au lu cu];intro ep gu j6;apply(sA);intro eq gv j7;apply(zG);by_cases q13:(lo:Int)<1;apply(zG);apply sT #[η,η,η];apply sS [η,η,η];intro er gw ge;exact Bs;apply(zG);by_cases q15:(lo:Int)>64;apply(zG);apply sT #[η,η,η];apply sS [η,η,η];intro es gx gf;exact Bs;apply(zG);by_cases q17:(lw:Int)=(lo:Int);apply(zG);by_cases q18:(lu:Int)=(lo:Int);apply(zG);by_cases q19:(lr:Int)>64;apply(zG);apply sT #[η,η,η];apply sS [η,η,η];intro et gy gg;exact Bs;apply(zG);apply sC (rC _ g.x io.x (λs hs=>(d5 s hs).1) d4);rintro _ eu f⟨D,P,H,ee,rfl,ca,dv⟩ jl j8;obtain⟨rfl,bl⟩|⟨rfl,bl⟩:=J7 ca;apply(zG);apply sT #[η,η,η];apply sS [η,η,η];intro ev gz gh;apply(zq);exact⟨_,_,_,_,_,_,_,_,_,_,ω,⟨λe=>l0,λhv=>Cu hv.ob bl⟩,λe=>l0⟩;have Z4:=dv rfl;have ea:=Z4.1.len;rw[CN]at ea;apply(zG);apply sT #[Y D P H,η,η];apply(sA);intro ew i0 j9;apply sS [Y D P H,η,η];intro d2 dp gi;apply(zG);apply sF (α:=Nat×Option Addr×Nat×Nat) (λz=>[(1,ε (3*n+2)),(2,ε (3*(n+1)+2)),(4,υ (lo:Int)),(7,ε (3*f+2)),(58,υ (lo:Int)),(59,υ (z.1:Int))]) (λz Z1 S w'=>w'=[]/\f+1<=S/\ExtB (f+1) [3*f+2] d2 Z1/\Z1 (3*f+2)=ξ (.row [Y D P H,η,Y z.2.1 z.2.2.1 z.2.2.2] 47)/\GSL (f+1) Z1 S (Y z.2.1 z.2.2.1 z.2.2.2) ((zC p).take z.1)/\z.1<=O p.obj/\∀i,i<z.1->∀lo hi,p.lower[i]?=ξ lo->p.upper[i]?=ξ hi->pairOk lo hi) (λz=>O p.obj-z.1) (0,θ,0,0) ⟨ω,Cy,Ed _ _ _,dp,GSL.nil _ _ _,Cz,(λi hi=>Cu hi (DM _))⟩;rintro⟨j,aC,lC,kC⟩ t a9 u _ ⟨rfl,jm,el,a4,B,hj,b4⟩;dsimp only at a4 B hj b4;apply(zG);by_cases q26:(j:Int)<(lo:Int);apply(Zh);obtain⟨cx,a7⟩:∃d,(p.lower)[j]?=ξ d:=⟨_,CD Z⟩;have⟨g5,gk,cz,dh,e0,e5⟩:=vM iw a7;apply dI cz e0;apply dL e5 dh 0;apply(zH);obtain⟨cy,a8⟩:∃d,(p.upper)[j]?=ξ d:=⟨_,CD Z⟩;have⟨g6,gl,d0,di,e1,e6⟩:=vM iu a8;apply dI d0 e1;apply dL e6 di 0;apply dC (jP _ g.x (c1 _ (CE a7)).1 (c2 _ (CE a8)).1 (c1 _ (CE a7)).2 (c2 _ (CE a8)).2 Z);rintro _ ey ap⟨ac,ay,ax,b5,az,b0,b1,b2,b3,L,W,V,a3,Z3,Z0,a0,a1,a2,ef,rfl,cb,dw⟩ jn ja;obtain⟨rfl,bm⟩|⟨rfl,bm⟩:=J7 cb;apply(zH);apply dB [η,U χ,U χ,η,U χ,η,U χ,U χ,η,U χ,η];intro ez i1 jb;apply dS [η,U ac,U ay,Y ax b5 az,U b0,Y b1 b2 b3,U L,U W,Y V a3 Z3,U Z0,Y a0 a1 a2];intro f0 i2 gm;apply(zJ);apply sT #[η,η,η];apply sS [η,η,η];intro f1 i3 c5;have fr:=Z4.x.sto c5 Z;have fs:=B.x.sto c5 Z;apply(zq);exact⟨_,_,_,_,_,_,_,_,_,_,ω,⟨λe=>l0,λhv=>Cu (hv.bd _ _ _ a7 a8) bm⟩,λe=>l0⟩;have⟨e8,d6,de,bw,bs,bu⟩:=dw rfl;apply(zH);apply dB [η,U χ,U χ,η,U χ,η,U χ,U χ,η,U χ,η];intro f2 i4 jc;apply dS [η,U ac,U ay,Y ax b5 az,U b0,Y b1 b2 b3,U L,U W,Y V a3 Z3,U Z0,Y a0 a1 a2];intro f3 i5 gn;apply(zJ);refine wE [η,U ac,U ay,Y ax b5 az,U b0,Y b1 b2 b3,U L,U W,Y V a3 Z3,U Z0,Y a0 a1 a2] (l:=1) (c:=1) R5 λbg dq jd=>?_;have e3:uK (f+1) [η,U ac,U ay,Y ax b5 az,U b0,Y b1 b2 b3,U L,U W,Y V a3 Z3,U Z0,Y a0 a1 a2] (⟨[],cx,cy⟩) bg (ap+1+1):=⟨_,_,_,_,_,_,_,_,_,_,_,_,_,_,_,_,_,_,_,_,_,ω,KH.nil _ _ _,e8,d6.t,de.t,bw,bs.t,bu.t⟩;have⟨ej,C,cn,ci⟩:=((B.x (h':=bg) (n':=ap+1+1) zx)).ex;have cl:bg (3*(ap+1)+2)=_:=dq;refine MX (lo:=(f+1)) (m:=1) R8 ⟨Da ω,Da ω⟩ C (yp cl R2) Cy aD ω ω ⟨Bf,Z⟩ λj4 ak be c8 ab=>?_;have cq:=GSL.app C cn ci e3 ab be;have⟨bz,cf,_⟩:=be.shape;subst cf;replace c8:Exa (f+1) _ _:=⟨c8⟩;have i6:ak (3*n+2)=_:=(ab.blk C (zB _) Z).trans zp;have i7:ak (3*(n+1)+2)=_:=(ab.blk C (zB _) Z).trans zp;have i8:ak (3*f+2)=_:=(ab.blk C (zB _) Z).trans zp;have i9:ak (3*ap+2)=_:=(ab.blk C (zB _) Z).trans zp;have ia:ak (3*(ap+1)+2)=_:=(ab.blk C (zB _) Z).trans zp;apply(zG);apply sS (b:=3*f+2) (off:=2) [Y D P H,η,Y bz (O ((zC p).take j)+1) (O ((zC p).take j)+1)];intro f4 dr dl;have d7:=cq.sto dl Z;apply(zG);exact sK (j+1,bz,(O ((zC p).take j)+1),(O ((zC p).take j)+1)) ⟨ω,Z,zy,dr,((xa (gj a7 a8)).symm▸d7),Z,(SK b4 a7 a8 bm)⟩;apply(zG);have fn:j=O p.obj:=Z;have bq:GSL (f+1) a9 u (Y aC lC kC) (zC p):=by grind [zC,CL,List.length_zipWith]
 apply(zG);have ck:a9 (3*f+2)=_:=a4;apply sF (α:=Nat×Option Addr×Nat×Nat) (λz=>[(2,ε (3*(n+1)+2)),(4,υ (lo:Int)),(7,ε (3*f+2)),(87,Y ar lr cr),(88,υ (lr:Int)),(89,υ (z.1:Int))]) (λz Z1 S w'=>w'=[]/\u<=S/\ExtB u [3*f+2] a9 Z1/\Z1 (3*f+2)=ξ (.row [Y D P H,Y z.2.1 z.2.2.1 z.2.2.2,Y aC lC kC] 47)/\GSL u Z1 S (Y z.2.1 z.2.2.1 z.2.2.2) ((zk p).take z.1)/\z.1<=O p.rows/\∀r∈p.rows.take z.1,pairOk r.lo r.hi/\(∀s∈r.A,vF s)/\O r.A=O p.obj) (λz=>O p.rows-z.1) (0,θ,0,0) ⟨ω,Cy,Ed _ _ _,a4,GSL.nil _ _ _,Cz,(λr hr=>Cu hr eC)⟩;rintro⟨i,aR,lR,kR⟩ t al aq _ ⟨rfl,jo,em,b9,o,hi,am⟩;dsimp only at b9 o hi am;apply(zG);by_cases q47:(i:Int)<(lr:Int);apply(zG);obtain⟨bc,q⟩:∃d,(p.rows)[i]?=ξ d:=⟨_,CD Z⟩;have⟨g7,go,ct,dg,cv,d1,dj,e2,e7,bj⟩:=Kt.at ir q;have ed:=z8 bj;apply sI d1 e2;apply sL e7 dj 0;apply(sA);intro f5 ib je;apply sS [Y ct dg cv,CG ⟨⟨bc.lo⟩⟩,CG ⟨⟨bc.hi⟩⟩];intro f6 ic gp;apply(zG);apply sC (jP _ g.x (T _ (CE q)).1.1 (T _ (CE q)).2.1.1 (T _ (CE q)).1.2 (T _ (CE q)).2.1.2 Z);rintro _ f7 c4⟨a5,ae,ad,an,af,ag,ah,ai,aj,w,G,F,R,I,J,K,M,N,eg,rfl,cc,dx⟩ jp jf;obtain⟨rfl,b7⟩|⟨rfl,b7⟩:=J7 cc;apply(Zk);intro f8 id jg;apply sS [η,U a5,U ae,Y ad an af,U ag,Y ah ai aj,U w,U G,Y F R I,U J,Y K M N];intro f9 ie gq;apply(zG);apply sC (rC _ g.x bj.x (λs hs=>((T _ (CE q)).2.2.2 s hs).1) (T _ (CE q)).2.2.1);rintro _ fa gd⟨en,g8,eo,eh,rfl,cd,dy⟩ jq jh;obtain⟨rfl,dk⟩|⟨rfl,dk⟩:=J7 cd;apply(zG);apply sT #[η,η,η];apply sS [η,η,η];intro fb ig c6;have ft:=Z4.x.sto c6 Z;have fu:=o.x.sto c6 Z;exact Cj;have c3:=dy rfl;have eb:=c3.1.len;rw[CN]at eb;apply(zG);apply sT #[η,η,η];apply sS [η,η,η];intro fc ii bo;have fv:=Z4.x.sto bo Z;have fw:=o.x.sto bo Z;have fx:=c3.sto bo Z;exact Cj;have⟨e9,d8,df,bx,bt,bv⟩:=dx rfl;apply(Zk);intro fd ij ji;apply sS [η,U a5,U ae,Y ad an af,U ag,Y ah ai aj,U w,U G,Y F R I,U J,Y K M N];intro fe ik gr;apply(zG);apply sC (rC _ g.x bj.x (λs hs=>((T _ (CE q)).2.2.2 s hs).1) (T _ (CE q)).2.2.1);rintro _ ff b8⟨ba,b6,bb,ei,rfl,ce,dz⟩ jr jj;obtain⟨rfl,bn⟩|⟨rfl,bn⟩:=J7 ce;apply(zG);apply sT #[η,η,η];apply sS [η,η,η];intro fg il c7;have fy:=Z4.x.sto c7 Z;have fz:=o.x.sto c7 Z;apply(zq);exact⟨_,_,_,_,_,_,_,_,_,_,ω,⟨λe=>l0,λhv=>Cu (hv.rw _ (CE q)).2.1 bn⟩,λe=>l0⟩;have bk:=dz rfl;have ec:=bk.1.len;rw[CN]at ec;apply(zG);by_cases q68:(b6:Int)=(lo:Int);apply(zG);apply sS [Y ba b6 bb,U a5,U ae,Y ad an af,U ag,Y ah ai aj,U w,U G,Y F R I,U J,Y K M N];intro fh im dm;have d9:=bk.sto dm Z;apply(zG);refine wE [Y ba b6 bb,U a5,U ae,Y ad an af,U ag,Y ah ai aj,U w,U G,Y F R I,U J,Y K M N] (l:=1) (c:=1) R5 λbh dt jk=>?_;have e4:uK (u) [Y ba b6 bb,U a5,U ae,Y ad an af,U ag,Y ah ai aj,U w,U G,Y F R I,U J,Y K M N] (rowS bc) bh (b8+1):=⟨_,_,_,_,_,_,_,_,_,_,_,_,_,_,_,_,_,_,_,_,_,ω,(d9.x).lo (show u<=c4+1 from Z),e9,d8.t,df.t,bx,bt.t,bv.t⟩;have⟨ek,y,cp,cj⟩:=((o.x (h':=bh) (n':=b8+1) zx)).ex;have cm:bh (3*b8+2)=_:=dt;refine MX (lo:=(u)) (m:=1) R8 ⟨Da ω,Da ω⟩ y (yp cm R2) Cy aD ω ω ⟨Bf,Z⟩ λj5 aa bf c9 a6=>?_;have cs:=GSL.app y cp cj e4 a6 bf;have⟨c0,cg,_⟩:=bf.shape;subst cg;replace c9:Exa u _ _:=⟨c9⟩;have ip:aa (3*n+2)=_:=(a6.blk y (zB _) Z).trans zp;have iq:aa (3*(n+1)+2)=_:=(a6.blk y (zB _) Z).trans zp;have it:aa (3*f+2)=_:=(a6.blk y (zB _) Z).trans zp;have iv:aa (3*aq+2)=_:=(a6.blk y (zB _) Z).trans zp;have ix:aa (3*c4+2)=_:=(a6.blk y (zB _) Z).trans zp;have iy:aa (3*b8+2)=_:=(a6.blk y (zB _) Z).trans zp;apply(zG);apply sS (b:=3*f+2) (off:=1) [Y D P H,Y c0 (O ((zk p).take i)+1) (O ((zk p).take i)+1),Y aC lC kC];intro fi du dn;have da:=cs.sto dn Z;apply(zG);exact sK (i+1,c0,(O ((zk p).take i)+1),(O ((zk p).take i)+1)) ⟨ω,Z,zy,du,((xa (LF q)).symm▸da),Z,(ot am q ⟨b7,bn,Z⟩)⟩;apply(zG);apply sT #[η,η,η];apply sS [η,η,η];intro fj iz bp;have g0:=Z4.x.sto bp Z;have g1:=o.x.sto bp Z;have g2:=bk.sto bp Z;apply(zq);exact⟨_,_,_,_,_,_,_,_,_,_,ω,⟨λe=>l0,λhv=>Cu (hv.rw _ (CE q)).2.2 Z⟩,λe=>l0⟩;apply(zG);have d3:i=O p.rows:=Z;have br:GSL u al aq (Y aR lR kR) (zk p):=by grind [zk,CL,CN]
 have bi:=bq.extB (n':=aq) (show ExtB u [3*f+2] a9 al from zy) Z (by intro b hb;simp only[De,CO,or_false]at hb;subst hb;exact⟨Z,_,_,ck,ω⟩);have ch:=(Z4.x (h':=al) (n':=aq) zx);apply(zG);apply sS [Y D P H,Y aR lR kR,Y aC lC kC];intro fk j0 av;have db:=br.sto av Z;have dc:=bi.sto av Z;have dd:=ch.sto av Z;have g3:=Z4.x.sto av Z;have g4:=o.sto av Z;apply(zq);exact⟨_,_,_,_,_,_,_,_,_,_,ω,⟨λ_=>⟨Z,Z,Z,Z,Z,bl,λj2 lo hi h1 h2=>b4 j2 aD lo hi h1 h2,by rw[d3,C3]at am;exact am⟩,λ_=>rfl⟩,λ_=>⟨dd.lo Z,db.lo Z,dc.lo Z⟩⟩;apply(zG);apply sT #[η,η,η];apply sS [η,η,η];intro fl j1 gs;exact Bs;apply(zG);apply sT #[η,η,η];apply sS [η,η,η];intro fm j3 gt;exact Bs
end
section
variable{h:HF}{c n:Nat}
theorem pG{s t x y:Rat}(h:t=s+x*y)(d:x=0\/y=0):s=t:=by grind
def Ng(k:Nat)(g:GG h n)(ix:QS h n (Y ax lx cx) xs)(iy:QS h n (Y ay ly cy) ys)(Z1:∀q∈xs,Sz a q)(P:∀q∈ys,Sz b q)(hl:O xs<=O ys)(hc:∀j,j<=O xs->Sz c (dotR (xs.take j) (ys.take j)))(hb:c+a+b+1<=2496)(hn:O xs<1000000):CX (J4 (k+11)) 29 [Y ax lx cx,Y ay ly cy] h n (QV (dotR xs (ys.take (O xs)))):=by have bi:=ix.len;have bj:=iy.len;apply zw R4;apply(Zk);intro b5 bt c1;apply(Zk);intro a7 ae c2;apply(zG);apply sF (α:=Nat×Bool×Option Addr×Nat×Nat×Bool×Option Addr×Nat×Nat) (λz=>[(1,Y ay ly cy),(4,ε (3*n+2)),(5,ε (3*(n+1)+2)),(8,Y ax lx cx),(9,υ (lx:Int)),(10,υ (z.1:Int))]) (λz F n' w'=>w'=[]/\n+1+1<=n'/\ExtB (n+1+1) [3*(n+1)+2] a7 F/\F (3*(n+1)+2)=ξ (.row [U z.2.1,Y z.2.2.1 z.2.2.2.1 z.2.2.2.2.1,U z.2.2.2.2.2.1,Y z.2.2.2.2.2.2.1 z.2.2.2.2.2.2.2.1 z.2.2.2.2.2.2.2.2] 68)/\IW F n' z.2.1 z.2.2.1 z.2.2.2.1 z.2.2.2.2.1 ((dotR (xs.take z.1) (ys.take z.1)).num)/\IW F n' z.2.2.2.2.2.1 z.2.2.2.2.2.2.1 z.2.2.2.2.2.2.2.1 z.2.2.2.2.2.2.2.2 (denZ (dotR (xs.take z.1) (ys.take z.1)))/\z.1<=O xs) (λz=>O xs-z.1) (0,χ,θ,0,0,χ,θ,0,0) ⟨ω,Cy,Ed _ _ _,ae,(EN _ _).as Ax,(EN _ _).as Ax,Cz⟩;rintro⟨j,p,o,v,u,A,B,C,D⟩ t s Z3 _ ⟨rfl,c9,am,m,e,f,hj⟩;dsimp only at m e f hj;apply(zG);by_cases q14:(j:Int)<(lx:Int);apply(zG);obtain⟨az,i⟩:∃d,(xs)[j]?=ξ d:=⟨_,CD Z⟩;have⟨be,bo,a4,a3,ac,a5,ai,aj,ak,al,a6,ad,ag,ah,R,T⟩:=QS.at ix i;apply sI a6 ag;apply sL ah ad 0;apply(sA);intro b6 bu c3;apply(zG);apply sS [U a4,Y a3 ac a5,U ai,Y aj ak al];intro b7 bv bp;apply(zG);apply sC (kD _ R.x T.x);rintro _ b8 bk⟨ap,rfl,a1⟩ ca c4;obtain⟨rfl,w⟩|⟨rfl,w⟩:=J7 a1;apply(zG);obtain⟨b0,l⟩:∃d,(ys)[j]?=ξ d:=⟨_,CD Z⟩;have⟨bf,bq,aq,an,bg,av,bx,bz,c0,c5,K,W,Z0,a0,S,Z4⟩:=QS.at iy l;apply sI K Z0;apply sL a0 W 0;apply sC (kD _ S.x Z4.x);rintro _ b9 bl⟨ar,rfl,a2⟩ cb c6;obtain⟨rfl,y⟩|⟨rfl,y⟩:=J7 a2;apply(Zh);apply dI K Z0;apply dL a0 W 0;apply dC (mulQ _ g.x R.x T.x S.x Z4.x (Z1 _ (CE i)) (P _ (CE l)) Z);rintro _ ba bm⟨au,ao,bh,aw,b1,b2,b3,b4,rfl,a8,aa⟩ cc c7;apply dC (addQ _ g.x e.t f.t a8 aa (hc _ hj) ((Z1 _ (CE i)).mul (P _ (CE l))) Z);rintro _ bb bn⟨H,G,V,I,J,L,M,N,rfl,a9,ab⟩ cd c8;apply dS [U H,Y G V I,U J,Y L M N];intro bc af br;apply(zG);exact sK (j+1,H,G,V,I,J,L,M,N) ⟨ω,Z,zy,af,(a9.t.as (congrArg ac3 ((wK i l).symm))),(ab.t.as (congrArg denZ ((wK i l).symm))),Z⟩;apply(zG);exact sK (j+1,p,o,v,u,A,B,C,D) ⟨ω,Z,zy,zp,(e.t.as (congrArg ac3 (pG (wK i l) (.inr y)))),(f.t.as (congrArg denZ (pG (wK i l) (.inr y)))),Z⟩;apply(zG);exact sK (j+1,p,o,v,u,A,B,C,D) ⟨ω,Z,zy,zp,(e.t.as (congrArg ac3 (pG (wK i (CD Z)) (.inl w)))),(f.t.as (congrArg denZ (pG (wK i (CD Z)) (.inl w)))),Z⟩;apply(zG);apply sS [U p,Y o v u,U A,Y B C D];intro bd bw bs;apply(zq);exact⟨_,_,_,_,_,_,_,_,ω,e.t.as aD,f.t.as aD⟩
def dotQ(k)(g:GG h n)(l:QS h n (Y ax lx cx) xs)(m:QS h n (Y ay ly cy) ys)(d:∀q∈xs,Sz a q)(e:∀q∈ys,Sz b q)(i:O xs<=O ys)(hb:O xs*(a+b+1)+a+b+2<=2496):CX (J4 (k+11)) 29 [Y ax lx cx,Y ay ly cy] h n (QV (dotR xs (ys.take (O xs)))):=by have o:=EF (O xs) (show 0<a+b+1 from Z);exact Ng k g l m d e i (c:=1+O xs*(a+b+1)) (λj f=>(nf d e j f Z).mono (by have:=CM (a+b+1) f;omega)) Z Z
end
def SO{i j}(h:i<=j):10^i<=10^j:=CQ zd h
def SP(k)(h)(n)(s)(f:AllD s)(q:O s<=9):VF (J4 (k+1)) 116 [CG ⟨⟨s⟩⟩] h n λv=>v=CC .i64 ((dval s:Nat):Int):=by
 refine zO R4<|ZA (k:=?_);refine zM (k:=?_);refine st_I (ik:=.i64) (a:=(O s:Int)) R5<|kG (k:=?_);refine ye (α:=Nat) (λm=>[(0,CG ⟨⟨s⟩⟩),(3,CC .i64 ((dval (s.take m):Nat):Int)),(6,CC .i64 (O s:Int)),(7,CC .i64 (m:Int))]) (λm g o w=>h=g/\n=o/\w=[]/\m<=O s) (λm=>O s-m) 0 P4 ⟨ω,ω,ω,Cz⟩ (by show O s-0<LL;unfold LL;omega) ?_;rintro m t _ _ _⟨rfl,rfl,rfl,u⟩;refine zN (k:=?_);by_cases hml:m=O s;refine Zp (k:=?_);exact retF _ ω (zi ω) R2 (by rw[hml,C3];rfl);obtain⟨b,d⟩:∃b,s[m]?=ξ b:=⟨s[m]'Z,CD Z⟩;have p:=f b (CE d);have e:dval (s.take m)<10^m:=(by have:=qy (s:=s.take m) λb d=>f b (Dp d);exact BA);have l:=SO (i:=m) (j:=8) Z;rw[show(10:Nat)^8=100000000 from rfl]at l;have c:dval (s.take (m+1))=10*dval (s.take m)+(b.toNat-48):=by rw[mA d,rK]
 generalize dval (s.take m)=V at e c;refine Zr (k:=?_);refine zM (k:=?_);refine st_mul (a:=10) (b:=(V:Int)) ω ω ω ω ω ω Z ?_;refine Zb (k:=?_);refine yH (j:=m) R8 d<|jA (a:=b.toNat) (b:=48) R6 Z<|wm (ik:=.i64) (a:=((b.toNat-48:Nat):Int)) R6 tu ?_;refine uI (a:=10*(V:Int)) (b:=((b.toNat-48:Nat):Int)) R6 Z<|Zn (k:=?_);exact goOn (m+1) (by show O s-(m+1)<O s-m;omega) ⟨ω,by show CC .i64 _=CC .i64 _;rw[c];congr 1,ω,ω,Cx⟩ ⟨ω,ω,ω,by show m+1<=_;omega⟩
def SQ(k)(h)(n)(a b:Nat)(hb:b<9223372036854775808):VF (J4 (k+1)) 71 [CC .i64 (a:Int),CC .i64 (b:Int)] h n λv=>v=CC .i64 ((CZ a b:Nat):Int):=by refine zO R4<|Za (k:=?_);refine ye (α:=Nat×Nat) (λz=>[(0,CC .i64 (z.1:Int)),(1,CC .i64 (z.2:Int))]) (λz e f w=>h=e/\n=f/\w=[]/\z.2<9223372036854775808/\CZ z.1 z.2=CZ a b) (λz=>z.2) (a,b) P2 ⟨ω,ω,ω,hb,ω⟩ (by show b<LL;unfold LL;omega) ?_;rintro⟨x,y⟩ t _ _ _ ⟨rfl,rfl,rfl,d,c⟩;simp only at d c;refine zN (k:=?_);by_cases hy0:y=0;subst hy0;refine Zp (k:=?_);exact retF _ ω (zi ω) R2 (by rw[<-c,Nat.gcd_zero_right];rfl);refine Zo (k:=?_);rw[wb rfl];refine Zw (k:=?_);refine Q1 (a:=(x:Int)) (b:=(y:Int)) R6 Z ?_;rw[show(x:Int).tmod (y:Int)=((x%y:Nat):Int)from rfl];refine kG (k:=?_);exact goOn (y,x%y) (Dz _ Z) P2 ⟨ω,ω,ω,Ir (Dz _ Z) d,by show CZ y (x%y)=_;rw[<-c,EY x y,Nat.gcd_rec y x,EY]⟩
def ShR(s:List UInt8)(v:ψ):Prop:=∃(x y:Int) (ok:Bool),v=.tuple #[.agg #[υ x,υ y],U ok]/\(ok=φ->∃q:Rat,ratT q=s/\x=q.num/\y=(q.den:Int)/\q.num.natAbs<1000000000/\q.den<1000000000)
def PU(s:List UInt8):Prop:=O s<=20/\(Kr s).1.length<=9/\(Kr s).2.1.length<=9/\(Kr s).2.2=φ/\((Kr s).2.1=[]\/CZ (dval (Kr s).1) (dval (Kr s).2.1)=1)
def ShR2(s:List UInt8)(v:ψ):Prop:=∃(x y:Int) (ok:Bool),v=.tuple #[.agg #[υ x,υ y],U ok]/\(ok=φ->∃q:Rat,ratT q=s/\x=q.num/\y=(q.den:Int)/\q.num.natAbs<1000000000/\q.den<1000000000)/\(PU s->ok=φ)
def SS{s}(h:AllD s)(a:O s<=9):dval s<1000000000:=CS (qy h) (CU (SO a) zd)
theorem zf7(k)(h)(n)(s)(T:O s<1000000):VX (J4 (k+5)) 70 [CG ⟨⟨s⟩⟩] h n (ShR2 s):=by
 refine zw R4 ?_;refine zN (k:=?_);refine xV R5 ?_;refine kG (k:=?_);generalize hh:upd h (3*n+2) _=h1;have c:∃e,h1 (3*n+2)=ξ (.row [CC .i64 0,CC .i64 0] e):=⟨_,gQ⟩;obtain⟨y,c⟩:=c;have j:J3 n h h1:=λb i=>by rw[<-hh,zm Z]
 clear hh;refine zM (k:=?_);refine st_I (ik:=.i64) (a:=(O s:Int)) R5 ?_;by_cases hl20:20<O s
 .refine Zo (k:=?_);refine zZ (v:=.agg #[CC .i64 0,CC .i64 0]) R4 rfl ?_;refine yc [CC .i64 0,CC .i64 0] R7 rfl c rfl bJ ?_;refine kG (k:=?_);exact yR (U χ) R6 (zg _ _ _) rfl Z (λb i=>(zm Z).trans (j b i)) ⟨_,_,χ,rfl,(λh=>by cases h),λh=>by have:=h.1;omega⟩
 refine ZB (k:=?_);refine zF _ R5 (cn k h1 (n+1) s T) ?_;rintro _ J d _⟨rfl,V,G,rfl⟩;replace c:=(G (3*n+2) Z).trans c;replace j:J3 n h J:=λb i=>(G b Z).trans (j b i);have l:(Kr s).2.2=φ->Frm s (Kr s).1 (Kr s).2.1:=λe=>rZ (by rw[<-e]);have m:PU s->(Kr s).1.length<=9/\(Kr s).2.1.length<=9/\(Kr s).2.2=φ/\((Kr s).2.1=[]\/CZ (dval (Kr s).1) (dval (Kr s).2.1)=1):=λh=>h.2;generalize (Kr s).1=M at l m⊢;generalize (Kr s).2.1=D at l m⊢;generalize (Kr s).2.2=ok at l m⊢;generalize hmi:z6 s=mi;repeat refine zR (k:=?_)
 refine xV R5 ?_;refine yc [U mi,CG ⟨⟨M⟩⟩,CG ⟨⟨D⟩⟩] R7 rfl (zg _ _ _) rfl (by show 3*n<=3*d+2;omega) ?_;rw[uk];generalize hh:upd J (3*d+2) _=h2;replace c:h2 (3*n+2)=ξ (.row [CC .i64 0,CC .i64 0] y):=by rw[<-hh,zm Z];exact c
 have f:∃e,h2 (3*d+2)=ξ (.row [U mi,CG ⟨⟨M⟩⟩,CG ⟨⟨D⟩⟩] e):=⟨_,gZ⟩;obtain⟨L,f⟩:=f;replace j:J3 n h h2:=λb i=>by rw[<-hh,zm Z,j b i]
 clear hh;repeat refine zR (k:=?_)
 simp only[yu,xg,zK,yY];refine yj (α:=Bool) (λz=>[(2,ε (3*n+2)),(4,ε (3*d+2)),(29,U z)]) (λz u N w=>h2=u/\N=d+1/\w=[]/\(z=χ->ok=φ/\O M<=9/\O D<=9)/\(z=φ->¬PU s)) ?_ ?_
 .refine zN (k:=?_);cases ok with
  |false=>
   refine kG (k:=?_);exact zA φ ⟨rfl,rfl,rfl,Cx⟩ ⟨rfl,rfl,rfl,(λh=>by cases h),(λ_ h=>by cases (m h).2.2.1)⟩
  |true=>
  repeat refine zR (k:=?_)
  refine zT R6 f (v:=CG ⟨⟨M⟩⟩) R2 ?_;refine st_I (ik:=.i64) (a:=(O M:Int)) R5 ?_;by_cases C:9<O M
  .refine kG (k:=?_);exact zA φ ⟨rfl,rfl,rfl,Cx⟩ ⟨rfl,rfl,rfl,(λh=>by cases h),(λ_ h=>by have:=(m h).1;omega)⟩
  repeat refine zR (k:=?_)
  refine zT R6 f (v:=CG ⟨⟨D⟩⟩) R2 ?_;refine st_I (ik:=.i64) (a:=(O D:Int)) R5 ?_;by_cases B:9<O D
  .refine kG (k:=?_);exact zA φ ⟨rfl,rfl,rfl,Cx⟩ ⟨rfl,rfl,rfl,(λh=>by cases h),(λ_ h=>by have:=(m h).2.1;omega)⟩
  refine kG (k:=?_);exact zA χ ⟨rfl,rfl,rfl,Cx⟩ ⟨rfl,rfl,rfl,(λ_=>⟨by first|rfl|trivial,Z,Z⟩),λh=>by cases h⟩
 rintro z t _ _ _⟨rfl,rfl,rfl,H,R⟩;cases z with
 |true=>
  rw[ze rfl];refine zN (k:=?_);refine zZ (v:=.agg #[CC .i64 0,CC .i64 0]) R4 rfl ?_;refine yc [CC .i64 0,CC .i64 0] R7 rfl c rfl bJ ?_;refine kG (k:=?_);exact yR (U χ) R6 (zg _ _ _) rfl Z (λb i=>(zm Z).trans (j b i)) ⟨_,_,χ,rfl,(λh=>by cases h),λh=>Cu h (R rfl)⟩
 |false=>
 rw[za rfl];refine zN (k:=?_);obtain⟨rfl,C,B⟩:=H rfl;have F:=l rfl;have Z4:=SS F.dm C;have Z1:=SS F.dd B;clear H l;repeat refine zR (k:=?_)
 refine zT R6 f (v:=CG ⟨⟨M⟩⟩) R2 ?_;refine yi _ R5 (SP (k+3) h2 (d+1) M F.dm C) ?_;rintro _ rfl;refine zZ (v:=.agg #[CC .i64 ((dval M:Nat):Int),CC .i64 1]) R4 rfl ?_;refine xV R5 ?_;refine yc [CC .i64 ((dval M:Nat):Int),CC .i64 1] R7 rfl (zg _ _ _) rfl A9 ?_;rw[uk];generalize hh:upd h2 (3*(d+1)+2) _=h3;replace c:h3 (3*n+2)=ξ (.row [CC .i64 0,CC .i64 0] y):=by rw[<-hh,zm Z];exact c
 replace f:h3 (3*d+2)=ξ (.row [U mi,CG ⟨⟨M⟩⟩,CG ⟨⟨D⟩⟩] L):=by rw[<-hh,zm Z];exact f
 have g:∃e,h3 (3*(d+1)+2)=ξ (.row [CC .i64 ((dval M:Nat):Int),CC .i64 1] e):=⟨_,gZ⟩;obtain⟨A,g⟩:=g;replace j:J3 n h h3:=λb i=>by rw[<-hh,zm Z,j b i]
 clear hh;refine Zg (k:=?_);refine zT R6 f (v:=CG ⟨⟨D⟩⟩) R2 ?_;refine NI (!(D==[])) R6 rfl ?_;simp only[yu,xg,zK,yY];refine yj (α:=Nat) (λ_=>[(2,ε (3*n+2)),(4,ε (3*d+2)),(6,ε (3*(d+1)+2))]) (λz u N w=>w=[]/\N=d+1+1/\J3 n h u/\u (3*n+2)=ξ (.row [CC .i64 0,CC .i64 0] y)/\u (3*d+2)=ξ (.row [U mi,CG ⟨⟨M⟩⟩,CG ⟨⟨D⟩⟩] L)/\(∃e,u (3*(d+1)+2)=ξ (.row [CC .i64 ((dval M:Nat):Int),CC .i64 (z:Int)] e))/\z=(if D=[]then 1 else dval D)/\(D=[]\/CZ (dval M) (dval D)=1)) ?_ ?_
 .by_cases hD:D=[]
  .rw[za (by show U _=_;rw[hD];rfl)];refine zN (k:=?_);exact zA 1 ⟨rfl,rfl,rfl,Cx⟩ ⟨rfl,rfl,j,c,f,⟨A,g⟩,by rw[Cw hD],.inl hD⟩
  rw[ze (by show U _=_;rw[show(D==[])=χ from by simpa using hD];rfl)];refine Zg (k:=?_);refine zT R6 f (v:=CG ⟨⟨D⟩⟩) R2 ?_;refine yi _ R5 (SP (k+3) h3 (d+1+1) D F.dd B) ?_;rintro _ rfl;repeat refine zR (k:=?_)
  refine yF (cs:=[CC .i64 ((dval D:Nat):Int)]) R8 g zb A9 ?_;generalize hh:upd h3 (3*(d+1)+2) _=h4;replace c:h4 (3*n+2)=ξ (.row [CC .i64 0,CC .i64 0] y):=by rw[<-hh,zm Z];exact c
  replace f:h4 (3*d+2)=ξ (.row [U mi,CG ⟨⟨M⟩⟩,CG ⟨⟨D⟩⟩] L):=by rw[<-hh,zm Z];exact f
  replace g:h4 (3*(d+1)+2)=ξ (.row [CC .i64 ((dval M:Nat):Int),CC .i64 ((dval D:Nat):Int)] A):=by rw[<-hh,zg];rfl
  replace j:J3 n h h4:=λb i=>by rw[<-hh,zm Z,j b i]
  clear hh;refine Zg (k:=?_);refine zT R6 g (v:=CC .i64 ((dval M:Nat):Int)) R2 ?_;repeat refine zR (k:=?_)
  refine zT R6 g (v:=CC .i64 ((dval D:Nat):Int)) R2 ?_;refine yi _ R5 (SQ (k+3) h4 (d+1+1) (dval M) (dval D) Z) ?_;rintro _ rfl;by_cases I:CZ (dval M) (dval D)=1
  .refine Zj (k:=?_);exact zA (dval D) ⟨rfl,rfl,rfl,Cx⟩ ⟨rfl,rfl,j,c,f,⟨A,g⟩,by rw[Cv hD],.inr I⟩
  refine Zo (k:=?_);refine zZ (v:=.agg #[CC .i64 0,CC .i64 0]) R4 rfl ?_;refine yc [CC .i64 0,CC .i64 0] R7 rfl c rfl bJ ?_;refine kG (k:=?_);exact yR (U χ) R6 (zg _ _ _) rfl Z (λb i=>(zm Z).trans (j b i)) ⟨_,_,χ,rfl,(λh=>by cases h),λh=>by
   rcases(m h).2.2.2 with h|h
   .exact(hD h).elim
   .exact(I h).elim⟩
 rintro z t S W _⟨rfl,rfl,j,c,f,⟨A,g⟩,H,I⟩;obtain⟨q,P,o,p⟩:=F.rat I;rw[<-H]at p;rw[hmi]at o;have K:z<1000000000:=by
  rw[H];split
  .decide
  exact Z1
 refine Zg (k:=?_);refine zT R6 f (v:=U mi) R2 ?_;refine zN (k:=?_);cases mi with
 |true=>
  rw[ze rfl];refine Zg (k:=?_);refine zT R6 g (v:=CC .i64 ((dval M:Nat):Int)) R2 ?_;refine st_I (ik:=.i64) (a:= -((dval M:Nat):Int)) ⟨rfl,rfl,rfl,rfl,(by show ξ (CC .i64 (Df .i64 _))=_;rw[LM Z,Int.zero_sub])⟩ ?_;repeat refine zR (k:=?_)
  refine yF (cs:=[CC .i64 (-((dval M:Nat):Int))]) R8 g zb A9 ?_;generalize hh:upd S (3*(d+1)+2) _=h6;replace c:h6 (3*n+2)=ξ (.row [CC .i64 0,CC .i64 0] y):=by rw[<-hh,zm Z];exact c
  replace g:h6 (3*(d+1)+2)=ξ (.row [CC .i64 (-((dval M:Nat):Int)),CC .i64 (z:Int)] A):=by rw[<-hh,zg];rfl
  replace j:J3 n h h6:=λb i=>by rw[<-hh,zm Z,j b i]
  clear hh;refine zN (k:=?_);refine z7 (v:=.agg #[CC .i64 (-((dval M:Nat):Int)),CC .i64 (z:Int)]) R5 (yw R2 g rfl zb rfl) ?_;refine yc [CC .i64 (-((dval M:Nat):Int)),CC .i64 (z:Int)] R7 rfl c rfl bJ ?_;refine kG (k:=?_);refine yR (U φ) R6 (zg _ _ _) rfl Z (λb i=>(zm Z).trans (j b i)) ⟨_,_,φ,rfl,(λ_=>⟨q,P,?_,by rw[p],?_,by rw[p];exact K⟩),λ_=>rfl⟩
  .rw[o];rfl
  rw[o];simp only[if_true];omega
 |false=>
  rw[za rfl];refine zN (k:=?_);refine z7 (v:=.agg #[CC .i64 ((dval M:Nat):Int),CC .i64 (z:Int)]) R5 (yw R2 g rfl zb rfl) ?_;refine yc [CC .i64 ((dval M:Nat):Int),CC .i64 (z:Int)] R7 rfl c rfl bJ ?_;refine kG (k:=?_);refine yR (U φ) R6 (zg _ _ _) rfl Z (λb i=>(zm Z).trans (j b i)) ⟨_,_,φ,rfl,(λ_=>⟨q,P,?_,by rw[p],?_,by rw[p];exact K⟩),λ_=>rfl⟩
  .rw[o];rfl
  rw[o];simp only[Ew,if_false];omega
def zin(k)(h)(n)(s)(f:O s<1000000):VX (J4 (k+5)) 70 [CG ⟨⟨s⟩⟩] h n (ShR s):=by apply wc (zf7 k h n s f);rintro v i j w⟨a,b,c,x,y,g,e,d,_⟩;exact⟨a,b,c,x,y,g,e,d⟩
section
variable{ty:TypeId}{x:Operand}
section
variable{h:HF}{n:Nat}{d:Tmp}
def SU{a b c}(j:qt X ops t o d (o.op=.binOp .quo ty x y ty'/\J2 t x=υ a/\J2 t y=υ b))(i:b≠0)(g:a.tdiv b=c)(f: -9223372036854775808<=c/\c<9223372036854775808)
  (k:EO X ops r ⟨upd t d (υ c),h,n,w⟩ Q):EO X ops (o::r) ⟨t,h,n,w⟩ Q:=by refine ZF j ?_ k;have:ikEq .i64 .i64=φ:=rfl;simp only[binE,isSh,this,intE,Cv i,g,LM f]
def zz8{a}(i:zh ops t o=φ)(c:o.dst=ξ d)(f:zv X.nt (ξ d)=φ)(b:o.op=.unOp .neg ty x)(hx:J2 t x=υ a)(g: -9223372036854775808<= -a/\ -a<9223372036854775808)
  (k:EO X ops r ⟨upd t d (υ (-a)),h,n,w⟩ Q):EO X ops (o::r) ⟨t,h,n,w⟩ Q:=by refine zZ ⟨i,c,f,(by rw[b];rfl)⟩ ?_ k;rw[b];show N2 .neg (J2 t x)=_;rw[hx];show ξ (υ (Df .i64 (0-a)))=_;rw[show 0-a= -a by omega,LM g]
end
def zo3(k){h}(L:GK.G h){n}(Z3:20<=n)(Z1:c0.take (O T)=Kn T)(K:60<=B/\B<3*n)(s:h B=ξ (.row c0 e))(f:cap=O c0/\O T+21<=cap/\cap<1000000){x}(hx: -9223372036854775808<=x/\x<9223372036854775808):
  CF (J4 (k+4)) 118 [Y (ξ ⟨B,0,θ⟩) (O T) cap,υ x,υ 10] h n λv Z4 Z0 w=>BufT T h n B cap e c0 (intN x) v Z4 Z0 w:=by
 apply zw R4;obtain⟨m,P⟩:∃m,m=x.natAbs:=⟨_,ω⟩;apply(Zi);apply(zN);by_cases hneg:x<0;have i:intN x=[45]++decN m:=by unfold intN;rw[Cw hneg,P]
 apply(zM);refine wm (ik:=.u64) (a:=((18446744073709551616-m:Nat):Int)) R6 ?_ ?_;show ξ (ι (Df .u64 x))=_;rw[show x= -(m:Int)from Z,qK m Z];apply(zM);apply(Za);rw[ze rfl];apply(Zi);refine wE [Γ 45] (l:=1) (c:=1) R5 λV p1 J=>?_;have D:=(J B K.2).trans s;apply yM R5 (tG (m:=1) R3 zb (yp p1 R2) Z ⟨ω,Cy⟩ Z D Z ω);rw[pN (by show B<3*n;exact K.2)];rw[show (O T)+1=O (T++[45]) from by rw[CJ];rfl];have⟨t1,S⟩:=vp (N:=[45]) Z1 (by show O T+1<=_;omega);have M:GK.G (upd V B (ξ (.row (zu c0 (O T) [Γ 45]) e))):=G_fr L λb g _=>(zm Z).trans (J b Z);apply(Zv);refine zZ (v:=ι (m:Int)) R4 ?_ ?_;show ξ (ι (Df .u64 (0-((18446744073709551616-m:Nat):Int))))=_;rw[ra _ Z];congr 3;omega;apply(Zm);apply(Zw);apply zF _ R5 (sV k M (n:=n+1) Z (T:=T++[45]) (B:=B) (cap:=cap) (u:=m) t1 Z (zg _ _ _) ⟨by rw[S];exact f.1,by rw[CJ];simp;omega,f.2.2⟩ Z);rintro v W R w3⟨rfl,F,C,p,I,q,j,A⟩;apply(Zm);refine retH [Y (ξ ⟨B,0,θ⟩) (O (T++[45]++decN m)) cap] R3 ⟨by rw[i,<-Dh];rfl,by show n<=R;omega,λb g=>?_,λb g H=>(p b Z H).trans ((zm H).trans (J b g)),I,q,j.trans S,by rw[i,<-Dh];exact A⟩;obtain h|⟨h,_⟩:=yN.1 g;exact CV.1 h;exact C b h;have i:intN x=decN m:=by unfold intN;rw[Cv hneg,P];rfl
 obtain rfl:x=(m:Int):=Z;apply(zM);apply se (c:=m) R7 Z;apply(zM);apply(Za);rw[za rfl];apply(Zt);apply(zM);apply zF _ R5 (sV k L Z3 (T:=T) (B:=B) (cap:=cap) (u:=m) Z1 Z s ⟨f.1,Z,f.2.2⟩ Z);rintro v W R w3⟨rfl,F,C,p,I,q,j,A⟩;apply(Zm);refine retH [Y (ξ ⟨B,0,θ⟩) (O (T++decN m)) cap] R3 ⟨by rw[i];rfl,F,λb g=>?_,p,I,q,j,by rw[i];exact A⟩;obtain h|⟨h,_⟩:=yN.1 g;exact Cu h CO;exact C b h
def jQ(k){h}(u:GK.G h){n}(D:20<=n)(A:c0.take (O T)=Kn T)(s:60<=B/\B<3*n)(a:h B=ξ (.row c0 e))(c:cap=O c0/\O T+21<=cap/\cap<1000000){x}(hx: -9223372036854775808<=x/\x<9223372036854775808):
  CF (J4 (k+5)) 73 [Y (ξ ⟨B,0,θ⟩) (O T) cap,υ x,υ 10] h n λv q F w=>BufT T h n B cap e c0 (intN x) v q F w:=by apply zw R4;apply(Zi);apply(Zt);apply(zM);apply zF _ R5 (zo3 k u D A s a c hx);rintro v H I J⟨rfl,g,m,i,p,j,f,l⟩;apply(Zm);refine retH [Y (ξ ⟨B,0,θ⟩) (O (T++intN x)) cap] R3 ⟨ω,g,λb C=>?_,i,p,j,f,l⟩;obtain h|⟨h,_⟩:=yN.1 C;exact Cu h CO;exact m b h
theorem pd(N){D:Nat}(a:0<D):(Dw N D).num=N.tdiv ((CZ N.natAbs D:Nat):Int)/\((Dw N D).den:Int)=(D:Int).tdiv ((CZ N.natAbs D:Nat):Int):=by have b:0<CZ N.natAbs D:=D7 _ a;rw[ad8,<-HQ Z,Rat.normalize_eq];simp only;refine⟨?_,?_⟩;rw[Int.tdiv_eq_ediv_of_dvd];exact Fq.2 (E6 _ _);rfl
def SW{x}(hx: -9223372036854775808<=x/\x<9223372036854775808):O (intN x)<=21:=by have a:O (decN x.natAbs)<=20:=(by unfold decN;split;decide;unfold decB;rw[CN];exact ws 20 _ Z);unfold intN;rw[CJ];split<;>simp<;>omega
def zlk(k){h}(A:GK.G h){n}(I:20<=n){N}{D:Nat}(hN: -9000000000000000000<=N/\N<=9000000000000000000)(u:0<D/\D<=9000000000000000000):VF (J4 (k+6)) 34 [υ N,υ (D:Int)] h n λv=>v=CG ⟨⟨ratT (Dw N D)⟩⟩:=by
 apply zO R4;have⟨g,i⟩:=pd N u.1;have hg:0<CZ N.natAbs D:=D7 _ u.1;have a0:CZ N.natAbs D<=D:=H9 u.1 (Fc _ _);generalize Dw N D=q at g i⊢;have a6:(q.den:Int)<=D/\(0:Int)<q.den:=(by refine⟨?_,AL⟩;rw[i];exact ac5.2 (Ei _ _));have a7: -9000000000000000000<=q.num/\q.num<=9000000000000000000:=by
  have h1:q.num.natAbs<=N.natAbs:=by rw[g,Int.natAbs_tdiv];exact Ca
  omega
 apply(Zi);apply(Za);rw[za ω,yu,zK,yY];refine yj (α:=Unit) (λ_=>[(0,υ q.num),(1,υ (q.den:Int))]) (λ_ h' n' w=>h=h'/\n'=n/\w=[]) ?_ ?_;apply(zN);by_cases hD1:D=1;subst hD1;rw[IR]at g i;apply(Zj);exact zA () ⟨by rw[g];simp;rfl,by rw[i];rfl,Cx⟩ R3;apply(Zx);refine zz8 ω ω ω ω ω Z<|st_I (ik:=.i64) (a:=(N.natAbs:Int)) ⟨ω,ω,ω,ω,?_⟩ ?_;show ξ (υ (if N< -N then -N else N))=_;congr 2;split<;>omega;apply(zM);apply yi _ R5 (SQ (k+4) _ _ N.natAbs D Z);rintro _ rfl;apply(Zm);rw[wb rfl];apply(Zb);apply SU (c:=q.num) R6 Z g.symm Z;apply(Zb);apply SU (c:=(q.den:Int)) R6 Z i.symm Z;apply(Zb);apply(zN);exact zA () P2 R3;rintro _ t _ n _⟨rfl,rfl,rfl⟩;apply(zN);by_cases hq1:q.den=1;apply(ZD);apply yi _ R5 (mV (k+1) A I (x:=q.num) Z);rintro _ rfl;apply(Zm);exact retF _ ω (zi ω) R2 (by rw[tj (yr.2 hq1)];rfl);have Z4:¬denZ q=0:=mt yr.1 hq1;apply(Zj);refine wt (CI 48 (Γ 0)) R6 λh1 p1 W=>?_;have C:=rR A W I;have a1:O (intN q.num)<=21:=SW Z;apply(zN);apply te (j:=0) R8 ω (zB n) Z;apply(zM);apply zF _ R5 (jQ k C (n:=n+1) Z (T:=[]) (B:=3*n+2) (cap:=48) ω Z p1 ⟨by rw[Dk],by show 0+21<=48;omega,Z⟩ (x:=q.num) Z);rintro v h2 n2 w2⟨rfl,a3,R,J,Z0,K,p,Z1⟩;rw[my λb f=>by rw[R b f];show 3*n<=_;omega];rw[Dk]at p;apply(Zv);refine wE [Γ 47] (l:=1) (c:=1) R5 λh3 p3 Z3=>?_;have L:=(Z3 (3*n+2) Z).trans K;apply yM R5 (tG (m:=1) R3 zb (yp p3 R2) (by show(O ([]++intN q.num)+1)*1<=_;rw[Dt];omega) ⟨ω,Cy⟩ (by rw[Dt];omega) L (by rw[Dt];omega) ω);rw[my λb f=>by rw[CV.1 f];show 3*n<=_;omega];rw[show(([]:List Nat)++intN q.num).length+1=O (([]:List Nat)++intN q.num++[47]) from by simp];have⟨t1,V⟩:=vp (N:=[47]) Z1 (by show([]++intN q.num).length+1<=_;rw[Dt];omega);generalize hh4:upd h3 (3*n+2) _=h4;have F:GK.G h4:=(by rw[<-hh4];exact G_fr A λb f _=>(zm Z).trans ((Z3 b Z).trans ((J b Z Z).trans (W b Z))));have s:∃e,h4 (3*n+2)=ξ (.row (zu Z0 (O ([]++intN q.num)) [Γ 47]) e):=⟨_,by rw[<-hh4];exact zg _ _ _⟩;have⟨e4,s⟩:=s;have a2:O (intN (q.den:Int))<=21:=SW Z;apply(Zm);apply(Zb);apply zF _ R5 (jQ k F (n:=n2+1) Z (T:=[]++intN q.num++[47]) (B:=3*n+2) (cap:=48) t1 Z s ⟨by rw[V,p],by rw[CJ,Dt];simp;omega,Z⟩ (x:=(q.den:Int)) Z);rintro v h5 n5 w5⟨rfl,a4,S,a5,c5,M,H,P⟩;rw[my λb f=>by rw[S b f];show 3*n<=_;omega];apply pY R5 (rg (B:=[]++intN q.num++[47]++intN (q.den:Int)) R3 (wV M (by rw[Dy];exact P) (by rw[H,V,p];simp only[CJ,Dt,C0];omega) (by simp only[CJ,Dt,C0];omega)));apply(Zm);apply retF _ ω (zi ω) R2;show CG _=_;rw[Dt,jS Z4,wq Z4]
end
section
variable{h:HF}{n r:Nat}{s:List UInt8}
structure SR (s:List UInt8)(x y:Int):Prop where
 e1:x=(zj s).num
 e2:y=((zj s).den:Int)
 b1: -1000000000<x/\x<1000000000
 b2:0<y/\y<1000000000
def mul9{a b}(c: -1000000000<a/\a<1000000000)(hb: -1000000000<b/\b<1000000000): -1000000000000000000<=a*b/\a*b<=1000000000000000000:=by have h:(a*b).natAbs<=1000000000*1000000000:=(by rw[Int.natAbs_mul];exact Nat.mul_le_mul Z Z);omega
def yab{a b:Int}(c:0<a/\a<1000000000)(hb:0<b/\b<1000000000):0<a*b/\a*b<=1000000000000000000:=⟨Hf c.1 hb.1,(mul9 ⟨Z,c.2⟩ ⟨Z,hb.2⟩).2⟩
def hH(k)(h)(n)(s)(i:O s<1000000):CX (J4 (k+5)) 70 [CG ⟨⟨s⟩⟩] h n λv _ _=>∃x y a,v=.tuple #[.agg #[υ x,υ y],U a]/\(a=φ->SR s x y):=by apply wc (zin k h n s i);rintro v m o w⟨b,c,d,x,y,a,rfl,g⟩;refine⟨b,c,d,x,y,a,ω,λf=>?_⟩;obtain⟨q,e,rfl,rfl,j,l⟩:=g f;rw[<-pA e]at*;have:=(zj s).den_pos;exact⟨ω,ω,Z,Z⟩
def zpv(k)(g:GG h n){N D}(a: -9000000000000000000<=N/\N<=9000000000000000000)(b:0<D/\D<=9000000000000000000):CX (J4 (k+6)) 34 [υ N,υ D] h n λv _ _=>v=CG ⟨⟨ratT (Dw N D)⟩⟩:=by obtain⟨d,rfl⟩:∃d:Nat,D=(d:Int):=⟨D.toNat,Z⟩;exact(zlk k g.1 g.2 a ⟨Z,Z⟩).cx
def SR.add{a b}{x y u v}(p:SR a x y)(q:SR b u v):Dw (x*v+u*y) (y*v)=zj a+zj b:=by rw[p.e1,p.e2,q.e1,q.e2,Rat.add_def',<-ad8,EH]
def TL.ratT(h:Sz 1890 q):TL (ratT q):=by have a:∀V,V<2^1890->O (decT V)<=570:=λV b=>(by unfold decT;split;decide;rw[CN,kY];exact ws 570 V (CS b cA));refine⟨?_,λm d e=>?_⟩;have c:=a _ h.1;have f:=a _ h.2;unfold Go.Proofs.YtdeaddceicfanaaGreatDoor.ratT;simp only[CJ];split<;>split<;>simp<;>omega;rw[px]at e;injection e with e1 e2;injection e2 with e2 _;subst e1 e2;refine⟨a _ h.1,?_⟩;split;exact HA _;exact a _ h.2
def zp9(k){a b}(ha:O a<1000000)(hb:O b<1000000):CX (J4 (k+6)) 33 [CG ⟨⟨a⟩⟩,CG ⟨⟨b⟩⟩] h n λv _ _=>∃x y u t ok,v=.tuple #[.agg #[υ x,υ y],.agg #[υ u,υ t],U ok]/\(ok=φ->SR a x y/\SR b u t):=by apply zw R4;apply(Zk);intro o a4 ak;apply(sA);intro p a5 al;apply(zG);apply sC (hH _ _ _ a ha);rintro _ w R⟨c,e,l,rfl,g⟩ au am;cases l;apply(Zk);intro A a6 an;apply sS [υ c,υ e];intro B a7 T;apply(zG);apply sT #[υ 0,υ 0];apply sT #[υ 0,υ 0];apply sS [υ 0,υ 0];intro C a8 Z4;apply sS [υ 0,υ 0];intro D a9 V;apply(zq);exact⟨_,_,_,_,_,ω,λj=>(by cases j)⟩;have g:=g rfl;apply(Zk);intro F aa ao;apply sS [υ c,υ e];intro G ab W;apply(zG);apply sC (hH _ _ _ b hb);rintro _ H S⟨d,f,m,rfl,i⟩ av ap;cases m;apply(Zk);intro I ac aq;apply sS [υ d,υ f];intro J ad Z3;apply(zG);apply sT #[υ 0,υ 0];apply sT #[υ 0,υ 0];apply sS [υ 0,υ 0];intro K ae Z0;apply sS [υ 0,υ 0];intro L af a0;apply(zq);exact⟨_,_,_,_,_,ω,λj=>(by cases j)⟩;have i:=i rfl;apply(Zk);intro M ag ar;apply sS [υ d,υ f];intro N ah a1;apply(Zh);apply dS [υ c,υ e];intro Z1 ai a2;apply dS [υ d,υ f];intro P aj a3;apply(zq);exact⟨_,_,_,_,_,ω,λ_=>⟨g,i⟩⟩
def SX(k)(g:GG h n)(hs:TL s):CX (J4 (k+10)) 35 [CG ⟨⟨s⟩⟩] h n (QV (zj s)):=by apply zw R4;apply(Zk);intro p F J;apply(zG);apply sC (SC _ g.x hs);rintro _ u B⟨b,a,j,c,d,e,f,i,o,rfl,l,m,A⟩ M K;apply(Zk);intro v G L;apply sS [U b,Y a j c,U d,Y e f i];intro w H C;apply(zG);apply sS [U b,Y a j c,U d,Y e f i];intro y I D;apply(zq);exact⟨_,_,_,_,_,_,_,_,ω,l.t,m.t⟩
def addS(k)(g:GG h n){a b}(ha:TL a)(hb:TL b){p q}(C:Sz p (zj a))(F:Sz q (zj b))(aq:p+q+1<=2496)(G:Sz r (zj a+zj b))(hr:r<=1920):VF (J4 (k+11)) 11 [CG ⟨⟨a⟩⟩,CG ⟨⟨b⟩⟩] h n λv=>v=CG ⟨⟨ratT (zj a+zj b)⟩⟩:=by apply zO R4;apply(zG);apply sC (zp9 _ ha.1 hb.1);rintro _ ac aw⟨f,d,e,c,l,rfl,B⟩ bq bg;cases l;apply(Zk);intro ad b8 bh;apply(sA);intro ae b9 bi;apply sS [υ f,υ d];intro af ba b4;apply sS [υ e,υ c];intro ag bb b5;apply(zG);apply sC (SX _ g.x ha);rintro _ ah ax⟨K,H,ar,S,W,a1,a5,a9,rfl,m,w⟩ br bj;apply(zG);apply sC (SX _ g.x hb);rintro _ ai ay⟨L,I,au,T,Z3,a2,a6,aa,rfl,o,y⟩ bs bk;apply sC (addQ _ g.x m.t w.t o y C F Z);rintro _ aj az⟨M,J,av,Z4,Z0,a3,a7,ab,rfl,u,A⟩ bt bl;apply sC ((OG _ g.x.1 g.x.2 u A G hr).cx);rintro _ ak b0 rfl bu bm;apply(zf);exact rfl;have⟨i,j⟩:=B rfl;have V:=i.b1;have a0:=i.b2;have a4:=j.b1;have a8:=j.b2;apply(Zk);intro al bc bn;apply(sA);intro am bd bo;apply sS [υ f,υ d];intro an be b6;apply sS [υ e,υ c];intro ao bf b7;apply(zG);have Z1:=mul9 (a:=f) (b:=c) Z Z;refine st_mul ω ω ω ω ω ω Z ?_;apply(zG);have P:=mul9 (a:=e) (b:=d) Z Z;refine st_mul ω ω ω ω ω ω Z ?_;apply(zG);have R:=yab (a:=d) (b:=c) Z Z;refine st_mul ω ω ω ω ω ω Z ?_;apply sC (zpv _ g.x (N:=((f*c)+(e*d))) (D:=(d*c)) Z Z);rintro _ ap b3 rfl bv bp;apply(zf);exact by rw[SR.add i j];rfl
end
section
variable{len off:Nat}
def bndZ(c:List ψ)(p:Bool×Rat)(h:HF)(n:Nat):Prop:=∃b a l k d e f g,c=[U p.1,U b,Y a l k,U d,Y e f g]/\IW h n b a l k p.2.num/\IW h n d e f g (denZ p.2)
def bndZ.kp:KP 5 bndZ:=⟨λ⟨b,a,l,k,d,e,f,g,c,i,j⟩ t=>⟨b,a,l,k,d,e,f,g,c,i.t t,j.t t⟩,λ⟨b,a,l,k,d,e,f,g,c,i,j⟩=>by subst c;exact R3⟩
def natP(c:List ψ)(m:Nat)(_:HF)(_:Nat):Prop:=c=[υ (m:Int)]
def natP.kp:KP 1 natP:=⟨λe _=>e,λe=>by cases e;exact R3⟩
def KI(c:List ψ)(r:Nat×List Int)(_:HF)(_:Nat):Prop:=c=[Y (ξ ⟨r.1,0,θ⟩) (O r.2) (O r.2)]
def KI.kp:KP 1 KI:=⟨λe _=>e,λe=>by cases e;exact R3⟩
section
variable{P:List ψ->D->HF->Nat->Prop}{lo n n':Nat}{h h':HF}{ds:List D}
def GR.rs(g:GR sz P lo h n e v ds):RS sz P h n v ds:=by have⟨C,c,f,_⟩:=g;exact⟨C,c.sl,f⟩
def GR.ext(g:GR sz P lo h n e v ds)(q:KP sz P)(x:J3 n h h')(p:n<=n'):GR sz P lo h' n' e v ds:=g.go q ⟨p,λc i=>.inl (x c i)⟩ λb f=>x b (g.bk b f).2.1
def GR.ty(g:GR sz P lo h n e v ds)(hb:BkOf v b):KR h b e:=by
 have⟨C,f,_,_⟩:=g;obtain⟨o,l,c,rfl⟩:=hb;generalize (O ds)=L at f;cases f with
 |at_ hg hlo hb hr hl ho=>exact⟨_,hr⟩
end
def KR.eq{h}{e e'}(x:KR h b e)(y:KR h b e'):e=e':=by have⟨C,x⟩:=x;have⟨c,y⟩:=y;rw[x]at y;cases y;rfl
section
variable{P:List ψ->D->HF->Nat->Prop}{P':List ψ->D'->HF->Nat->Prop}{n n':Nat}{h h':HF}{u:ψ}{ds:List D}{ds':List D'}
def GR.ne(g:GR sz P l h n e v ds)(c:GR sz' P' l' h n e' u ds')(i:e≠e'):∀b,BkOf v b->¬BkOf u b:=λb f p=>i ((g.ty f).eq (c.ty p))
def GR.kb(g:GR sz P l h n e v ds)(p:KP sz P)(T:Tr n h n' h')(f:gro bs=χ)(K:∀b,b<3*n->b≠bs->¬BkOf u b->h' b=h b)(i:∀b,BkOf v b->¬BkOf u b):GR sz P l h' n' e v ds:=
 g.go p T λb c=>K b (g.bk b c).2.1 (λe=>by have:=(g.bk b c).2.2.1;rw[e,f]at this;cases this) (i b c)
def GR.nbk(g:GR sz P l h n e v ds)(c:gro b=χ):¬BkOf v b:=λf=>by
 have:=(g.bk b f).2.2.1;rw[c]at this;cases this
end
structure Exo (n:Nat)(h h':HF):Prop where
 go:J3 n h h'
abbrev BS(h:HF)(n:Nat)(v:ψ)(l:List (Bool×Rat)):Prop:=RS 5 bndZ h n v l
def BS.at{h}{n}{a}{l}{p}(r:BS h n (Y a len cap) l)(hj:l[j]?=ξ p):∃q off b s y k d e f g,a=ξ ⟨q,off,θ⟩/\q<3*n/\j<len/\At h q (off+j*5) [U p.1,U b,Y s y k,U d,Y e f g]/\IW h n b s y k p.2.num/\IW h n d e f g (denZ p.2):=by obtain⟨q,off,c,B,C,F,G,_,b,s,y,k,d,e,f,g,rfl,i,j⟩:=RS.at' zd r hj;exact⟨q,off,b,s,y,k,d,e,f,g,B,C,F,G,i,j⟩
def natS.at{h}{n}{a}{l}(r:RS 1 natP h n (Y a len cap) l)(hj:l[j]?=ξ m):∃f off,a=ξ ⟨f,off,θ⟩/\f<3*n/\j<len/\At h f (off+j*1) [υ (m:Int)]:=by exact B8
def rwS.at{h}{n}{a}{l}{m}(r:RS 1 KI h n (Y a len cap) l)(hj:l[j]?=ξ m):∃f off,a=ξ ⟨f,off,θ⟩/\f<3*n/\j<len/\At h f (off+j*1) [Y (ξ ⟨m.1,0,θ⟩) (O m.2) (O m.2)]:=by exact B8
structure Sol where
 n:Nat
 sc:List Rat
 lo:List (Bool×Rat)
 hi:List (Bool×Rat)
 va:List Rat
 ba:List Nat
 nb:List Nat
 ta:List (Nat×List Int)
 den:Int
structure Adr where
 sc:Option Addr
 lo:Option Addr
 hi:Option Addr
 va:Option Addr
 ba:Option Addr
 nb:Option Addr
 ta:Option Addr
structure SM (l:Nat)(h:HF)(n bs:Nat)(d:Sol)(A:Adr):Prop where
 st:∃b a u c ty,h bs=ξ (.row [CC .i64 (d.n:Int),Y A.sc (O d.sc) (O d.sc),Y A.lo (O d.lo) (O d.lo),Y A.hi (O d.hi) (O d.hi),Y A.va (O d.va) (O d.va),Y A.ba (O d.ba) (O d.ba),Y A.nb (O d.nb) (O d.nb),Y A.ta (O d.ta) (O d.ta),U b,Y a u c] ty)/\IW h n b a u c d.den
 bs:bs<3*n/\gro bs=χ
 sc:GR 4 ratP l h n 68 (Y A.sc (O d.sc) (O d.sc)) d.sc
 lo:GR 5 bndZ l h n 91 (Y A.lo (O d.lo) (O d.lo)) d.lo
 hi:GR 5 bndZ l h n 91 (Y A.hi (O d.hi) (O d.hi)) d.hi
 va:GR 4 ratP l h n 68 (Y A.va (O d.va) (O d.va)) d.va
 ba:GR 1 natP l h n 3 (Y A.ba (O d.ba) (O d.ba)) d.ba
 nb:GR 1 natP l h n 3 (Y A.nb (O d.nb) (O d.nb)) d.nb
 ta:GR 1 KI l h n 66 (Y A.ta (O d.ta) (O d.ta)) d.ta
 rw:∀r∈d.ta,OZ h n r.1 r.2/\gro r.1=χ
 dj:∀b,BkOf (Y A.va (O d.va) (O d.va)) b->¬BkOf (Y A.sc (O d.sc) (O d.sc)) b
section
variable{n n':Nat}{h h':HF}{d:Sol}{A:Adr}
def SM.ext(s:SM l h n bs d A)(x:J3 n h h')(f:n<=n'):SM l h' n' bs d A:=by have⟨b,a,u,c,p,e,i⟩:=s.st;have:=s.bs;exact⟨⟨b,a,u,c,p,(x _ s.bs.1).trans e,i.ext x f⟩,⟨Z,s.bs.2⟩,s.sc.ext ratP.kp x f,s.lo.ext bndZ.kp x f,s.hi.ext bndZ.kp x f,s.va.ext ratP.kp x f,s.ba.ext natP.kp x f,s.nb.ext natP.kp x f,s.ta.ext KI.kp x f,λr g=>⟨(s.rw r g).1.ext intP.kp x f,(s.rw r g).2⟩,s.dj⟩
def SM.x(s:SM l h n bs d A)(t:Tx n h n' h':=by exact zx):SM l h' n' bs d A:=s.ext t.2 t.1
def SM.mv(s:SM l h n bs d A){p}(H:A.va=ξ ⟨p,0,θ⟩)(S:Kp p h h')(J:O va=O d.va)(o:GR 4 ratP l h' n 68 (Y A.va (O va) (O va)) va):SM l h' n bs {d with va:=va} A:=by
 have⟨b,a,u,c,G,e,i⟩:=s.st;have y:BkOf (Y A.va (O d.va) (O d.va)) p:=⟨_,_,_,by rw[H]⟩;have L:=s.va.ty y;have C:=(s.va.bk p y).2.2.1;have T:Tr n h n h':=Tr.s S (Tr.refl _ _);have k:∀{sz:Nat} {D:Type} {P:List ψ->D->HF->Nat->Prop} {ds:List D} {v:ψ} {e:TypeId},GR sz P l h n e v ds->e≠68->∀b,BkOf v b->h' b=h b:=λg I b q=>S.1 b λf=>I ((f▸g.ty q).eq L);refine⟨⟨b,a,u,c,G,?_,i.t T⟩,s.bs,s.sc.go ratP.kp T λb q=>S.1 b λf=>s.dj p y (f▸q),s.lo.go bndZ.kp T (k s.lo zd),s.hi.go bndZ.kp T (k s.hi zd),o,s.ba.go natP.kp T (k s.ba zd),s.nb.go natP.kp T (k s.nb zd),s.ta.go KI.kp T (k s.ta zd),λr B=>⟨(s.rw r B).1.go intP.kp T (S.1 _ λf=>by have:=(s.rw r B).2;rw[f,C]at this;cases this),(s.rw r B).2⟩,λb q=>?_⟩;have F:bs≠p:=λf=>by have:=s.bs.2;rw[f,C]at this;cases this
 show h' bs=ξ (.row [_,_,_,_,Y A.va (O va) (O va),_,_,_,_,_] G);rw[J,S.1 bs F];exact e;have⟨K,l',M,f⟩:=q;injection f with f;exact s.dj b ⟨K,_,_,by rw[f]⟩
end
section
variable{h:HF}{n:Nat}
def sZw{D}{sz}{P}{ty}{a x}{zs}{q:D}(c)(B:OR sz P h n b zs)(y:KP sz P)(hj:j<zs.length)(g:off=j*sz)(p:P c q h n)(k:∀h',OR sz P h' n b (zs.set j q)->Kp b h h'->(∀e,KR h b e->KR h' b e)->EO X ops r ⟨t,h',n,addW n0 [b] w⟩ Q)(K:zh ops t o=φ:=by rfl)(hd:o.dst=θ:=by rfl)(ho:o.op=.store ty a x:=by rfl)(hi:X.E.inf ty=ξ (sz,bt,z):=by rfl)(ha:J2 t a=.pointer (ξ ⟨b,off,θ⟩):=by rfl)(hx:zn (J2 t x)=c:=by rfl)(hX:X.n0=n0:=by rfl):EO X ops (o::r) ⟨t,h,n,w⟩ Q:=by have F:=B;have⟨R,C,e,i,S,L⟩:=B;have J:=L.len;have⟨G,Z1,H⟩:=y.c p;have M:j*sz+sz<=zs.length*sz:=(by have:=Nat.mul_le_mul_right sz (show j+1<=zs.length from hj);rw[Nat.add_mul,Nat.one_mul]at this;exact this);subst g;rw[rS K (by rw[hd];rfl) (by rw[ho];rfl) (by rw[ho];exact xn hi ha (by rw[hx];exact G) (by rw[hx];exact H) i Z),hd,hx,hX];have s:=F.set y i hj p (zg _ _ _) (λc I=>zm I);exact k _ s.1 s.2 λe'⟨N,f⟩=>by rw[i]at f;cases f;exact⟨_,zg _ _ _⟩
def NL{D}{sz}{P}{ty}{a x}{zs}{q:D}(c)(B:OR sz P h n b zs)(s:KP sz P)(hj:j<zs.length)(g:off=j*sz)(p:P c q h n)(f:3*n0<=b)(i:zh ops t o=φ:=by rfl)(hd:o.dst=θ:=by rfl)(ho:o.op=.store ty a x:=by rfl)(hi:X.E.inf ty=ξ (sz,bt,z):=by rfl)(ha:J2 t a=.pointer (ξ ⟨b,off,θ⟩):=by rfl)(hx:zn (J2 t x)=c:=by rfl)(hX:X.n0=n0:=by rfl)(k:∀h',OR sz P h' n b (zs.set j q)->Kp b h h'->(∀e,KR h b e->KR h' b e)->EO X ops r ⟨t,h',n,w⟩ Q):EO X ops (o::r) ⟨t,h,n,w⟩ Q:=
 sZw c B s hj g p (λh' y C e'=>by rw[wD f];exact k h' y C e') i hd ho hi ha hx hX
end
structure SZ (d:Sol)(a:Nat):Prop where
 va:∀q∈d.va,Sz a q
 lo:∀q∈d.lo,Sz a q.2
 hi:∀q∈d.hi,Sz a q.2
 ll:O d.lo=O d.va
 lh:O d.hi=O d.va
 ls:O d.sc=O d.va
 nb:∀v∈d.nb,v<O d.va
 ln:O d.nb<1000
 lt:O d.ta<1000
def negQ(k){h}{n}{x}(q:IW h n sx ax lx cx x.num)(s:IW h n dx ex fx gx (denZ x)):CX (J4 (k+3)) 133 [.agg #[U sx,Y ax lx cx,U dx,Y ex fx gx]] h n (QV (-x)):=by apply zw R4;apply(zG);apply sB [U sx,Y ax lx cx,U dx,Y ex fx gx];intro h1 G J;apply(sA);intro h2 H K;apply(Zh);apply dC (negX _ q.x);rintro _ y C⟨f,c,i,g,rfl,p⟩ M L;apply(zH);apply dT #[U f,Y c i g,U dx,Y ex fx gx];apply dS [U f,Y c i g,U dx,Y ex fx gx];intro B I F;apply(zq);exact⟨_,_,_,_,_,_,_,_,ω,p.t.as (by rw[He]),s.t.as (by unfold denZ;rw[Ic])⟩
def subQ(k){h}{n}{x}{y}(g:GG h n)(J:IW h n sx ax lx cx x.num)(M:IW h n dx ex fx gx (denZ x))(K:IW h n sy ay ly cy y.num)(N:IW h n dy ey fy gy (denZ y))(hx:Sz a x)(H:Sz b y)(c:a+b+1<=2496):CX (J4 (k+10)) 98 [.agg #[U sx,Y ax lx cx,U dx,Y ex fx gx],.agg #[U sy,Y ay ly cy,U dy,Y ey fy gy]] h n (QV (x-y)):=by apply zw R4;apply(zG);apply sB [U sx,Y ax lx cx,U dx,Y ex fx gx];intro h1 p1 x1;apply sB [U sy,Y ay ly cy,U dy,Y ey fy gy];intro h2 p2 x2;apply(sA);intro Z0 p3 x3;apply(Zh);apply dC (negQ _ K.x N.x);rintro _ h4 n4⟨S,R,l4,T,Z4,V,W,Z3,rfl,I,L⟩ y4 x4;apply dC (addQ _ g.x J.x M.x I L hx H.neg c);rintro _ h5 n5⟨q,p,Z1,s,B,C,F,G,rfl,f,i⟩ y5 x5;apply dS [U q,Y p Z1 s,U B,Y C F G];intro h6 p6 o6;apply(zq);rw[<-GQ]at f i;exact⟨_,_,_,_,_,_,_,_,ω,f.t zt,i.t zt⟩
end
section
variable{h:HF}{n:Nat}
theorem pt{x y}(a:0<y):(Dw x y).num=x.tdiv ((CZ x.natAbs y.natAbs:Nat):Int)/\((Dw x y).den:Int)=y.tdiv ((CZ x.natAbs y.natAbs:Nat):Int):=by grind [pd]
def PV{x y}:Dw x y=Dw (-x) (-y):=by rw[Rat.neg_divInt_neg]
theorem iM{x y}(a:y<0):(Dw x y).num=(-x).tdiv ((CZ (-x).natAbs (-y).natAbs:Nat):Int)/\((Dw x y).den:Int)=(-y).tdiv ((CZ (-x).natAbs (-y).natAbs:Nat):Int):=by rw[PV];exact pt Z
theorem PW{x y}(b:0<y)(a:((CZ x.natAbs y.natAbs:Nat):Int)=1):(Dw x y).num=x/\((Dw x y).den:Int)=y:=by simp_all [pt,Jo]
theorem qZ{x y}(b:y<0)(a:((CZ (-x).natAbs (-y).natAbs:Nat):Int)=1):(Dw x y).num= -x/\((Dw x y).den:Int)= -y:=by rw[PV];exact PW Z a
theorem SY{x y}(a:y=1):(Dw x y).num=x/\denZ (Dw x y)=0:=by have h:=PW (x:=x) (y:=y) Z (by rw[a];simp);exact⟨h.1,yr.2 (by have:=h.2;omega)⟩
theorem zil{x y}(a: -y=1):(Dw x y).num= -x/\denZ (Dw x y)=0:=by rw[PV];exact SY a
def iL(k){x}{y}(g:GG h n)(f:IW h n sx ax lx cx x)(b:IW h n sy ay ly cy y)(hx:x.natAbs<BW)(hy:y.natAbs<BW)(c:y≠0):CX (J4 (k+10)) 59 [.agg #[U sx,Y ax lx cx],.agg #[U sy,Y ay ly cy]] h n (QV (Dw x y)):=by have d6:(-x).natAbs<BW:=Z;have aw:(-y).natAbs<BW:=Z;have d4:((CZ (-x).natAbs (-y).natAbs:Nat):Int).natAbs<BW:=PG aw Z;have d5:((CZ x.natAbs y.natAbs:Nat):Int).natAbs<BW:=PG hy c;have bq:((CZ (-x).natAbs (-y).natAbs:Nat):Int)≠0:=PH Z;have br:((CZ x.natAbs y.natAbs:Nat):Int)≠0:=PH c;apply zw R4;apply(zG);apply sB [U sx,Y ax lx cx];intro bz e7 es;apply sB [U sy,Y ay ly cy];intro c0 e8 et;apply(sA);intro c1 e9 eu;apply(zG);apply sC (yK _ b.t);rintro _ c2 d7⟨bs,rfl,v⟩ fh ev;obtain⟨rfl,u⟩|⟨rfl,u⟩:=J7 v;apply(zG);apply sC (yK _ f.t);rintro _ c3 d8⟨bt,rfl,w⟩ fi ew;obtain⟨rfl,s⟩|⟨rfl,s⟩:=J7 w;apply(zG);apply sC (M9 _ b.t);rintro _ c4 d9⟨er,rfl,a⟩ fj ey;obtain⟨rfl,a⟩|⟨rfl,a⟩|⟨rfl,a⟩:=a;apply(Zh);apply dC (negX _ f.t);rintro _ c5 da⟨j,i,p,l,rfl,d⟩ fk ez;apply(zH);apply dC (negX _ b.t);rintro _ c6 db⟨R,F,bb,a3,rfl,e⟩ fl f0;apply dS [U j,Y i p l];intro c7 ea dr;apply dS [U R,Y F bb a3];intro c8 eb ds;apply(zG);apply sC (tU _ e.t);rintro _ c9 dc⟨bu,rfl,A⟩ fm f1;obtain⟨rfl,bm⟩|⟨rfl,bm⟩:=J7 A;apply(zG);apply sC (gcdX _ g.t d.t e.t J9 J9);rintro _ ca dd⟨S,G,bc,a4,rfl,m⟩ fn f2;apply(sA);intro cb ec f3;apply sS [U S,Y G bc a4];intro cc ed dt;apply(zG);apply sC (tU _ m.t);rintro _ cd de⟨bv,rfl,B⟩ fo f4;obtain⟨rfl,bn⟩|⟨rfl,bn⟩:=J7 B;apply(Zh);apply dC (quoX _ d.t m.t J9 J9 LB);rintro _ ce df⟨T,H,bd,a5,rfl,az⟩ fp f5;apply(zH);apply dC (quoX _ e.t m.t J9 J9 LB);rintro _ cf dg⟨Z4,I,be,a6,rfl,b0⟩ fq f6;apply dS [U T,Y H bd a5];intro cg ee du;apply dS [U Z4,Y I be a6];intro ch ef dv;apply(zG);apply sC (vE _ az.t b0.t (q:=Dw x y) pe pe);rintro _ ci dh⟨V,J,bf,a7,ae,ai,am,aq,rfl,b1,b7⟩ fr f7;apply sS [U V,Y J bf a7,U ae,Y ai am aq];intro cj eg dw;apply(zq);exact⟨_,_,_,_,_,_,_,_,ω,b1.t,b7.t⟩;apply(zG);apply sC (vE _ d.t e.t (q:=Dw x y) pe pe);rintro _ ck di⟨W,K,bg,a8,af,aj,an,ar,rfl,b2,b8⟩ fs f8;apply sS [U W,Y K bg a8,U af,Y aj an ar];intro cl eh dy;apply(zq);exact⟨_,_,_,_,_,_,_,_,ω,b2.t,b8.t⟩;apply(zG);apply sT #[U j,Y i p l,U χ,η];apply sS [U j,Y i p l,U χ,η];intro cm ei dz;apply(zq);exact⟨_,_,_,_,_,_,_,_,ω,d.t.as (Bn),(EN _ _).as (Bn)⟩;exact Cu a c;apply(zG);apply sC (tU _ b.t);rintro _ cn dj⟨bw,rfl,C⟩ ft f9;obtain⟨rfl,bo⟩|⟨rfl,bo⟩:=J7 C;apply(zG);apply sC (gcdX _ g.t f.t b.t J9 J9);rintro _ co dk⟨Z3,L,bh,a9,rfl,o⟩ fu fa;apply(sA);intro cp ej fb;apply sS [U Z3,Y L bh a9];intro cq ek e0;apply(zG);apply sC (tU _ o.t);rintro _ cr dl⟨bx,rfl,D⟩ fv fc;obtain⟨rfl,bp⟩|⟨rfl,bp⟩:=J7 D;apply(Zh);apply dC (quoX _ f.t o.t J9 J9 LB);rintro _ cs dm⟨Z0,M,bi,aa,rfl,b3⟩ fw fd;apply(zH);apply dC (quoX _ b.t o.t J9 J9 LB);rintro _ ct dn⟨a0,N,bj,ab,rfl,b4⟩ fy fe;apply dS [U Z0,Y M bi aa];intro cu el e1;apply dS [U a0,Y N bj ab];intro cv em e2;apply(zG);apply sC (vE _ b3.t b4.t (q:=Dw x y) pe pe);rintro _ cw dp⟨a1,Z1,bk,ac,ag,ak,ao,au,rfl,b5,b9⟩ fz ff;apply sS [U a1,Y Z1 bk ac,U ag,Y ak ao au];intro cz en e3;apply(zq);exact⟨_,_,_,_,_,_,_,_,ω,b5.t,b9.t⟩;apply(zG);apply sC (vE _ f.t b.t (q:=Dw x y) pe pe);rintro _ d0 dq⟨a2,P,bl,ad,ah,al,ap,av,rfl,b6,ba⟩ g0 fg;apply sS [U a2,Y P bl ad,U ah,Y al ap av];intro d1 eo e4;apply(zq);exact⟨_,_,_,_,_,_,_,_,ω,b6.t,ba.t⟩;apply(zG);apply sT #[U sx,Y ax lx cx,U χ,η];apply sS [U sx,Y ax lx cx,U χ,η];intro d2 ep e5;apply(zq);exact⟨_,_,_,_,_,_,_,_,ω,f.t.as (Bn),(EN _ _).as (Bn)⟩;apply(zG);apply sT #[U χ,η,U χ,η];apply sS [U χ,η,U χ,η];intro d3 eq e6;apply(zq);exact⟨_,_,_,_,_,_,_,_,ω,(EN _ _).as (by rw[s,ah1];rfl),(EN _ _).as (by rw[s,ah1];rfl)⟩;exact Cu u c
def zmi(k){x}{y}(o:IW h n sx ax lx cx x.num)(q:IW h n dx ex fx gx (denZ x))(p:IW h n sy ay ly cy y)(hx:x.num.natAbs<BW)(M:(denZ x).natAbs<BW)(hy:y.natAbs<BW):CX (J4 (k+9)) 55 [.agg #[U sx,Y ax lx cx,U dx,Y ex fx gx],.agg #[U sy,Y ay ly cy]] h n (IV (x.num*y.tdiv (x.den:Int))):=by apply zw R4;apply(zG);apply sB [U sx,Y ax lx cx,U dx,Y ex fx gx];intro C V a1;apply sB [U sy,Y ay ly cy];intro D W a2;apply(sA);intro F Z3 a3;apply(zG);apply sC (yK _ q.t);rintro _ G Z1⟨w,rfl,b⟩ a8 a4;obtain⟨rfl,a⟩|⟨rfl,a⟩:=J7 b;apply(Zh);apply dC (quoX _ p.t q.t J9 J9 LB);rintro _ H P⟨A,v,N,B,rfl,j⟩ a9 a5;apply dC (mulX _ o.t j J9 J9);rintro _ I R⟨e,c,s,g,rfl,l⟩ aa a6;apply dS [U e,Y c s g];intro J Z0 T;apply(zq);exact⟨_,_,_,_,ω,l.t.as (by rw[wq a])⟩;apply(zG);apply sC (mulX _ o.t p.t J9 J9);rintro _ K S⟨f,d,u,i,rfl,m⟩ ab a7;apply sS [U f,Y d u i];intro L a0 Z4;apply(zq);exact⟨_,_,_,_,ω,m.t.as (by rw[show(x.den:Int)=1 from by have:=yr.1 a;omega,Jo])⟩
end
section
variable{n:Nat}{h:HF}
theorem PX{x:Rat}(h:x.num<0):(x⁻¹).num= -((x.den:Int))/\((x⁻¹).den:Int)= -x.num:=by grind [ap3,af7,G6]
theorem PY{x:Rat}(h:0<x.num):(x⁻¹).num=(x.den:Int)/\((x⁻¹).den:Int)=x.num:=by grind [ap3,af7,FW]
def S3{x:Rat}(h:x.num=0):x⁻¹ =0:=by rw[Rat.num_eq_zero.1 h,Rat.inv_zero]
def Sz.inv{x}(h:Sz m x):Sz m x⁻¹ :=by have d:=x.den_pos;refine⟨?_,?_⟩;obtain c|c|c:=HM x.num 0;rw[(PX c).1,E2,CR];exact h.2;rw[S3 c];exact C7 Cz h.2;rw[(PY c).1,CR];exact h.2;rw[af7];split;exact C7 d h.2;exact h.1
def Sz.div{x y}(hx:Sz a x)(c:Sz b y):Sz (a+b) (x/y):=by rw[HE];exact hx.mul c.inv
def invQ(k){x}(d:IW h n sx ax lx cx x.num)(J:IW h n dx ex fx gx (denZ x)):CX (J4 (k+4)) 60 [.agg #[U sx,Y ax lx cx,U dx,Y ex fx gx]] h n (QV x⁻¹):=by apply zw R4;apply(zG);apply sB [U sx,Y ax lx cx,U dx,Y ex fx gx];intro a0 aq b0;apply(sA);intro a1 ar b1;apply(zG);apply sC (M9 _ d.t);rintro _ a2 ag⟨az,rfl,c⟩ b9 b2;obtain⟨rfl,c⟩|⟨rfl,c⟩|⟨rfl,c⟩:=c;apply(Zh);apply dC (denQ _ d.t J.t);rintro _ a3 ah⟨R,M,ac,V,rfl,A⟩ ba b3;apply dC (negX _ A);rintro _ a4 ai⟨S,N,ad,W,rfl,B⟩ bb b4;apply(zH);apply dC (negX _ d.t);rintro _ a5 aj⟨T,Z1,ae,Z3,rfl,C⟩ bc b5;apply dC (vE _ B.t C (PX c).1 (PX c).2);rintro _ a6 ak⟨g,e,K,j,o,q,u,w,rfl,D,H⟩ bd b6;apply dS [U g,Y e K j,U o,Y q u w];intro a7 au an;apply(zq);exact⟨_,_,_,_,_,_,_,_,ω,D.t,H.t⟩;apply(zG);apply sT #[U χ,η,U χ,η];apply sS [U χ,η,U χ,η];intro a8 av ao;apply(zq);exact(show x⁻¹ =0 from S3 c)▸QV.zero _ _;apply(Zh);apply dC (denQ _ d.t J.t);rintro _ a9 al⟨Z4,P,af,Z0,rfl,F⟩ be b7;apply(zH);apply dC (vE _ F d.t (PY c).1 (PY c).2);rintro _ aa am⟨i,f,L,l,p,s,v,y,rfl,G,I⟩ bf b8;apply dS [U i,Y f L l,U p,Y s v y];intro ab aw ap;apply(zq);exact⟨_,_,_,_,_,_,_,_,ω,G.t,I.t⟩
def divQ(k){x}{y}(g:GG h n)(A:IW h n sx ax lx cx x.num)(C:IW h n dx ex fx gx (denZ x))(B:IW h n sy ay ly cy y.num)(D:IW h n dy ey fy gy (denZ y))(hx:Sz a x)(w:Sz b y)(o:a+b<=2496):CX (J4 (k+11)) 27 [.agg #[U sx,Y ax lx cx,U dx,Y ex fx gx],.agg #[U sy,Y ay ly cy,U dy,Y ey fy gy]] h n (QV (x/y)):=by apply zw R4;apply(zG);apply sB [U sx,Y ax lx cx,U dx,Y ex fx gx];intro M Z3 a2;apply sB [U sy,Y ay ly cy,U dy,Y ey fy gy];intro N Z0 a3;apply(sA);intro Z1 a0 a4;apply(Zh);apply dC (invQ _ B.t D.t);rintro _ P Z4⟨G,F,T,H,I,J,K,L,rfl,p,s⟩ a7 a5;apply dC (mulQ _ g.t A.t C.t p s hx w.inv o);rintro _ R V⟨d,c,v,e,f,i,j,l,rfl,q,u⟩ a8 a6;apply dS [U d,Y c v e,U f,Y i j l];intro S a1 W;apply(zq);exact⟨_,_,_,_,_,_,_,_,ω,q.t.as (by rw[HE]),u.t.as (by rw[HE])⟩
end
section
variable{up:Bool}
section
variable{n:Nat}{h:HF}{d:Sol}{A:Adr}
def aG(k)(s:SM l h n bs d A){v:Nat}{x}{p}(hv:d.va[v]?=ξ x)(hu:d.hi[v]?=ξ p)(F:Sz a x)(G:Sz b p.2)(f:a+b<=2496):CX (J4 (k+7)) 48 [ε bs,υ (v:Int)] h n (BV (p.1=χ\/x<p.2)):=by have⟨M,J,u0,P,ty,st,i0⟩:=s.st;have I:=s.bs.1;have⟨k1,o1,N,K,l1,R,T,V,Z3,g1,e,g,m,o,u,y⟩:=BS.at s.hi.rs hu;have⟨k2,o2,Z1,L,l2,S,Z4,W,Z0,g2,q,C,D,H,w,B⟩:=QS.at s.va.rs hv;refine VF.cx (zO R4 ?_);apply(Zh);apply dI e m;apply(zH);apply dL o g 0;have⟨x0,y0⟩:=p;cases x0;apply(zH);apply(zf);exact Ki (.inl AJ);apply(zH);apply dI q D;apply dL H C 0;apply(zH);apply dI e m;apply(zH);apply dL o g 1;apply dC (xp _ w B u y F G f).cx;rintro _ h3 n3⟨s3,rfl,c⟩ y3 x3;obtain⟨rfl,c⟩|⟨rfl,c⟩|⟨rfl,c⟩:=c;apply(zH);apply(zf);exact Ki (.inr c);exact Cm;exact BO
def lg(k)(s:SM l h n bs d A){v:Nat}{x}{p}(hv:d.va[v]?=ξ x)(hu:d.lo[v]?=ξ p)(F:Sz a x)(G:Sz b p.2)(f:a+b<=2496):CX (J4 (k+7)) 49 [ε bs,υ (v:Int)] h n (BV (p.1=χ\/p.2<x)):=by have⟨M,J,u0,P,ty,st,i0⟩:=s.st;have I:=s.bs.1;have⟨k1,o1,N,K,l1,R,T,V,Z3,g1,e,g,m,o,u,y⟩:=BS.at s.lo.rs hu;have⟨k2,o2,Z1,L,l2,S,Z4,W,Z0,g2,q,C,D,H,w,B⟩:=QS.at s.va.rs hv;refine VF.cx (zO R4 ?_);apply(Zh);apply dI e m;apply(zH);apply dL o g 0;have⟨x0,y0⟩:=p;cases x0;apply(zH);apply(zf);exact Ki (.inl AJ);apply(zH);apply dI q D;apply dL H C 0;apply(zH);apply dI e m;apply(zH);apply dL o g 1;apply dC (xp _ w B u y F G f).cx;rintro _ h3 n3⟨s3,rfl,c⟩ y3 x3;obtain⟨rfl,c⟩|⟨rfl,c⟩|⟨rfl,c⟩:=c;exact BO;exact Cm;apply(zH);apply(zf);exact Ki (.inr c)
def qd(x:Rat)(p q:Bool×Rat)(up:Bool):Bool×Rat:=if up then(q.1,q.2-x)else(p.1,x-p.2)
def Ta(k)(g:GG h n)(s:SM l h n bs d A){v:Nat}{x}{p q}(hv:d.va[v]?=ξ x)(hp:d.lo[v]?=ξ p)(hq:d.hi[v]?=ξ q)(V:Sz a x)(sp:Sz b p.2)(sq:Sz b q.2)(a4:a+b+1<=2496){r}(hr:up=φ↔0<r):CX (J4 (k+11)) 103 [ε bs,υ (v:Int),υ r] h n λw K R=>∃b a l c d e f g,w=.tuple #[.agg #[U b,Y a l c,U d,Y e f g],U (qd x p q up).1]/\IW K R b a l c (qd x p q up).2.num/\IW K R d e f g (denZ (qd x p q up).2):=by
 have⟨b0,a0,u0,c0,ty,st,i0⟩:=s.st;have a6:=s.bs.1;have⟨k1,o1,b1,a1,l1,c1,d1,e1,f1,g1,I,Z1,T,Z3,iu,ju⟩:=BS.at s.hi.rs hq;have⟨k3,o3,b3,a3,l3,c3,d3,e3,f3,g3,H,N,S,W,ip,jp⟩:=BS.at s.lo.rs hp;have⟨k2,o2,b2,a2,l2,c2,d2,e2,f2,g2,J,P,Z4,Z0,L,M⟩:=QS.at s.va.rs hv;apply zw R4;apply(Zk);intro h4 p4 x4;apply(zG);by_cases h0:0<r;obtain rfl:up=φ:=hr.2 h0;apply(Zh);apply dI I T;apply(zH);apply dL Z3 Z1 1;apply(zH);apply dI J Z4;apply dL Z0 P 0;apply dC (subQ _ g.x iu.x ju.x L.x M.x sq V Z);rintro _ h5 n5⟨o,m,l5,u,y,B,C,D,rfl,F,G⟩ y5 x5;apply(zH);apply dI I T;apply(zH);apply dL Z3 Z1 0;exact BK;obtain rfl:up=χ:=by cases up;rfl;exact Cu (hr.1 ω) h0
 apply(Zh);apply dI J Z4;apply dL Z0 P 0;apply(zH);apply dI H S;apply(zH);apply dL W N 1;apply dC (subQ _ g.x L.x M.x ip.x jp.x V sp Z);rintro _ h5 n5⟨o,m,l5,u,y,B,C,D,rfl,F,G⟩ y5 x5;apply(zH);apply dI H S;apply(zH);apply dL W N 0;exact BK
def Nh(k)(g:GG h n)(s:SM l h n bs d A){r}{z}(hi:d.ta[i]?=ξ r)(hj:r.2[j]?=ξ z)(w:z.natAbs<BW)(hd:d.den.natAbs<BW)(h0:d.den≠0):CX (J4 (k+11)) 26 [ε bs,υ (i:Int),υ (j:Int)] h n (QV (Dw z d.den)):=by have⟨N,L,u0,P,ty,st,i0⟩:=s.st;have K:=s.bs.1;have⟨Z4,W,p,D,G,I⟩:=rwS.at s.ta.rs hi;have⟨zr,_⟩:=s.rw r (CE hi);obtain⟨f,⟨Z1,M,l2,f,rfl,y⟩,_,J⟩:=zr.get hj (C9 _);have F:=zr.1;have H:=(CK.1 hj).1;apply zw R4;apply(Zk);intro R Z0 x4;apply(Zh);apply dI p G;apply dL I D 0;apply(zH);apply dI ω H;apply dL J F 0;apply(zH);apply dC (iL _ g.x y.x i0.x w hd h0);rintro _ S V⟨e,c,l5,m,o,q,u,v,rfl,B,C⟩ y5 x5;apply dS [U e,Y c l5 m,U o,Y q u v];intro T p6 Z3;apply(zq);exact⟨_,_,_,_,_,_,_,_,ω,B.t zt,C.t zt⟩
end
end
def canG(d:Sol)(v:Nat):Prop:=∃x p,d.va[v]?=ξ x/\d.hi[v]?=ξ p/\(p.1=χ\/x<p.2)
def canS(d:Sol)(v:Nat):Prop:=∃x p,d.va[v]?=ξ x/\d.lo[v]?=ξ p/\(p.1=χ\/p.2<x)
def impC(d:Sol)(zs:List Int)(c v:Nat):Prop:=∃z,zs[c]?=ξ z/\(z<0/\canG d v\/0<z/\canS d v)
def du{d}{v}{x}{p}(hv:d.va[v]?=ξ x)(c:d.hi[v]?=ξ p):canG d v↔(p.1=χ\/x<p.2):=
 ⟨λ⟨i,g,a,b,e⟩=>by rw[hv]at a;rw[c]at b;cases a;cases b;exact e,λh=>⟨x,p,hv,c,h⟩⟩
def dt{d}{v}{x}{p}(hv:d.va[v]?=ξ x)(c:d.lo[v]?=ξ p):canS d v↔(p.1=χ\/p.2<x):=
 ⟨λ⟨i,g,a,b,e⟩=>by rw[hv]at a;rw[c]at b;cases a;cases b;exact e,λh=>⟨x,p,hv,c,h⟩⟩
def Best(d:Sol)(zs:List Int)(k:Nat)(f r:Int):Prop:=
 f= -1/\r=0/\(∀c v:Nat,c<k->d.nb[c]?=ξ v->¬impC d zs c v)\/
 ∃(c v:Nat) (z:Int),f=(c:Int)/\c<k/\d.nb[c]?=ξ v/\zs[c]?=ξ z/\impC d zs c v/\r= -(if z<0 then -1 else 1)/\∀c' v':Nat,c'<k->d.nb[c']?=ξ v'->impC d zs c' v'->v<=v'
section
variable{d:Sol}{r:Int}
def Best.start:Best d zs 0 (-1) 0:=.inl ⟨ω,ω,λc v h=>Cu h (DM _)⟩
def Best.no(b:Best d zs k f r){v}(hv:d.nb[k]?=ξ v)(h:¬impC d zs k v):Best d zs (k+1) f r:=by obtain⟨i,o,j⟩|⟨c,w,z,i,o,j,q,s,u,y⟩:=b;refine .inl ⟨i,o,λg m B a=>?_⟩;by_cases e:g=k;subst e;rw[hv]at a;cases a;exact h;exact j g m Z a;refine .inr ⟨c,w,z,i,Z,j,q,s,u,λg m B a p=>?_⟩;by_cases e:g=k;subst e;rw[hv]at a;cases a;exact Cu p h;exact y g m Z a p
def Best.skip{c w v:Nat}(b:Best d zs k (c:Int) r)(m:d.nb[c]?=ξ w)(hv:d.nb[k]?=ξ v)(h:w<=v):Best d zs (k+1) (c:Int) r:=by obtain⟨j,p,g⟩|⟨o,F,z,j,p,g,q,s,u,y⟩:=b;omega;obtain rfl:c=o:=Z;rw[m]at g;cases g;refine .inr ⟨c,w,z,j,Z,m,q,s,u,λi C D a B=>?_⟩;by_cases e:i=k;subst e;rw[hv]at a;cases a;exact h;exact y i C Z a B
def Best.take(b:Best d zs k f r){v}{z s}(hv:d.nb[k]?=ξ v)(D:zs[k]?=ξ z)(hi:impC d zs k v)(h:f= -1\/∃c w:Nat,f=(c:Int)/\d.nb[c]?=ξ w/\v<=w)(C:s=if z<0 then -1 else 1):Best d zs (k+1) (k:Int) (-s):=by refine .inr ⟨k,v,z,ω,Nat.lt_succ_self _,hv,D,hi,by rw[C],λj m K a i=>?_⟩;by_cases e:j=k;subst e;rw[hv]at a;cases a;exact Nat.le_refl _;obtain⟨q,u,g⟩|⟨o,L,z2,q,u,g,G,H,I,y⟩:=b;exact Cu i (g j m Z a);have:=y j m Z a i;obtain h|⟨p,M,F,B,J⟩:=h;omega;obtain rfl:p=o:=Z;rw[B]at g;cases g;omega
end
def EntV(d:Sol)(zs:List Int)(w:ψ):Prop:=
 (∃(c v:Nat) (z:Int),d.nb[c]?=ξ v/\zs[c]?=ξ z/\impC d zs c v/\(∀c' v':Nat,d.nb[c']?=ξ v'->impC d zs c' v'->v<=v')/\w=.tuple #[υ ((c:Nat):Int),υ (-(if z<0 then -1 else 1)),U φ])\/
 ((∀c v:Nat,d.nb[c]?=ξ v->¬impC d zs c v)/\w=.tuple #[υ 0,υ 0,U χ])
section
variable{n:Nat}{h:HF}{d:Sol}{A:Adr}
def zfb(k)(s:SM l h n bs d A){a}(z:SZ d a)(S:a+a<=2496){r}(hr:d.ta[O d.ta-1]?=ξ r)(hl:O r.2=O d.nb):CX (J4 (k+8)) 52 [ε bs] h n λw _ _=>EntV d r.2 w:=by
 have⟨b0,a0,u0,c0,ty,st,i0⟩:=s.st;have a1:=s.bs.1;have a3:=z.ln;have⟨k1,o1,Z3,m1,r1,t1⟩:=rwS.at s.ta.rs hr;have hT:1<=O d.ta:=Z;have a4:=z.lt;refine VF.cx (zO R4 ?_);apply(Zh);apply dI Z3 r1 (hj:=by exact congrArg (υ) (show((O d.ta:Nat):Int)-1=((O d.ta-1:Nat):Int)from Z));apply dL t1 m1 0;apply(zH);apply(zG);apply sF (α:=Nat×Int×Int) (λz=>[(0,ε bs),(5,Y (ξ ⟨r.1,0,θ⟩) (O r.2) (O r.2)),(6,υ z.2.1),(7,υ z.2.2),(26,Y A.nb (O d.nb) (O d.nb)),(27,υ (O d.nb:Int)),(28,υ (z.1:Int))]) (λz h' n' w'=>w'=[]/\n<=n'/\J3 n h h'/\z.1<=O d.nb/\Best d r.2 z.1 z.2.1 z.2.2) (λz=>O d.nb-z.1) (0,-1,0) ⟨ω,Cy,Fy _ _,Cz,Best.start⟩;rintro⟨j,f,q⟩ t h2 n2 _ ⟨rfl,K,J,hj,hb⟩;dsimp only at K J hj hb;have u:=s.ext J K;have⟨b2,a2,u2,c2,a7,a5,i2⟩:=u.st;apply(zG);by_cases q3:(j:Int)<(O d.nb:Int)
 .apply(zG);obtain⟨v,g⟩:∃v,d.nb[j]?=ξ v:=⟨_,CD Z⟩;obtain⟨zc,m⟩:∃zc,r.2[j]?=ξ zc:=⟨_,CD Z⟩;have D:=z.nb v (CE g);obtain⟨x,i⟩:∃x,d.va[v]?=ξ x:=⟨_,CD D⟩;obtain⟨pl,H⟩:∃x,d.lo[v]?=ξ x:=⟨_,CD (by rw[z.ll];exact D)⟩;obtain⟨ph,G⟩:∃x,d.hi[v]?=ξ x:=⟨_,CD (by rw[z.lh];exact D)⟩;have⟨k4,o4,Z0,m4,r4,t4⟩:=natS.at u.nb.rs g;apply sI Z0 r4;apply sL t4 m4 0;have go:(∃c w:Nat,f=(c:Int)/\d.nb[c]?=ξ w/\w<v)\/f= -1\/(∃c w:Nat,f=(c:Int)/\d.nb[c]?=ξ w/\v<=w):=by
   obtain⟨h1,_⟩|⟨c,w,z,h1,h2,y,_⟩:=hb
   .exact .inr (.inl h1)
   by_cases hw:w<v
   .exact .inl ⟨c,w,h1,y,hw⟩
   exact .inr (.inr ⟨c,w,h1,y,Z⟩)
  obtain⟨c,w,rfl,I,hw⟩|go:=go
  .apply(zG);have⟨k5,o5,M,Z1,P,R⟩:=natS.at u.nb.rs I;apply sI M P;apply sL R Z1 0;apply(zG);exact sK (j+1,(c:Int),q) ⟨ω,K,J,kF,hb.skip I g Z⟩
  have L:=go;obtain rfl|⟨c,w,rfl,I,hw⟩:=go<;>apply(zG)
  rotate_left
  have⟨k5,o5,M,Z1,P,R⟩:=natS.at u.nb.rs I;apply sI M P;apply sL R Z1 0;apply(zG);all_goals
   have⟨zr,_⟩:=u.rw r (CE hr);obtain⟨W,⟨b6,a6,l6,W,rfl,i6⟩,_,t6⟩:=zr.get m (C9 _);apply sI ω (show j<O r.2 from Z);apply sL t6 zr.1 0;apply sC (M9 _ i6);rintro _ N n7⟨s7,rfl,o⟩ y7 x7;obtain⟨rfl,o⟩|⟨rfl,o⟩|⟨rfl,o⟩:=o
   .apply(zG);apply sC (aG _ u.x i G (z.va _ (CE i)) (z.hi _ (CE G)) S);rintro _ C F⟨Z4,rfl,B⟩ y8 x8;obtain⟨rfl,p⟩|⟨rfl,p⟩:=J7 B
    .apply(zG);exact sK (j+1,_,q) ⟨ω,Z,(show Tx n h F C from zx).2,kF,hb.no g (λ⟨z',e,b⟩=>by
      rw[m]at e;cases e;obtain⟨_,b⟩|⟨b,_⟩:=b
      .exact p ((du i G).1 b)
      .omega)⟩
    apply(zG);exact sK (j+1,(j:Int),_) ⟨ω,Z,(show Tx n h F C from zx).2,kF,hb.take g m ⟨zc,m,.inl ⟨o,(du i G).2 p⟩⟩ L (by rw[Cw o])⟩
   .apply(zG);exact sK (j+1,_,q) ⟨ω,Z,(show Tx n h n7 N from zx).2,kF,hb.no g (λ⟨z',e,b⟩=>by
      rw[m]at e;cases e;obtain⟨b,_⟩|⟨b,_⟩:=b<;>omega)⟩
   apply(zG);apply sC (lg _ u.x i H (z.va _ (CE i)) (z.lo _ (CE H)) S);rintro _ C F⟨Z4,rfl,B⟩ y8 x8;obtain⟨rfl,p⟩|⟨rfl,p⟩:=J7 B
   .apply(zG);exact sK (j+1,_,q) ⟨ω,Z,(show Tx n h F C from zx).2,kF,hb.no g (λ⟨z',e,b⟩=>by
     rw[m]at e;cases e;obtain⟨b,_⟩|⟨_,b⟩:=b
     .omega
     .exact p ((dt i H).1 b))⟩
   apply(zG);exact sK (j+1,(j:Int),_) ⟨ω,Z,(show Tx n h F C from zx).2,kF,hb.take g m ⟨zc,m,.inr ⟨o,(dt i H).2 p⟩⟩ L (by rw[Cv Z])⟩
 have T:j=O d.nb:=Z;subst T;obtain⟨rfl,rfl,y⟩|⟨c,w,zc,rfl,h2,y,h4,h5,rfl,N⟩:=hb
 .apply(zG);apply st_I R5;apply(zG);apply(zf);exact .inr ⟨λc v hv=>y c v (CK.1 hv).1 hv,ω⟩
 apply(zG);apply st_I ⟨ω,ω,ω,ω,(by show ξ (υ (if((c:Nat):Int)<0 then 0 else(c:Int)))=_;rw[Cv Z])⟩;apply(zG);apply(zf);exact .inl ⟨c,w,zc,y,h4,h5,λV v' hv hi=>N V v' (CK.1 hv).1 hv hi,ω⟩
end
section
variable{h:HF}{n:Nat}
def zna(a b:Nat):a*(b/CZ a b)=((IS a b:Nat):Int).natAbs:=by rw[CR,IS,Nat.mul_div_assoc _ (Fc a b)]
def lcmX(k){x}{y}(g:GG h n)(b:IW h n sx ax lx cx x)(a:IW h n sy ay ly cy y)(hx:x.natAbs<BW)(hy:y.natAbs<BW):CX (J4 (k+8)) 106 [.agg #[U sx,Y ax lx cx],.agg #[U sy,Y ay ly cy]] h n (IV ((IS x.natAbs y.natAbs:Nat):Int)):=by apply zw R4;apply(zG);apply sB [U sx,Y ax lx cx];intro A Z4 a1;apply sB [U sy,Y ay ly cy];intro B V a2;apply(sA);intro C W a3;apply(zG);by_cases q14:(lx:Int)=0;apply(zG);apply sT #[U χ,η];apply sS [U χ,η];intro D Z3 R;apply(zq);exact⟨_,_,_,_,ω,(EN _ _).as Ah⟩;apply(zG);by_cases q16:(ly:Int)=0;apply(zG);apply sT #[U χ,η];apply sS [U χ,η];intro F Z0 S;apply(zq);exact⟨_,_,_,_,ω,(EN _ _).as Ah⟩;apply(zG);have i:y.natAbs≠0:=λe=>q16 (by have:=a.2.zero;omega);apply(zl);apply(zH);apply dC (Sf _ g.t b.t.2 a.t.2 KJ);rintro _ G N⟨o,L,q,rfl,j⟩ a7 a4;apply dC (Se _ a.t.2 j ⟨hy,C7 (Nat.gcd_le_right _ (GP i)) hy⟩ aD);rintro _ H Z1⟨p,M,s,u,v,w,rfl,l,K⟩ a8 a5;apply(zJ);apply sC (NG _ b.t.2 l ⟨hx,C7 (Ei _ _) hy⟩);rintro _ I P⟨c,f,d,rfl,m⟩ a9 a6;apply sT #[U χ,Y c f d];apply sS [U χ,Y c f d];intro J a0 T;apply(zq);exact⟨_,_,_,_,ω,AR,m.t.as (zna _ _)⟩
end
def lcmD:List Rat->Nat->Nat
 |[],m=>m
 |q::l,m=>lcmD l (IS m q.den)
def oO:∀{l:List Rat} {q:Rat} {m:Nat},lcmD (l++[q]) m=IS (lcmD l m) q.den:=by
 intro l;induction l with
 |nil=>intro q m;rfl
 |cons x l ih=>intro q m;exact ih
def kv{D}:∀{l:List Rat} {m:Nat},(∀q∈l,q.den∣D)->m∣D->lcmD l m∣D:=by
 intro l;induction l with
 |nil=>intro m _ h;exact h
 |cons x l ih=>intro m b c;exact ih (λq d=>b q (EV _ d)) (Nat.lcm_dvd c (b x (D4 ..)))
def zeq:∀{l:List Rat} {m:Nat},m∣lcmD l m:=by
 intro l;induction l with
 |nil=>intro m;exact Nat.dvd_refl m
 |cons x l ih=>intro m;exact IX (Nat.dvd_lcm_left _ _) ih
def ku:∀{l:List Rat} {m:Nat} {q:Rat},q∈l->q.den∣lcmD l m:=by
 intro l;induction l with
 |nil=>intro m q h;cases h
 |cons x l ih=>
  intro m q h;obtain rfl|h:=De.1 h;exact IX (Nat.dvd_lcm_right _ _) zeq;exact ih h
def kt{l}:∀{m:Nat},0<m->0<lcmD l m:=by
 induction l with
 |nil=>intro m h;exact h
 |cons x l ih=>intro m h;exact ih (Nat.lcm_pos h x.den_pos)
theorem za0(q):q*(q.den:Rat)=(q.num:Rat):=by
 have h:=Rat.num_divInt_den q;have c:((q.den:Int):Rat)≠0:=λe=>by have:=SE.1 e;exact AL
 rw[Ev,HE]at h;rw[<-Dj];have b:(q.num:Rat)*((q.den:Int):Rat)⁻¹ *((q.den:Int):Rat)=q.num:=by grind
 rw[h]at b;exact b
def Ni(den:Nat)(x:Rat):Int:=x.num*(den:Int).tdiv (x.den:Int)
def Tc{b}{x}(h:x.den∣b):((Ni b x:Int):Rat)=x*(b:Rat):=by obtain⟨m,rfl⟩:=h;have c:=x.den_pos;unfold Ni;rw[EH,IY _ Z,Du,<-za0 x,Rat.natCast_mul,IZ,Dj]
def KU(f:Nat->Int):Nat->Nat
 |0=>0
 |j+1=>CZ (KU f j) (f j).natAbs
def Td{f}:∀{m j:Nat},j<m->KU f m∣(f j).natAbs:=by
 intro m;induction m with
 |zero=>intro j h;omega
 |succ m ih=>
  intro j h;obtain b|b:=EB j m;exact IX (E6 _ _) (ih b);rw[show j=m by omega];exact Fc _ _
def Te{f:Nat->Int}(b:∀j,j<m->(f j).natAbs<=B):KU f m<=B:=by
 induction m with
 |zero=>exact HA _
 |succ m ih=>
  have c:=ih λj e=>b j Z;have d:=b m Z;show CZ (KU f m) (f m).natAbs<=B;by_cases h0:KU f m=0;rw[h0,Nat.gcd_zero_left];exact d;exact CU (Nat.gcd_le_left _ (GP h0)) c
def MI(f:Nat->Int)(m:Nat):Nat:=if KU f m=0 then 1 else KU f m
theorem dr{f}:0<MI f m:=by unfold MI;split;decide;omega
def zn5{f}{j}(h:j<m):((MI f m:Nat):Int)∣f j:=by unfold MI;split;exact Int.one_dvd _;exact Fq.2 (Td h)
def rowQ(N:Nat)(a:Nat->Nat->Rat)(i:Nat):List Rat:=(List.range N).map (a i)
def deni(N:Nat)(a:Nat->Nat->Rat)(i:Nat):Nat:=lcmD (rowQ N a i) 1
def Kz(N:Nat)(a:Nat->Nat->Rat)(i j:Nat):Int:=Ni (deni N a i) (a i j)
def Lc(N:Nat)(a:Nat->Nat->Rat)(i:Nat):Nat:=MI (Kz N a i) N
def tT(N:Nat)(a:Nat->Nat->Rat)(i j:Nat):Int:=(Kz N a i j).tdiv (Lc N a i:Int)
def tS(N:Nat)(a:Nat->Nat->Rat)(i:Nat):Rat:=Dw (deni N a i:Int) (Lc N a i:Int)
section
variable{a:Nat->Nat->Rat}
def zmj(hj:j<N):a i j∈rowQ N a i:=DL.2 ⟨j,List.mem_range.2 hj,ω⟩
theorem bW:0<deni N a i:=kt zd
def bY(hj:j<N):(a i j).den∣deni N a i:=ku (zmj hj)
def zn6(h:0<m):((m:Int):Rat)≠0:=λe=>by have:=SE.1 e;omega
theorem Tf:tS N a i=(deni N a i:Int)/((Lc N a i:Int):Rat):=by unfold tS;rw[Ev]
theorem Tg:0<tS N a i:=by grind [Tf,deni,bW,Lc,dr,Kz,HE,Rat.intCast_pos.2,Rat.mul_pos,Rat.inv_pos.2]
theorem Th(hj:j<N):((tT N a i j:Int):Rat)=tS N a i*a i j:=by
 have l:=zn5 (f:=Kz N a i) hj;have g:((Lc N a i:Int):Rat)≠0:=zn6 (dr (f:=Kz N a i) (m:=N));have⟨z,o⟩:=l;have c:Kz N a i j=(Lc N a i:Int)*z:=o;have d:(Lc N a i:Int)≠0:=by simp_all
 have e:=Tc (bY (a:=a) (i:=i) hj);have b:((Kz N a i j:Int):Rat)=a i j*(deni N a i:Rat):=e;unfold tT;rw[c,IY _ d];rw[c,Du]at b;rw[Tf,HE,IZ,FZ _ (a i j),<-IZ,FZ _ (a i j),Dj (deni N a i),<-b,FZ _ (z:Rat),IZ,Rat.mul_inv_cancel _ g,Rat.mul_one]
end
section
variable{cq n:Nat}{h:HF}
def Ti{D}{l:List Rat}(a:0<D)(hb:D<BW)(b:∀q∈l,q.den∣D):((lcmD (l.take j) 1:Nat):Int).natAbs<BW:=by rw[CR];exact C7 (H9 a (kv (λq c=>b q (Dp c)) (Nat.one_dvd _))) hb
def aa{D}(a:0<D)(hb:D<BW)(b:q.den∣D):(denZ q).natAbs<BW:=by have h:=C7 (H9 a b) hb;unfold denZ;split;exact C7 Cz hb;rw[CR];exact h
def zem{l:List Rat}(g:l[j]?=ξ q)(h:denZ q=0):((lcmD (l.take j) 1:Nat):Int)=((lcmD (l.take (j+1)) 1:Nat):Int):=by rw[xa g,oO,yr.1 h,Nat.lcm_one_right]
def zen{l:List Rat}(g:l[j]?=ξ q)(a:¬denZ q=0)(h:denZ q=((lcmD (l.take j) 1:Nat):Int)):((lcmD (l.take j) 1:Nat):Int)=((lcmD (l.take (j+1)) 1:Nat):Int):=by rw[wq a]at h;have h:q.den=lcmD (l.take j) 1:=Int.ofNat.inj h;rw[xa g,oO,<-h,Nat.lcm_self]
def zeo{l:List Rat}(g:l[j]?=ξ q)(a:¬denZ q=0):((IS ((lcmD (l.take j) 1:Nat):Int).natAbs (denZ q).natAbs:Nat):Int)=((lcmD (l.take (j+1)) 1:Nat):Int):=by rw[wq a,CR,CR,xa g,oO]
def zn3(k:Nat)(g:GG h n)(T:QS h n (Y aq lq cq) qs){D:Nat}(s:0<D)(hb:D<BW)(hd:∀q∈qs,q.den∣D)(hl:O qs<1000000):CX (J4 (k+9)) 54 [Y aq lq cq] h n (IV ((lcmD qs 1:Nat):Int)):=by have ao:=T.len;apply zw R4;apply(Zk);intro ac b0 b5;apply(zG);apply sC (NH _ _ _);rintro _ ad c⟨w,u,F,A,rfl,R⟩ bc b6;apply(sA);intro ae b1 b7;apply sS [U w,Y u F A];intro P Z0 av;apply(zG);apply sF (α:=Nat×Bool×Option Addr×Nat×Nat) (λz=>[(2,ε (3*n+2)),(3,ε (3*c+2)),(7,Y aq lq cq),(8,υ (lq:Int)),(9,υ (z.1:Int))]) (λz K W w'=>w'=[]/\c+1<=W/\ExtB (c+1) [3*c+2] P K/\K (3*c+2)=ξ (.row [U z.2.1,Y z.2.2.1 z.2.2.2.1 z.2.2.2.2] 62)/\IW K W z.2.1 z.2.2.1 z.2.2.2.1 z.2.2.2.2 (((lcmD (qs.take z.1) 1:Nat):Int))/\z.1<=O qs) (λz=>O qs-z.1) (0,w,u,F,A) ⟨ω,Cy,Ed _ _ _,Z0,(R.t.as (by rw[EK];rfl)),Cz⟩;rintro⟨j,l,i,p,o⟩ t C Z3 _ ⟨rfl,bd,a7,e,a,hj⟩;dsimp only at e a hj;apply(zG);by_cases q16:(j:Int)<(lq:Int);apply(zG);obtain⟨ab,b⟩:∃d,(qs)[j]?=ξ d:=⟨_,CD Z⟩;have⟨an,aw,M,L,Z4,N,a3,a4,a5,a6,Z1,V,a1,a2,am,m⟩:=QS.at T b;apply sI Z1 a1;apply sL a2 V 0;apply(sA);intro af b2 b8;apply sS [U M,Y L Z4 N,U a3,Y a4 a5 a6];intro ag b3 ax;apply(zG);apply sC (yK _ m.x);rintro _ ah ap⟨a8,rfl,I⟩ be b9;obtain⟨rfl,f⟩|⟨rfl,f⟩:=J7 I;apply(zG);apply sC ((Si _ m.x a.t (aa s hb (hd _ (CE b))) (Ti s hb hd)).cx);rintro _ ai ar⟨a9,rfl,J⟩ bf ba;obtain⟨rfl,H⟩|⟨rfl,H⟩:=J7 J;apply(zG);apply sC (lcmX _ g.x a.t m.x (Ti s hb hd) (aa s hb (hd _ (CE b))));rintro _ aj au⟨y,v,G,B,rfl,S⟩ bg bb;apply sS [U y,Y v G B];intro ak a0 ay;apply(zG);exact sK (j+1,y,v,G,B) ⟨ω,Z,zy,a0,(S.t.as (zeo b f)),Z⟩;apply(zG);exact sK (j+1,l,i,p,o) ⟨ω,Z,zy,zp,(a.t.as (zen b f H)),Z⟩;apply(zG);exact sK (j+1,l,i,p,o) ⟨ω,Z,zy,zp,(a.t.as (zem b f)),Z⟩;apply(zG);apply sS [U l,Y i p o];intro al b4 az;apply(zq);exact⟨_,_,_,_,ω,a.t.as aD⟩
end
end
end Go.Proofs.YtdeaddceicfanaaGreatDoor
