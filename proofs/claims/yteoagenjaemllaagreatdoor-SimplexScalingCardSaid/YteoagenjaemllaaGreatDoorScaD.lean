import Derived.Test.YteoagenjaemllaaGreatDoorScaC
open Option renaming some→ξ,none→θ
open Bool renaming true→φ,false→χ
open Go renaming Value→ψ
set_option linter.defProp false
open Bool renaming and_eq_true→DY,and_self→Eg,false_eq_true→ET,not_eq_true'→Fq,or_self→ab6
open Classical renaming byContradiction→Df,not_not→Hm
open Go.IntKind renaming bits→EP,wrap→DE
open Go.Proofs.Tryz renaming f143→aw2,f149→aw1
open Go.Proofs.YteoagenjaemllaaGreatDoor.ExtB renaming refl→F7
open Go.Proofs.YteoagenjaemllaaGreatDoor.IW renaming zero→E9
open Go.Value renaming bool→CV,int→U,pointer→CZ,slice→Y,string→CY
open Int renaming add_comm→an4,gcd→JY,lt_or_le→an5,mul_ediv_cancel_left→GN,mul_ne_zero→ag4,mul_neg_of_neg_of_pos→IZ,mul_nonneg→aj0,mul_one→af1,mul_pos→G3,natAbs_eq_zero→Fw,natAbs_mul→D6,natAbs_natCast→Dk,natAbs_neg→E7,natAbs_tdiv→Gy,natCast_mul→EY,not_lt→J9,ofNat_dvd_left→FM,ofNat_le→ab5,tdiv_eq_ediv_of_dvd→G0,toNat_natCast→Ew,zero_mul→GI
open List renaming all_append→IC,all_eq_true→Fy,append_assoc→DH,append_nil→DJ,cons_append→Gn,dropWhile_cons→J3,drop_append→ad2,drop_drop→EH,drop_eq_getElem_cons→EX,drop_eq_nil_of_le→FA,drop_left'→Hc,drop_length→EI,drop_nil→ak9,drop_one→ak7,drop_succ_cons→ID,drop_take→JN,drop_zero→DO,getElem?_append_left→D7,getElem?_append_right→Dx,getElem?_eq_getElem→CW,getElem?_eq_none→Dn,getElem?_eq_some_iff→C4,getElem?_map→Dz,getElem?_set_ne→JT,getElem?_take_of_lt→Ek,isEmpty_iff→ad1,length→O,length_append→C1,length_cons→DM,length_drop→DN,length_eq_zero_iff→De,length_map→Da,length_nil→FV,length_replicate→DI,length_singleton→Db,length_take→DK,map_append→EK,map_cons→GJ,map_nil→JA,mem_append→Ei,mem_cons→DA,mem_cons_of_mem→E3,mem_cons_self→EM,mem_map→D2,mem_of_getElem?→C0,mem_of_mem_take→D8,mem_singleton→Dc,nil_append→DR,not_mem_nil→C6,replicate→C3,replicate_succ'→FQ,set_cons_zero→HW,tail_cons→aj1,takeWhile_append_dropWhile→GP,takeWhile_cons→IE,take_add_one→ab4,take_append→ad3,take_append_of_le_length→Fc,take_length→Ds,take_nil→al0,take_of_length_le→C7,take_succ_cons→J4,take_take→GY,take_zero→E1
open Nat renaming Coprime→GF,add_comm→EE,add_sub_cancel→Fh,add_sub_cancel_left→E6,beq→D5,ble→DC,ble_eq_true_of_le→C8,coprime_div_gcd_div_gcd→IH,div_div_eq_div_mul→FB,div_le_self→EL,div_lt_of_lt_mul→Iv,div_one→Ht,eq_of_beq_eq_true→DU,gcd→Dh,gcd_comm→E5,gcd_dvd_left→Fo,gcd_dvd_right→Fs,gcd_mul_left→Ij,gcd_one_right→Je,gcd_pos_of_pos_left→Gd,gcd_pos_of_pos_right→Eh,le_mul_of_pos_right→FR,le_of_ble_eq_true→Dt,le_succ→Du,le_trans→Dy,lt_of_le_of_lt→Dw,lt_of_lt_of_le→Dm,lt_trans→H8,min_eq_left→Ee,mod_eq_of_lt→Di,mod_lt→DS,mul_comm→C5,mul_div_cancel'→Gf,mul_div_cancel_left→Fu,mul_le_mul_right→C9,mul_lt_mul''→G1,mul_one→D1,mul_pos→Fv,mul_right_comm→F5,mul_zero→EJ,one_mul→Et,pow_add→Ef,pow_le_pow_right→Dd,pow_pos→DQ,pow_succ→Dj,pow_zero→EV,strongRecOn→Gx,sub_self→Ec,sub_zero→GC,succ_mul→Ff,two_pow_pos→He,zero_add→Dl,zero_le→GA,zero_mul→Ep
open Nat.Coprime renaming coprime_dvd_left→IB,coprime_dvd_right→Gb,gcd_mul_left_cancel_right→HG,mul_left→Iu,mul_right→If,symm→aw0
open Option renaming isSome_none→IU
open Option.some renaming injEq→H5
open Or renaming inl→an7
open Prod.mk renaming injEq→Fm
open Rat renaming add_def→ae9,divInt→DT,divInt_ofNat→ad4,mul_def→af0,neg_den→H1,neg_num→GH,normalize_eq→HH,normalize_eq_mkRat→Ia,num→at1,num_eq_zero→FJ,sub_eq_add_neg→G7
open UInt8 renaming ofNat→EA,toNat→ap7,toNat_inj→Gz
set_option maxHeartbeats 8000000
set_option linter.unusedVariables false
set_option linter.unusedSimpArgs false
namespace Go.Proofs.YteoagenjaemllaaGreatDoor
open Go Go.GL
variable {q:Rat}{d l a b m cx cy fx fy gx gy lx ly m' n' n c:Nat}{ax ay ex ey:Option Addr}{dx dy sx sy b1 b2:Bool}{h' h:HF}{cs:List ψ}{ld ln L w:List Nat}{d1 d2 n1 n2 v:ψ}{e:TypeId}
section
variable {r:Nat}
def denZ(q:Rat):Int:=if q.den=1 then 0 else(q.den:Int)
theorem yr:denZ q=0↔q.den=1:=by unfold denZ;have:=q.den_pos;split<;>omega
theorem wq(h:¬denZ q=0):denZ q=(q.den:Int):=by grind [denZ]
def ur(x y:Rat):(x+y).num=(x.num*y.den+y.num*x.den)/((Dh (x.num*y.den+y.num*x.den).natAbs (x.den*y.den):Nat):Int):=by rw[ae9,HH]
def ut(x y:Rat):(x+y).den=(x.den*y.den)/Dh (x.num*y.den+y.num*x.den).natAbs (x.den*y.den):=by rw[ae9,HH]
def sf(x y:Rat):(x*y).num=(x.num*y.num)/((Dh (x.num*y.num).natAbs (x.den*y.den):Nat):Int):=by rw[af0,HH]
def si(x y:Rat):(x*y).den=(x.den*y.den)/Dh (x.num*y.num).natAbs (x.den*y.den):=by rw[af0,HH]
def sG(a b:Int)(m:Nat):Dh (a*m+b).natAbs m=Dh b.natAbs m:=by have c:(JY (a*m+b) m)=JY b m:=(by rw[an4,Int.gcd_add_mul_right_left]);simpa [JY]using c
theorem Ow{x y:Rat}(hx:denZ x=0)(a:denZ y=0):(x+y).num=x.num+y.num/\denZ (x+y)=0:=by simp_all [yr,ur,ut]
def Pv{x y:Rat}(hx:denZ x=0)(c:¬denZ y=0):(x+y).num=x.num*denZ y+y.num/\denZ (x+y)=denZ y:=by have g:=wq c;rw[yr]at hx c;have a:=ur x y;have b:=ut x y;have f:Dh (x.num*(y.den:Int)+y.num).natAbs y.den=1:=(sG x.num y.num y.den).trans y.reduced;rw[hx]at a b;simp only[Et]at a b;have e:((1:Nat):Int)=1:=rfl;rw[e,af1,f]at a;rw[e,af1,f,Ht]at b;rw[a,g];refine⟨by rw[e,Int.ediv_one],?_⟩;unfold denZ;rw[b,CP c]
def Sm{x y:Rat}(hx:¬denZ x=0)(a:denZ y=0):(x+y).num=y.num*denZ x+x.num/\denZ (x+y)=denZ x:=by rw[Rat.add_comm];exact Pv a hx
structure AddS (x y:Rat)(d l r:Nat)(N:Int)(s:Nat):Prop where
 hd:d=Dh x.den y.den
 hl:y.den=d*l
 hr:x.den=d*r
 hN:N=x.num*l+y.num*r
 hs:s=Dh N.natAbs d
def AddS.cop{x y:Rat}{N:Int}{s:Nat}(a:AddS x y d l r N s):Dh N.natAbs (r*l)=1:=by
 have e:0<d:=by rw[a.hd];exact Gd _ x.den_pos
 have b:GF l r:=by
  have c:Dh x.den y.den=d*Dh r l:=by rw[a.hr,a.hl,Ij]
  rw[<-a.hd]at c;have:d*1=d*Dh r l:=Z;have:=Nat.eq_of_mul_eq_mul_left e this;rw[Nat.coprime_iff_gcd_eq_one,E5];exact this.symm
 have f:GF x.num.natAbs r:=Gb ⟨d,by rw[a.hr,C5]⟩ x.reduced;have g:GF y.num.natAbs l:=Gb ⟨d,by rw[a.hl,C5]⟩ y.reduced;have c:Dh N.natAbs r=1:=(by have:Dh (y.num*(r:Int)+x.num*(l:Int)).natAbs r=1:=(by rw[sG,D6,Dk];exact Iu f b);rw[a.hN,an4];exact this);have i:Dh N.natAbs l=1:=(by have:Dh (x.num*(l:Int)+y.num*(r:Int)).natAbs l=1:=(by rw[sG,D6,Dk];exact Iu g b.symm);rw[a.hN];exact this);exact If c i
theorem AddS.res{x y:Rat}{N:Int}{s:Nat}(a:AddS x y d l r N s):(x+y).num=N.tdiv (s:Int)/\(x+y).den=r*(y.den/s):=by
 have b:0<d:=by rw[a.hd];exact Gd _ x.den_pos
 have c:0<s:=by rw[a.hs];exact Eh _ b
 have u:=a.cop;have j:=ur x y;have m:=ut x y;have f:x.num*(y.den:Int)+y.num*(x.den:Int)=(d:Int)*N:=(by rw[a.hl,a.hr,a.hN];simp only[EY];grind);have g:x.den*y.den=d*(r*l*d):=by rw[a.hl,a.hr];grind
 have i:Dh ((d:Int)*N).natAbs (d*(r*l*d))=d*s:=(by rw[D6,Dk,Ij,HG d (aw0 u),<-a.hs]);rw[f,g,i]at j;rw[f,g,i]at m;have o:(s:Int)∣N:=by
  have:s∣N.natAbs:=by rw[a.hs];exact Fo _ _
  exact FM.2 this
 have p:s∣d:=by rw[a.hs];exact Fs _ _
 refine⟨?_,?_⟩;rw[j,EY,Int.mul_ediv_mul_of_pos _ _ Z,G0 o];rw[m,Nat.mul_div_mul_left _ _ b];have⟨e,v⟩:=p;rw[a.hl,v];rw[show r*l*(s*e)=s*(r*(l*e))from by grind,Fu _ c,show s*e*l=s*(l*e)from by grind,Fu _ c]
theorem lK(a b:Nat):(a:Int).tdiv (b:Int)=((a/b:Nat):Int):=rfl
def AddS.mk'{x y:Rat}(hx:¬denZ x=0)(b:¬denZ y=0):∃d l r N s,AddS x y d l r N s/\((Dh (denZ x).natAbs (denZ y).natAbs:Nat):Int)=d/\(denZ y).tdiv ((Dh (denZ x).natAbs (denZ y).natAbs:Nat):Int)=l/\(denZ x).tdiv ((Dh (denZ x).natAbs (denZ y).natAbs:Nat):Int)=r/\x.num*((denZ y).tdiv ((Dh (denZ x).natAbs (denZ y).natAbs:Nat):Int))+y.num*((denZ x).tdiv ((Dh (denZ x).natAbs (denZ y).natAbs:Nat):Int))=N/\∀M:Int,M=N->((Dh M.natAbs (((Dh (denZ x).natAbs (denZ y).natAbs:Nat):Int)).natAbs:Nat):Int)=(s:Nat):=by rw[wq hx,wq b];simp only[Dk,lK];have c:0<Dh x.den y.den:=Gd _ x.den_pos;refine⟨Dh x.den y.den,y.den/Dh x.den y.den,x.den/Dh x.den y.den,_,Dh (x.num*((y.den/Dh x.den y.den:Nat):Int)+y.num*((x.den/Dh x.den y.den:Nat):Int)).natAbs (Dh x.den y.den),⟨ω,?_,?_,ω,ω⟩,ω,ω,ω,ω,?_⟩;rw[Gf (Fs _ _)];rw[Gf (Fo _ _)];intro M a;rw[a]
theorem ZD(x y:Rat):(x*y).num=(x.num/((Dh x.num.natAbs y.den:Nat):Int))*(y.num/((Dh y.num.natAbs x.den:Nat):Int))/\(x*y).den=(x.den/Dh y.num.natAbs x.den)*(y.den/Dh x.num.natAbs y.den):=by
 have w:=sf x y;have A:=si x y;have Z1:Dh (x.num*y.num).natAbs (x.den*y.den)=Dh x.num.natAbs y.den*Dh y.num.natAbs x.den:=by
  rw[D6];by_cases hx:x.num=0;have B:x.den=1:=by have:=x.reduced;rw[hx]at this;simpa using this
  rw[hx,B];simp;by_cases hy:y.num=0;have C:y.den=1:=by have:=y.reduced;rw[hy]at this;simpa using this
  rw[hy,C];simp;have f:0<Dh x.num.natAbs y.den:=Eh _ y.den_pos;have g:0<Dh y.num.natAbs x.den:=Eh _ x.den_pos;have I:=IH f;have J:=IH g;have D:=Gf (Fo x.num.natAbs y.den);have F:=Gf (Fs x.num.natAbs y.den);have G:=Gf (Fo y.num.natAbs x.den);have H:=Gf (Fs y.num.natAbs x.den);have i:=x.reduced;have j:=y.reduced;generalize Dh x.num.natAbs y.den=g1 at*;generalize Dh y.num.natAbs x.den=g2 at*;generalize x.num.natAbs/g1=a at*;generalize y.den/g1=b at*;generalize y.num.natAbs/g2=c at*;generalize x.den/g2=e at*;rw[<-D,<-F,<-G,<-H];rw[<-D,<-H]at i;rw[<-G,<-F]at j;have p:GF a e:=IB ⟨g1,C5 _ _⟩ (Gb ⟨g2,C5 _ _⟩ i);have s:GF c b:=IB ⟨g2,C5 _ _⟩ (Gb ⟨g1,C5 _ _⟩ j);have:GF (a*c) (e*b):=Iu (If p I) (If J s);rw[show g1*a*(g2*c)=(g1*g2)*(a*c)from by grind,show g2*e*(g1*b)=(g1*g2)*(e*b)from by grind,Ij,this,D1]
 rw[Z1]at w A;have K:((Dh x.num.natAbs y.den:Nat):Int)∣x.num:=FM.2 (Fo _ _);have L:((Dh y.num.natAbs x.den:Nat):Int)∣y.num:=FM.2 (Fo _ _);have M:Dh y.num.natAbs x.den∣x.den:=Fs _ _;have N:Dh x.num.natAbs y.den∣y.den:=Fs _ _;refine⟨?_,?_⟩;rw[w,EY];have⟨u,m⟩:=K;have⟨v,o⟩:=L;have f:0<Dh x.num.natAbs y.den:=Eh _ y.den_pos;have g:0<Dh y.num.natAbs x.den:=Eh _ x.den_pos;generalize Dh x.num.natAbs y.den=g1 at*;generalize Dh y.num.natAbs x.den=g2 at*;rw[m,o,GN _ Z,GN _ Z,show(g1:Int)*u*(g2*v)=(g1*g2)*(u*v)from by grind,GN];exact ag4 Z Z;rw[A];have⟨u,m⟩:=M;have⟨v,o⟩:=N;have f:0<Dh x.num.natAbs y.den:=Eh _ y.den_pos;have g:0<Dh y.num.natAbs x.den:=Eh _ x.den_pos;generalize Dh x.num.natAbs y.den=g1 at*;generalize Dh y.num.natAbs x.den=g2 at*;rw[m,o,Fu _ g,Fu _ f,show g2*u*(g1*v)=(g1*g2)*(u*v)from by grind,Fu _ (Fv f g)]
theorem jc(x y:Rat):(x<y↔x.num*y.den<y.num*x.den)/\(x=y↔x.num*y.den=y.num*x.den)/\(y<x↔y.num*x.den<x.num*y.den):=by grind [Rat.lt_iff,Rat.le_antisymm,Rat.not_lt.1]
end
def vh{x y:Int}(h:x.natAbs<m):(x.tdiv y).natAbs<m:=by rw[Gy];exact Dw (EL _ _) h
def sw{x y:Int}(hx:x.natAbs<2^a)(c:y.natAbs<2^b):(x*y).natAbs<2^(a+b):=by rw[D6,Ef];exact G1 hx c
def Pw{x y:Int}(hx:x.natAbs<2^a)(c:y.natAbs<2^b)(h:a+b<=2496):(x*y).natAbs<BW:=yU (sw hx c) h
def dJ{x y:Int}(hx:x.natAbs<2^m)(c:y.natAbs<2^m):(x+y).natAbs<2^(m+1):=by rw[Dj];omega
def Px{x y u v:Int}(hx:x.natAbs<2^a)(c:y.natAbs<2^b)(hu:u.natAbs<2^b)(hv:v.natAbs<2^a)(h:a+b+1<=2496):(x*y+u*v).natAbs<BW:=
 yU (dJ (sw hx c) (by rw[EE a b];exact sw hu hv)) h
def ZE{x y u:Int}(hx:x.natAbs<2^a)(c:y.natAbs<2^b)(hu:u.natAbs<2^b)(h:a+b+1<=2496):(x*y+u).natAbs<BW:=
 yU (dJ (sw hx c) (Dm hu (Dd zd Z))) h
def Sn{x y:Int}(hx:x.natAbs<m)(h0:¬x=0):((Dh x.natAbs y.natAbs:Nat):Int).natAbs<m:=by rw[Dk];exact Dw (Nat.gcd_le_left _ Z) hx
def Py{x y:Int}(c:y.natAbs<m)(h0:¬y=0):((Dh x.natAbs y.natAbs:Nat):Int).natAbs<m:=by rw[Dk];exact Dw (Nat.gcd_le_right _ Z) c
theorem ZF{x y:Int}(h:¬x=0):((Dh x.natAbs y.natAbs:Nat):Int)≠0:=by grind [Gd]
theorem Pz{x y:Int}(h:¬y=0):((Dh x.natAbs y.natAbs:Nat):Int)≠0:=by grind [Eh]
def ZG:(1:Int).natAbs<BW:=yU (e:=1) zd zd
def Kv{x:Int}(h:x.natAbs<BW:=by first|assumption|exact vh ‹_› |exact Pw ‹_› ‹_› Z|exact Pw ‹_› (vh ‹_›) Z|exact Pw (vh ‹_›) (vh ‹_›) Z|exact Px ‹_› (vh ‹_›) ‹_› (vh ‹_›) Z|exact Px ‹_› ‹_› ‹_› ‹_› Z|exact ZE ‹_› ‹_› ‹_› Z|exact Sn ‹_› ‹_› |exact Sn (Px ‹_› (vh ‹_›) ‹_› (vh ‹_›) Z) ‹_› |exact Py ‹_› ‹_› |exact ZG):x.natAbs<BW:=h
def LS{x:Int}(h:x≠0:=by first|assumption|exact ZF ‹_› |exact Pz ‹_› |omega):x≠0:=h
def Sz(m:Nat)(q:Rat):Prop:=q.num.natAbs<2^m/\q.den<2^m
def Sz.z(h:Sz m q):(denZ q).natAbs<2^m:=by unfold denZ;split;exact He m;rw[Dk];exact h.2
def Sz.mono(h:Sz m q)(hm:m<=m'):Sz m' q:=⟨Dm h.1 (Dd zd hm),Dm h.2 (Dd zd hm)⟩
def na{x:Int}{g:Nat}(h:x.natAbs<m):(x/(g:Int)).natAbs<m:=by refine Dw ?_ h;exact Int.natAbs_ediv_le_natAbs _ _
def Sz.add{x y:Rat}(hx:Sz a x)(c:Sz b y):Sz (a+b+1) (x+y):=by refine⟨?_,?_⟩;rw[ur];refine na (dJ (sw hx.1 (by rw[Dk];exact c.2)) ?_);rw[EE a b];exact sw c.1 (by rw[Dk];exact hx.2);rw[ut];refine Dw (EL _ _) (Dm (G1 hx.2 c.2) ?_);rw[<-Ef];exact Dd zd Z
def Sz.mul{x y:Rat}(hx:Sz a x)(c:Sz b y):Sz (a+b) (x*y):=by refine⟨?_,?_⟩;rw[sf];exact na (sw hx.1 c.1);rw[si];refine Dw (EL _ _) ?_;rw[Ef];exact G1 hx.2 c.2
def Sz.neg{x:Rat}(hx:Sz a x):Sz a (-x):=⟨by rw[GH,E7];exact hx.1,by rw[H1];exact hx.2⟩
def Sz.zero(a:Nat)(h:1<=a):Sz a 0:=⟨He a,Dm (by decide:(1:Nat)<2^1) (Dd zd h)⟩
def QV(q:Rat)(v:ψ)(h:HF)(n:Nat):Prop:=∃b a l c d e f g,v=.agg #[CV b,Y a l c,CV d,Y e f g]/\IW h n b a l c q.num/\IW h n d e f g (denZ q)
def QV.zero(h:HF)(n:Nat):QV 0 (.agg #[CV χ,η,CV χ,η]) h n:=⟨_,_,_,_,_,_,_,_,ω,E9 h n,E9 h n⟩
def rO(k:Nat){d:Bool}{x:Int}{c:Bool}{y:Int}(f:IW h n d ax lx cx x)(g:IW h n c ay ly cy y)(hx:x.natAbs<BW)(e:y.natAbs<BW):CX (Kp (k+4)) 136 [.agg #[CV d,Y ax lx cx],.agg #[CV c,Y ay ly cy]] h n λv _ _=>∃s:Int,v=U .i64 s/\(s= -1/\x<y\/s=0/\x=y\/s=1/\y<x):=(ZB k f g hx e).cx
def So(k:Nat)(h:HF)(n:Nat):CX (Kp (k+1)) 104 [U .u64 1] h n (WV 1):=YT k h n (w:=1) zd
def NH(k:Nat)(h:HF)(n:Nat):CX (Kp (k+2)) 53 [U .i64 1] h n (IV 1):=by refine zw (fn:=Tryz.f53) R4<|Zd λg p u=>?_;refine zG ?_;refine wm R6 (ik:=.u64) (a:=1) rfl<|sC (So _ _ _) ?_;rintro _ i l⟨c,e,d,rfl,f⟩ w v;refine sT #[CV χ,Y c e d] ?_;refine sS [CV χ,Y c e d] λj s o=>?_;refine zq ?_;exact⟨_,_,_,_,ω,ω,(f.t zt)⟩
def ZI(k:Nat){x:Rat}(f:IW h n sx ax lx cx x.num)(w:IW h n dx ex fx gx (denZ x)):VF (Kp (k+2)) 71 [.agg #[CV sx,Y ax lx cx,CV dx,Y ex fx gx]] h n λv=>∃b:Bool,v=CV b/\(b=φ↔x=0):=by refine zO (fn:=Tryz.f71) R4<|zG ?_;refine sB [CV sx,Y ax lx cx,CV dx,Y ex fx gx] λi o p=>?_;refine zG ?_;refine sC (yK _ (f.t zt)) ?_;rintro _ j l⟨g,rfl,d⟩ u s;obtain⟨rfl,c⟩|⟨rfl,c⟩:=Ky d;refine zf ?_;exact Lm λe=>CO (FJ.2 e) c;refine zf ?_;exact LK (FJ.1 c)
def ZJ(k:Nat){x:Rat}(d:IW h n sx ax lx cx x.num)(u:IW h n dx ex fx gx (denZ x)):VF (Kp (k+2)) 58 [.agg #[CV sx,Y ax lx cx,CV dx,Y ex fx gx]] h n λv=>∃s:Int,v=U .i64 s/\(s= -1/\x.num<0\/s=0/\x.num=0\/s=1/\0<x.num):=by refine zO (fn:=Tryz.f58) R4<|zG ?_;refine sB [CV sx,Y ax lx cx,CV dx,Y ex fx gx] λe i l=>?_;refine zG ?_;refine sC (Ng _ (d.t zt)) ?_;rintro _ f g⟨j,rfl,c⟩ p o;obtain⟨rfl,c⟩|⟨rfl,c⟩|⟨rfl,c⟩:=c;refine zf ?_;exact⟨_,ω,Z⟩;refine zf ?_;exact⟨_,ω,Z⟩;refine zf ?_;exact⟨_,ω,Z⟩
def kD(k:Nat){x:Rat}(c:IW h n sx ax lx cx x.num)(d:IW h n dx ex fx gx (denZ x)):CX (Kp (k+2)) 71 [.agg #[CV sx,Y ax lx cx,CV dx,Y ex fx gx]] h n (BV (x=0)):=(ZI k c d).cx
def fD(k:Nat){x:Rat}(c:IW h n sx ax lx cx x.num)(d:IW h n dx ex fx gx (denZ x)):CX (Kp (k+2)) 58 [.agg #[CV sx,Y ax lx cx,CV dx,Y ex fx gx]] h n (NF x.num):=(ZJ k c d).cx
def denQ(k:Nat){x:Rat}(P:IW h n sx ax lx cx x.num)(j:IW h n dx ex fx gx (denZ x)):CX (Kp (k+3)) 83 [.agg #[CV sx,Y ax lx cx,CV dx,Y ex fx gx]] h n (IV (x.den:Int)):=by refine zw (fn:=Tryz.f83) R4<|zG ?_;refine sB [CV sx,Y ax lx cx,CV dx,Y ex fx gx] λp F J=>?_;refine sA λs G K=>?_;refine zG ?_;refine sC (yK _ (j.t zt)) ?_;rintro _ u A⟨o,rfl,d⟩ N L;obtain⟨rfl,c⟩|⟨rfl,c⟩:=Ky d;refine zG ?_;refine sS [CV dx,Y ex fx gx] λv H C=>?_;refine zq ?_;exact⟨_,_,_,_,ω,(j.t zt).as (wq c)⟩;refine zG ?_;refine sC (NH _ _ _) ?_;rintro _ w B⟨f,e,l,g,rfl,i⟩ Z1 M;refine sS [CV f,Y e l g] λy I D=>?_;refine zq ?_;exact⟨_,_,_,_,ω,(i.t zt).as (by rw[yr.1 c];rfl)⟩
def vE(k:Nat){x:Int}{y:Int}(f:IW h n sx ax lx cx x)(g:IW h n sy ay ly cy y)(e:q.num=x)(d:(q.den:Int)=y):CX (Kp (k+2)) 84 [.agg #[CV sx,Y ax lx cx],.agg #[CV sy,Y ay ly cy]] h n (QV q):=by refine zw (fn:=Tryz.f84) R4<|zG ?_;refine sB [CV sx,Y ax lx cx] λl C I=>?_;refine sB [CV sy,Y ay ly cy] λo D J=>?_;refine sA λp F K=>?_;refine zG ?_;refine sC (tU _ (g.t zt)) ?_;rintro _ s w⟨j,rfl,c⟩ M L;obtain⟨rfl,i⟩|⟨rfl,i⟩:=Ky c;refine zG ?_;refine sT #[CV sx,Y ax lx cx,CV sy,Y ay ly cy] ?_;refine sS [CV sx,Y ax lx cx,CV sy,Y ay ly cy] λu G A=>?_;refine zq ?_;exact⟨_,_,_,_,_,_,_,_,ω,(f.t zt).as (e.symm),(g.t zt).as (((wq (mt yr.1 (by have:=d;omega))).trans d).symm)⟩;refine zG ?_;refine sT #[CV sx,Y ax lx cx,CV χ,η] ?_;refine sS [CV sx,Y ax lx cx,CV χ,η] λv H B=>?_;refine zq ?_;exact⟨_,_,_,_,_,_,_,_,ω,(f.t zt).as (e.symm),(E9 _ _).as ((yr.2 (by have:=d;omega)).symm)⟩
def je(k:Nat){x:Int}{y:Int}(g:GG h n)(s:IW h n sx ax lx cx x)(j:IW h n sy ay ly cy y)(hx:x.natAbs<BW)(hy:y.natAbs<BW)(a6:¬y=0):CX (Kp (k+9)) 82 [.agg #[CV sx,Y ax lx cx],.agg #[CV sy,Y ay ly cy]] h n λv I Z1=>∃b a l c g d e f,v=.tuple #[.agg #[CV b,Y a l c],.agg #[CV g,Y d e f]]/\IW I Z1 b a l c (x.tdiv ((Dh x.natAbs y.natAbs:Nat):Int))/\IW I Z1 g d e f (y.tdiv ((Dh x.natAbs y.natAbs:Nat):Int)):=by refine zw (fn:=Tryz.f82) R4<|zG ?_;refine sB [CV sx,Y ax lx cx] λR ag aq=>?_;refine sB [CV sy,Y ay ly cy] λS ah ar=>?_;refine sA λT ai au=>?_;refine sA λZ4 aj av=>?_;refine zG ?_;refine sC (tU _ (j.t zt)) ?_;rintro _ V a7⟨P,rfl,p⟩ b3 aw;obtain⟨rfl,i⟩|⟨rfl,i⟩:=Ky p;refine zG ?_;refine sC (gcdX _ (g.t zt) (s.t zt) (j.t zt) Kv Kv) ?_;rintro _ W a8⟨B,u,L,F,rfl,o⟩ b4 az;refine sA λZ3 ak b0=>?_;refine sS [CV B,Y u L F] λZ0 al ab=>?_;refine zG ?_;refine zl [0,0,3,0,0,31,63,127] rfl<|zH ?_;refine dC (quoX _ (s.t zt) (o.t zt) Kv Kv LS) ?_;rintro _ a0 a9⟨C,w,M,G,rfl,J⟩ b5 b1;refine zH ?_;refine dC (quoX _ (j.t zt) (o.t zt) Kv Kv LS) ?_;rintro _ a1 aa⟨D,A,N,H,rfl,K⟩ b6 b2;refine dS [CV C,Y w M G] λa2 am ac=>?_;refine dS [CV D,Y A N H] λa3 an ad=>?_;refine zq ?_;exact⟨_,_,_,_,_,_,_,_,ω,(J.t zt),(K.t zt)⟩;refine zG ?_;refine zl [0,0,1,7] rfl<|zH ?_;refine dS [CV sx,Y ax lx cx] λa4 ao ae=>?_;refine dS [CV sy,Y ay ly cy] λa5 ap af=>?_;refine zq ?_;exact⟨_,_,_,_,_,_,_,_,ω,(s.t zt).as (by rw[i];simp),(j.t zt).as (by rw[i];simp)⟩
def ZK{x y:Rat}(hx:¬denZ x=0)(e:¬denZ y=0)(h:x.num*((denZ y).tdiv ((Dh (denZ x).natAbs (denZ y).natAbs:Nat):Int))+y.num*((denZ x).tdiv ((Dh (denZ x).natAbs (denZ y).natAbs:Nat):Int))=0):x+y=0:=by have⟨d,l,r,N,s,a,f,g,i,c,j⟩:=AddS.mk' hx e;rw[c]at h;rw[<-FJ,a.res.1,h,Int.zero_tdiv]
def jk{x y:Rat}(hx:¬denZ x=0)(c:¬denZ y=0):(x+y).num=(x.num*((denZ y).tdiv ((Dh (denZ x).natAbs (denZ y).natAbs:Nat):Int))+y.num*((denZ x).tdiv ((Dh (denZ x).natAbs (denZ y).natAbs:Nat):Int))).tdiv ((Dh (x.num*((denZ y).tdiv ((Dh (denZ x).natAbs (denZ y).natAbs:Nat):Int))+y.num*((denZ x).tdiv ((Dh (denZ x).natAbs (denZ y).natAbs:Nat):Int))).natAbs (((Dh (denZ x).natAbs (denZ y).natAbs:Nat):Int)).natAbs:Nat):Int)/\((x+y).den:Int)=((denZ x).tdiv ((Dh (denZ x).natAbs (denZ y).natAbs:Nat):Int))*((denZ y).tdiv ((Dh (x.num*((denZ y).tdiv ((Dh (denZ x).natAbs (denZ y).natAbs:Nat):Int))+y.num*((denZ x).tdiv ((Dh (denZ x).natAbs (denZ y).natAbs:Nat):Int))).natAbs (((Dh (denZ x).natAbs (denZ y).natAbs:Nat):Int)).natAbs:Nat):Int)):=by have⟨d,l,r,N,s,a,i,j,e,f,g⟩:=AddS.mk' hx c;rw[f,g N ω,e];refine⟨a.res.1,?_⟩;rw[a.res.2,EY,wq c,lK]
theorem Sp{x y:Rat}(hx:¬denZ x=0)(c:¬denZ y=0)(h:((Dh (denZ x).natAbs (denZ y).natAbs:Nat):Int)=1):(x+y).num=x.num*((denZ y).tdiv ((Dh (denZ x).natAbs (denZ y).natAbs:Nat):Int))+y.num*((denZ x).tdiv ((Dh (denZ x).natAbs (denZ y).natAbs:Nat):Int))/\((x+y).den:Int)=denZ x*denZ y:=by simp_all [jk,Je,Int.tdiv_one]
def addQ(k:Nat){x:Rat}{y:Rat}(g:GG h n)(s:IW h n sx ax lx cx x.num)(f:IW h n dx ex fx gx (denZ x))(u:IW h n sy ay ly cy y.num)(i:IW h n dy ey fy gy (denZ y))(hx:Sz a x)(hy:Sz b y)(dz:a+b+1<=2496):CX (Kp (k+9)) 72 [.agg #[CV sx,Y ax lx cx,CV dx,Y ex fx gx],.agg #[CV sy,Y ay ly cy,CV dy,Y ey fy gy]] h n (QV (x+y)):=by obtain⟨au,ar⟩:x.num.natAbs<2^a/\(denZ x).natAbs<2^a:=⟨hx.1,hx.z⟩;obtain⟨aw,av⟩:y.num.natAbs<2^b/\(denZ y).natAbs<2^b:=⟨hy.1,hy.z⟩;have bn:=yU au Z;have bm:=yU ar Z;have bp:=yU aw Z;have bo:=yU av Z;refine zw (fn:=Tryz.f72) R4<|zG ?_;refine sB [CV sx,Y ax lx cx,CV dx,Y ex fx gx] λcm fa fu=>?_;refine sB [CV sy,Y ay ly cy,CV dy,Y ey fy gy] λcn fb fv=>?_;refine sA λco fc fw=>?_;refine zG ?_;refine sC (yK _ (f.t zt)) ?_;rintro _ cp e8⟨bz,rfl,P⟩ gt fz;obtain⟨rfl,c⟩|⟨rfl,c⟩:=Ky P;refine zG ?_;refine sC (yK _ (f.t zt)) ?_;rintro _ cq e9⟨c0,rfl,R⟩ gu g0;obtain⟨rfl,d⟩|⟨rfl,d⟩:=Ky R;refine zG ?_;refine sC (yK _ (i.t zt)) ?_;rintro _ cr ea⟨c1,rfl,S⟩ gv g1;obtain⟨rfl,e⟩|⟨rfl,e⟩:=Ky S;refine zG ?_;refine sC (gcdX _ (g.t zt) (f.t zt) (i.t zt) Kv Kv) ?_;rintro _ cs eb⟨a5,Z3,bf,ac,rfl,l⟩ gw g2;refine sA λct fd g3=>?_;refine sS [CV a5,Y Z3 bf ac] λcu fe ez=>?_;refine zG ?_;refine zl [0,1,0,7,0,16,0,127,0,0,1023,2047] rfl<|zH ?_;refine dC (quoX _ (i.t zt) (l.t zt) Kv Kv LS) ?_;rintro _ cv ec⟨a6,Z0,bg,ad,rfl,az⟩ gz g4;refine zH ?_;refine dC (quoX _ (f.t zt) (l.t zt) Kv Kv LS) ?_;rintro _ cw ed⟨a7,a0,bh,ae,rfl,I⟩ i0 g5;refine dB [CV χ,η] λcz ff g6=>?_;refine dB [CV χ,η] λd0 fg g7=>?_;refine dS [CV a6,Y Z0 bg ad] λd1 fh f0=>?_;refine dS [CV a7,Y a0 bh ae] λd2 fi f1=>?_;refine zG ?_;refine zl [0,1,0,7,0,16,0,127,255,0,1023] rfl<|zH ?_;refine dC (mulX _ (s.t zt) (az.t zt) Kv Kv) ?_;rintro _ d3 ee⟨c2,bq,e0,ce,rfl,b0⟩ i1 g8;refine zH ?_;refine dC (mulX _ (u.t zt) (I.t zt) Kv Kv) ?_;rintro _ d4 ef⟨c3,br,e1,cf,rfl,b1⟩ i2 g9;refine dC (addX _ (b0.t zt) b1 Kv Kv) ?_;rintro _ d5 eg⟨a8,a1,bi,af,rfl,o⟩ i3 ga;refine dB [CV χ,η] λd6 fj gb=>?_;refine dS [CV a8,Y a1 bi af] λd7 fk f2=>?_;refine zG ?_;refine sC (yK _ (o.t zt)) ?_;rintro _ d8 eh⟨c4,rfl,T⟩ i4 gc;obtain⟨rfl,N⟩|⟨rfl,N⟩:=Ky T;refine zG ?_;refine sC (tU _ (l.t zt)) ?_;rintro _ d9 ei⟨c5,rfl,Z4⟩ i5 gd;obtain⟨rfl,p⟩|⟨rfl,p⟩:=Ky Z4;refine zG ?_;refine sC (gcdX _ (g.t zt) (o.t zt) (l.t zt) Kv Kv) ?_;rintro _ da ej⟨a9,a2,bj,ag,rfl,J⟩ i6 ge;refine sA λdb fl gf=>?_;refine sS [CV a9,Y a2 bj ag] λdc fm f3=>?_;refine zG ?_;refine zl [0,0,3,0,0,16,0,119,255,511,1023] rfl<|zH ?_;refine dC (quoX _ (o.t zt) (J.t zt) Kv Kv LS) ?_;rintro _ dd ek⟨c6,bs,e2,cg,rfl,b2⟩ i7 gg;refine zH ?_;refine dC (quoX _ (i.t zt) (J.t zt) Kv Kv LS) ?_;rintro _ de el⟨c7,bt,e3,ch,rfl,b3⟩ i8 gh;refine dC (mulX _ (I.t zt) b3 Kv Kv) ?_;rintro _ df em⟨c8,bu,e4,ci,rfl,b4⟩ i9 gi;refine dC (vE _ (b2.t zt) b4 (jk d e).1 (jk d e).2) ?_;rintro _ dg en⟨aa,a3,bk,ah,aj,al,an,ap,rfl,b5,bd⟩ ia gj;refine dS [CV aa,Y a3 bk ah,CV aj,Y al an ap] λdh fo f4=>?_;refine zq ?_;exact⟨_,_,_,_,_,_,_,_,ω,(b5.t zt),(bd.t zt)⟩;refine zG ?_;refine zl [0,0,2,0,8,30,63,127] rfl<|zH ?_;refine dC (mulX _ (f.t zt) (i.t zt) Kv Kv) ?_;rintro _ di eo⟨c9,bv,e5,cj,rfl,b6⟩ ib gk;refine dC (vE _ (o.t zt) b6 (Sp d e p).1 (Sp d e p).2) ?_;rintro _ dj ep⟨ab,a4,bl,ai,ak,am,ao,aq,rfl,b7,be⟩ ic gl;refine dS [CV ab,Y a4 bl ai,CV ak,Y am ao aq] λdk fp f5=>?_;refine zq ?_;exact⟨_,_,_,_,_,_,_,_,ω,(b7.t zt),(be.t zt)⟩;refine zG ?_;refine sT #[CV χ,η,CV χ,η] ?_;refine sS [CV χ,η,CV χ,η] λdl fq f6=>?_;refine zq ?_;exact(show x+y=0 from ZK (c) (e) N)▸QV.zero _ _;refine zG ?_;refine zl [0,1,0,4,15,0,32,127,0,256,1023,2047] rfl<|zH ?_;refine dC (mulX _ (u.t zt) (f.t zt) Kv Kv) ?_;rintro _ dm eq⟨ca,bw,e6,ck,rfl,b8⟩ id gm;refine zH ?_;refine dC (addX _ b8 (s.t zt) Kv Kv) ?_;rintro _ dn er⟨B,v,K,F,rfl,b9⟩ ie gn;refine zH ?_;refine dT #[CV B,Y v K F,CV dx,Y ex fx gx] ?_;refine dS [CV B,Y v K F,CV dx,Y ex fx gx] λdp fr f7=>?_;refine zq ?_;exact⟨_,_,_,_,_,_,_,_,ω,(b9.t zt).as ((Sm d e).1.symm),(f.t zt).as ((Sm d e).2.symm)⟩;exact CO d c;refine zG ?_;refine sC (yK _ (i.t zt)) ?_;rintro _ dq es⟨cb,rfl,V⟩ ig go;obtain⟨rfl,j⟩|⟨rfl,j⟩:=Ky V;refine zG ?_;refine sC (yK _ (f.t zt)) ?_;rintro _ dr et⟨cc,rfl,W⟩ ii gp;obtain⟨rfl,Z1⟩|⟨rfl,Z1⟩:=Ky W;exact CO c Z1;refine zG ?_;refine zl [0,1,0,4,15,0,32,127,0,256,1023,2047] rfl<|zH ?_;refine dC (mulX _ (s.t zt) (i.t zt) Kv Kv) ?_;rintro _ ds eu⟨cd,bx,e7,cl,rfl,ba⟩ ij gq;refine zH ?_;refine dC (addX _ ba (u.t zt) Kv Kv) ?_;rintro _ dt ev⟨C,w,L,G,rfl,bb⟩ ik gr;refine zH ?_;refine dT #[CV C,Y w L G,CV dy,Y ey fy gy] ?_;refine dS [CV C,Y w L G,CV dy,Y ey fy gy] λdu fs f8=>?_;refine zq ?_;exact⟨_,_,_,_,_,_,_,_,ω,(bb.t zt).as ((Pv c j).1.symm),(i.t zt).as ((Pv c j).2.symm)⟩;refine zG ?_;refine sC (addX _ (s.t zt) (u.t zt) Kv Kv) ?_;rintro _ dv ew⟨D,A,M,H,rfl,bc⟩ il gs;refine sT #[CV D,Y A M H,CV χ,η] ?_;refine sS [CV D,Y A M H,CV χ,η] λdw ft f9=>?_;refine zq ?_;exact⟨_,_,_,_,_,_,_,_,ω,(bc.t zt).as ((Ow c j).1.symm),(E9 _ _).as ((Ow c j).2.symm)⟩
theorem Ox{x y:Rat}(hx:denZ x=0)(c:denZ y=0):(x*y).num=x.num*y.num/\denZ (x*y)=0:=by simp_all [yr,sf,si]
theorem km(x y:Rat):(x*y).num=(x.num.tdiv ((Dh x.num.natAbs ((y.den:Int)).natAbs:Nat):Int))*(y.num.tdiv ((Dh y.num.natAbs ((x.den:Int)).natAbs:Nat):Int))/\((x*y).den:Int)=((x.den:Int).tdiv ((Dh y.num.natAbs ((x.den:Int)).natAbs:Nat):Int))*((y.den:Int).tdiv ((Dh x.num.natAbs ((y.den:Int)).natAbs:Nat):Int)):=by grind [only,lK,ZD,Dk,G0,FM.2,Fo,EY]
def mulQ(k:Nat){x:Rat}{y:Rat}(g:GG h n)(c:IW h n sx ax lx cx x.num)(C:IW h n dx ex fx gx (denZ x))(d:IW h n sy ay ly cy y.num)(D:IW h n dy ey fy gy (denZ y))(hx:Sz a x)(B:Sz b y)(dz:a+b<=2496):CX (Kp (k+10)) 38 [.agg #[CV sx,Y ax lx cx,CV dx,Y ex fx gx],.agg #[CV sy,Y ay ly cy,CV dy,Y ey fy gy]] h n (QV (x*y)):=by obtain⟨ap,an⟩:x.num.natAbs<2^a/\(denZ x).natAbs<2^a:=⟨hx.1,hx.z⟩;obtain⟨au,aq⟩:y.num.natAbs<2^b/\(denZ y).natAbs<2^b:=⟨B.1,B.z⟩;have bq:=yU ap Z;have bo:=yU an Z;have bt:=yU au Z;have br:=yU aq Z;have e0:=x.den_pos;have e1:=y.den_pos;have ao:((x.den:Int)).natAbs<2^a:=hx.2;have ar:((y.den:Int)).natAbs<2^b:=B.2;have bp:=yU ao Z;have bs:=yU ar Z;refine zw (fn:=Tryz.f38) R4<|zG ?_;refine sB [CV sx,Y ax lx cx,CV dx,Y ex fx gx] λcn f8 fz=>?_;refine sB [CV sy,Y ay ly cy,CV dy,Y ey fy gy] λco f9 g0=>?_;refine sA λcp fa g1=>?_;refine zG ?_;refine sC (yK _ (c.t zt)) ?_;rintro _ cq ea⟨c3,rfl,u⟩ gt g2;obtain⟨rfl,p⟩|⟨rfl,p⟩:=Ky u;refine zG ?_;refine sC (yK _ (d.t zt)) ?_;rintro _ cr eb⟨c4,rfl,v⟩ gu g3;obtain⟨rfl,s⟩|⟨rfl,s⟩:=Ky v;refine zG ?_;refine sC (yK _ (C.t zt)) ?_;rintro _ cs ec⟨c5,rfl,w⟩ gv g4;obtain⟨rfl,e⟩|⟨rfl,e⟩:=Ky w;refine zG ?_;refine zl [0,1,0,4,15,31,63,63,0,0,895,2047] rfl<|zH ?_;refine dC (denQ _ (d.t zt) (D.t zt)) ?_;rintro _ ct ed⟨c6,bu,e2,cf,rfl,av⟩ gw g5;refine dC (je _ (g.t zt) (c.t zt) av Kv Kv Z) ?_;rintro _ cu ee⟨L,F,bi,S,ah,Z0,a5,ab,rfl,aw,bc⟩ gz g6;refine zH ?_;refine dB [CV χ,η] λcv fb g7=>?_;refine dB [CV χ,η] λcw fc g8=>?_;refine dS [CV L,Y F bi S] λcz fd et=>?_;refine dS [CV ah,Y Z0 a5 ab] λd0 fe eu=>?_;refine zG ?_;refine zl [0,1,0,4,15,31,63,63,0,0,895,2047] rfl<|zH ?_;refine dC (denQ _ (c.t zt) (C.t zt)) ?_;rintro _ d1 ef⟨c7,bv,e3,cg,rfl,az⟩ i0 g9;refine dC (je _ (g.t zt) (d.t zt) az Kv Kv Z) ?_;rintro _ d2 eg⟨M,G,bj,T,ai,a0,a6,ac,rfl,b0,bd⟩ i1 ga;refine zH ?_;refine dB [CV χ,η] λd3 ff gb=>?_;refine dB [CV χ,η] λd4 fg gc=>?_;refine dS [CV M,Y G bj T] λd5 fh ev=>?_;refine dS [CV ai,Y a0 a6 ac] λd6 fi ew=>?_;refine zG ?_;refine zl [0,0,3,0,0,31,63,127] rfl<|zH ?_;refine dC (mulX _ (aw.t zt) (b0.t zt) Kv Kv) ?_;rintro _ d7 eh⟨c8,bw,e4,ch,rfl,b1⟩ i2 gd;refine zH ?_;refine dC (mulX _ (bd.t zt) (bc.t zt) Kv Kv) ?_;rintro _ d8 ei⟨c9,bx,e5,ci,rfl,b2⟩ i3 ge;refine dC (vE _ (b1.t zt) b2 (km x y).1 (km x y).2) ?_;rintro _ d9 ej⟨N,H,bk,Z4,a1,a7,ad,aj,rfl,b3,be⟩ i4 gf;refine dS [CV N,Y H bk Z4,CV a1,Y a7 ad aj] λda fj ez=>?_;refine zq ?_;exact⟨_,_,_,_,_,_,_,_,ω,(b3.t zt),(be.t zt)⟩;refine zG ?_;refine sC (yK _ (D.t zt)) ?_;rintro _ db ek⟨ca,rfl,A⟩ i5 gg;obtain⟨rfl,f⟩|⟨rfl,f⟩:=Ky A;refine zG ?_;refine zl [0,1,0,4,15,31,63,63,0,0,895,2047] rfl<|zH ?_;refine dC (denQ _ (d.t zt) (D.t zt)) ?_;rintro _ dc el⟨cb,bz,e6,cj,rfl,b4⟩ i6 gh;refine dC (je _ (g.t zt) (c.t zt) b4 Kv Kv Z) ?_;rintro _ dd em⟨Z1,I,bl,V,ak,a2,a8,ae,rfl,b5,bf⟩ i7 gi;refine zH ?_;refine dB [CV χ,η] λde fk gj=>?_;refine dB [CV χ,η] λdf fl gk=>?_;refine dS [CV Z1,Y I bl V] λdg fm f0=>?_;refine dS [CV ak,Y a2 a8 ae] λdh fo f1=>?_;refine zG ?_;refine zl [0,1,0,4,15,31,63,63,0,0,895,2047] rfl<|zH ?_;refine dC (denQ _ (c.t zt) (C.t zt)) ?_;rintro _ di en⟨cc,c0,e7,ck,rfl,b6⟩ i8 gl;refine dC (je _ (g.t zt) (d.t zt) b6 Kv Kv Z) ?_;rintro _ dj eo⟨P,J,bm,W,al,a3,a9,af,rfl,b7,bg⟩ i9 gm;refine zH ?_;refine dB [CV χ,η] λdk fp gn=>?_;refine dB [CV χ,η] λdl fq go=>?_;refine dS [CV P,Y J bm W] λdm fr f2=>?_;refine dS [CV al,Y a3 a9 af] λdn fs f3=>?_;refine zG ?_;refine zl [0,0,3,0,0,31,63,127] rfl<|zH ?_;refine dC (mulX _ (b5.t zt) (b7.t zt) Kv Kv) ?_;rintro _ dp ep⟨cd,c1,e8,cl,rfl,b8⟩ ia gp;refine zH ?_;refine dC (mulX _ (bg.t zt) (bf.t zt) Kv Kv) ?_;rintro _ dq eq⟨ce,c2,e9,cm,rfl,b9⟩ ib gq;refine dC (vE _ (b8.t zt) b9 (km x y).1 (km x y).2) ?_;rintro _ dr er⟨R,K,bn,Z3,a4,aa,ag,am,rfl,ba,bh⟩ ic gr;refine dS [CV R,Y K bn Z3,CV a4,Y aa ag am] λds ft f4=>?_;refine zq ?_;exact⟨_,_,_,_,_,_,_,_,ω,(ba.t zt),(bh.t zt)⟩;refine zG ?_;refine sC (mulX _ (c.t zt) (d.t zt) Kv Kv) ?_;rintro _ dt es⟨j,i,o,l,rfl,bb⟩ id gs;refine sT #[CV j,Y i o l,CV χ,η] ?_;refine sS [CV j,Y i o l,CV χ,η] λdu fu f5=>?_;refine zq ?_;exact⟨_,_,_,_,_,_,_,_,ω,(bb.t zt).as ((Ox e f).1.symm),(E9 _ _).as ((Ox e f).2.symm)⟩;refine zG ?_;refine sT #[CV χ,η,CV χ,η] ?_;refine sS [CV χ,η,CV χ,η] λdv fv f6=>?_;refine zq ?_;exact(show x*y=0 from by rw[FJ.1 s,Rat.mul_zero])▸QV.zero _ _;refine zG ?_;refine sT #[CV χ,η,CV χ,η] ?_;refine sS [CV χ,η,CV χ,η] λdw fw f7=>?_;refine zq ?_;exact(show x*y=0 from by rw[FJ.1 p,Rat.zero_mul])▸QV.zero _ _
theorem ny{s:Int}{a b c A B C:Prop}(e:(a->A)/\(b->B)/\(c->C))(q:s= -1/\a\/s=0/\b\/s=1/\c):s= -1/\A\/s=0/\B\/s=1/\C:=by grind
def pK{x y:Rat}:(x.num*(y.den:Int)<y.num*(x.den:Int)->x<y)/\(x.num*(y.den:Int)=y.num*(x.den:Int)->x=y)/\(y.num*(x.den:Int)<x.num*(y.den:Int)->y<x):=⟨(jc x y).1.2,(jc x y).2.1.2,(jc x y).2.2.2⟩
def ZL{x y:Rat}(hx:denZ x=0)(c:denZ y=0):(x.num<y.num->x<y)/\(x.num=y.num->x=y)/\(y.num<x.num->y<x):=by have:=pK (x:=x) (y:=y);rw[yr.1 hx,yr.1 c]at this;simpa using this
def az{x y:Rat}(h:x.num<0/\0<=y.num\/x.num<=0/\0<y.num\/y.num<0/\0<=x.num\/y.num<=0/\0<x.num):(x.num<y.num->x<y)/\(x.num=y.num->x=y)/\(y.num<x.num->y<x):=by have d:=pK (x:=x) (y:=y);have i:=x.den_pos;have j:=y.den_pos;refine⟨λe=>d.1 ?_,λe=>Z,λe=>d.2.2 ?_⟩;obtain c|c:=an5 x.num 0;have f:=IZ c (show(0:Int)<y.den from Z);have g:=aj0 (show 0<=y.num from Z) (show(0:Int)<=x.den from Z);omega;have:x.num=0:=Z;rw[this,GI];exact G3 Z Z;obtain c|c:=an5 y.num 0;have f:=IZ c (show(0:Int)<x.den from Z);have g:=aj0 (show 0<=x.num from Z) (show(0:Int)<=y.den from Z);omega;have:y.num=0:=Z;rw[this,GI];exact G3 Z Z
def xp(k:Nat){x:Rat}{y:Rat}(c:IW h n sx ax lx cx x.num)(e:IW h n dx ex fx gx (denZ x))(d:IW h n sy ay ly cy y.num)(f:IW h n dy ey fy gy (denZ y))(hx:Sz a x)(o:Sz b y)(bj:a+b<=2496):VF (Kp (k+6)) 103 [.agg #[CV sx,Y ax lx cx,CV dx,Y ex fx gx],.agg #[CV sy,Y ay ly cy,CV dy,Y ey fy gy]] h n λv=>∃s:Int,v=U .i64 s/\(s= -1/\x<y\/s=0/\x=y\/s=1/\y<x):=by obtain⟨w,p⟩:x.num.natAbs<2^a/\(denZ x).natAbs<2^a:=⟨hx.1,hx.z⟩;obtain⟨C,A⟩:y.num.natAbs<2^b/\(denZ y).natAbs<2^b:=⟨o.1,o.z⟩;have Z0:=yU w Z;have W:=yU p Z;have a2:=yU C Z;have a0:=yU A Z;have bk:=x.den_pos;have bl:=y.den_pos;have u:((x.den:Int)).natAbs<2^a:=hx.2;have B:((y.den:Int)).natAbs<2^b:=o.2;have Z3:=yU u Z;have a1:=yU B Z;refine zO (fn:=Tryz.f103) R4<|zG ?_;refine sB [CV sx,Y ax lx cx,CV dx,Y ex fx gx] λav ce cp=>?_;refine sB [CV sy,Y ay ly cy,CV dy,Y ey fy gy] λaw cf cq=>?_;refine zG ?_;refine zl [0,1,3,7,15,31,63,127,255,511,1023,511,4095,8191,16383] rfl<|zH ?_;refine dC (yK _ (e.t zt)) ?_;rintro _ b0 bu⟨ab,rfl,j⟩ dc cr;obtain⟨rfl,g⟩|⟨rfl,g⟩:=Ky j;refine zH ?_;refine dC (fD _ (c.t zt) (e.t zt)) ?_;rintro _ b1 bv⟨S,rfl,cg⟩ dd cs;refine zH ?_;refine dC (fD _ (d.t zt) (f.t zt)) ?_;rintro _ b2 bw⟨T,rfl,ch⟩ de ct;by_cases q16:S=T;refine zJ ?_;refine zl [0,1,0,4,15,0,32,0,159,511,1023,2047] rfl<|zH ?_;refine dC (denQ _ (d.t zt) (f.t zt)) ?_;rintro _ b3 bx⟨ac,a3,bm,al,rfl,D⟩ df cu;refine dC (mulX _ (c.t zt) D Kv Kv) ?_;rintro _ b4 bz⟨ad,a4,bn,am,rfl,F⟩ dg cv;refine zH ?_;refine dC (denQ _ (c.t zt) (e.t zt)) ?_;rintro _ b5 c0⟨ae,a5,bo,an,rfl,G⟩ dh cw;refine dC (mulX _ (d.t zt) G Kv Kv) ?_;rintro _ b6 c1⟨af,a6,bp,ao,rfl,H⟩ di cz;refine dC (rO _ (F.t zt) H Kv Kv) ?_;rintro _ b7 c2⟨ck,rfl,M⟩ dj d0;refine zf ?_;exact⟨_,ω,ny (pK) M⟩;refine zJ ?_;refine sC (rO _ (c.t zt) (d.t zt) Kv Kv) ?_;rintro _ b8 c3⟨cl,rfl,N⟩ dk d1;refine zf ?_;exact⟨_,ω,ny (az Z) N⟩;refine zH ?_;refine dC (yK _ (f.t zt)) ?_;rintro _ b9 c4⟨ag,rfl,l⟩ dl d2;obtain⟨rfl,i⟩|⟨rfl,i⟩:=Ky l;refine zH ?_;refine dC (fD _ (c.t zt) (e.t zt)) ?_;rintro _ ba c5⟨Z4,rfl,ci⟩ dm d3;refine zH ?_;refine dC (fD _ (d.t zt) (f.t zt)) ?_;rintro _ bb c6⟨V,rfl,cj⟩ dn d4;by_cases q26:Z4=V;refine zJ ?_;refine zl [0,1,0,4,15,0,32,0,159,511,1023,2047] rfl<|zH ?_;refine dC (denQ _ (d.t zt) (f.t zt)) ?_;rintro _ bc c7⟨ah,a7,bq,ap,rfl,I⟩ dp d5;refine dC (mulX _ (c.t zt) I Kv Kv) ?_;rintro _ bd c8⟨ai,a8,br,aq,rfl,J⟩ dq d6;refine zH ?_;refine dC (denQ _ (c.t zt) (e.t zt)) ?_;rintro _ be c9⟨aj,a9,bs,ar,rfl,K⟩ dr d7;refine dC (mulX _ (d.t zt) K Kv Kv) ?_;rintro _ bf ca⟨ak,aa,bt,au,rfl,L⟩ ds d8;refine dC (rO _ (J.t zt) L Kv Kv) ?_;rintro _ bg cb⟨cm,rfl,Z1⟩ dt d9;refine zf ?_;exact⟨_,ω,ny (pK) Z1⟩;refine zJ ?_;refine sC (rO _ (c.t zt) (d.t zt) Kv Kv) ?_;rintro _ bh cc⟨cn,rfl,P⟩ du da;refine zf ?_;exact⟨_,ω,ny (az Z) P⟩;refine zJ ?_;refine sC (rO _ (c.t zt) (d.t zt) Kv Kv) ?_;rintro _ bi cd⟨co,rfl,R⟩ dv db;refine zf ?_;exact⟨_,ω,ny (ZL g i) R⟩
def z8{S:List (List UInt8)}{h:HF}{n:Nat}{a:Option Addr}{len cap:Nat}(d:Sl h n 1 (Y a len cap) (strs S)):len=O S:=by have⟨g,f,b,e,c⟩:=d.len;injection e with e1 e2 e3;rw[Yn]at c;omega
theorem ZM(m:Nat)(l:List ψ):O (rep m l)=m*O l:=by induction m<;>grind [rep]
def BX:Nat:=18446744073709551616^60
def Li{e:Nat}(h:m<2^e)(i:e<=3840):m<BX:=by have f:e<=64*60:=i;generalize hk:60=k at f;have g:m<(2^64)^k:=(by rw[<-Nat.pow_mul];exact Dm h (Dd zd f));subst hk;exact g
def ZN{x y:Int}(hx:x.natAbs<2^a)(f:y.natAbs<2^b)(h:a+b<=3840):(x*y).natAbs<BX:=Li (sw hx f) h
def ZO{x y u v:Int}(hx:x.natAbs<2^a)(f:y.natAbs<2^b)(hu:u.natAbs<2^b)(hv:v.natAbs<2^a)(h:a+b+1<=3840):(x*y+u*v).natAbs<BX:=
 Li (dJ (sw hx f) (by rw[EE a b];exact sw hu hv)) h
def ZP{x y u v:Int}(hx:x.natAbs<2^a)(j:y.natAbs<2^d)(hu:u.natAbs<2^b)(hv:v.natAbs<2^c)(f:a+d<=3839)(g:b+c<=3839):(x*y+u*v).natAbs<BX:=by obtain⟨e,i⟩:∃e,e=3839:=⟨_,ω⟩;rw[<-i]at f g;exact Li (e:=e+1) (dJ (Dm (sw hx j) (Dd zd f)) (Dm (sw hu hv) (Dd zd g))) Z
def KR{x:Int}(h:x.natAbs<BX:=by first|assumption|exact ZN ‹_› ‹_› Z|exact ZO ‹_› ‹_› ‹_› ‹_› Z|exact ZP ‹_› ‹_› ‹_› ‹_› Z Z|exact Li (e:=1) zd zd):x.natAbs<BX:=h
def BD:Nat:=BX
def Sq{e:Nat}(h:m<2^e)(f:e<=3840):m<BD:=Li h f
def ZQ{x y:Int}(hx:x.natAbs<2^a)(f:y.natAbs<2^b)(h:a+b<=3840):(x*y).natAbs<BD:=Sq (sw hx f) h
def Oy{x:Int}(h:x.natAbs<BD:=by first|assumption|exact ZQ ‹_› ‹_› Z|exact Sq (e:=1) zd zd):x.natAbs<BD:=h
def UW(h:HF)(n:Nat)(a:Option Addr)(l c m:Nat):Prop:=∃L,Sl h n 1 (Y a l c) (u32s L)/\Norm L/\val L=m
def UW.ext{h:HF}{n:Nat}{a:Option Addr}(i:UW h n a l c m)(e:Ko n h h')(o:n<=n'):UW h' n' a l c m:=by have⟨L,f,g,j⟩:=i;exact⟨L,f.ext e o,g,j⟩
def UW.only{h:HF}{n f:Nat}{a:Option Addr}(i:UW h n a l c m)(s:h f=ξ (.row cs e))(hu:cs.all nu=φ)(p:Only f h h'):UW h' n a l c m:=by have⟨L,g,j,o⟩:=i;exact⟨L,g.only32 s hu p,j,o⟩
def UW.t{h:HF}{n:Nat}{a:Option Addr}(i:UW h n a l c m)(t:Tr n h n' h'):UW h' n' a l c m:=by have⟨L,f,g,j⟩:=i;exact⟨L,f.trG (λx o=>by obtain⟨d,_,rfl⟩:=D2.1 o;rfl) t,g,j⟩
def UW.zero{h:HF}{n:Nat}{a:Option Addr}(i:UW h n a l c m):l=0↔m=0:=by have⟨L,f,g,j⟩:=i;have e:=f.lenU;rw[<-j,g.zero,<-De,e]
def UW.nil(h:HF)(n:Nat):UW h n θ 0 0 0:=⟨[],.nil (.inl ω),Norm.nil,ω⟩
def UI(h:HF)(n:Nat)(b:Bool)(a:Option Addr)(l c:Nat)(x:Int):Prop:=b=decide (x<0)/\UW h n a l c x.natAbs
def UI.ext{h:HF}{n:Nat}{b:Bool}{a:Option Addr}{x:Int}(i:UI h n b a l c x)(e:Ko n h h')(f:n<=n'):UI h' n' b a l c x:=⟨i.1,i.2.ext e f⟩
def UI.only{h:HF}{n f:Nat}{b:Bool}{a:Option Addr}{x:Int}(i:UI h n b a l c x)(j:h f=ξ (.row cs e))(hu:cs.all nu=φ)(g:Only f h h'):UI h' n b a l c x:=⟨i.1,i.2.only j hu g⟩
def UI.t{h:HF}{n:Nat}{b:Bool}{a:Option Addr}{x:Int}(i:UI h n b a l c x)(t:Tr n h n' h'):UI h' n' b a l c x:=⟨i.1,i.2.t t⟩
def UI.as{h:HF}{n:Nat}{b:Bool}{a:Option Addr}{x y:Int}(i:UI h n b a l c x)(e:x=y):UI h n b a l c y:=e▸i
def UI.lt{h:HF}{n:Nat}{a:Option Addr}{x:Int}(i:UI h n φ a l c x):x<0:=of_decide_eq_true i.1.symm
def UI.ge{h:HF}{n:Nat}{a:Option Addr}{x:Int}(i:UI h n χ a l c x):0<=x:=J9.1 (of_decide_eq_false i.1.symm)
def UI.zero(h:HF)(n:Nat):UI h n χ θ 0 0 0:=⟨ω,UW.nil h n⟩
def UV(m:Nat)(v:ψ)(h:HF)(n:Nat):Prop:=∃a l c,v=Y a l c/\UW h n a l c m
def Nh(x:Int)(v:ψ)(h:HF)(n:Nat):Prop:=∃b a l c,v=.agg #[CV b,Y a l c]/\UI h n b a l c x
def NQ(q:Rat)(v:ψ)(h:HF)(n:Nat):Prop:=∃b a l c d e f g,v=.agg #[CV b,Y a l c,CV d,Y e f g]/\UI h n b a l c q.num/\UI h n d e f g (denZ q)
def NQ.zero(h:HF)(n:Nat):NQ 0 (.agg #[CV χ,η,CV χ,η]) h n:=⟨_,_,_,_,_,_,_,_,ω,UI.zero h n,UI.zero h n⟩
def Norm.len800(h:Norm L)(hb:val L<BX):O L<=1200:=by refine h.len_pow (Dm hb ?_);unfold BX;decide+kernel
def UI.r{h:HF}{n:Nat}{b:Bool}{a:Option Addr}{x:Int}(i:UI h n b a l c x):∃L,IntR h n (CV b) (Y a l c) x L:=by have⟨e,L,f,g,j⟩:=i;exact⟨L,by rw[e],f,g,j⟩
def IntR.ui{h:HF}{n:Nat}{c1 c2:ψ}{x:Int}(i:IntR h n c1 c2 x L):∃b a l c,c1=CV b/\c2=Y a l c/\UI h n b a l c x:=by obtain⟨rfl,f,g,j⟩:=i;obtain⟨a,l,c,rfl,_⟩:=f.len;exact⟨_,_,_,_,ω,ω,ω,L,f,g,j⟩
def RatR.nq{h:HF}{n:Nat}(r:RatR h n n1 n2 d1 d2 q ln ld):NQ q (.agg #[n1,n2,d1,d2]) h n:=by obtain⟨b,a,l,c,rfl,rfl,i⟩:=r.num.ui;obtain⟨_,rfl,f,g,j⟩:=r;obtain⟨o,s,p,rfl,_⟩:=f.len;refine⟨_,_,_,_,_,_,_,_,ω,i,?_,ld,f,g,?_⟩;unfold denZ;split<;>simp;rw[j];unfold denZ;split<;>simp
theorem NQ.r{h:HF}{n:Nat}{b d:Bool}{a e:Option Addr}{f g:Nat}(i:UI h n b a l c q.num)(j:UI h n d e f g (denZ q)):∃ln ld,RatR h n (CV b) (Y a l c) (CV d) (Y e f g) q ln ld/\(∀m,Sz m q->m<=3840->O ln<=1200/\O ld<=1200):=by have⟨ln,o⟩:=i.r;have⟨B,ld,C,p,s⟩:=j;refine⟨ln,ld,⟨o,?_,C,p,?_⟩,λm A u=>⟨o.norm.len800 (by rw[o.val];exact Li A.1 u),p.len800 (by rw[s];exact Li A.z u)⟩⟩;rw[B];unfold denZ;split<;>simp;rw[s];unfold denZ;split<;>simp
def NewU.uv{n:Nat}{h:HF}(r:NewU n h v h' n' w L)(e:val L=m):Gw n h (UV m) v h' n' w:=by obtain⟨f,g,i,a,c,rfl,j,o,_⟩:=r;exact⟨f,g,i,_,_,_,ω,L,j,o,e⟩
def LN(k:Nat){h:HF}{n:Nat}{a:Option Addr}(i:UW h n a l c m)(neg:Bool):CX (Kp (k+1)) 86 [CV neg,Y a l c] h n (Nh (Ll neg m)):=by refine wc (Mw k h n neg a l c) ?_;rintro _ h' n' _⟨rfl,rfl,rfl,f⟩;refine⟨ω,Du _,f,_,_,_,_,ω,?_,?_⟩;rw[Sd];have:=i.zero;congr 1;by_cases h0:0<l;rw[CN h0,CN Z];rw[CM h0,CM Z];rw[Sc];exact i.ext f Zq
section
variable (k:Nat){h:HF}{n:Nat}{a1 a2:Option Addr}{l1 c1 l2 c2 x y:Nat}
def Sr(i:UW h n a1 l1 c1 x)(j:UW h n a2 l2 c2 y)(hb:x<BX/\y<BX):CX (Kp (k+2)) 123 [Y a1 l1 c1,Y a2 l2 c2] h n (UV (x+y)):=by obtain⟨A,o,f,rfl⟩:=i;obtain⟨C,p,g,rfl⟩:=j;have:=f.len800 hb.1;have:=g.len800 hb.2;refine wc (Ro k o p f.1 g.1 Z) ?_;exact Cs
def Ni(i:UW h n a1 l1 c1 x)(j:UW h n a2 l2 c2 y)(hb:x<BX/\y<BX)(f:y<=x):CX (Kp (k+2)) 187 [Y a1 l1 c1,Y a2 l2 c2] h n (UV (x-y)):=by obtain⟨A,p,g,rfl⟩:=i;obtain⟨C,s,o,rfl⟩:=j;have:=g.len800 hb.1;refine wc (Xx k p s g.1 o.1 Z (g.len_le o f) f) ?_;exact Cs
def Oz(i:UW h n a1 l1 c1 x)(j:UW h n a2 l2 c2 y)(hb:x<BX/\y<BX):CX (Kp (k+2)) 87 [Y a1 l1 c1,Y a2 l2 c2] h n (UV (x*y)):=by obtain⟨A,o,f,rfl⟩:=i;obtain⟨C,p,g,rfl⟩:=j;have:=f.len800 hb.1;have:=g.len800 hb.2;refine wc (Rq k o p f.1 g.1 Z) ?_;exact Cs
def Ss(i:UW h n a1 l1 c1 x)(j:UW h n a2 l2 c2 y)(hb:x<BX/\y<BX):CX (Kp (k+1)) 153 [Y a1 l1 c1,Y a2 l2 c2] h n (NF ((x:Int)-y)):=by obtain⟨A,g,f,rfl⟩:=i;obtain⟨C,o,p,rfl⟩:=j;have:=f.len800 hb.1;refine(Rk k g o f p Z).cx.mono ?_;rintro _ _ _ rfl;refine⟨_,ω,?_⟩;obtain h|h|h:=Nat.lt_trichotomy (val A) (val C);exact .inl ⟨sM h,Z⟩;exact .inr (.inl ⟨by rw[h];exact jd _,Z⟩);exact .inr (.inr ⟨sO h,Z⟩)
def ZR(h:HF)(n:Nat):CX (Kp (k+2)) 92 [U .i64 1] h n (Nh 1):=by refine wc (Xc k h n 1 zd) ?_;rintro _ h' n' w⟨f,g,j,c1,c2,L,rfl,r,_⟩;obtain⟨b,a,l,c,rfl,rfl,i⟩:=r.ui;exact⟨f,g,j,_,_,_,_,ω,i⟩
end
def ZS(k:Nat){h:HF}{n:Nat}{b:Bool}{a:Option Addr}{x:Int}(i:UI h n b a l c x):CX (Kp (k+2)) 88 [.agg #[CV b,Y a l c]] h n (Nh (-x)):=by have⟨L,r⟩:=i.r;refine wc (Ps k r) ?_;rintro _ h' n' w⟨f,g,j,c1,rfl,r⟩;obtain⟨b,a,l,c,rfl,e,i⟩:=r.ui;cases e;exact⟨f,g,j,_,_,_,_,ω,i⟩
def OA(k:Nat){h:HF}{n:Nat}{a1 a2:Option Addr}{l1 c1 l2 c2:Nat}{x y:Int}(i:UI h n b1 a1 l1 c1 x)(j:UI h n b2 a2 l2 c2 y)(hx:x.natAbs<BX)(B:y.natAbs<BD)(f:y≠0)(u:DT x y=q):CX (Kp (k+5)) 41 [.agg #[CV b1,Y a1 l1 c1],.agg #[CV b2,Y a2 l2 c2]] h n (NQ q):=by have⟨A,r⟩:=i.r;have⟨C,s⟩:=j.r;have:=r.norm.len800 (by rw[r.val];exact hx);have:=s.norm.len800 (by rw[s.val];exact B);refine wc (RK k r s f Z) ?_;rintro _ h' n' w⟨g,o,p,G,H,D,F,ln,ld,rfl,r,_⟩;rw[u]at r;exact⟨g,o,p,r.nq⟩
def ZT(k:Nat){h:HF}{n:Nat}{b d:Bool}{a e:Option Addr}{f g:Nat}(i:UI h n b a l c q.num)(j:UI h n d e f g (denZ q)):CX (Kp (k+2)) 100 [.agg #[CV b,Y a l c,CV d,Y e f g]] h n (NF q.num):=by have⟨ln,ld,r,_⟩:=NQ.r i j;refine(Xd k r).cx.mono ?_;rintro _ _ _ rfl;refine⟨_,ω,?_⟩;obtain h|h|h:=Int.lt_trichotomy q.num 0;exact .inl ⟨Int.sign_eq_neg_one_of_neg h,h⟩;exact .inr (.inl ⟨by rw[h];rfl,h⟩);exact .inr (.inr ⟨Int.sign_eq_one_of_pos h,h⟩)
theorem ZU(k:Nat){h:HF}{n:Nat}{b d:Bool}{a e:Option Addr}{f g:Nat}(i:UI h n b a l c q.num)(j:UI h n d e f g (denZ q))(hm:Sz m q)(hb:m<=3840):VF (Kp (k+4)) 13 [.agg #[CV b,Y a l c,CV d,Y e f g]] h n λv=>v=CY ⟨⟨ratT q⟩⟩:=by grind [NQ.r,Ri]
def PA(k:Nat)(h:HF)(n:Nat)(s:List UInt8)(F:O s<1000000):CX (Kp (k+6)) 43 [CY ⟨⟨s⟩⟩] h n λv h' n'=>∃b a l c d e f g p,∃q:Rat,v=.tuple #[.agg #[CV b,Y a l c,CV d,Y e f g],CV p]/\UI h' n' b a l c q.num/\UI h' n' d e f g (denZ q)/\(p=φ->ratT q=s)/\(vF s->p=φ):=by refine wc (Yg k h n s F) ?_;rintro _ h' n' w⟨u,A,B,n1,n2,d1,d2,q,ln,ld,p,rfl,r,_,_,_,_,C,D⟩;have⟨b,a,l,c,d,e,f,g,o,i,j⟩:=r.nq;injection o with o;injection o with o;injection o with e2 o;injection o with e3 o;injection o with e4 o;injection o with e5 _;subst e2 e3 e4 e5;exact⟨u,A,B,_,_,_,_,_,_,_,_,p,q,ω,i,j,C,D⟩
end Go.Proofs.YteoagenjaemllaaGreatDoor
namespace Go.Proofs.YteoagenjaemllaaGreatDoor
variable {s:List UInt8}{V a b:Nat}
def KG(b:UInt8):Bool:=decide (48<=b.toNat/\b.toNat<=57)
theorem nh{b:UInt8}:KG b=φ↔48<=b.toNat/\b.toNat<=57:=by unfold KG;simp
theorem AllD.all:AllD s↔∀b∈s,KG b=φ:=by grind [AllD,nh]
def um{p:UInt8->Bool}:∀b∈s.takeWhile p,p b=φ:=by
 induction s with
 |nil=>intro b c;simp at c
 |cons x s ih=>
  intro b c;rw[IE]at c;split at c;rename_i h;obtain rfl|c:=DA.1 c;exact h;exact ih b c;simp at c
def rk{a r:List UInt8}(d:AllD a)(i:r=[]\/∃x e,r=x::e/\KG x=χ):(a++r).takeWhile KG=a/\(a++r).dropWhile KG=r:=by
 induction a with
 |nil=>
  obtain rfl|⟨x,e,rfl,j⟩:=i;exact⟨ω,ω⟩;simp[IE,J3,j]
 |cons b a ih=>
  have f:KG b=φ:=nh.2 (d b cA);have:=ih λc g=>d c (by simp[g]);simp only[Gn,IE,J3,f,if_true];exact⟨by rw[this.1],this.2⟩
def Su{a b:UInt8}(h:a.toNat=b.toNat):a=b:=Gz.1 h
def bQ{b:UInt8}(h:48<=b.toNat/\b.toNat<=57):EA (48+(b.toNat-48))=b:=by apply Su;rw[Ok Z];omega
def PC{d:List UInt8}(j:AllD d)(h0:d≠[])(f:d.head?≠ξ 48):dval d≠0/\(decB (dval d)).map EA=d:=by
 induction hl:O d generalizing d with
 |zero=>exact CO (De.1 hl) h0
 |succ m ih=>
  obtain⟨i,b,rfl⟩:∃i b,d=i++[b]:=⟨d.dropLast,d.getLast h0,(List.dropLast_concat_getLast h0).symm⟩;have g:=j b cA;rw[rK];by_cases hi:i=[];subst hi;have u:b.toNat≠48:=λe=>f (by show ξ b=ξ 48;rw[Su (a:=b) (b:=48) e]);have l:dval []=0:=rfl;rw[l];refine⟨Z,?_⟩;rw[gi Z (.inr Z)];have:decB 0=[]:=by unfold decB;rw[xo];rfl
  rw[this,DR,GJ,JA,bQ g];rfl;have⟨o,p⟩:=ih (d:=i) (λc q=>j c (by simp[q])) hi (by
   cases i with
   |nil=>exact CO ω hi
   |cons x i=>simpa using f) (by simpa using hl)
  refine⟨Z,?_⟩;rw[gi Z (.inl o),EK,p,GJ,JA,bQ g]
theorem qC{d:List UInt8}(e:AllD d)(h0:d≠[])(c:d.head?≠ξ 48):decT (dval d)=d:=by simp_all [PC,h0,decT]
def ag:decT 1=[49]:=qC (d:=[49]) (λb c=>by rw[Dc.1 c];decide) cA cA
def ZV(h:V≠0):((decB V).map EA).head?≠ξ 48:=by
 induction V using Gx with
 |ind V ih=>
  have e:decB V=decB (V/10)++[48+V%10]:=(by unfold decB;rw[wy h];simp);rw[e];by_cases h2:V/10=0;have:decB (V/10)=[]:=by unfold decB;rw[h2,xo];rfl
  rw[this];intro f;simp only[DR,GJ,JA,List.head?_cons,H5]at f;have:=Ok (c:=V%10) Z;rw[f]at this;have g:(48:UInt8).toNat=48:=rfl;omega;have:=ih (V/10) Z h2;cases hd:(decB (V/10)).map EA with
  |nil=>
   have d:=(pI (V/10)).2;rw[hd]at d;exact CO d.symm h2
  |cons x l=>
   rw[EK,hd];rw[hd]at this;simpa using this
def ga(h:V≠0):(decT V).head?≠ξ 48:=by unfold decT;rw[CP h];exact ZV h
theorem ai(h:decT a=decT b):a=b:=by rw[<-(wx a).2.1,h,(wx b).2.1]
def KI(s:List UInt8):List UInt8×List UInt8×Bool:=
 let b:=xB s
 let m:=b.takeWhile KG
 let r:=b.dropWhile KG
 if m=[48]then(m,[],!z6 s&&r.isEmpty)
 else if m=[]\/m.head?=ξ 48 then(m,[],χ)
 else if r=[]then(m,[],φ)
 else if r.head?≠ξ 47 then(m,[],χ)
 else
  let d:=(r.drop 1).takeWhile KG
  let r2:=(r.drop 1).dropWhile KG
  (m,d,r2.isEmpty&& !d.isEmpty&&d.head? != ξ 48&&d != [49])
def ZW(s:List UInt8):(xB s).takeWhile KG++(xB s).dropWhile KG=xB s:=GP
theorem ZX:s=(if z6 s then[45]else[])++xB s:=by cases s<;>grind [xB,z6]
structure Frm (s:List UInt8)(m d:List UInt8):Prop where
 dm:AllD m
 m0:m≠[]
 dd:AllD d
 lead:m=[48]/\z6 s=χ/\d=[]\/m.head?≠ξ 48
 den:d=[]\/d.head?≠ξ 48/\d≠[49]
 eq:s=(if z6 s then[45]else[])++(m++(if d=[]then[]else 47::d))
def rZ{m d:List UInt8}(h:KI s=(m,d,φ)):Frm s m d:=by
 have g:=ZW s;have y:=ZX (s:=s);have w:AllD ((xB s).takeWhile KG):=AllD.all.2 um;unfold KI at h;simp only at h;generalize (xB s).takeWhile KG=m0 at*;generalize (xB s).dropWhile KG=r at*;split at h;rename_i h48;simp only[Fm]at h;obtain⟨rfl,rfl,c⟩:=h;simp only[DY,Fq,ad1]at c;obtain⟨c,rfl⟩:=c;refine⟨w,by rw[h48];simp,λb g=>CO g cA,.inl ⟨h48,c,ω⟩,.inl ω,?_⟩;rw[CQ ω,g];exact y;split at h;simp at h;rename_i h48 j;have l:¬m0=[]:=λe=>j (.inl e);have o:¬m0.head?=ξ 48:=λe=>j (.inr e);split at h;rename_i hr;simp only[Fm]at h;obtain⟨rfl,rfl,_⟩:=h;refine⟨w,l,λb g=>CO g cA,.inr o,.inl ω,?_⟩;subst hr;rw[CQ ω,g];exact y;split at h;simp at h;rename_i hr f;have f:r.head?=ξ 47:=Hm.1 f;simp only[Fm]at h;obtain⟨rfl,rfl,c⟩:=h;simp only[DY,Fq,ad1,bne_iff_ne,ne_eq]at c;have⟨⟨⟨c,p⟩,u⟩,v⟩:=c;obtain⟨i,rfl⟩:∃i,r=47::i:=by
  cases r with
  |nil=>simp at f
  |cons x r=>exact⟨r,by simp at f;rw[f]⟩
 simp only[ak7,aj1]at c p u v⊢;have A:AllD (i.takeWhile KG):=AllD.all.2 um;have q:i.takeWhile KG++i.dropWhile KG=i:=GP;rw[c,DJ]at q;rw[q]at A p u v⊢;have j:¬i=[]:=λe=>by rw[e]at p;simp at p
 refine⟨w,l,A,.inr o,.inr ⟨u,v⟩,?_⟩;rw[CP j,g];exact y
theorem px(q:Rat):KI (ratT q)=(decT q.num.natAbs,(if q.den=1 then[]else decT q.den),φ):=by
 have⟨B,C⟩:=qj q;have⟨D,F,u⟩:=wx q.num.natAbs;have⟨v,j,i⟩:=wx q.den;have g:=rk (a:=decT q.num.natAbs) (r:=if q.den=1 then[]else 47::decT q.den) D (by
  by_cases h:q.den=1;left;rw[CQ h];right;rw[CP h];exact⟨47,_,ω,ω⟩)
 have d:=rk (a:=decT q.den) (r:=[]) v (.inl ω);rw[DJ]at d;unfold KI;simp only;rw[C,g.1,g.2,B];by_cases h0:q.num=0;have c:q.den=1:=(by have:=q.reduced;rw[h0]at this;simpa using this);rw[h0,CQ c,CQ c];rfl;have p:q.num.natAbs≠0:=Z;have f:=ga p;have m:¬decT q.num.natAbs=[48]:=λe=>f AG;rw[CP m,CP (by rintro(e|e);exact u e;exact f e)];by_cases c:q.den=1;rw[CQ c,CQ ω,CQ c];rw[CP c,CP cA,CP cA,CP c];simp only[ak7,aj1];rw[d.1,d.2];have o:q.den≠0:=q.den_nz;have w:(decT q.den).isEmpty=χ:=by cases h:decT q.den with
  |nil=>exact CO h i
  |cons x l=>rfl
 have y:((decT q.den).head? != ξ 48)=φ:=by rw[bne_iff_ne];exact ga o
 have A:(decT q.den != [49])=φ:=by
  rw[bne_iff_ne];intro e;have:dval (decT q.den)=1:=by rw[e];rfl
  rw[j]at this;exact c this
 rw[w,y,A];rfl
def Frm.rat{m d:List UInt8}(h:Frm s m d)(F:d=[]\/Dh (dval m) (dval d)=1):∃q:Rat,ratT q=s/\q.num=(if z6 s then -(dval m:Int)else dval m)/\q.den=(if d=[]then 1 else dval d):=by have⟨o,w,j,c,l,A⟩:=h;have v:∃D:Nat,D≠0/\D=(if d=[]then 1 else dval d)/\Dh (dval m) D=1/\(if D=1 then[]else 47::decT D)=(if d=[]then[]else 47::d):=(by by_cases hd:d=[];refine⟨1,by decide,by rw[CQ hd],Je _,by rw[CQ ω,CQ hd]⟩;obtain h|⟨p,B⟩:=l;exact CO h hd;have e:=qC j hd p;refine⟨dval d,(PC j hd p).1,by rw[CP hd],F.resolve_left hd,?_⟩;rw[e,CP hd,CP];intro h;rw[h]at e;exact B (by rw[<-e];exact ag));have⟨D,y,C,g,u⟩:=v;refine⟨⟨if z6 s then -(dval m:Int)else dval m,D,y,?_⟩,?_,ω,C⟩;show GF _ _;unfold GF;split;rw[E7];exact g;exact g;have i:(if z6 s then -(dval m:Int)else dval m).natAbs=dval m:=(by split;rw[E7];rfl;rfl);have G:decT (dval m)=m:=(by obtain⟨h,_,_⟩|h:=c;rw[h];rfl;exact qC o w h);have f:(if(if z6 s then -(dval m:Int)else dval m)<0 then[45]else[])=(if z6 s then[45]else([]:List UInt8)):=(by by_cases hh:z6 s=φ;rw[CQ hh,CQ hh];obtain⟨_,h,_⟩|h:=c;rw[h]at hh;cases hh;have:=(PC o w h).1;rw[CQ Z];rw[CP hh,CP hh,CP Z]);show(if(if z6 s then -(dval m:Int)else dval m)<0 then[45]else[])++(decT (if z6 s then -(dval m:Int)else dval m).natAbs++(if D=1 then[]else 47::decT D))=s;rw[f,i,G,u];exact A.symm
theorem oP(s:List UInt8):vF s↔(KI s).2.2=φ/\((KI s).2.1=[]\/Dh (dval (KI s).1) (dval (KI s).2.1)=1):=by constructor;rintro⟨q,rfl⟩;rw[px];refine⟨ω,?_⟩;by_cases c:q.den=1;left;show(if q.den=1 then[]else _)=_;rw[CQ c];right;show Dh (dval (decT _)) (dval (if q.den=1 then[]else _))=1;rw[CP c,(wx _).2.1,(wx _).2.1];exact q.reduced;rintro⟨e,f⟩;have g:=rZ (s:=s) (m:=(KI s).1) (d:=(KI s).2.1) (by rw[<-e]);have⟨q,c,_⟩:=g.rat f;exact⟨q,c⟩
end Go.Proofs.YteoagenjaemllaaGreatDoor
namespace Go.Proofs.YteoagenjaemllaaGreatDoor
open Go Go.GL
variable {ops r:List Oper}{w ms L W C S:List Nat}{X:CtxF}{t:TF}{Q:SV->Prop}{o:Oper}{cap sz m b i j n0 bt bytes cx lx a B l Z4 lo' cy ly V fx fy gx gy nt co cr cu cw lr lu lw:Nat}{e ty ty' xT e2 e3 e' eB:TypeId}{al:List (Nat×Nat)}{ef:List (Nat×HF×List Nat)}{v z v0 x4 x5 x6 z2:ψ}{cs c0 cl new:List ψ}{ik ik':IntKind}{D α:Type}{ax ay aq ex ey ao ar au aw:Option Addr}{y hi:Operand}{q:Rat}{ji:Int}{xs ys:List Rat}{E:Env}{fn:Func}{dx dy sx sy:Bool}{T0:Nat->Nat->Int}{a0:Nat->Nat->Rat}{ss:List (List UInt8)}
variable {s:List UInt8}{k u n' c:Nat}{x1 x2 x3:ψ}{h0 h':HF}
theorem Sv{p:Rat}(h:ratT p=ratT q):p=q:=by grind [px,decT,qj,ai,wx,Rat.ext]
noncomputable def zj(s:List UInt8):Rat:=open Classical in if h:vF s then h.choose else 0
def xX(h:¬vF s):zj s=0:=by unfold zj;rw[dif_neg h]
def qr(h:vF s):ratT (zj s)=s:=by unfold zj;rw[dif_pos h];exact h.choose_spec
def pA(h:ratT q=s):zj s=q:=Sv ((qr ⟨q,h⟩).trans h.symm)
def PD(x y:Rat):((x-y).num<0->x<y)/\((x-y).num=0->x=y)/\(0<(x-y).num->y<x):=by have a:=ur x (-y);rw[<-G7,GH,H1]at a;have e:0<Dh (x.num*(y.den:Int)+ -y.num*(x.den:Int)).natAbs (x.den*y.den):=Eh _ (Fv x.den_pos y.den_pos);have d:((Dh (x.num*(y.den:Int)+ -y.num*(x.den:Int)).natAbs (x.den*y.den):Nat):Int)∣x.num*(y.den:Int)+ -y.num*(x.den:Int):=FM.2 (Fo _ _);have b:=jc x y;rw[Int.neg_mul]at*;generalize Dh (x.num*(y.den:Int)+ -(y.num*(x.den:Int))).natAbs (x.den*y.den)=g at*;have⟨u,c⟩:=d;rw[c,GN _ Z]at a;rw[a];refine⟨λh=>b.1.2 ?_,λh=>b.2.1.2 ?_,λh=>b.2.2.2 ?_⟩;have:=Int.mul_neg_of_pos_of_neg (show(0:Int)<g from Z) h;omega;rw[h,Int.mul_zero]at c;omega;have:=G3 (show(0:Int)<g from Z) h;omega
section
variable {h:HF}{c d n:Nat}
def addU(k:Nat){x:Int}{y:Int}(f:UI h n sx ax lx cx x)(g:UI h n sy ay ly cy y)(hx:x.natAbs<BX)(e:y.natAbs<BX):CX (Kp (k+3)) 166 [.agg #[CV sx,Y ax lx cx],.agg #[CV sy,Y ay ly cy]] h n (Nh (x+y)):=by refine zw (fn:=Tryz.f166) R4<|zG ?_;refine sB [CV sx,Y ax lx cx] λb0 cs d7=>?_;refine sB [CV sy,Y ay ly cy] λb1 ct d8=>?_;refine sA λb2 cu d9=>?_;refine zG ?_;cases sx;refine zG ?_;cases sy;refine zG ?_;refine zl [0,1,0,4,0,16,60,127,255] rfl<|zH ?_;refine dC (Sr _ (f.t zt).2 (g.t zt).2 eH) ?_;rintro _ b3 c2⟨ag,bt,ao,rfl,R⟩ dt da;refine dC (LN _ R χ) ?_;rintro _ b4 c3⟨w,l,a8,I,rfl,S⟩ du db;refine dS [CV w,Y l a8 I] λb5 cv ck=>?_;refine zq ?_;exact⟨_,_,_,_,ω,(S.t zt).as (by have:=f.ge;have:=g.ge;unfold Ll;(try simp only[if_true,if_false,ET]);omega)⟩;refine zG ?_;refine sC (Ss _ (f.t zt).2 (g.t zt).2 eH) ?_;rintro _ b6 c4⟨d5,rfl,i⟩ dv dc;obtain⟨rfl,i⟩|⟨rfl,i⟩|⟨rfl,i⟩:=i;refine zG ?_;refine zl [0,1,0,4,0,16,60,127,255] rfl<|zH ?_;refine dC (Ni _ (g.t zt).2 (f.t zt).2 eH Z) ?_;rintro _ b7 c5⟨ah,bu,ap,rfl,T⟩ dw dd;refine dC (LN _ T φ) ?_;rintro _ b8 c6⟨A,m,a9,J,rfl,Z4⟩ dz de;refine dS [CV A,Y m a9 J] λb9 cw cl=>?_;refine zq ?_;exact⟨_,_,_,_,ω,(Z4.t zt).as oo⟩;refine zG ?_;refine zl [0,1,0,4,0,16,60,127,255] rfl<|zH ?_;refine dC (Ni _ (f.t zt).2 (g.t zt).2 eH Z) ?_;rintro _ ba c7⟨ai,bv,aq,rfl,V⟩ e0 df;refine dC (LN _ V χ) ?_;rintro _ bb c8⟨B,o,aa,K,rfl,W⟩ e1 dg;refine dS [CV B,Y o aa K] λbc cz cm=>?_;refine zq ?_;exact⟨_,_,_,_,ω,(W.t zt).as oo⟩;refine zG ?_;refine zl [0,1,0,4,0,16,60,127,255] rfl<|zH ?_;refine dC (Ni _ (f.t zt).2 (g.t zt).2 eH Z) ?_;rintro _ bd c9⟨aj,bw,ar,rfl,Z3⟩ e2 dh;refine dC (LN _ Z3 χ) ?_;rintro _ be ca⟨C,p,ab,L,rfl,Z0⟩ e3 di;refine dS [CV C,Y p ab L] λbf d0 cn=>?_;refine zq ?_;exact⟨_,_,_,_,ω,(Z0.t zt).as oo⟩;refine zG ?_;cases sy;refine zG ?_;refine sC (Ss _ (f.t zt).2 (g.t zt).2 eH) ?_;rintro _ bg cb⟨d6,rfl,j⟩ e4 dj;obtain⟨rfl,j⟩|⟨rfl,j⟩|⟨rfl,j⟩:=j;refine zG ?_;refine zl [0,1,0,4,0,16,60,127,255] rfl<|zH ?_;refine dC (Ni _ (g.t zt).2 (f.t zt).2 eH Z) ?_;rintro _ bh cc⟨ak,bx,au,rfl,a0⟩ e5 dk;refine dC (LN _ a0 χ) ?_;rintro _ bi cd⟨D,q,ac,M,rfl,a1⟩ e6 dl;refine dS [CV D,Y q ac M] λbj d1 co=>?_;refine zq ?_;exact⟨_,_,_,_,ω,(a1.t zt).as o0⟩;refine zG ?_;refine zl [0,1,0,4,0,16,60,127,255] rfl<|zH ?_;refine dC (Ni _ (f.t zt).2 (g.t zt).2 eH Z) ?_;rintro _ bk ce⟨al,bz,av,rfl,a2⟩ e7 dm;refine dC (LN _ a2 φ) ?_;rintro _ bl cf⟨F,s,ad,N,rfl,a3⟩ e8 dn;refine dS [CV F,Y s ad N] λbm d2 cp=>?_;refine zq ?_;exact⟨_,_,_,_,ω,(a3.t zt).as o0⟩;refine zG ?_;refine zl [0,1,0,4,0,16,60,127,255] rfl<|zH ?_;refine dC (Ni _ (f.t zt).2 (g.t zt).2 eH Z) ?_;rintro _ bn cg⟨am,c0,aw,rfl,a4⟩ e9 dp;refine dC (LN _ a4 φ) ?_;rintro _ bo ch⟨G,u,ae,Z1,rfl,a5⟩ ea dq;refine dS [CV G,Y u ae Z1] λbp d3 cq=>?_;refine zq ?_;exact⟨_,_,_,_,ω,(a5.t zt).as o0⟩;refine zG ?_;refine zl [0,1,0,4,0,16,60,127,255] rfl<|zH ?_;refine dC (Sr _ (f.t zt).2 (g.t zt).2 eH) ?_;rintro _ bq ci⟨an,c1,az,rfl,a6⟩ eb dr;refine dC (LN _ a6 φ) ?_;rintro _ br cj⟨H,v,af,P,rfl,a7⟩ ec ds;refine dS [CV H,Y v af P] λbs d4 cr=>?_;refine zq ?_;exact⟨_,_,_,_,ω,(a7.t zt).as (by have:=f.lt;have:=g.lt;unfold Ll;(try simp only[if_true,if_false,ET]);omega)⟩
def mulU(k:Nat){x:Int}{y:Int}(f:UI h n sx ax lx cx x)(g:UI h n sy ay ly cy y)(hx:x.natAbs<BX)(e:y.natAbs<BX):CX (Kp (k+3)) 40 [.agg #[CV sx,Y ax lx cx],.agg #[CV sy,Y ay ly cy]] h n (Nh (x*y)):=by refine zw (fn:=Tryz.f40) R4<|zG ?_;refine sB [CV sx,Y ax lx cx] λZ3 av b4=>?_;refine sB [CV sy,Y ay ly cy] λZ0 aw b5=>?_;refine sA λa0 az b6=>?_;refine zG ?_;refine zl [0,1,0,4,15,0,32,0,128,480,1023,2047] rfl<|zH ?_;cases sx;refine zH ?_;cases sy;refine zH ?_;refine dC (Oz _ (f.t zt).2 (g.t zt).2 eH) ?_;rintro _ a1 ah⟨Z1,ad,T,rfl,B⟩ bf b7;refine dC (LN _ B χ) ?_;rintro _ a2 ai⟨o,i,K,u,rfl,C⟩ bg b8;refine dS [CV o,Y i K u] λa3 b0 ap=>?_;refine zq ?_;exact⟨_,_,_,_,ω,(C.t zt).as (by have:=f.ge;have:=g.ge;exact ke rq)⟩;refine zH ?_;refine dC (Oz _ (f.t zt).2 (g.t zt).2 eH) ?_;rintro _ a4 aj⟨P,ae,Z4,rfl,D⟩ bh b9;refine dC (LN _ D φ) ?_;rintro _ a5 ak⟨p,j,L,v,rfl,F⟩ bi ba;refine dS [CV p,Y j L v] λa6 b1 aq=>?_;refine zq ?_;exact⟨_,_,_,_,ω,(F.t zt).as (by have:=f.ge;have:=g.lt;exact ke rq)⟩;refine zH ?_;cases sy;refine zH ?_;refine dC (Oz _ (f.t zt).2 (g.t zt).2 eH) ?_;rintro _ a7 al⟨R,af,V,rfl,G⟩ bj bb;refine dC (LN _ G φ) ?_;rintro _ a8 am⟨q,l,M,w,rfl,H⟩ bk bc;refine dS [CV q,Y l M w] λa9 b2 ar=>?_;refine zq ?_;exact⟨_,_,_,_,ω,(H.t zt).as (by have:=f.lt;have:=g.ge;exact ke rq)⟩;refine zH ?_;refine dC (Oz _ (f.t zt).2 (g.t zt).2 eH) ?_;rintro _ aa an⟨S,ag,W,rfl,I⟩ bl bd;refine dC (LN _ I χ) ?_;rintro _ ab ao⟨s,m,N,A,rfl,J⟩ bm be;refine dS [CV s,Y m N A] λac b3 au=>?_;refine zq ?_;exact⟨_,_,_,_,ω,(J.t zt).as (by have:=f.lt;have:=g.lt;exact ke rq)⟩
def denU(k:Nat){x:Rat}(J:UI h n sx ax lx cx x.num)(f:UI h n dx ex fx gx (denZ x)):CX (Kp (k+3)) 42 [.agg #[CV sx,Y ax lx cx,CV dx,Y ex fx gx]] h n (Nh (x.den:Int)):=by refine zw (fn:=Tryz.f42) R4<|zG ?_;refine sB [CV sx,Y ax lx cx,CV dx,Y ex fx gx] λo A F=>?_;refine sA λp B G=>?_;refine zG ?_;by_cases q13:(fx:Int)=0;refine zG ?_;refine sC (ZR _ _ _) ?_;rintro _ q v⟨i,g,m,j,rfl,l⟩ I H;refine sS [CV i,Y g m j] λs C w=>?_;refine zq ?_;exact⟨_,_,_,_,ω,(l.t zt).as (by rw[yr.1 (Fw.1 (f.2.zero.1 Z))];rfl)⟩;refine zG ?_;refine sS [CV dx,Y ex fx gx] λu D y=>?_;refine zq ?_;exact⟨_,_,_,_,ω,(f.t zt).as (wq (λe=>q13 (by have:=f.2.zero;rw[e]at this;simp at this;omega)))⟩
def Sw(x y:Rat):DT (x.num*(y.den:Int)+y.num*(x.den:Int)) ((x.den:Int)*(y.den:Int))=x+y:=by rw[ae9,Ia,<-EY];rfl
def Sx(x y:Rat):DT (x.num*y.num) ((x.den:Int)*(y.den:Int))=x*y:=by rw[af0,Ia,<-EY];rfl
def OB(x y:Rat):(x.den:Int)*(y.den:Int)≠0:=ag4 (by have:=x.den_pos;omega) (by have:=y.den_pos;omega)
def Sy{x:Rat}(h:x.den<2^c):(denZ x).natAbs<2^c:=by unfold denZ;split;exact He c;exact h
def ZY(k:Nat){x:Rat}{y:Rat}(e:UI h n sx ax lx cx x.num)(g:UI h n dx ex fx gx (denZ x))(f:UI h n sy ay ly cy y.num)(i:UI h n dy ey fy gy (denZ y))(hx:x.num.natAbs<2^a/\x.den<2^c)(p:y.num.natAbs<2^b/\y.den<2^d)(h1:a+d+1<=3840)(h2:b+c+1<=3840)(h3:c+d<=3840):CX (Kp (k+6)) 134 [.agg #[CV sx,Y ax lx cx,CV dx,Y ex fx gx],.agg #[CV sy,Y ay ly cy,CV dy,Y ey fy gy]] h n (NQ (x+y)):=by obtain⟨M,K⟩:x.num.natAbs<2^a/\(denZ x).natAbs<2^c:=⟨hx.1,Sy hx.2⟩;obtain⟨P,N⟩:y.num.natAbs<2^b/\(denZ y).natAbs<2^d:=⟨p.1,Sy p.2⟩;have ah:=Li M Z;have af:=Li K Z;have ak:=Li P Z;have ai:=Li N Z;have cr:=x.den_pos;have cs:=y.den_pos;have L:((x.den:Int)).natAbs<2^c:=hx.2;have Z1:((y.den:Int)).natAbs<2^d:=p.2;have ag:=Li L Z;have aj:=Li Z1 Z;refine zw (fn:=Tryz.f134) R4<|zG ?_;refine sB [CV sx,Y ax lx cx,CV dx,Y ex fx gx] λc2 e0 e6=>?_;refine sB [CV sy,Y ay ly cy,CV dy,Y ey fy gy] λc3 e1 e7=>?_;refine sA λc4 e2 e8=>?_;refine zG ?_;by_cases q14:(fx:Int)=0;refine zG ?_;by_cases q15:(fy:Int)=0;refine zG ?_;refine sC (addU _ (e.t zt) (f.t zt) KR KR) ?_;rintro _ c5 db⟨l,j,o,m,rfl,R⟩ es e9;refine sT #[CV l,Y j o m,CV χ,η] ?_;refine sS [CV l,Y j o m,CV χ,η] λc6 e3 dv=>?_;refine zq ?_;exact⟨_,_,_,_,_,_,_,_,ω,(R.t zt).as ((Ow (Fw.1 (g.2.zero.1 Z)) (Fw.1 (i.2.zero.1 Z))).1.symm),(UI.zero _ _).as ((Ow (Fw.1 (g.2.zero.1 Z)) (Fw.1 (i.2.zero.1 Z))).2.symm)⟩;refine zG ?_;refine zl [0,1,0,4,15,0,32,0,159,511,1023,0,4095,0,16383,32767,65535,131071] rfl<|zH ?_;refine dC (denU _ (f.t zt) (i.t zt)) ?_;rintro _ c7 dc⟨b5,al,ct,bl,rfl,S⟩ et ea;refine dC (mulU _ (e.t zt) S KR KR) ?_;rintro _ c8 dd⟨b6,am,cu,bm,rfl,T⟩ eu eb;refine zH ?_;refine dC (denU _ (e.t zt) (g.t zt)) ?_;rintro _ c9 de⟨b7,an,cv,bn,rfl,Z4⟩ ev ec;refine dC (mulU _ (f.t zt) Z4 KR KR) ?_;rintro _ ca df⟨b8,ao,cw,bo,rfl,V⟩ ew ed;refine dC (addU _ (T.t zt) V KR KR) ?_;rintro _ cb dg⟨b9,ap,cz,bp,rfl,W⟩ ez ee;refine zH ?_;refine dC (denU _ (e.t zt) (g.t zt)) ?_;rintro _ cc dh⟨ba,aq,d0,bq,rfl,Z3⟩ f0 ef;refine zH ?_;refine dC (denU _ (f.t zt) (i.t zt)) ?_;rintro _ cd di⟨bb,ar,d1,br,rfl,Z0⟩ f1 eg;refine dC (mulU _ (Z3.t zt) Z0 KR KR) ?_;rintro _ ce dj⟨bc,au,d2,bs,rfl,a0⟩ f2 eh;refine dC (OA _ (W.t zt) a0 KR Oy (OB x y) (Sw x y)) ?_;rintro _ cf dk⟨u,q,ad,w,B,D,G,I,rfl,a1,ab⟩ f3 ei;refine dS [CV u,Y q ad w,CV B,Y D G I] λcg e4 dw=>?_;refine zq ?_;exact⟨_,_,_,_,_,_,_,_,ω,(a1.t zt),(ab.t zt)⟩;refine zG ?_;refine zl [0,1,0,4,15,0,32,0,159,511,1023,0,4095,0,16383,32767,65535,131071] rfl<|zH ?_;refine dC (denU _ (f.t zt) (i.t zt)) ?_;rintro _ ch dl⟨bd,av,d3,bt,rfl,a2⟩ f4 ej;refine dC (mulU _ (e.t zt) a2 KR KR) ?_;rintro _ ci dm⟨be,aw,d4,bu,rfl,a3⟩ f5 ek;refine zH ?_;refine dC (denU _ (e.t zt) (g.t zt)) ?_;rintro _ cj dn⟨bf,az,d5,bv,rfl,a4⟩ f6 el;refine dC (mulU _ (f.t zt) a4 KR KR) ?_;rintro _ ck dp⟨bg,b0,d6,bw,rfl,a5⟩ f7 em;refine dC (addU _ (a3.t zt) a5 KR KR) ?_;rintro _ cl dq⟨bh,b1,d7,bx,rfl,a6⟩ f8 en;refine zH ?_;refine dC (denU _ (e.t zt) (g.t zt)) ?_;rintro _ cm dr⟨bi,b2,d8,bz,rfl,a7⟩ f9 eo;refine zH ?_;refine dC (denU _ (f.t zt) (i.t zt)) ?_;rintro _ cn ds⟨bj,b3,d9,c0,rfl,a8⟩ fa ep;refine dC (mulU _ (a7.t zt) a8 KR KR) ?_;rintro _ co dt⟨bk,b4,da,c1,rfl,a9⟩ fb eq;refine dC (OA _ (a6.t zt) a9 KR Oy (OB x y) (Sw x y)) ?_;rintro _ cp du⟨v,s,ae,A,C,F,H,J,rfl,aa,ac⟩ fc er;refine dS [CV v,Y s ae A,CV C,Y F H J] λcq e5 dz=>?_;refine zq ?_;exact⟨_,_,_,_,_,_,_,_,ω,(aa.t zt),(ac.t zt)⟩
def ZZ(k:Nat){x:Rat}{y:Rat}(e:UI h n sx ax lx cx x.num)(g:UI h n dx ex fx gx (denZ x))(f:UI h n sy ay ly cy y.num)(i:UI h n dy ey fy gy (denZ y))(hx:Sz a x)(p:Sz b y)(bm:a+b+1<=3840):CX (Kp (k+6)) 14 [.agg #[CV sx,Y ax lx cx,CV dx,Y ex fx gx],.agg #[CV sy,Y ay ly cy,CV dy,Y ey fy gy]] h n (NQ (x*y)):=by obtain⟨M,K⟩:x.num.natAbs<2^a/\(denZ x).natAbs<2^a:=⟨hx.1,hx.z⟩;obtain⟨P,N⟩:y.num.natAbs<2^b/\(denZ y).natAbs<2^b:=⟨p.1,p.z⟩;have a9:=Li M Z;have a7:=Li K Z;have ac:=Li P Z;have aa:=Li N Z;have bn:=x.den_pos;have bo:=y.den_pos;have L:((x.den:Int)).natAbs<2^a:=hx.2;have Z1:((y.den:Int)).natAbs<2^b:=p.2;have a8:=Li L Z;have ab:=Li Z1 Z;refine zw (fn:=Tryz.f14) R4<|zG ?_;refine sB [CV sx,Y ax lx cx,CV dx,Y ex fx gx] λb5 cc ci=>?_;refine sB [CV sy,Y ay ly cy,CV dy,Y ey fy gy] λb6 cd cj=>?_;refine sA λb7 ce ck=>?_;refine zG ?_;by_cases q14:(fx:Int)=0;refine zG ?_;by_cases q15:(fy:Int)=0;refine zG ?_;refine sC (mulU _ (e.t zt) (f.t zt) KR KR) ?_;rintro _ b8 bx⟨l,j,o,m,rfl,R⟩ cw cl;refine sT #[CV l,Y j o m,CV χ,η] ?_;refine sS [CV l,Y j o m,CV χ,η] λb9 cf c9=>?_;refine zq ?_;exact⟨_,_,_,_,_,_,_,_,ω,(R.t zt).as ((Ox (Fw.1 (g.2.zero.1 Z)) (Fw.1 (i.2.zero.1 Z))).1.symm),(UI.zero _ _).as ((Ox (Fw.1 (g.2.zero.1 Z)) (Fw.1 (i.2.zero.1 Z))).2.symm)⟩;refine zG ?_;refine zl [0,1,0,4,15,0,63,0,255,511,1023,2047] rfl<|zH ?_;refine dC (mulU _ (e.t zt) (f.t zt) KR KR) ?_;rintro _ ba bz⟨al,ad,bp,av,rfl,S⟩ cz cm;refine zH ?_;refine dC (denU _ (e.t zt) (g.t zt)) ?_;rintro _ bb c0⟨am,ae,bq,aw,rfl,T⟩ d0 cn;refine zH ?_;refine dC (denU _ (f.t zt) (i.t zt)) ?_;rintro _ bc c1⟨an,af,br,az,rfl,Z4⟩ d1 co;refine dC (mulU _ (T.t zt) Z4 KR KR) ?_;rintro _ bd c2⟨ao,ag,bs,b0,rfl,V⟩ d2 cp;refine dC (OA _ (S.t zt) V KR Oy (OB x y) (Sx x y)) ?_;rintro _ be c3⟨u,q,a5,w,B,D,G,I,rfl,W,a3⟩ d3 cq;refine dS [CV u,Y q a5 w,CV B,Y D G I] λbf cg ca=>?_;refine zq ?_;exact⟨_,_,_,_,_,_,_,_,ω,(W.t zt),(a3.t zt)⟩;refine zG ?_;refine zl [0,1,0,4,15,0,63,0,255,511,1023,2047] rfl<|zH ?_;refine dC (mulU _ (e.t zt) (f.t zt) KR KR) ?_;rintro _ bg c4⟨ap,ah,bt,b1,rfl,Z3⟩ d4 cr;refine zH ?_;refine dC (denU _ (e.t zt) (g.t zt)) ?_;rintro _ bh c5⟨aq,ai,bu,b2,rfl,Z0⟩ d5 cs;refine zH ?_;refine dC (denU _ (f.t zt) (i.t zt)) ?_;rintro _ bi c6⟨ar,aj,bv,b3,rfl,a0⟩ d6 ct;refine dC (mulU _ (Z0.t zt) a0 KR KR) ?_;rintro _ bj c7⟨au,ak,bw,b4,rfl,a1⟩ d7 cu;refine dC (OA _ (Z3.t zt) a1 KR Oy (OB x y) (Sx x y)) ?_;rintro _ bk c8⟨v,s,a6,A,C,F,H,J,rfl,a2,a4⟩ d8 cv;refine dS [CV v,Y s a6 A,CV C,Y F H J] λbl ch cb=>?_;refine zq ?_;exact⟨_,_,_,_,_,_,_,_,ω,(a2.t zt),(a4.t zt)⟩
def Z5(k:Nat){x:Rat}(l:UI h n sx ax lx cx x.num)(m:UI h n dx ex fx gx (denZ x)):CX (Kp (k+3)) 135 [.agg #[CV sx,Y ax lx cx,CV dx,Y ex fx gx]] h n (NQ (-x)):=by refine zw (fn:=Tryz.f135) R4<|zG ?_;refine sB [CV sx,Y ax lx cx,CV dx,Y ex fx gx] λo w B=>?_;refine sA λp y C=>?_;refine zG ?_;refine zl [0,1,3,0,8,31,63] rfl<|zH ?_;refine dC (ZS _ (l.t zt)) ?_;rintro _ q u⟨f,e,i,g,rfl,j⟩ F D;refine zH ?_;refine dT #[CV f,Y e i g,CV dx,Y ex fx gx] ?_;refine dS [CV f,Y e i g,CV dx,Y ex fx gx] λs A v=>?_;refine zq ?_;exact⟨_,_,_,_,_,_,_,_,ω,(j.t zt).as ((GH x).symm),(m.t zt).as (by unfold denZ;rw[H1])⟩
def Z6(k:Nat){x:Rat}{y:Rat}(w:UI h n sx ax lx cx x.num)(B:UI h n dx ex fx gx (denZ x))(A:UI h n sy ay ly cy y.num)(C:UI h n dy ey fy gy (denZ y))(hx:x.num.natAbs<2^a/\x.den<2^c)(v:y.num.natAbs<2^b/\y.den<2^d)(h1:a+d+1<=3840)(h2:b+c+1<=3840)(h3:c+d<=3840):CX (Kp (k+7)) 101 [.agg #[CV sx,Y ax lx cx,CV dx,Y ex fx gx],.agg #[CV sy,Y ay ly cy,CV dy,Y ey fy gy]] h n (NQ (x-y)):=by refine zw (fn:=Tryz.f101) R4<|zG ?_;refine sB [CV sx,Y ax lx cx,CV dx,Y ex fx gx] λL W a1=>?_;refine sB [CV sy,Y ay ly cy,CV dy,Y ey fy gy] λM Z3 a2=>?_;refine sA λN Z0 a3=>?_;refine zG ?_;refine zl [0,0,2,7,15] rfl<|zH ?_;refine dC (Z5 _ (A.t zt) (C.t zt)) ?_;rintro _ Z1 T⟨F,D,S,G,H,I,J,K,rfl,o,q⟩ a6 a4;refine dC (ZY _ (w.t zt) (B.t zt) o q hx (by rw[GH,H1,E7];exact v) h1 h2 h3) ?_;rintro _ P Z4⟨f,e,u,g,i,j,l,m,rfl,p,s⟩ a7 a5;refine dS [CV f,Y e u g,CV i,Y j l m] λR a0 V=>?_;refine zq ?_;exact⟨_,_,_,_,_,_,_,_,ω,(p.t zt).as (by rw[G7]),(s.t zt).as (by rw[G7])⟩
def Z7(k:Nat){x:Rat}{y:Rat}(f:UI h n sx ax lx cx x.num)(i:UI h n dx ex fx gx (denZ x))(g:UI h n sy ay ly cy y.num)(j:UI h n dy ey fy gy (denZ y))(hx:Sz a x)(e:Sz b y)(l:a+b+1<=3840):CX (Kp (k+7)) 101 [.agg #[CV sx,Y ax lx cx,CV dx,Y ex fx gx],.agg #[CV sy,Y ay ly cy,CV dy,Y ey fy gy]] h n (NQ (x-y)):=
 Z6 k f i g j ⟨hx.1,hx.2⟩ ⟨e.1,e.2⟩ Z Z Z
def Z8(k:Nat){x:Rat}{y:Rat}(l:UI h n sx ax lx cx x.num)(o:UI h n dx ex fx gx (denZ x))(m:UI h n sy ay ly cy y.num)(p:UI h n dy ey fy gy (denZ y))(hx:Sz a x)(j:Sz b y)(f:a+b+1<=3840):VF (Kp (k+8)) 50 [.agg #[CV sx,Y ax lx cx,CV dx,Y ex fx gx],.agg #[CV sy,Y ay ly cy,CV dy,Y ey fy gy]] h n λv=>∃s:Int,v=U .i64 s/\(s= -1/\x<y\/s=0/\x=y\/s=1/\y<x):=by refine zO (fn:=Tryz.f50) R4<|zG ?_;refine sB [CV sx,Y ax lx cx,CV dx,Y ex fx gx] λF M P=>?_;refine sB [CV sy,Y ay ly cy,CV dy,Y ey fy gy] λG N R=>?_;refine zG ?_;refine sC (Z7 _ (l.t zt) (o.t zt) (m.t zt) (p.t zt) hx j f) ?_;rintro _ H K⟨u,q,J,w,A,B,C,D,rfl,g,i⟩ Z4 S;refine sC (ZT _ g i) ?_;rintro _ I L⟨Z1,rfl,e⟩ V T;obtain⟨rfl,e⟩|⟨rfl,e⟩|⟨rfl,e⟩:=e;refine zf ?_;exact⟨_,ω,.inl ⟨ω,(PD x y).1 e⟩⟩;refine zf ?_;exact⟨_,ω,.inr (.inl ⟨ω,(PD x y).2.1 e⟩)⟩;refine zf ?_;exact⟨_,ω,.inr (.inr ⟨ω,(PD x y).2.2 e⟩)⟩
def Z9(k:Nat)(h:HF)(n:Nat)(s:List UInt8)(hs:O s<1000000):CX (Kp (k+7)) 15 [CY ⟨⟨s⟩⟩] h n (NQ (zj s)):=by refine zw (fn:=Tryz.f15) R4<|Zd λy N W=>?_;refine zG ?_;refine sC (PA _ _ _ s hs) ?_;rintro _ A I⟨f,e,o,g,i,j,l,m,p,V,rfl,q,u,v,z12⟩ a1 Z3;cases p;refine Zd λB Z1 Z0=>?_;refine sS [CV f,Y e o g,CV i,Y j l m] λC P J=>?_;refine zG ?_;refine sT #[CV χ,η,CV χ,η] ?_;refine sS [CV χ,η,CV χ,η] λD R K=>?_;refine zq ?_;exact(xX (λw=>by cases z12 w)).symm▸NQ.zero _ _;refine Zd λF S a0=>?_;refine sS [CV f,Y e o g,CV i,Y j l m] λG T L=>?_;refine zG ?_;refine sS [CV f,Y e o g,CV i,Y j l m] λH Z4 M=>?_;refine zq ?_;exact(pA (v ω)).symm▸⟨_,_,_,_,_,_,_,_,ω,(q.t zt),(u.t zt)⟩
def numU(k:Nat)(h:HF)(n:Nat)(s:List UInt8)(e:O s<1000000):CX (Kp (k+7)) 15 [CY ⟨⟨s⟩⟩] h n (NQ (zj s)):=Z9 k h n s e
end
section
variable {off:Nat}
structure At (h:HF)(b o:Nat)(c:List ψ):Prop where
 ex:∃x cs,h b=ξ x/\x.cells=ξ cs/\o+O c<=O cs/\(cs.drop o).take (O c)=c
def At.ext{h h':HF}{n o:Nat}{c:List ψ}(a:At h b o c)(x:Ko n h h')(hb:b<3*n):At h' b o c:=by have⟨y,cs,f,g,l,p⟩:=a.ex;exact⟨y,cs,(x b hb).trans f,g,l,p⟩
def At.ld{h:HF}{o:Nat}{c c':List ψ}{sz:Nat}(a:At h b o c)(k:Nat)(p:GL.isAgg Kw ty=ξ φ)(hi:Kw.inf ty=ξ (sz,bt,z))(hl:k+sz<=O c)(A:(c.drop k).take sz=c'):yB Kw ty h ⟨b,o+k,θ⟩=ξ (.agg c'.toArray):=by have⟨y,cs,f,g,B,l⟩:=a.ex;refine yw ⟨p,hi⟩ f g Z ?_;rw[<-A,<-l,JN,GY,EH];congr 1;omega
def At.ld1{h:HF}{o:Nat}{c:List ψ}(a:At h b o c)(k:Nat)(p:GL.isAgg Kw ty=ξ χ)(A:c[k]?=ξ v):yB Kw ty h ⟨b,o+k,θ⟩=ξ v:=by have⟨y,cs,f,g,B,l⟩:=a.ex;exact zX p f ⟨g,(qG l A)⟩
inductive Rec {D:Type} (sz:Nat) (P:List ψ->D->Prop):List ψ->List D->Prop
 |nil:Rec sz P [] []
 |cons {c cs:List ψ} {d:D} {ds:List D} (hl:O c=sz) (hp:P c d) (hr:Rec sz P cs ds):Rec sz P (c++cs) (d::ds)
section
variable {P P':List ψ->D->Prop}
theorem Rec.len{a:List D}(r:Rec sz P cs a):O cs=O a*sz:=by induction r<;>grind
def Rec.mono{a:List D}(r:Rec sz P cs a)(f:∀c d,P c d->P' c d):Rec sz P' cs a:=by
 induction r with
 |nil=>exact .nil
 |cons hl hp hr ih=>exact .cons hl (f _ _ hp) ih
def Rec.snoc{c:List ψ}{a:List D}{d:D}(r:Rec sz P cs a)(hl:O c=sz)(f:P c d):Rec sz P (cs++c) (a++[d]):=by
 induction r with
 |nil=>
  have:=Rec.cons hl f (Rec.nil (P:=P) (sz:=sz));rw[DJ]at this;exact this
 |cons hl2 hp2 hr ih=>rw[DH];exact .cons hl2 hp2 ih
def Rec.get{f:List D}{d:D}(r:Rec sz P cs f):∀{j:Nat},f[j]?=ξ d->∃c,O c=sz/\P c d/\(cs.drop (j*sz)).take sz=c/\j*sz+sz<=O cs:=by
 induction r with
 |nil=>intro j a;simp at a
 | @cons c cs d2 f hl hp hr ih=>
  intro j a;cases j with
  |zero=>
   simp at a;subst a;refine⟨c,hl,hp,?_,by rw[C1];omega⟩;rw[Ep,DO,<-hl,List.take_left]
  |succ j=>
   rw[List.getElem?_cons_succ]at a;have⟨g,l,p,A,B⟩:=ih a;refine⟨g,l,p,?_,by rw[C1,Ff];omega⟩;rw[<-A,ad2,FA (by rw[hl,Ff];omega),DR,Ff,hl,Fh]
end
def RS{D:Type}(sz:Nat)(P:List ψ->D->HF->Nat->Prop)(h:HF)(n:Nat)(v:ψ)(l:List D):Prop:=∃cells,Sl h n sz v cells/\Rec sz (λc d=>P c d h n) cells l
structure Stay {D:Type}(P:List ψ->D->HF->Nat->Prop):Prop where
 go:∀c d h h' n n',P c d h n->Ko n h h'->n<=n'->P c d h' n'
section
variable {P:List ψ->D->HF->Nat->Prop}{h h':HF}{n n':Nat}
def RS.ext'(A:Stay P){l:List D}(r:RS sz P h n v l)(x:Ko n h h')(f:n<=n'):RS sz P h' n' v l:=by have⟨a,g,p⟩:=r;exact⟨a,g.ext x f,p.mono λc d B=>A.go c d _ _ _ _ B x f⟩
def RS.len'(f:0<sz){a:Option Addr}{len:Nat}{l:List D}(r:RS sz P h n (Y a len cap) l):len=O l:=by have⟨g,p,A⟩:=r;have⟨B,F,C,e,c⟩:=p.len;injection e with e1 e2 e3;subst e2;rw[A.len]at c;exact(Nat.eq_of_mul_eq_mul_right f c).symm
def RS.at'(A:0<sz){a:Option Addr}{len:Nat}{l:List D}{d:D}(r:RS sz P h n (Y a len cap) l)(hj:l[j]?=ξ d):∃b off c,a=ξ ⟨b,off,θ⟩/\b<3*n/\j<len/\At h b (off+j*sz) c/\O c=sz/\P c d h n:=by have f:=r.len' A;have⟨B,G,g⟩:=r;have M:=(C4.1 hj).1;obtain⟨b,off,x,cs,rfl,H,L,I,J,N,K⟩:=G.inv Z;have⟨c,p,C,F,Z1⟩:=g.get hj;refine⟨b,off,c,ω,H,Z,⟨x,cs,L,I,?_,?_⟩,p,C⟩;have:=g.len;rw[<-f]at this;omega;rw[p,<-F,<-K,JN,GY,EH];have:=g.len;rw[<-f]at this;congr 1;omega
end
def vM{h:HF}{n:Nat}{a:Option Addr}{len:Nat}{S:List (List UInt8)}(r:Sl h n 1 (Y a len cap) (strs S))(hj:S[j]?=ξ s):∃b off,a=ξ ⟨b,off,θ⟩/\b<3*n/\j<len/\At h b (off+j*1) [CY ⟨⟨s⟩⟩]:=by
 have G:=(C4.1 hj).1;have C:=z8 r;obtain⟨b,off,x,cs,rfl,l,F,p,A,H,B⟩:=r.inv Z;refine⟨b,off,ω,l,Z,⟨x,cs,F,p,by show off+j*1+1<=_;omega,?_⟩⟩;show(cs.drop (off+j*1)).take 1=_;have g:(strs S)[j]?=ξ (CY ⟨⟨s⟩⟩):=by rw[strs,Dz,hj];rfl
 have c:=qG B g;rw[D1];have f:off+j<O cs:=Z;rw[EX f];rw[CW f]at c;injection c with c;rw[c];rfl
def ratP(c:List ψ)(q:Rat)(h:HF)(n:Nat):Prop:=∃b a l k d e f g,c=[CV b,Y a l k,CV d,Y e f g]/\IW h n b a l k q.num/\IW h n d e f g (denZ q)
def ratP.stay:Stay ratP:=⟨λ_ _ _ _ _ _ ⟨b,a,l,k,d,e,f,g,p,i,j⟩ x c=>⟨b,a,l,k,d,e,f,g,p,i.ext x c,j.ext x c⟩⟩
def numP(c:List ψ)(q:Rat)(h:HF)(n:Nat):Prop:=∃b a l k d e f g,c=[CV b,Y a l k,CV d,Y e f g]/\UI h n b a l k q.num/\UI h n d e f g (denZ q)
def numP.stay:Stay numP:=⟨λ_ _ _ _ _ _ ⟨b,a,l,k,d,e,f,g,p,i,j⟩ x c=>⟨b,a,l,k,d,e,f,g,p,i.ext x c,j.ext x c⟩⟩
def QS(h:HF)(n:Nat)(v:ψ)(l:List Rat):Prop:=RS 4 ratP h n v l
def NS(h:HF)(n:Nat)(v:ψ)(l:List Rat):Prop:=RS 4 numP h n v l
section
variable {h h':HF}{n n':Nat}
def QS.ext{l:List Rat}(r:QS h n v l)(x:Ko n h h')(a:n<=n'):QS h' n' v l:=RS.ext' ratP.stay r x a
def QS.len{a:Option Addr}{len:Nat}{l:List Rat}(r:QS h n (Y a len cap) l):len=O l:=RS.len' zd r
def NS.len{a:Option Addr}{len:Nat}{l:List Rat}(r:NS h n (Y a len cap) l):len=O l:=RS.len' zd r
def QS.at{a:Option Addr}{len:Nat}{l:List Rat}(r:QS h n (Y a len cap) l)(hj:l[j]?=ξ q):∃p off b A B k d e f g,a=ξ ⟨p,off,θ⟩/\p<3*n/\j<len/\At h p (off+j*4) [CV b,Y A B k,CV d,Y e f g]/\IW h n b A B k q.num/\IW h n d e f g (denZ q):=by obtain⟨p,off,c,C,F,G,H,_,b,A,B,k,d,e,f,g,rfl,i,j⟩:=RS.at' zd r hj;exact⟨p,off,b,A,B,k,d,e,f,g,C,F,G,H,i,j⟩
end
section
variable {h:HF}{n:Nat}{d:Tmp}
theorem PE{x i:Operand}{len sz:Nat}(a:qu X ops t o d (o.op=.indexAddr ty x i/\X.E.und ty=ξ (.slice e)/\X.E.inf e=ξ (sz,bt,z)/\Kn t x=Y aq len cap/\Kn t i=U ik (j:Int)/\aq=ξ ⟨b,off,θ⟩))(F:j<len)(k:EO X ops r ⟨upd t d (CZ (ξ ⟨b,off+j*sz,θ⟩)),h,n,w⟩ Q):EO X ops (o::r) ⟨t,h,n,w⟩ Q:=by
 obtain⟨a,f,p,A,B,g,C,l,c⟩:=a;subst c;exact oe ⟨a,f,p,A,B,g,C,l⟩ Z k
end
section
variable {h:HF}{n:Nat}{ld:List (Nat×Nat)}{d:Tmp}
def SA{x:Operand}{len sz:Nat}(p:zh ops t o=φ)(g:o.dst=ξ d)(l:zv X.nt (ξ d)=φ)(a:o.op=.indexAddr ty x y)(hu:X.E.und ty=ξ (.slice e))(hi:X.E.inf e=ξ (sz,bt,z))
  (hx:Kn t x=Y aq len cap)(hj:Kn t y=U ik (j:Int))(f:aq=ξ ⟨b,off,θ⟩)(A:j<len)(k:ED X ops r ms (i+1) ⟨⟨upd t d (CZ (ξ ⟨b,off+j*sz,θ⟩)),h,n,w⟩,al,ld,ef⟩ Q):ED X ops (o::r) (m::ms) i ⟨⟨t,h,n,w⟩,al,ld,ef⟩ Q:=by subst f;refine yQ p g l (by rw[a];rfl) ?_ k;have c:(0:Int)<=(j:Int)/\(j:Int)<(len:Int):=Z;rw[a];show yV X.E ty (Kn t x) (Kn t y)=_;rw[hx,hj];simp only[yV,hu,hi,CQ c,wO,Ew]
end
def QS.x{h h':HF}{n n':Nat}{l:List Rat}(r:QS h n v l)(t:Tx n h n' h'):QS h' n' v l:=r.ext t.2 t.1
def At.x{h h':HF}{n n' o:Nat}{c:List ψ}(a:At h b o c)(t:Tx n h n' h')(hb:b<3*n):At h' b o c:=a.ext t.2 hb
def At.lG{h:HF}{o sz:Nat}{c:List ψ}{r:List ψ}(L:List ψ)(a:At h b o c)(l:GL.isAgg Kw ty=ξ φ)(hi:Kw.inf ty=ξ (sz,bt,z))(f:c.drop k=L++r)(hl:L.length=sz)(p:0<L.length:=by exact Nat.succ_pos _):yB Kw ty h ⟨b,o+k,θ⟩=ξ (.agg L.toArray):=by have g:=congrArg List.length f;rw[List.length_drop,List.length_append]at g;exact a.ld k l hi Z (c':=L) (by rw[f,<-hl,List.take_left])
def At.l2{h:HF}{o:Nat}{c:List ψ}{r:List ψ}(a:At h b o c)(f:GL.isAgg Kw ty=ξ φ)(hi:Kw.inf ty=ξ (2,bt,z))(g:c.drop k=x1::x2::r):yB Kw ty h ⟨b,o+k,θ⟩=ξ (.agg #[x1,x2]):=a.lG [x1,x2] f hi g rfl
def At.l3{h:HF}{o:Nat}{c:List ψ}{r:List ψ}(a:At h b o c)(f:GL.isAgg Kw ty=ξ φ)(hi:Kw.inf ty=ξ (3,bt,z))(g:c.drop k=x1::x2::x3::r):yB Kw ty h ⟨b,o+k,θ⟩=ξ (.agg #[x1,x2,x3]):=a.lG [x1,x2,x3] f hi g rfl
def At.l4{h:HF}{o:Nat}{c:List ψ}{r:List ψ}(a:At h b o c)(f:GL.isAgg Kw ty=ξ φ)(hi:Kw.inf ty=ξ (4,bt,z))(g:c.drop k=x1::x2::x3::x4::r):yB Kw ty h ⟨b,o+k,θ⟩=ξ (.agg #[x1,x2,x3,x4]):=a.lG [x1,x2,x3,x4] f hi g rfl
def At.l11{h:HF}{o:Nat}{c:List ψ}{l p A f g:ψ}{r:List ψ}(a:At h b o c)(B:GL.isAgg Kw ty=ξ φ)(hi:Kw.inf ty=ξ (11,bt,z))(C:c.drop k=x1::x2::x3::x4::x5::x6::l::p::A::f::g::r):yB Kw ty h ⟨b,o+k,θ⟩=ξ (.agg #[x1,x2,x3,x4,x5,x6,l,p,A,f,g]):=a.lG [x1,x2,x3,x4,x5,x6,l,p,A,f,g] B hi C rfl
section
variable {h:HF}{n:Nat}{d:Tmp}
def sI{x0 a:Operand}{len sz:Nat}(c:aq=ξ ⟨b,off,θ⟩)(f:j<len)(k:EO X ops r ⟨upd t d (.pointer (ξ ⟨b,off+j*sz,θ⟩)),h,n,w⟩ Q)(g:zh ops t o=φ:=by rfl)(hd:o.dst=ξ d:=by rfl)(hn:zv X.nt (ξ d)=φ:=by rfl)(ho:o.op=.indexAddr ty x0 a:=by rfl)(hu:X.E.und ty=ξ (.slice e):=by rfl)(hi:X.E.inf e=ξ (sz,bt,z):=by rfl)(hx:Kn t x0=.slice aq len cap:=by rfl)(hj:Kn t a=.int ik (j:Int):=by rfl):EO X ops (o::r) ⟨t,h,n,w⟩ Q:=PE ⟨g,hd,hn,ho,hu,hi,hx,hj,c⟩ f k
def sL{x0:Operand}{f:Nat}{c:List ψ}(a:At h0 b f c)(hb:b<3*n0)(g:Nat)(k:EO X ops r ⟨upd t d v,h,n,w⟩ Q)(l:zh ops t o=φ:=by rfl)(hd:o.dst=ξ d:=by rfl)(hn:zv X.nt (ξ d)=φ:=by rfl)(ho:o.op=.load ty x0:=by rfl)(hx:Kn t x0=.pointer (ξ ⟨b,f+g,θ⟩):=by rfl)(tx:Tx n0 h0 n h:=by exact zx)(hv:At h b f c->yB X.E ty h ⟨b,f+g,θ⟩=ξ v:=by intro a;first|exact a.ld1 _ ω rfl|exact a.l1 ω ω rfl|exact a.l2 ω ω rfl|exact a.l3 ω ω rfl|exact a.l4 ω ω rfl|exact a.l5 ω ω rfl|exact a.l10 ω ω rfl|exact a.l11 ω ω ω):EO X ops (o::r) ⟨t,h,n,w⟩ Q:=z7 ⟨l,hd,hn,ho,hx⟩ (hv (a.x tx hb)) k
end
section
variable {h:HF}{n:Nat}{ld:List (Nat×Nat)}{d:Tmp}
def dI{x0 a:Operand}{len sz:Nat}(c:aq=ξ ⟨b,off,θ⟩)(f:j<len)(k:ED X ops r ms (i+1) ⟨⟨upd t d (.pointer (ξ ⟨b,off+j*sz,θ⟩)),h,n,w⟩,al,ld,ef⟩ Q)(g:zh ops t o=φ:=by rfl)(hd:o.dst=ξ d:=by rfl)(hn:zv X.nt (ξ d)=φ:=by rfl)(ho:o.op=.indexAddr ty x0 a:=by rfl)(hu:X.E.und ty=ξ (.slice e):=by rfl)(hi:X.E.inf e=ξ (sz,bt,z):=by rfl)(hx:Kn t x0=.slice aq len cap:=by rfl)(hj:Kn t a=.int ik (j:Int):=by rfl):ED X ops (o::r) (m::ms) i ⟨⟨t,h,n,w⟩,al,ld,ef⟩ Q:=SA g hd hn ho hu hi hx hj c f k
def dL{x0:Operand}{A f:Nat}{c:List ψ}(a:At h0 b f c)(hb:b<3*n0)(l:Nat)(k:ED X ops r ms (i+1) ⟨⟨upd t d v,h,n,w⟩,al,(i,b)::ld,ef⟩ Q)(p:zh ops t o=φ:=by rfl)(hd:o.dst=ξ d:=by rfl)(hn:zv X.nt (ξ d)=φ:=by rfl)(ho:o.op=.load ty x0:=by rfl)(hx:Kn t x0=.pointer (ξ ⟨b,f+l,θ⟩):=by rfl){g:HF}(hr:wn m ef i h=(u,g):=by rfl)(tx:Tx n0 h0 A g:=by exact zx)(hv:At g b f c->yB X.E ty g ⟨b,f+l,θ⟩=ξ v:=by intro a;first|exact a.ld1 _ ω rfl|exact a.l1 ω ω rfl|exact a.l2 ω ω rfl|exact a.l3 ω ω rfl|exact a.l4 ω ω rfl|exact a.l5 ω ω rfl|exact a.l10 ω ω rfl|exact a.l11 ω ω ω)(h1:LM u b ef=φ:=by rfl)(h2:qn m b al=φ:=by rfl):ED X ops (o::r) (m::ms) i ⟨⟨t,h,n,w⟩,al,ld,ef⟩ Q:=yd ⟨p,hd,hn,ho,hx,hr⟩ (hv (a.x tx hb)) ⟨h1,h2⟩ k
end
end
section
variable {x:Operand}
section
variable {h:HF}{n:Nat}{d:Tmp}
def un{a b:List UInt8}(c:Bool)(e:qu X ops t o d (o.op=.binOp .eql ty x y ty'/\Kn t x=CY ⟨⟨a⟩⟩/\Kn t y=CY ⟨⟨b⟩⟩))(j:(a==b)=c)
  (k:EO X ops r ⟨upd t d (CV c),h,n,w⟩ Q):EO X ops (o::r) ⟨t,h,n,w⟩ Q:=by have⟨e,g,i,f,l,m⟩:=e;refine zS ⟨e,g,i,Ad⟩ ?_ k;rw[f];show binE X.E .eql ty (Kn t x) (Kn t y)=_;rw[l,m,<-j];rfl
def zo{a b:List UInt8}(c:Bool)(j:zh ops t o=φ)(f:o.dst=ξ d)(g:zv X.nt (ξ d)=φ)(e:o.op=.binOp .neq ty x y ty')(hx:Kn t x=CY ⟨⟨a⟩⟩)(l:Kn t y=CY ⟨⟨b⟩⟩)(i:(!(a==b))=c)
  (k:EO X ops r ⟨upd t d (CV c),h,n,w⟩ Q):EO X ops (o::r) ⟨t,h,n,w⟩ Q:=by refine zS ⟨j,f,g,AG⟩ ?_ k;rw[e];show binE X.E .neq ty (Kn t x) (Kn t y)=_;rw[hx,l,<-i];rfl
end
def VX(C:CalF)(f:FuncId)(args:List ψ)(h:HF)(n:Nat)(P:ψ->Prop):Prop:=CF C f args h n λv h' n' w=>w=[]/\n<=n'/\Ko n h h'/\P v
def yR{P:ψ->Prop}{e:Ex}{t:TF}{h:HF}{n:Nat}{a f:Tmp}{i:TypeId}(u:ψ)(c:rI e=φ/\fn.results.toList=[.cell a ty,.tmp f]/\t a=ι b/\t f=u/\GL.isAgg Kw ty=ξ φ/\Kw.inf ty=ξ (sz,bt,z))(hb:h' b=ξ (.row cs i))(hl:O cs=sz)(p:n<=n')(hx:Ko n h h')(q:P (.tuple #[.agg cs.toArray,u])):RetH fn (λv h' n' w=>w=[]/\n<=n'/\Ko n h h'/\P v) e ⟨t,h',n',[]⟩:=by have⟨c,A,j,g,l,m⟩:=c;refine retH [.agg cs.toArray,u] ⟨c,?_,ω⟩ ⟨ω,p,hx,q⟩;rw[A];have B:=yw ⟨l,m⟩ hb ω (show 0+sz<=O cs from Z) (show(cs.drop 0).take sz=cs by rw[DO,C7 Z]);simp only[resF,j,g,B]
def zev(k:Nat)(h:HF)(n:Nat)(s:List UInt8):VF (Kp (k+1)) 155 [CY ⟨⟨s⟩⟩,CY ⟨⟨[45]⟩⟩] h n λv=>v=CV (z6 s):=by
 refine zO (fn:=Tryz.f155) R4<|mM ?_;cases s with
 |nil=>
  refine zM ?_;refine st_I (ik:=.i64) (a:=0) R5<|zM ?_;refine st_I (ik:=.i64) (a:=1) R5<|oQ ?_;exact BG
 |cons x s=>
  refine zM ?_;refine st_I (ik:=.i64) (a:=(O (x::s):Int)) R5<|zM ?_;refine st_I (ik:=.i64) (a:=1) R5<|jD R6 (by rw[DM];omega) ?_;refine Zo ?_;refine st_I (ik:=.i64) (a:=1) R5<|NC (s:=x::s) (j:=1) R8 cA ?_;refine zM ?_;refine un (a:=[x]) (b:=[45]) (x==45) R6 cA ?_;refine oQ ?_;exact retF _ ω (zi ω) R2 (by show CV _=CV _;simp[z6])
theorem zeg(h:z6 s=φ):1<=O s:=by grind [z6]
def zbv(k:Nat)(h:HF)(n:Nat)(s:List UInt8):VF (Kp (k+2)) 124 [CY ⟨⟨s⟩⟩,CY ⟨⟨[45]⟩⟩] h n λv=>v=.tuple #[CY ⟨⟨xB s⟩⟩,CV (z6 s)]:=by refine zO (fn:=Tryz.f124) R4<|mM ?_;refine mZ ?_;refine yi _ R5 (zev k h n s) ?_;rintro _ rfl;by_cases hm:z6 s=φ;rw[hm];refine Zy ?_;refine st_I (ik:=.i64) (a:=1) R5<|u4 (s:=s) (j:=1) R8 (zeg hm)<|oQ ?_;refine retF [CY ⟨⟨s.drop 1⟩⟩,CV φ] ω ω R2 ?_;unfold xB;rw[CQ hm];rfl;rw[Bool.eq_false_iff.2 hm];refine Zi ?_;refine retF [CY ⟨⟨s⟩⟩,CV χ] ω ω R2 ?_;unfold xB;rw[CP hm];rfl
def zfz(k:Nat)(h:HF)(n:Nat)(s:List UInt8):VF (Kp (k+3)) 96 [CY ⟨⟨s⟩⟩,CY ⟨⟨[45]⟩⟩] h n λv=>v=.tuple #[CY ⟨⟨xB s⟩⟩,CV (z6 s)]:=by refine zO (fn:=Tryz.f96) R4<|mM ?_;refine mZ ?_;refine yi _ R5 (zbv k h n s) ?_;rintro _ rfl;refine oQ ?_;exact retF [CY ⟨⟨xB s⟩⟩,CV (z6 s)] ω ω R2 rfl
def zfy(s:List UInt8):∃T D,s.takeWhile KG=T/\s.dropWhile KG=D/\s=T++D/\(∀b∈T,KG b=φ)/\(D=[]\/∃x D',D=x::D'/\KG x=χ):=by
 refine⟨_,_,ω,ω,GP.symm,um,?_⟩;cases hd:s.dropWhile KG with
 |nil=>exact .inl rfl
 |cons x D'=>exact .inr ⟨x,D',ω,by
  have:=List.head?_dropWhile_not KG s;rw[hd]at this;simpa using this⟩
def pf(k:Nat)(h:HF)(n:Nat)(s:List UInt8)(I:O s<1000000):VF (Kp (k+1)) 97 [CY ⟨⟨s⟩⟩] h n λv=>v=.tuple #[CY ⟨⟨s.takeWhile KG⟩⟩,CY ⟨⟨s.dropWhile KG⟩⟩]:=by
 refine zO (fn:=Tryz.f97) R4 ?_;have⟨T,D,A,u,f,p,B⟩:=zfy s;rw[A,u];have i:O s=O T+O D:=by rw[f,C1]
 refine Zu ?_;refine ye (α:=Nat) (λm=>[(0,CY ⟨⟨s⟩⟩),(4,U .i64 (m:Int))]) (λm h' n' w=>h=h'/\n=n'/\w=[]/\m<=O T) (λm=>O T-m) 0 P2 ⟨ω,ω,ω,CT⟩ (by show O T-0<LL;unfold LL;omega) ?_;rintro m t _ _ _⟨rfl,rfl,rfl,H⟩;refine Zl ?_;refine st_I (ik:=.i64) (a:=(O s:Int)) R5 ?_;have F:∀t':TF,t' 0=CY ⟨⟨s⟩⟩->m=O T->True:=λ_ _ _=>trivial;by_cases hmT:m=O T;have e:s.take m=T:=by rw[f,hmT,List.take_left' rfl]
 have c:s.drop m=D:=by rw[f,hmT,Hc rfl]
 obtain rfl|⟨x,q,rfl,l⟩:=B;rw[FV]at i;refine Zb ?_;rw[wb rfl];refine mZ ?_;refine NC (s:=s) (j:=m) R8 Z<|mZ ?_;refine u4 (s:=s) (j:=m) R8 Z ?_;rw[e,c];refine oQ ?_;exact retF [CY ⟨⟨T⟩⟩,CY ⟨⟨[]⟩⟩] ω ω R2 rfl;rw[DM]at i;have g:s[m]?=ξ x:=by rw[f,hmT,Dx CS,Ec];rfl
 have G:¬(48<=x.toNat/\x.toNat<=57):=λh=>by rw[nh.2 h]at l;cases l
 refine jC R6 Z<|Zo ?_;refine yH (j:=m) R8 g ?_;by_cases C:48<=x.toNat;refine oa R6 Z ?_;repeat refine zR ?_
 refine yH (j:=m) R8 g<|Zb ?_;exact BN;refine mD R6 Z<|Zb ?_;exact BN;obtain⟨x,l⟩:∃x,T[m]?=ξ x:=⟨T[m]'Z,CW Z⟩;have g:s[m]?=ξ x:=by rw[f,D7 Z];exact l
 have C:=nh.1 (p x (C0 l));refine jC R6 Z<|Zo ?_;refine yH (j:=m) R8 g<|oa R6 Z ?_;repeat refine zR ?_
 refine yH (j:=m) R8 g<|Zi ?_;exact goOn (m+1) (by show O T-(m+1)<O T-m;omega) P2 ⟨ω,ω,ω,by show m+1<=_;omega⟩
def Ln(mi:Bool)(m r:List UInt8):List UInt8×List UInt8×Bool:=
 if m=[48]then(m,[],!mi&&r.isEmpty)
 else if m=[]\/m.head?=ξ 48 then(m,[],χ)
 else if r=[]then(m,[],φ)
 else if r.head?≠ξ 47 then(m,[],χ)
 else(m,(r.drop 1).takeWhile KG,((r.drop 1).dropWhile KG).isEmpty&& !((r.drop 1).takeWhile KG).isEmpty&&((r.drop 1).takeWhile KG).head? != ξ 48&&(r.drop 1).takeWhile KG != [49])
def zl9(s:List UInt8):KI s=Ln (z6 s) ((xB s).takeWhile KG) ((xB s).dropWhile KG):=rfl
def eo{x:UInt8}{l:List UInt8}{c:UInt8}(h:x.toNat≠c.toNat):(x::l).head?≠ξ c:=λe=>h (by
 have:x=c:=by simpa using e
 rw[this])
theorem cn(k:Nat)(h:HF)(n:Nat)(s:List UInt8)(L:O s<1000000):VX (Kp (k+4)) 45 [CY ⟨⟨s⟩⟩] h n λv=>v=.tuple #[.agg #[CV (z6 s),CY ⟨⟨(KI s).1⟩⟩,CY ⟨⟨(KI s).2.1⟩⟩],CV (KI s).2.2]:=by
 refine zw (fn:=Tryz.f45) R4 ?_;rw[zl9];have G:=RO s;refine zN ?_;refine xV R5 ?_;refine oQ ?_;refine xV R5 ?_;refine zN ?_;generalize hh:upd (upd h (3*n+2) _) (3*(n+1)+2) _=h1;have a:∃e,h1 (3*n+2)=ξ (.row [CV χ,CY ⟨⟨[]⟩⟩,CY ⟨⟨[]⟩⟩] e):=⟨_,by rw[<-hh,zm Z,zg];rfl⟩;have g:∃e,h1 (3*(n+1)+2)=ξ (.row [CV χ,CY ⟨⟨[]⟩⟩,CY ⟨⟨[]⟩⟩] e):=⟨_,gP⟩;obtain⟨C,a⟩:=a;obtain⟨F,g⟩:=g;have i:Ko n h h1:=λb f=>by rw[<-hh,zm Z,zm Z]
 clear hh;refine zM ?_;refine yi _ R5 (zfz k h1 (n+1+1) s) ?_;rintro _ rfl;generalize xB s=B at G⊢;generalize z6 s=mi;refine Zc ?_;refine yF (cs:=[CV mi]) R8 g zb gR ?_;refine zN ?_;generalize hh:upd h1 (3*(n+1)+2) _=h2;replace a:h2 (3*n+2)=ξ (.row [CV χ,CY ⟨⟨[]⟩⟩,CY ⟨⟨[]⟩⟩] C):=by rw[<-hh,zm Z];exact a
 replace g:h2 (3*(n+1)+2)=ξ (.row [CV mi,CY ⟨⟨[]⟩⟩,CY ⟨⟨[]⟩⟩] F):=by rw[<-hh,zg];rfl
 replace i:Ko n h h2:=λb f=>by rw[<-hh,zm Z,i b f]
 clear hh;refine zM ?_;refine yi _ R5 (pf (k+2) h2 (n+1+1) B Z) ?_;rintro _ rfl;have A:O (B.dropWhile KG)<=O B:=(List.dropWhile_sublist KG).length_le;generalize B.takeWhile KG=M;generalize B.dropWhile KG=R at A⊢;repeat refine zR ?_
 refine yF (cs:=[CY ⟨⟨M⟩⟩]) R8 g zb gR ?_;generalize hh:upd h2 (3*(n+1)+2) _=h3;replace a:h3 (3*n+2)=ξ (.row [CV χ,CY ⟨⟨[]⟩⟩,CY ⟨⟨[]⟩⟩] C):=by rw[<-hh,zm Z];exact a
 replace g:h3 (3*(n+1)+2)=ξ (.row [CV mi,CY ⟨⟨M⟩⟩,CY ⟨⟨[]⟩⟩] F):=by rw[<-hh,zg];rfl
 replace i:Ko n h h3:=λb f=>by rw[<-hh,zm Z,i b f]
 clear hh;refine Zc ?_;refine zT R6 g (v:=CY ⟨⟨M⟩⟩) R2 ?_;have m:yB Kw 104 h3 ⟨3*(n+1)+2,0,θ⟩=ξ (.agg #[CV mi,CY ⟨⟨M⟩⟩,CY ⟨⟨[]⟩⟩]):=yw R2 g rfl zb rfl;by_cases h48:M=[48]
 .refine un φ R6 (by rw[h48];rfl) ?_;refine Zh ?_;refine z7 (v:=.agg #[CV mi,CY ⟨⟨M⟩⟩,CY ⟨⟨[]⟩⟩]) R5 m ?_;cases mi with
  |true=>
   repeat refine zR ?_
   refine yc [CV φ,CY ⟨⟨M⟩⟩,CY ⟨⟨[]⟩⟩] R7 rfl a rfl aD ?_;refine oQ ?_;refine yR (CV χ) R6 (zg _ _ _) rfl Z (λb f=>(zm Z).trans (i b f)) ?_;rw[show Ln φ M R=(M,[],χ)from by unfold Ln;rw[CQ h48];rfl]
  |false=>
   cases R with
   |nil=>
    repeat refine zR ?_
    refine yc [CV χ,CY ⟨⟨M⟩⟩,CY ⟨⟨[]⟩⟩] R7 rfl a rfl aD ?_;refine oQ ?_;refine yR (CV φ) R6 (zg _ _ _) rfl Z (λb f=>(zm Z).trans (i b f)) ?_;rw[show Ln χ M []=(M,[],φ)from by unfold Ln;rw[CQ h48];rfl]
   |cons z R=>
    repeat refine zR ?_
    refine yc [CV χ,CY ⟨⟨M⟩⟩,CY ⟨⟨[]⟩⟩] R7 rfl a rfl aD ?_;refine oQ ?_;refine yR (CV χ) R6 (zg _ _ _) rfl Z (λb f=>(zm Z).trans (i b f)) ?_;rw[show Ln χ M (z::R)=(M,[],χ)from by unfold Ln;rw[CQ h48];rfl]
 refine un χ R6 (by simpa using h48) ?_;refine Zt ?_;refine zT R6 g (v:=CY ⟨⟨M⟩⟩) R2 ?_;have K:∀t':TF,Ln mi M R=(M,[],χ)->True:=λ_ _=>trivial;cases M with
 |nil=>
  refine Zh ?_;refine z7 (v:=.agg #[CV mi,CY ⟨⟨[]⟩⟩,CY ⟨⟨[]⟩⟩]) R5 m ?_;refine yc [CV mi,CY ⟨⟨[]⟩⟩,CY ⟨⟨[]⟩⟩] R7 rfl a rfl aD ?_;refine oQ ?_;refine yR (CV χ) R6 (zg _ _ _) rfl Z (λb f=>(zm Z).trans (i b f)) ?_;rw[show Ln mi [] R=([],[],χ)from by unfold Ln;rw[CP h48,CQ (.inl rfl)]]
 |cons y M=>
 repeat refine zR ?_
 refine zT R6 g (v:=CY ⟨⟨y::M⟩⟩) R2 ?_;refine yH (s:=y::M) (j:=0) R8 rfl ?_;by_cases hy:y.toNat=48
 .have I:y=48:=Gz.1 hy;refine Zh ?_;refine z7 (v:=.agg #[CV mi,CY ⟨⟨y::M⟩⟩,CY ⟨⟨[]⟩⟩]) R5 m ?_;refine yc [CV mi,CY ⟨⟨y::M⟩⟩,CY ⟨⟨[]⟩⟩] R7 rfl a rfl aD ?_;refine oQ ?_;refine yR (CV χ) R6 (zg _ _ _) rfl Z (λb f=>(zm Z).trans (i b f)) ?_;rw[show Ln mi (y::M) R=(y::M,[],χ)from by unfold Ln;rw[CP h48,CQ (.inr (by rw[I];rfl))]]
 have q:¬(y::M=[]\/(y::M).head?=ξ 48):=by
  rintro(h|h)
  .cases h
  exact eo (c:=48) hy h
 refine Zb ?_;cases R with
 |nil=>
  refine Zh ?_;refine z7 (v:=.agg #[CV mi,CY ⟨⟨y::M⟩⟩,CY ⟨⟨[]⟩⟩]) R5 m ?_;refine yc [CV mi,CY ⟨⟨y::M⟩⟩,CY ⟨⟨[]⟩⟩] R7 rfl a rfl aD ?_;refine oQ ?_;refine yR (CV φ) R6 (zg _ _ _) rfl Z (λb f=>(zm Z).trans (i b f)) ?_;rw[show Ln mi (y::M) []=(y::M,[],φ)from by unfold Ln;rw[CP h48,CP q,CQ rfl]]
 |cons z R=>
 refine Zr ?_;refine yH (s:=z::R) (j:=0) R8 rfl ?_;by_cases hz:z.toNat=47;case neg=>
  refine Zh ?_;refine z7 (v:=.agg #[CV mi,CY ⟨⟨y::M⟩⟩,CY ⟨⟨[]⟩⟩]) R5 m ?_;refine yc [CV mi,CY ⟨⟨y::M⟩⟩,CY ⟨⟨[]⟩⟩] R7 rfl a rfl aD ?_;refine oQ ?_;refine yR (CV χ) R6 (zg _ _ _) rfl Z (λb f=>(zm Z).trans (i b f)) ?_;rw[show Ln mi (y::M) (z::R)=(y::M,[],χ)from by unfold Ln;rw[CP h48,CP q,CP cA,CQ (eo (c:=47) hz)]]
 have H:Ln mi (y::M) (z::R)=(y::M,R.takeWhile KG,(R.dropWhile KG).isEmpty&& !(R.takeWhile KG).isEmpty&&(R.takeWhile KG).head? != ξ 48&&R.takeWhile KG != [49]):=by
  have J:z=47:=Gz.1 hz;unfold Ln;rw[CP h48,CP q,CP cA,CP (by rw[J];simp)];rfl
 rw[H];rw[DM]at A;refine Zr ?_;refine u4 (s:=z::R) (j:=1) R8 cA ?_;rw[show(z::R).drop 1=R from rfl];refine yi _ R5 (pf (k+2) h3 (n+1+1) R Z) ?_;rintro _ rfl;generalize R.takeWhile KG=D;generalize R.dropWhile KG=E;repeat refine zR ?_
 refine yF (cs:=[CY ⟨⟨D⟩⟩]) R8 g zb gR ?_;generalize hh:upd h3 (3*(n+1)+2) _=h4;replace a:h4 (3*n+2)=ξ (.row [CV χ,CY ⟨⟨[]⟩⟩,CY ⟨⟨[]⟩⟩] C):=by rw[<-hh,zm Z];exact a
 replace g:h4 (3*(n+1)+2)=ξ (.row [CV mi,CY ⟨⟨y::M⟩⟩,CY ⟨⟨D⟩⟩] F):=by rw[<-hh,zg];rfl
 replace i:Ko n h h4:=λb f=>by rw[<-hh,zm Z,i b f]
 clear hh m;refine oQ ?_;refine zl [0,0,2,6,14,30,62,126,254,510,1022,2046,4094,8190,16382,32766,65534,131070,262142,32767,1048575] rfl ?_;refine yd (v:=.agg #[CV mi,CY ⟨⟨y::M⟩⟩,CY ⟨⟨D⟩⟩]) R6 (yw R2 g rfl zb rfl) R2 ?_;cases E with
 |cons x E=>
  repeat (first|refine yd R6 (zX rfl g R2) R2 ?_|refine zD ?_)
  refine uT (cs:=[CV mi,CY ⟨⟨y::M⟩⟩,CY ⟨⟨D⟩⟩]) R7 rfl a zb aD R3 ?_;repeat refine zD ?_
  refine zN ?_;exact yR (CV χ) (cs:=[CV mi,CY ⟨⟨y::M⟩⟩,CY ⟨⟨D⟩⟩]) R6 (zg _ _ _) rfl Z (λb f=>(zm Z).trans (i b f)) rfl
 |nil=>
 cases D with
 |nil=>
  repeat (first|refine yd R6 (zX rfl g R2) R2 ?_|refine zD ?_)
  refine uT (cs:=[CV mi,CY ⟨⟨y::M⟩⟩,CY ⟨⟨[]⟩⟩]) R7 rfl a zb aD R3 ?_;repeat refine zD ?_
  refine zN ?_;exact yR (CV χ) (cs:=[CV mi,CY ⟨⟨y::M⟩⟩,CY ⟨⟨[]⟩⟩]) R6 (zg _ _ _) rfl Z (λb f=>(zm Z).trans (i b f)) rfl
 |cons u D=>
 by_cases hu:u.toNat=48
 .have p:u=48:=Gz.1 hu;repeat (first|refine yd R6 (zX rfl g R2) R2 ?_|refine zD ?_)
  refine uT (cs:=[CV mi,CY ⟨⟨y::M⟩⟩,CY ⟨⟨u::D⟩⟩]) R7 rfl a zb aD R3 ?_;repeat refine zD ?_
  refine zN ?_;refine yR (CV χ) (cs:=[CV mi,CY ⟨⟨y::M⟩⟩,CY ⟨⟨u::D⟩⟩]) R6 (zg _ _ _) rfl Z (λb f=>(zm Z).trans (i b f)) ?_;rw[p];rfl
 have p:((u::D).head? != ξ 48)=φ:=by
  have:=eo (l:=D) (c:=48) hu;simpa using this
 repeat (first|refine yd R6 (zX rfl g R2) R2 ?_|refine zD ?_)
 refine uT (cs:=[CV mi,CY ⟨⟨y::M⟩⟩,CY ⟨⟨u::D⟩⟩]) R7 rfl a zb aD ⟨rfl,rfl,(Yk (by intro x i;simp at i;rcases i with rfl|rfl|rfl|rfl<;>show 3*(n+1)+2≠3*n+2<;>omega))⟩ ?_;repeat refine zD ?_
 refine zN ?_;refine yR (CV (u::D != [49])) (cs:=[CV mi,CY ⟨⟨y::M⟩⟩,CY ⟨⟨u::D⟩⟩]) R6 (zg _ _ _) rfl Z (λb f=>(zm Z).trans (i b f)) ?_;rw[p];rfl
end
def dotR:List Rat->List Rat->Rat
 |x::xs,y::ys=>x*y+dotR xs ys
 |_,_=>0
def kV(ys:List Rat):dotR [] ys=0:=by cases ys<;>rfl
def zfp:∀{xs ys:List Rat} {x y:Rat},O xs=O ys->dotR (xs++[x]) (ys++[y])=dotR xs ys+x*y:=by
 intro xs;induction xs with
 |nil=>
  intro ys x y h;cases ys with
  |nil=>show x*y+0=0+x*y;rw[Rat.add_zero,Rat.zero_add]
  |cons _ _=>cases h
 |cons a xs ih=>
  intro ys x y h;cases ys with
  |nil=>cases h
  |cons b ys=>
   show a*b+dotR (xs++[x]) (ys++[y])=a*b+dotR xs ys+x*y;rw[ih (by simpa using h),Rat.add_assoc]
def xa{l:List α}{d:α}(h:l[j]?=ξ d):l.take (j+1)=l.take j++[d]:=by rw[ab4,h];rfl
def wK{x y:Rat}(hx:xs[j]?=ξ x)(c:ys[j]?=ξ y):dotR (xs.take (j+1)) (ys.take (j+1))=dotR (xs.take j) (ys.take j)+x*y:=by rw[xa hx,xa c];have d:=(C4.1 hx).1;have e:=(C4.1 c).1;exact zfp (by rw[DK,DK];omega)
def nf(hx:∀q∈xs,Sz a q)(e:∀q∈ys,Sz b q):∀j,j<=O xs->j<=O ys->Sz (1+j*(a+b+1)) (dotR (xs.take j) (ys.take j)):=by
 intro j;induction j with
 |zero=>intro _ _;rw[E1,kV];exact Sz.zero _ Z
 |succ j ih=>
  intro f g;have c:=CW (l:=xs) (i:=j) Z;have d:=CW (l:=ys) (i:=j) Z;rw[wK c d];refine((ih Z Z).add ((hx _ (C0 c)).mul (e _ (C0 d)))).mono ?_;rw[Ff];omega
def zo5(k:Nat)(h:HF)(n:Nat)(s:List UInt8)(e:O s<1000000):CX (Kp (k+4)) 45 [CY ⟨⟨s⟩⟩] h n λv _ _=>∃neg m d ok,v=.tuple #[.agg #[CV neg,CY ⟨⟨m⟩⟩,CY ⟨⟨d⟩⟩],CV ok]/\neg=z6 s/\KI s=(m,d,ok):=by refine wc (cn k h n s e) ?_;rintro v f g w⟨a,b,c,rfl⟩;exact⟨a,b,c,_,_,_,_,ω,ω,ω⟩
def PF(k:Nat)(h:HF)(n:Nat)(j:AllD s)(hl:O s<=570):CX (Kp (k+6)) 46 [CY ⟨⟨s⟩⟩] h n (IV ((dval s:Nat):Int)):=by refine wc (Pt k h n j hl) ?_;rintro v m o w⟨a,l,c,L,rfl,⟨b,d,e,f,g⟩,i⟩;refine⟨b,d,e,_,_,_,_,ω,?_,L,f,g,?_⟩;rw[CM];omega;rw[i];omega
def Frm.len{m d:List UInt8}(h:Frm s m d):O m<=O s/\O d<=O s:=by have:=congrArg O h.eq;simp only[C1]at this;refine⟨Z,?_⟩;by_cases hd:d=[];subst hd;exact GA _;rw[CP hd,DM]at this;omega
def kQ{m:List UInt8}(h:AllD m)(hl:O m<=600):((dval m:Nat):Int).natAbs<BW:=by rw[Dk];refine Dm (qy h) (Dy (Dd zd hl) ?_);unfold BW;decide+kernel
def PG{m d:List UInt8}(h:KI s=(m,d,χ)):¬vF s:=by rw[oP,h];rintro⟨a,_⟩;cases a
def vR{m d:List UInt8}(h:KI s=(m,d,φ))(c:d=[]):vF s/\(zj s).num=(if z6 s then -(dval m:Int)else dval m)/\denZ (zj s)=0:=by have⟨q,a,e,b⟩:=(rZ h).rat (.inl c);rw[pA a];rw[CQ c]at b;exact⟨⟨q,a⟩,e,yr.2 b⟩
def tk{m d:List UInt8}(h:KI s=(m,d,φ))(c:¬d=[])(l:Dh (dval m) (dval d)=1):vF s/\(zj s).num=(if z6 s then -(dval m:Int)else dval m)/\denZ (zj s)=((dval d:Nat):Int):=by have f:=rZ h;have⟨q,g,i,a⟩:=f.rat (.inr l);rw[pA g];rw[CP c]at a;refine⟨⟨q,g⟩,i,?_⟩;rw[<-a];refine wq (mt yr.1 λe=>?_);obtain b|⟨b,j⟩:=f.den;exact c b;have:=qC f.dd c b;rw[<-a,e,ag]at this;exact j this.symm
theorem qp{m d:List UInt8}(h:KI s=(m,d,φ))(a:¬d=[])(b:¬Dh (dval m) (dval d)=1):¬vF s:=by grind [oP]
section
variable {s:List UInt8}{h:HF}{n:Nat}
def TL(s:List UInt8):Prop:=O s<1000000/\∀m d,KI s=(m,d,φ)->O m<=570/\O d<=570
def TL.of(h:O s<500):TL s:=⟨Z,λm d e=>by have:=(rZ e).len;omega⟩
def SB(k:Nat)(g:GG h n)(hs:TL s):CX (Kp (k+9)) 80 [CY ⟨⟨s⟩⟩] h n λv h' n'=>∃b a l c d e f g ok,v=.tuple #[.agg #[CV b,Y a l c,CV d,Y e f g],CV ok]/\IW h' n' b a l c (zj s).num/\IW h' n' d e f g (denZ (zj s))/\(ok=φ↔vF s):=by refine zw (fn:=Tryz.f80) R4<|Zd λab bq c8=>?_;refine zG ?_;refine sC (zo5 _ _ _ s hs.1) ?_;rintro _ ac b5⟨q,Z4,F,Z0,rfl,z12,i⟩ cl c9;cases Z0;refine Zd λad br ca=>?_;refine sS [CV q,CY ⟨⟨Z4⟩⟩,CY ⟨⟨F⟩⟩] λae bs bd=>?_;refine zG ?_;refine sT #[CV χ,η,CV χ,η] ?_;refine sS [CV χ,η,CV χ,η] λaf bt be=>?_;refine zq ?_;exact⟨_,_,_,_,_,_,_,_,_,ω,(E9 _ _).as (by rw[xX (PG i)];rfl),(E9 _ _).as (by rw[xX (PG i)];rfl),⟨λm=>(by cases m),λm=>CO m (PG i)⟩⟩;have j:=rZ i;have a2:=hs.2 _ _ i;refine Zd λag bu cb=>?_;refine sS [CV q,CY ⟨⟨Z4⟩⟩,CY ⟨⟨F⟩⟩] λah bv bf=>?_;refine zG ?_;refine sC (PF _ _ _ j.dm Z) ?_;rintro _ ai V⟨w,u,A,y,rfl,G⟩ cm cc;refine sT #[CV w,Y u A y,CV χ,η] ?_;refine sA λaj bw cd=>?_;refine sS [CV w,Y u A y,CV χ,η] λak bx bg=>?_;refine zG ?_;cases q;refine zG ?_;by_cases q21:F=[];refine un φ R6 (by simp[q21]) ?_;refine zG ?_;refine sS [CV w,Y u A y,CV χ,η] λal bz bh=>?_;refine zq ?_;exact⟨_,_,_,_,_,_,_,_,_,ω,(G.t zt).as (by rw[(vR i q21).2.1,<-z12];rfl),(E9 _ _).as (vR i q21).2.2.symm,⟨λ_=>(vR i q21).1,λ_=>rfl⟩⟩;refine un χ R6 (by simp[q21]) ?_;refine zG ?_;refine sC (PF _ _ _ j.dd Z) ?_;rintro _ am b6⟨L,J,S,N,rfl,P⟩ cn ce;refine zG ?_;refine sS (b:=3*V+2) (off:=2) [CV w,Y u A y,CV L,Y J S N] λan c0 bi=>?_;refine zG ?_;refine sC (gcdX _ (g.x zx) (G.t zt) (P.t zt) (kQ j.dm Z) (kQ j.dd Z)) ?_;rintro _ ao b7⟨a5,a3,b3,a9,rfl,a0⟩ co cf;refine sC (tU _ a0) ?_;rintro _ ap b8⟨a6,rfl,W⟩ cp cg;obtain⟨rfl,o⟩|⟨rfl,o⟩:=Ky W;refine zG ?_;refine sT #[CV χ,η,CV χ,η] ?_;refine sS [CV χ,η,CV χ,η] λaq c1 bj=>?_;refine zq ?_;exact⟨_,_,_,_,_,_,_,_,_,ω,(E9 _ _).as Ao,(E9 _ _).as Ao,⟨λm=>(by cases m),λm=>CO m (qp i q21 gH)⟩⟩;refine zG ?_;refine sS [CV w,Y u A y,CV L,Y J S N] λar c2 bk=>?_;refine zq ?_;exact⟨_,_,_,_,_,_,_,_,_,ω,(G.t zt).as (by rw[(tk i q21 gH).2.1,<-z12];rfl),(P.t zt).as (tk i q21 gH).2.2.symm,⟨λ_=>(tk i q21 gH).1,λ_=>rfl⟩⟩;refine zG ?_;refine sC (negX _ (G.t zt)) ?_;rintro _ au b9⟨C,B,H,D,rfl,I⟩ cq ch;refine zG ?_;refine sS [CV C,Y B H D,CV χ,η] λav c3 bl=>?_;refine zG ?_;by_cases q31:F=[];refine un φ R6 (by simp[q31]) ?_;refine zG ?_;refine sS [CV C,Y B H D,CV χ,η] λaw c4 bm=>?_;refine zq ?_;exact⟨_,_,_,_,_,_,_,_,_,ω,(I.t zt).as (by rw[(vR i q31).2.1,<-z12];rfl),(E9 _ _).as (vR i q31).2.2.symm,⟨λ_=>(vR i q31).1,λ_=>rfl⟩⟩;refine un χ R6 (by simp[q31]) ?_;refine zG ?_;refine sC (PF _ _ _ j.dd Z) ?_;rintro _ ax ba⟨M,K,T,Z1,rfl,R⟩ cr ci;refine zG ?_;refine sS (b:=3*V+2) (off:=2) [CV C,Y B H D,CV M,Y K T Z1] λay c5 bn=>?_;refine zG ?_;refine sC (gcdX _ (g.x zx) (I.t zt) (R.t zt) (by rw[E7];exact(kQ j.dm Z)) (kQ j.dd Z)) ?_;rintro _ az bb⟨a7,a4,b4,aa,rfl,a1⟩ cs cj;refine sC (tU _ a1) ?_;rintro _ b0 bc⟨a8,rfl,Z3⟩ ct ck;obtain⟨rfl,p⟩|⟨rfl,p⟩:=Ky Z3;refine zG ?_;refine sT #[CV χ,η,CV χ,η] ?_;refine sS [CV χ,η,CV χ,η] λb1 c6 bo=>?_;refine zq ?_;exact⟨_,_,_,_,_,_,_,_,_,ω,(E9 _ _).as Ap,(E9 _ _).as Ap,⟨λm=>(by cases m),λm=>CO m (qp i q31 gK)⟩⟩;refine zG ?_;refine sS [CV C,Y B H D,CV M,Y K T Z1] λb2 c7 bp=>?_;refine zq ?_;exact⟨_,_,_,_,_,_,_,_,_,ω,(I.t zt).as (by rw[(tk i q31 gK).2.1,<-z12];rfl),(R.t zt).as (tk i q31 gK).2.2.symm,⟨λ_=>(tk i q31 gK).1,λ_=>rfl⟩⟩
def SC(k:Nat)(g:GG h n)(m:O s<500):CX (Kp (k+9)) 80 [CY ⟨⟨s⟩⟩] h n λv i j=>∃b a l c d e f g ok,v=.tuple #[.agg #[CV b,Y a l c,CV d,Y e f g],CV ok]/\IW i j b a l c (zj s).num/\IW i j d e f g (denZ (zj s))/\(ok=φ↔vF s):=SB k g (.of m)
def bdOk(s:List UInt8):Prop:=s=[]\/vF s
def so:¬vF []:=by rw[oP];rintro⟨h,_⟩;revert h;decide
def pairOk(lo hi:List UInt8):Prop:=bdOk lo/\bdOk hi/\(lo=[]\/hi=[]\/zj lo<=zj hi)
def qi(k:Nat)(g:GG h n)(hs:O s<500):CX (Kp (k+10)) 102 [CY ⟨⟨s⟩⟩] h n λv F G=>∃x b a l c d e f g ok,v=.tuple #[.agg #[CV x,CV b,Y a l c,CV d,Y e f g],CV ok]/\(x=φ↔s≠[])/\IW F G b a l c (zj s).num/\IW F G d e f g (denZ (zj s))/\(ok=φ↔bdOk s):=by refine zw (fn:=Tryz.f102) R4<|Zd λI Z0 a7=>?_;refine zG ?_;by_cases q12:s=[];refine un φ R6 (by simp[q12]) ?_;refine zG ?_;refine sT #[CV χ,CV χ,η,CV χ,η] ?_;refine sS [CV χ,CV χ,η,CV χ,η] λJ a0 T=>?_;refine zq ?_;exact⟨_,_,_,_,_,_,_,_,_,_,ω,⟨λi=>(by cases i),λi=>CO q12 i⟩,(E9 _ _).as (by rw[q12,xX so];rfl),(E9 _ _).as (by rw[q12,xX so];rfl),⟨λ_=>.inl q12,λ_=>rfl⟩⟩;refine un χ R6 (by simp[q12]) ?_;refine zG ?_;refine sC (SC _ (g.x zx) hs) ?_;rintro _ K S⟨m,j,y,o,p,q,u,w,H,rfl,B,C,D⟩ ab a8;obtain⟨rfl,A⟩|⟨rfl,A⟩:=Ky D;refine Zd λL a1 a9=>?_;refine sS [CV m,Y j y o,CV p,Y q u w] λM a2 Z4=>?_;refine zG ?_;refine sT #[CV φ,CV m,Y j y o,CV p,Y q u w] ?_;refine zG ?_;refine sS [CV φ,CV m,Y j y o,CV p,Y q u w] λN a3 V=>?_;refine zq ?_;exact⟨_,_,_,_,_,_,_,_,_,_,ω,⟨λ_=>q12,λ_=>rfl⟩,(B.t zt),(C.t zt),⟨λi=>(by cases i),λi=>by obtain i|i:=i;exact CO i q12;exact CO i A⟩⟩;refine Zd λZ1 a4 aa=>?_;refine sS [CV m,Y j y o,CV p,Y q u w] λP a5 W=>?_;refine zG ?_;refine sT #[CV φ,CV m,Y j y o,CV p,Y q u w] ?_;refine zG ?_;refine sS [CV φ,CV m,Y j y o,CV p,Y q u w] λR a6 Z3=>?_;refine zq ?_;exact⟨_,_,_,_,_,_,_,_,_,_,ω,⟨λ_=>q12,λ_=>rfl⟩,(B.t zt),(C.t zt),⟨λ_=>.inr A,λ_=>rfl⟩⟩
def jP(k:Nat)(g:GG h n){lo hi:List UInt8}(a8:O lo<500)(a3:O hi<500)(ab:Sz a (zj lo))(aa:Sz b (zj hi))(b8:a+b<=2496):CX (Kp (k+11)) 52 [CY ⟨⟨lo⟩⟩,CY ⟨⟨hi⟩⟩] h n λv R S=>∃x1 b1 a1 l1 c1 d1 e1 f1 g1 x2 b2 a2 l2 c2 d2 e2 f2 g2 ok,v=.tuple #[.agg #[η,CV x1,CV b1,Y a1 l1 c1,CV d1,Y e1 f1 g1,CV x2,CV b2,Y a2 l2 c2,CV d2,Y e2 f2 g2],CV ok]/\(ok=φ↔pairOk lo hi)/\(ok=φ->(x1=φ↔lo≠[])/\IW R S b1 a1 l1 c1 (zj lo).num/\IW R S d1 e1 f1 g1 (denZ (zj lo))/\(x2=φ↔hi≠[])/\IW R S b2 a2 l2 c2 (zj hi).num/\IW R S d2 e2 f2 g2 (denZ (zj hi))):=by refine zw (fn:=Tryz.f52) R4<|Zd λaf bt cj=>?_;refine zG ?_;refine sC (qi _ (g.x zx) a8) ?_;rintro _ ag bb⟨Z1,f,d,B,j,m,p,u,y,ac,rfl,I,K,M,a5⟩ cu ck;obtain⟨rfl,F⟩|⟨rfl,F⟩:=Ky a5;refine Zd λah bu cl=>?_;refine sS [CV Z1,CV f,Y d B j,CV m,Y p u y] λai bv bf=>?_;refine zG ?_;refine sC (qi _ (g.x zx) a3) ?_;rintro _ aj bc⟨P,Z4,T,a4,V,W,Z3,Z0,a0,ad,rfl,ci,b9,ba,a6⟩ cv cm;obtain⟨rfl,a9⟩|⟨rfl,a9⟩:=Ky a6;refine Zd λak bw cn=>?_;refine sS [CV P,CV Z4,Y T a4 V,CV W,Y Z3 Z0 a0] λal bx bg=>?_;refine zG ?_;refine sT #[η,CV χ,CV χ,η,CV χ,η,CV χ,CV χ,η,CV χ,η] ?_;refine sS [η,CV χ,CV χ,η,CV χ,η,CV χ,CV χ,η,CV χ,η] λam bz bh=>?_;exact B5;refine Zd λan c0 co=>?_;refine sS [CV P,CV Z4,Y T a4 V,CV W,Y Z3 Z0 a0] λao c3 bi=>?_;refine zG ?_;refine sT #[η,CV χ,CV χ,η,CV χ,η,CV χ,CV χ,η,CV χ,η] ?_;refine sS [η,CV χ,CV χ,η,CV χ,η,CV χ,CV χ,η,CV χ,η] λap c4 bj=>?_;exact B5;refine Zd λaq c5 cp=>?_;refine sS [CV Z1,CV f,Y d B j,CV m,Y p u y] λar c6 bk=>?_;refine zG ?_;refine sC (qi _ (g.x zx) a3) ?_;rintro _ au bd⟨D,i,e,C,l,o,q,w,A,ae,rfl,J,L,N,a7⟩ cw cq;obtain⟨rfl,H⟩|⟨rfl,H⟩:=Ky a7;refine Zd λav c7 cr=>?_;refine sS [CV D,CV i,Y e C l,CV o,Y q w A] λaw c8 bl=>?_;refine zG ?_;refine sT #[η,CV χ,CV χ,η,CV χ,η,CV χ,CV χ,η,CV χ,η] ?_;refine sS [η,CV χ,CV χ,η,CV χ,η,CV χ,CV χ,η,CV χ,η] λax c9 bm=>?_;refine zq ?_;exact⟨_,_,_,_,_,_,_,_,_,_,_,_,_,_,_,_,_,_,_,ω,⟨λc=>A0,λc=>CO c.2.1 H⟩,λc=>A0⟩;refine Zd λay ca cs=>?_;refine sS [CV D,CV i,Y e C l,CV o,Y q w A] λaz cb bn=>?_;refine zG ?_;cases Z1;refine zG ?_;refine sT #[η,CV χ,CV f,Y d B j,CV m,Y p u y,CV D,CV i,Y e C l,CV o,Y q w A] ?_;refine sS [η,CV χ,CV f,Y d B j,CV m,Y p u y,CV D,CV i,Y e C l,CV o,Y q w A] λb0 cc bo=>?_;refine zq ?_;exact⟨_,_,_,_,_,_,_,_,_,_,_,_,_,_,_,_,_,_,_,ω,⟨λ_=>⟨F,H,.inl (Df λc=>by cases I.2 c)⟩,λ_=>rfl⟩,λ_=>⟨I,(K.t zt),(M.t zt),J,(L.t zt),(N.t zt)⟩⟩;refine zG ?_;cases D;refine zG ?_;refine sT #[η,CV φ,CV f,Y d B j,CV m,Y p u y,CV χ,CV i,Y e C l,CV o,Y q w A] ?_;refine sS [η,CV φ,CV f,Y d B j,CV m,Y p u y,CV χ,CV i,Y e C l,CV o,Y q w A] λb3 cd bp=>?_;refine zq ?_;exact⟨_,_,_,_,_,_,_,_,_,_,_,_,_,_,_,_,_,_,_,ω,⟨λ_=>⟨F,H,.inr (.inl (Df λc=>by cases J.2 c))⟩,λ_=>rfl⟩,λ_=>⟨I,(K.t zt),(M.t zt),J,(L.t zt),(N.t zt)⟩⟩;refine zG ?_;refine sC ((xp _ (K.t zt) (M.t zt) (L.t zt) (N.t zt) ab aa Z).cx) ?_;rintro _ b4 be⟨ch,rfl,G⟩ cy ct;obtain⟨rfl,G⟩|⟨rfl,G⟩|⟨rfl,G⟩:=G;refine zG ?_;refine sT #[η,CV φ,CV f,Y d B j,CV m,Y p u y,CV φ,CV i,Y e C l,CV o,Y q w A] ?_;refine sS [η,CV φ,CV f,Y d B j,CV m,Y p u y,CV φ,CV i,Y e C l,CV o,Y q w A] λb5 ce bq=>?_;refine zq ?_;exact⟨_,_,_,_,_,_,_,_,_,_,_,_,_,_,_,_,_,_,_,ω,⟨λ_=>⟨F,H,.inr (.inr (Rat.le_of_lt G))⟩,λ_=>rfl⟩,λ_=>⟨I,(K.t zt),(M.t zt),J,(L.t zt),(N.t zt)⟩⟩;refine zG ?_;refine sT #[η,CV φ,CV f,Y d B j,CV m,Y p u y,CV φ,CV i,Y e C l,CV o,Y q w A] ?_;refine sS [η,CV φ,CV f,Y d B j,CV m,Y p u y,CV φ,CV i,Y e C l,CV o,Y q w A] λb6 cf br=>?_;refine zq ?_;exact⟨_,_,_,_,_,_,_,_,_,_,_,_,_,_,_,_,_,_,_,ω,⟨λ_=>⟨F,H,.inr (.inr (by rw[G];exact Rat.le_refl))⟩,λ_=>rfl⟩,λ_=>⟨I,(K.t zt),(M.t zt),J,(L.t zt),(N.t zt)⟩⟩;refine zG ?_;refine sT #[η,CV χ,CV χ,η,CV χ,η,CV χ,CV χ,η,CV χ,η] ?_;refine sS [η,CV χ,CV χ,η,CV χ,η,CV χ,CV χ,η,CV χ,η] λb7 cg bs=>?_;refine zq ?_;exact⟨_,_,_,_,_,_,_,_,_,_,_,_,_,_,_,_,_,_,_,ω,⟨λc=>A0,λc=>by obtain c|c|c:=c.2.2;exact CO c (I.1 ω);exact CO c (J.1 ω);exact CO c (Rat.not_le.2 G)⟩,λc=>A0⟩
end
section
variable {h h':HF}{len lo n n':Nat}
structure StayO {D:Type}(P:List ψ->D->HF->Nat->Prop):Prop where
 go:∀c d h h' n b cs e,P c d h n->h b=ξ (.row cs e)->cs.all nu=φ->Only b h h'->P c d h' n
def ratP.stayO:StayO ratP:=⟨λ_ _ _ _ _ _ _ _ ⟨b,a,l,k,d,e,f,g,q,i,j⟩ o p c=>⟨b,a,l,k,d,e,f,g,q,i.only o p c,j.only o p c⟩⟩
def numP.stayO:StayO numP:=⟨λ_ _ _ _ _ _ _ _ ⟨b,a,l,k,d,e,f,g,q,i,j⟩ o p c=>⟨b,a,l,k,d,e,f,g,q,i.only o p c,j.only o p c⟩⟩
structure Fil {D:Type}(P:List ψ->D->HF->Nat->Prop)(h:HF)(n B:Nat)(cs:List ψ)(e:TypeId)(S:List D)(j:Nat):Prop where
 row:h B=ξ (.row cs e)
 len:O cs=O S*4
 nus:cs.all nu=φ
 rcs:Rec 4 (λc d=>P c d h n) (cs.take (j*4)) (S.take j)
theorem pU{c:List ψ}{o:Nat}(h:o+O c<=O cs):(zu cs o c).take (o+O c)=cs.take o++c/\O (zu cs o c)=O cs:=by grind [zu,only]
theorem za5{c:List ψ}{o:Nat}(a:cs.all nu=φ)(b:c.all nu=φ):(zu cs o c).all nu=φ:=by grind [zu,only]
section
variable {P:List ψ->D->HF->Nat->Prop}
def Fil.ext(b:Stay P){S:List D}(f:Fil P h n B cs e S j)(x:Ko n h h')(g:n<=n')(a:B<3*n):Fil P h' n' B cs e S j:=
 ⟨(x B a).trans f.row,f.len,f.nus,f.rcs.mono λc d i=>b.go c d _ _ _ _ i x g⟩
def Fil.step(l:StayO P){c:List ψ}{S:List D}{d:D}(f:Fil P h n B cs e S j)(hj:S[j]?=ξ d)(a:O c=4)(s:c.all nu=φ)(i:P c d h n):Fil P (upd h B (ξ (.row (zu cs (j*4) c) e))) n B (zu cs (j*4) c) e S (j+1):=by
 have w:=(C4.1 hj).1;have g:j*4+O c<=O cs:=by rw[f.len,a];omega
 have⟨p,u⟩:=pU g;have o:Only B h (upd h B (ξ (.row (zu cs (j*4) c) e))):=λb q=>zm q;refine⟨zg _ _ _,u.trans f.len,za5 f.nus s,?_⟩;rw[a]at p;rw[Ff,p,xa hj];exact(f.rcs.mono λc d i=>l.go c d _ _ _ _ _ _ i f.row f.nus o).snoc a (l.go c d _ _ _ _ _ _ i f.row f.nus o)
theorem Fil.start{z:List ψ}{S:List D}(a:h B=ξ (.row (rep m z) e))(b:O z=4)(hu:z.all nu=φ)(hm:m=O S):Fil P h n B (rep m z) e S 0:=by
 refine⟨a,by rw[ZM,b,hm],?_,by rw[Ep,E1,E1];exact .nil⟩;clear a hm;induction m with
 |zero=>rfl
 |succ m ih=>rw[rep,IC,hu,ih];rfl
def Fil.rs{S:List D}(f:Fil P h n B cs e S (O S))(b:B<3*n):RS 4 P h n (Y (ξ ⟨B,0,θ⟩) (O S) (O S)) S:=by have c:=f.len;have a:=f.rcs;rw[Ds,<-c,Ds]at a;exact⟨cs,.at_ b f.row ω CS Z pq,a⟩
end
def KZ(lo:Nat)(h:HF)(n:Nat)(v:ψ)(l:List Rat):Prop:=QS h n v l/\∀ad len cap,v=Y (ξ ad) len cap->3*lo<=ad.block/\gro ad.block=χ
def KZ.ext{l:List Rat}(r:KZ lo h n v l)(x:Ko n h h')(a:n<=n'):KZ lo h' n' v l:=⟨r.1.ext x a,r.2⟩
def KZ.x{l:List Rat}(r:KZ lo h n v l)(t:Tx n h n' h'):KZ lo h' n' v l:=r.ext t.2 t.1
def rC(k:Nat)(g:GG h n){a:Option Addr}{S:List (List UInt8)}(H:Sl h n 1 (Y a len cap) (strs S))(hl:∀s∈S,O s<500)(hb:O S<1000000):
  CX (Kp (k+10)) 51 [Y a len cap] h n λv h' n'=>∃a' l' c' C,v=.tuple #[Y a' l' c',CV C]/\(C=φ↔∀s∈S,vF s)/\(C=φ->KZ n h' n' (Y a' l' c') (S.map zj)):=by
 refine zw (fn:=Tryz.f51) R4 ?_;have e1:=z8 H;subst e1;refine Zm ?_;refine vB R9 Z<|Zg ?_;generalize hh:upd h (3*n+2) _=h1;have Z0:∃cs,Fil ratP h1 (n+1) (3*n+2) cs 81 (S.map zj) 0:=⟨_,.start mp ω ω (by rw[Da])⟩;have a0:Ko n h h1:=by rw[<-hh];exact Cy
 refine ye (α:=Nat) (λz=>[(4,Y (ξ ⟨3*n+2,0,θ⟩) (O S) (O S)),(12,Y a (O S) cap),(13,U .i64 (O S:Int)),(14,U .i64 (z:Int))])
  (λz h' n' w'=>w'=[]/\n+1<=n'/\Ko n h h'/\(∃cs,Fil ratP h' n' (3*n+2) cs 81 (S.map zj) z)/\z<=O S/\∀s∈S.take z,vF s) (λz=>O S-z)
  0 P4 ⟨ω,CS,a0,Z0,CT,λs H=>CO H cA⟩ (by show O S-0<LL;unfold LL;omega) ?_
 rintro z t h2 I _⟨rfl,a2,q,⟨cs,Z4⟩,hz,i⟩;refine zN ?_;by_cases hze:z=O S;refine Zj ?_;rw[hze,Ds]at i;have M:=Z4;rw[hze,<-Da (f:=zj)]at M;have Z3:=M.rs (show 3*n+2<3*I from Z);rw[Da]at Z3;exact retX [Y (ξ ⟨3*n+2,0,θ⟩) (O S) (O S),CV φ] R3 (show n<=I from Z) q ⟨_,_,_,_,ω,⟨λ_=>i,λ_=>rfl⟩,λ_=>⟨Z3,λad l c e=>by cases e;exact⟨aD,zB n⟩⟩⟩;obtain⟨s,p⟩:∃s,S[z]?=ξ s:=⟨S[z]'Z,CW Z⟩;have w:s∈S:=C0 p;refine Zx ?_;refine yE (f:=λs=>CY ⟨⟨s⟩⟩) (j:=z) (dv:=s) R7 (H.ext q (show n<=I from Z)) R2 p (λ_=>rfl) R4 λ_=>?_;refine oQ ?_;refine zM ?_;refine gJ R5 (SC k (g.ext q (show n<=I from Z)) (hl s w)) ?_;rintro _ h3 J⟨b,F,l,c,d,e,f,G,C,rfl,i3,j3,N⟩ W R;repeat refine zR ?_
 refine wt [CV χ,η,CV χ,η] R6 λh4 K L=>?_;refine mq [CV b,Y F l c,CV d,Y e f G] R5 K R3 zb ω dG λT p5 A=>?_;have o:=(Z4.ext ratP.stay R W Z).ext ratP.stay L Zq Z;have x5:Ko J h4 T:=λb hb=>A b Z;have i5:=(i3.ext L Zq).only K ω A;have j5:=(j3.ext L Zq).only K ω A;have u:Fil ratP T (J+1) (3*n+2) cs 81 (S.map zj) z:=⟨(A _ Z).trans o.row,o.len,o.nus,o.rcs.mono λc d hp=>ratP.stayO.go c d _ _ _ _ _ _ hp K ω A⟩;have y:Ko n h T:=λb hb=>(x5 b Z).trans ((L b Z).trans ((R b Z).trans (q b hb)));refine oQ ?_;cases C with
 |false=>
  refine Zi ?_;exact retX [η,CV χ] R3 (show n<=J+1 from Z) y ⟨_,_,_,_,ω,⟨λh=>CO h cA,λh=>N.2 (h s w)⟩,λh=>CO h cA⟩
 |true=>
 refine Zy ?_;refine z7 (v:=.agg #[CV b,Y F l c,CV d,Y e f G]) R5 (yw R2 p5 ω zb ω)<|PE (aq:=ξ ⟨3*n+2,0,θ⟩) (j:=z) R9 Z ?_;refine yF (b:=3*n+2) (off:=z*4) (cs:=[CV b,Y F l c,CV d,Y e f G]) ⟨ω,ω,ω,ω,AN,ω,ω,ω⟩ u.row (by rw[u.len,Da];omega) dG ?_;have V:=u.step ratP.stayO (j:=z) (c:=[CV b,Y F l c,CV d,Y e f G]) (by rw[Dz,p];rfl) ω ω ⟨_,_,_,_,_,_,_,_,ω,i5,j5⟩;refine mM ?_;refine goOn (z+1) (by show O S-(z+1)<O S-z;omega) P4 ⟨ω,by show n+1<=J+1;omega,λb hb=>(zm Z).trans (y b hb),⟨_,V⟩,by show z+1<=O S;omega,?_⟩;intro s' Z1;rw[xa p]at Z1;obtain h'|h':=Ei.1 Z1;exact i s' h';rw[Dc.1 h'];exact N.1 rfl
def SD(k:Nat){a:Option Addr}{S:List (List UInt8)}(I:Sl h n 1 (Y a len cap) (strs S))(hl:∀s∈S,O s<500)(hb:O S<1000000):
  CX (Kp (k+7)) 20 [Y a len cap] h n λv h' n'=>∃a' l' c' C,v=.tuple #[Y a' l' c',CV C]/\(C=φ↔∀s∈S,vF s)/\(C=φ->NS h' n' (Y a' l' c') (S.map zj)):=by
 refine zw (fn:=Tryz.f20) R4 ?_;have e1:=z8 I;subst e1;refine Zm ?_;refine vB R9 Z<|Zg ?_;generalize hh:upd h (3*n+2) _=h1;have a0:∃cs,Fil numP h1 (n+1) (3*n+2) cs 45 (S.map zj) 0:=⟨_,.start mp ω ω (by rw[Da])⟩;have a2:Ko n h h1:=by rw[<-hh];exact Cy
 refine ye (α:=Nat) (λz=>[(0,Y a (O S) cap),(4,Y (ξ ⟨3*n+2,0,θ⟩) (O S) (O S)),(5,U .i64 (z:Int))])
  (λz h' n' w'=>w'=[]/\n+1<=n'/\Ko n h h'/\(∃cs,Fil numP h' n' (3*n+2) cs 45 (S.map zj) z)/\z<=O S/\∀s∈S.take z,vF s) (λz=>O S-z)
  0 P3 ⟨ω,CS,a2,a0,CT,λs I=>CO I cA⟩ (by show O S-0<LL;unfold LL;omega) ?_
 rintro z t h2 Z4 _⟨rfl,a3,y,⟨cs,V⟩,hz,g⟩;refine zN ?_;by_cases hze:z=O S;refine Zj ?_;rw[hze,Ds]at g;have M:=V;rw[hze,<-Da (f:=zj)]at M;have H:=M.rs (show 3*n+2<3*Z4 from Z);rw[Da]at H;exact retX [Y (ξ ⟨3*n+2,0,θ⟩) (O S) (O S),CV φ] R3 (show n<=Z4 from Z) y ⟨_,_,_,_,ω,⟨λ_=>g,λ_=>rfl⟩,λ_=>H⟩;obtain⟨s,o⟩:∃s,S[z]?=ξ s:=⟨S[z]'Z,CW Z⟩;have u:s∈S:=C0 o;refine Zp ?_;refine yE (f:=λs=>CY ⟨⟨s⟩⟩) (j:=z) (dv:=s) R7 (I.ext y (show n<=Z4 from Z)) R2 o (λ_=>rfl) R4 λ_=>?_;refine gJ R5 (PA k _ _ s (by have:=hl s u;omega)) ?_;rintro _ h3 J⟨b,F,l,c,d,e,f,G,C,q,rfl,i3,j3,N,Z3⟩ Z0 R;repeat refine zR ?_
 refine wt [CV χ,η,CV χ,η] R6 λh4 K L=>?_;refine mq [CV b,Y F l c,CV d,Y e f G] R5 K R3 zb ω dG λT p5 A=>?_;have i:=(V.ext numP.stay R Z0 Z).ext numP.stay L Zq Z;have x5:Ko J h4 T:=λb hb=>A b Z;have i5:=(i3.ext L Zq).only K ω A;have j5:=(j3.ext L Zq).only K ω A;have p:Fil numP T (J+1) (3*n+2) cs 45 (S.map zj) z:=⟨(A _ Z).trans i.row,i.len,i.nus,i.rcs.mono λc d hp=>numP.stayO.go c d _ _ _ _ _ _ hp K ω A⟩;have w:Ko n h T:=λb hb=>(x5 b Z).trans ((L b Z).trans ((R b Z).trans (y b hb)));refine oQ ?_;cases C with
 |false=>
  refine Zi ?_;exact retX [η,CV χ] R3 (show n<=J+1 from Z) w ⟨_,_,_,_,ω,⟨λh=>CO h cA,λh=>Z3 (h s u)⟩,λh=>CO h cA⟩
 |true=>
 have H:=pA (N ω);subst H;refine Zy ?_;refine z7 (v:=.agg #[CV b,Y F l c,CV d,Y e f G]) R5 (yw R2 p5 ω zb ω)<|PE (aq:=ξ ⟨3*n+2,0,θ⟩) (j:=z) R9 Z ?_;refine yF (b:=3*n+2) (off:=z*4) (cs:=[CV b,Y F l c,CV d,Y e f G]) ⟨ω,ω,ω,ω,AN,ω,ω,ω⟩ p.row (by rw[p.len,Da];omega) dG ?_;have W:=p.step numP.stayO (j:=z) (c:=[CV b,Y F l c,CV d,Y e f G]) (by rw[Dz,o];rfl) ω ω ⟨_,_,_,_,_,_,_,_,ω,i5,j5⟩;refine mM ?_;refine goOn (z+1) (by show O S-(z+1)<O S-z;omega) P3 ⟨ω,by show n+1<=J+1;omega,λb hb=>(zm Z).trans (w b hb),⟨_,W⟩,by show z+1<=O S;omega,?_⟩;intro s' Z1;rw[xa o]at Z1;obtain h'|h':=Ei.1 Z1;exact g s' h';rw[Dc.1 h'];exact⟨_,N ω⟩
end
def zrk(a:Nat->Nat->Rat)(k:Nat):Nat->Nat->Rat:=λi j=>if k<i/\k<j then a i j-a i k/a k k*a k j else a i j
def psdA(n:Nat):Nat->Nat->(Nat->Nat->Rat)->Prop
 |0,_,_=>True
 |m+1,k,a=>0<=a k k/\(a k k=0->∀i,k<i->i<n->a i k=0)/\psdA n m (k+1) (zrk a k)
def TabR(n:Nat)(T:Nat->Nat->Int)(bf:Int)(s:Nat->Rat)(a:Nat->Nat->Rat)(k:Nat):Prop:=∀i j,k<=i->i<n->k<=j->j<n->(T i j:Rat)=bf*s i*a i j
theorem SE{x:Int}:((x:Rat)=0)↔x=0:=by simp_all [Rat.intCast_inj.1]
def zqt(T:Nat->Nat->Int)(k:Nat)(bf:Int):Nat->Nat->Int:=λi j=>if k<i then(T k k*T i j-T i k*T k j).tdiv bf else T i j
inductive LdS (n:Nat) (T0:Nat->Nat->Int):Nat->(Nat->Nat->Int)->Int->Prop
 |zero:LdS n T0 0 T0 1
 |skip {k T bf} (h:LdS n T0 k T bf) (h0:∀i,k<=i->i<n->T i k=0):LdS n T0 (k+1) T bf
 |clear {k T bf} (h:LdS n T0 k T bf) (hp:T k k≠0) (hk:k<n):LdS n T0 (k+1) (zqt T k bf) (T k k)
structure LdI (n:Nat)(T0:Nat->Nat->Int)(s:Nat->Rat)(a0:Nat->Nat->Rat)(k:Nat)(T:Nat->Nat->Int)(bf:Int)(a:Nat->Nat->Rat):Prop where
 tab:TabR n T bf s a k
 ls:LdS n T0 k T bf
 pos:0<bf
 eq:psdA n n 0 a0↔psdA n (n-k) k a
section
variable {n k:Nat}{T:Nat->Nat->Int}{s:Nat->Rat}{a:Nat->Nat->Rat}{bf:Int}
end
def YF(C:CalF)(l:Nat)(args:List ψ)(h:HF)(n:Nat)(P:HF->Nat->List Nat->Prop):Prop:=∃h' n' w,C.yl l args h n=ξ (CV φ,h',n',w)/\P h' n' w
section
variable {h:HF}{n:Nat}{d:Tmp}
end
structure YS (C:CalF)(l:Nat)(W:Nat->Prop)(args:Nat->List ψ)(K:Nat)(I:Nat->HF->Nat->Prop):Prop where
 step:∀k h n,k<K->I k h n->YF C l (args k) h n λh' n' w=>I (k+1) h' n'/\n<=n'/\(∀c,c<3*n->¬W c->h' c=h c)/\∀c∈w,W c\/3*n<=c
def tI:∀(l w:List Nat),∀c∈addW n0 l w,(c∈l/\c<3*n0)\/c∈w:=by
 intro l;induction l with
 |nil=>intro w c e;exact Or.inr e
 |cons b l ih=>
  intro w c e;unfold addW at e;cases hb:DC (3*n0) b with
  |true=>
   simp only[hb]at e;obtain⟨a,f⟩|a:=ih w c e;exact an7 ⟨E3 _ a,f⟩;exact Or.inr a
  |false=>
   simp only[hb]at e;have g:b<3*n0:=(by obtain h|h:=Nat.lt_or_ge b (3*n0);exact h;rw[C8 h]at hb;cases hb);obtain⟨a,f⟩|a:=ih (b::w) c e;exact an7 ⟨E3 _ a,f⟩;obtain rfl|a:=DA.1 a;exact an7 ⟨EM ..,g⟩;exact Or.inr a
def nM:∀(l w:List Nat),∀c∈w,c∈addW n0 l w:=by
 intro l;induction l with
 |nil=>intro w c a;exact a
 |cons b l ih=>
  intro w c a;unfold addW;cases hb:DC (3*n0) b with
  |true=>exact ih w c a
  |false=>exact ih (b::w) c (E3 _ a)
def wQ(a:c<3*n0):∀{l w:List Nat},c∈l->c∈addW n0 l w:=by
 intro l;induction l with
 |nil=>intro w h;exact CO h C6
 |cons b l ih=>
  intro w h;unfold addW;cases hb:DC (3*n0) b with
  |true=>
   obtain rfl|h:=DA.1 h;have:=Dt hb;omega;exact ih h
  |false=>
   obtain rfl|h:=DA.1 h;exact nM l _ _ (EM ..);exact ih h
section
variable {len off:Nat}{x:Operand}
structure KP {D:Type}(sz:Nat)(P:List ψ->D->HF->Nat->Prop):Prop where
 t:∀{c d h n h' n'},P c d h n->Tr n h n' h'->P c d h' n'
 c:∀{c d h n},P c d h n->O c=sz/\c.all nu=φ/\ones c=φ
def OR{D:Type}(sz:Nat)(P:List ψ->D->HF->Nat->Prop)(h:HF)(n b:Nat)(ds:List D):Prop:=b<3*n/\∃C e,h b=ξ (.row C e)/\C.all nu=φ/\Rec sz (λc d=>P c d h n) C ds
def Rec.set2{D:Type}{sz:Nat}{P:List ψ->D->Prop}{ds:List D}(r:Rec sz P cs ds){c:List ψ}{d:D}(f:O c=sz)(l:P c d):∀{j:Nat},j<O ds->Rec sz P (zu cs (j*sz) c) (ds.set j d):=by
 induction r with
 |nil=>intro j a;cases a
 | @cons c1 cs d1 ds hl hp1 hr ih=>
  intro j a;cases j with
  |zero=>
   have e:zu (c1++cs) (0*sz) c=c++cs:=(by unfold zu;rw[Ep,E1,DR,Dl,f,<-hl,List.drop_left]);rw[e];exact .cons f l hr
  |succ j=>
   have e:zu (c1++cs) ((j+1)*sz) c=c1++zu cs (j*sz) c:=by
    have g:(j+1)*sz=O c1+j*sz:=by rw[Ff,hl,EE]
    unfold zu;rw[g,ad3,C7 Z,E6,DH,Nat.add_assoc,ad2,FA Z,DR,E6]
   rw[e];exact .cons hl hp1 (ih (by simpa using a))
theorem dF{c:List ψ}{o:Nat}(h:cs.all nu=φ)(a:c.all nu=φ):(zu cs o c).all nu=φ:=by grind [zu]
section
variable {P:List ψ->D->HF->Nat->Prop}{h h':HF}{n n':Nat}{ds:List D}
def OR.go(o:OR sz P h n b ds)(l:KP sz P)(t:Tr n h n' h')(e:h' b=h b):OR sz P h' n' b ds:=by have⟨p,C,a,c,f,g⟩:=o;exact⟨by have:=t.1;omega,C,a,e.trans c,f,g.mono λ_ _ r=>l.t r t⟩
def OR.ext(o:OR sz P h n b ds)(g:KP sz P)(x:Ko n h h')(f:n<=n'):OR sz P h' n' b ds:=o.go g ⟨f,λc a=>.inl (x c a)⟩ (x b o.1)
def OR.xx(o:OR sz P h n b ds)(a:KP sz P)(t:Tx n h n' h'):OR sz P h' n' b ds:=o.ext a t.2 t.1
def OR.as{a:List D}(o:OR sz P h n b ds)(e:ds=a):OR sz P h n b a:=e▸o
def OR.get{d:D}(o:OR sz P h n b ds)(hj:ds[j]?=ξ d)(q:off=j*sz):∃c,P c d h n/\O c=sz/\At h b off c:=by have⟨y,C,s,l,v,p⟩:=o;have⟨c,a,f,g,u⟩:=p.get hj;subst q;exact⟨c,f,a,⟨_,C,l,ω,Z,by rw[a];exact g⟩⟩
def OR.set{d:D}{c C:List ψ}(o:OR sz P h n b ds)(a:KP sz P)(l:h b=ξ (.row C e))(hj:j<O ds)(r:P c d h n)(v:h' b=ξ (.row (zu C (j*sz) c) e))(B:Only b h h'):OR sz P h' n b (ds.set j d)/\KS b h h':=by have⟨A,F,G,f,g,y⟩:=o;rw[l]at f;cases f;have p:KS b h h':=⟨B,_,_,l,g⟩;have t:Tr n h n h':=Tr.s p (Tr.refl _ _);have⟨q,u,_⟩:=a.c r;exact⟨⟨A,_,_,v,dF g u,(y.mono λ_ _ r=>a.t r t).set2 q (a.t r t) hj⟩,p⟩
def OR.sl(o:OR sz P h n b ds)(hl:len=O ds)(g:len<=cap):RS sz P h n (Y (ξ ⟨b,0,θ⟩) len cap) ds:=by have⟨f,C,l,c,p,a⟩:=o;have:=a.len;subst hl;exact⟨C,.at_ f c ω g Z pq,a⟩
theorem OR.fill{L:Nat}{z:List ψ}{d:D}(hb:b<3*n)(a:h b=ξ (.row (rep L z) e))(g:KP sz P)(f:P z d h n):OR sz P h n b (C3 L d):=by
 refine⟨hb,_,_,a,?_,?_⟩
 .clear a;induction L with
  |zero=>rfl
  |succ L ih=>show List.all (z++rep L z) nu=φ;rw[IC,ih,(g.c f).2.1];rfl
 clear a;induction L with
 |zero=>exact .nil
 |succ L ih=>exact .cons (g.c f).1 f ih
end
def Ld(h:HF)(b:Nat)(e:TypeId):Prop:=∃C,h b=ξ (.row C e)
def intP(c:List ψ)(z:Int)(h:HF)(n:Nat):Prop:=∃b a l k,c=[CV b,Y a l k]/\IW h n b a l k z
def intP.kp:KP 2 intP:=⟨λ⟨b,a,l,k,e,i⟩ t=>⟨b,a,l,k,e,i.t t⟩,λ⟨b,a,l,k,e,i⟩=>by subst e;exact R3⟩
def ratP.kp:KP 4 ratP:=⟨λ⟨b,a,l,k,d,e,f,g,c,i,j⟩ t=>⟨b,a,l,k,d,e,f,g,c,i.t t,j.t t⟩,λ⟨b,a,l,k,d,e,f,g,c,i,j⟩=>by subst c;exact R3⟩
abbrev OZ(h:HF)(n b:Nat)(zs:List Int):Prop:=OR 2 intP h n b zs
section
variable {h:HF}{n:Nat}{ld:List (Nat×Nat)}{d:Tmp}
def OC{a:Operand}{b sz:Nat}{c:List ψ}(c':List ψ)(hb:h b=ξ (.row c e))(k:∀h',h' b=ξ (.row c' e)->KS b h h'->EO X ops r ⟨t,h',n,addW n0 [b] w⟩ Q)(g:zh ops t o=φ:=by rfl)(hd:o.dst=θ:=by rfl)(ho:o.op=.store ty a x:=by rfl)(hi:X.E.inf ty=ξ (sz,bt,z):=by rfl)(ha:Kn t a=.pointer (ξ ⟨b,off,θ⟩):=by rfl)(hu:c.all nu=φ:=by rfl)(hx:zn (Kn t x)=cs:=by rfl)(hs:cs.length=sz:=by rfl)(h1:ones cs=φ:=by rfl)(hl:off+sz<=c.length:=by exact zb)(hsp:zu c off cs=c':=by rfl)(hX:X.n0=n0:=by rfl):EO X ops (o::r) ⟨t,h,n,w⟩ Q:=by subst hsp hx;rw[rS g (by rw[hd];rfl) (by rw[ho];rfl) (by rw[ho];exact xn hi ha hs h1 hb hl),hd,hX];exact k _ (zg _ _ _) ⟨λc f=>zm f,_,_,hb,hu⟩
def ML{a:Operand}{b sz:Nat}{c:List ψ}(c':List ψ)(hb:h b=ξ (.row c e))(k:∀h',h' b=ξ (.row c' e)->KS b h h'->ED X ops r ms (i+1) ⟨⟨t,h',n,addW n0 [b] w⟩,al,ld,(i,h,[b])::ef⟩ Q)(g:zh ops t o=φ:=by rfl)(hd:o.dst=θ:=by rfl)(ho:o.op=.store ty a x:=by rfl)(hi:X.E.inf ty=ξ (sz,bt,z):=by rfl)(ha:Kn t a=.pointer (ξ ⟨b,off,θ⟩):=by rfl)(hu:c.all nu=φ:=by rfl)(hx:zn (Kn t x)=cs:=by rfl)(hs:cs.length=sz:=by rfl)(h1:ones cs=φ:=by rfl)(hl:off+sz<=c.length:=by exact zb)(hsp:zu c off cs=c':=by rfl)(hX:X.n0=n0:=by rfl)(g1:xq m ef=φ:=by rfl)(g2:xJ m al=φ:=by rfl)(g3:ya m [b] ld=φ:=by rfl):ED X ops (o::r) (m::ms) i ⟨⟨t,h,n,w⟩,al,ld,ef⟩ Q:=by subst hsp hx;refine mX g (by rw[hd];rfl) (by rw[ho];rfl) (by rw[ho];exact xn hi ha hs h1 hb hl) g1 g2 g3 (Nat.le_refl _) ?_;rw[hd,hX];exact k _ (zg _ _ _) ⟨λc f=>zm f,_,_,hb,hu⟩
def dZ{D:Type}{sz:Nat}{P:List ψ->D->HF->Nat->Prop}{a:Operand}{b:Nat}{zs:List D}{q:D}(c:List ψ)(v:OR sz P h n b zs)(u:KP sz P)(hj:j<zs.length)(g:off=j*sz)(p:P c q h n)(k:∀h',OR sz P h' n b (zs.set j q)->KS b h h'->(∀e,Ld h b e->Ld h' b e)->ED X ops r ms (i+1) ⟨⟨t,h',n,addW n0 [b] w⟩,al,ld,(i,h,[b])::ef⟩ Q)(H:zh ops t o=φ:=by rfl)(hd:o.dst=θ:=by rfl)(ho:o.op=.store ty a x:=by rfl)(hi:X.E.inf ty=ξ (sz,bt,z):=by rfl)(ha:Kn t a=.pointer (ξ ⟨b,off,θ⟩):=by rfl)(hx:zn (Kn t x)=c:=by rfl)(h1:xq m ef=φ:=by rfl)(f:xJ m al=φ:=by rfl)(h3:ya m [b] ld=φ:=by rfl)(hX:X.n0=n0:=by rfl):ED X ops (o::r) (m::ms) i ⟨⟨t,h,n,w⟩,al,ld,ef⟩ Q:=by have y:=v;have⟨N,C,e,l,Z1,I⟩:=v;have G:=I.len;have⟨A,L,B⟩:=u.c p;have J:j*sz+sz<=zs.length*sz:=(by have:=Nat.mul_le_mul_right sz (show j+1<=zs.length from hj);rw[Nat.add_mul,Nat.one_mul]at this;exact this);subst g;refine mX H (by rw[hd];rfl) (by rw[ho];rfl) (by rw[ho];exact xn hi ha (by rw[hx];exact A) (by rw[hx];exact B) l Z) h1 f h3 (Nat.le_refl _) ?_;rw[hd,hx,hX];have s:=y.set (h':=upd h b (ξ (.row (zu C (j*sz) c) e))) u l hj p (zg _ _ _) (λc F=>zm F);exact k _ s.1 s.2 λM⟨K,f⟩=>⟨_,by rw[l]at f;cases f;exact zg _ _ _⟩
end
end
section
variable {h' h0:HF}{len:Nat}{T:List Nat}{sT:TypeId}{x:Operand}
def BkOf(v:ψ)(b:Nat):Prop:=∃o l c,v=Y (ξ ⟨b,o,θ⟩) l c
def GroU(h:HF)(n:Nat)(v:ψ)(T:List Nat):Prop:=Gro h 0 n 164 1 v (O T) (u64s T)
structure AU (h0:HF)(n0:Nat)(v0:ψ)(h:HF)(n:Nat)(w:List Nat)(v:ψ)(T:List Nat):Prop where
 hn:n0<=n
 keep:Keep v0 n0 h0 h
 hw:∀b∈w,BkOf v0 b
 g:GroU h n v T
 or:v=v0\/xC n0 v
 wd:Kq T
def AU.refl(g:GroU h0 n0 v0 T)(a:Kq T):AU h0 n0 v0 h0 n0 [] v0 T:=⟨CS,λ_ _ _=>rfl,λb c=>CO c C6,g,an7 ω,a⟩
def AU.trans{s u:HF}{p A:Nat}{B w2:List Nat}{v1 v2:ψ}{C q:List Nat}(a:AU h0 n0 v0 s p B v1 C)(b:AU s p v1 u A w2 v2 q):AU h0 n0 v0 u A (addW n0 w2 B) v2 q:=by
 have F:=a.hn;refine⟨Dy a.hn b.hn,λk m i=>(b.keep k Z λo l c e=>?_).trans (a.keep k m i),λk m=>?_,b.g,?_,b.wd⟩;obtain h|h:=a.or;exact i o l c (h▸e);rw[e]at h;have h:3*n0<=k:=h;omega;obtain h|⟨h,D⟩:=yN.1 m;exact a.hw k h;have⟨o,l,c,e⟩:=b.hw k h;obtain f|f:=a.or;exact⟨o,l,c,f▸e⟩;rw[e]at f;have f:3*n0<=k:=f;omega;obtain h|h:=b.or;rw[h];exact a.or;right;cases v2 with
 |slice ad l c=>
  cases ad with
  |none=>trivial
  |some ad=>have h:3*p<=ad.block:=h;show 3*n0<=ad.block;omega
 |_=>trivial
def AU.sl{h:HF}{n:Nat}{w:List Nat}{u:ψ}{c:List ψ}(a:AU h0 n0 v0 h n w v T)(s:Sl h0 n0 1 u c)(p:∀b,BkOf v0 b->KL b u):Sl h n 1 u c:=
 s.keep (λf l cap i=>by
  have m:=s.below;subst i;refine a.keep f.block m λo q g e=>?_;have:=p f.block ⟨o,q,g,e⟩;exact this ω) a.hn
def AU.off{h:HF}{n:Nat}{w:List Nat}{u:ψ}{c:List ψ}(a:AU h0 n0 v0 h n w v T)(s:Sl h0 n0 1 u c)(g:∀b,BkOf v0 b->KL b u):∀b,BkOf v b->KL b u:=by rintro b⟨o,l,k,rfl⟩;obtain e|f:=a.or;exact g b ⟨o,l,k,e.symm⟩;have f:3*n0<=b:=f;exact s.below.off f
def GroU.row{h:HF}{n:Nat}(g:GroU h n v T)(h0:O T≠0):∃b,v=Y (ξ ⟨b,0,θ⟩) (O T) (O T)/\gro b=φ/\b<3*n/\h b=ξ (.row (u64s T) 164):=by have⟨b,a,c,_,f,i,_⟩:=Gro.inv2 g h0;exact⟨b,a,c,f,i⟩
def AU.row{w:List Nat}(a:gro b=φ)(hb:b<3*n0)(hx:ExtT n0 b h0 h')(p:∀c∈w,c=b)(m:h' b=ξ (.row (u64s L) 164))(hl:O L=O T)(g:Kq L):AU h0 n0 (Y (ξ ⟨b,0,θ⟩) (O T) (O T)) h' n0 w (Y (ξ ⟨b,0,θ⟩) (O T) (O T)) L:=by refine⟨CS,λk l f=>hx k l λe=>f 0 (O T) (O T) (by rw[e]),λc i=>⟨0,O T,O T,by rw[p c i]⟩,?_,.inl ω,g⟩;rw[<-hl];exact .at_ a Z hb m (by rw[zL,D1]) (xW _)
section
variable {h:HF}{n:Nat}{d:Tmp}
def SF{s:Operand}(a:AU h0 n0 v0 h n w (Kn t s) T)(i:X.n0=n0/\zh ops t o=φ/\o.dst=ξ d/\zv X.nt (ξ d)=φ/\o.op=.call {callee:=.builtin .append,args:=#[s,x],argTypes:=#[sT,xT]}/\(match X.E.und xT with|some (.int _)=>χ|none=>χ|_=>φ)=φ/\X.E.und sT=ξ (.slice 164)/\X.E.inf 164=ξ (1,8,z)/\O (zn z)=1)(hx:argS h 1 (Kn t x) 1 (u64s [0]))(hb:O T<1000000000)
  (k:∀u h' w',AU h0 n0 v0 h' (n+1) w' u (T++[0])->EO X ops r ⟨upd t d u,h',n+1,w'⟩ Q):EO X ops (o::r) ⟨t,h,n,w⟩ Q:=by
 have⟨i,F,hd,hn,m,A,p,l,q⟩:=i;have⟨u,h',W,c,B,_,C,G,D⟩:=uf (lo:=0) p l q ⟨CS,Z⟩ a.g hx CS Z (by rw[zL];rfl) (xW _) CT;refine yM ⟨F,hd,hn,m,A⟩ c ?_;rw[i];refine k _ _ _ (a.trans ⟨Z,C,?_,?_,.inr D,?_⟩);intro b hb;have f:Gro h 0 n 164 1 (Kn t s) (O T) (u64s T):=a.g;have hv:∃v,v=Kn t s:=⟨_,ω⟩;have⟨v,hv⟩:=hv;rw[<-hv]at f c⊢;generalize hTl:O T=tl at f;generalize hTc:u64s T=tc at f;cases f with
 |nil=>
  have e:=append_nil (n:=n) p l q CS Z hx CS Z;rw[e]at c;injection c with c;injection c with _ _ _ c;rw[<-c]at hb;exact CO hb C6
 |at_ f hlo hb2 hr hl m=>
  have e:=ue (n:=n) p l q CS Z hx CS Z f hr hl (yZ m (xW _)) (by rw[zL];rfl);rw[e]at c;injection c with c;injection c with _ _ _ c;rw[<-c]at hb;rw[Dc.1 hb];exact⟨_,_,_,ω⟩
 unfold GroU;rw[C1,show u64s (T++[0])=u64s T++u64s [0]from by unfold u64s;rw[EK]];exact B;exact Kq.snoc a.wd zd
theorem zl6{c:List ψ}{i:Operand}{f:Oper}{a:Tmp}{s:Nat}(m:zh ops t o=φ/\o.dst=ξ a/\zv X.nt (ξ a)=φ/\o.op=.indexAddr ty x i/\X.E.und ty=ξ (.slice e)/\X.E.inf e=ξ (1,bt,z)/\Kn t x=Y (ξ ⟨b,0,θ⟩) len cap/\Kn t i=U ik ji/\ji=(j:Int))(B:j<len/\j<O c)(hb:h b=ξ (.row c e3))
  (C:∀p,zh ops (upd t a p) f=φ)(g:f.dst=θ)(l:f.op=.store e2 (.tmp a) y)(u:X.E.inf e2=ξ (1,s,z2))(q:∀p,zn (Kn (upd t a p) y)=[v])(D:ones [v]=φ)
  (k:∀p,EO X ops r ⟨upd t a p,upd h b (ξ (.row (c.set j v) e3)),n,addW X.n0 [b] w⟩ Q):EO X ops (o::f::r) ⟨t,h,n,w⟩ Q:=by
 obtain⟨m,F,J,K,M,H,N,I,A⟩:=m;subst A;refine oe ⟨m,F,J,K,M,H,N,I⟩ Z ?_;have G:=xn (E:=X.E) (t:=upd t a (CZ (ξ ⟨b,0+(j:Int).toNat*1,θ⟩))) (h:=h) (n:=n) (a:=.tmp a) (x:=y) (b:=b) (off:=0+(j:Int).toNat*1) u (zg _ _ _) (by rw[q];rfl) (by rw[q];exact D) hb (by rw[Ew];omega);rw[rS (C _) gY (by rw[l];rfl) (by rw[l];exact G),g];rw[q,Ew,D1,Dl,splice_one _ _ _ B.2];exact k _
end
end
section
variable {h':HF}{c n':Nat}
structure SideD where
 A:List Rat
 lo:List UInt8
 hi:List UInt8
def uK(lo:Nat)(c:List ψ)(d:SideD)(h:HF)(n:Nat):Prop:=∃aA lA kA x1 b1 a1 l1 c1 d1 e1 f1 g1 x2 b2 a2 l2 c2 d2 e2 f2 g2,c=[Y aA lA kA,CV x1,CV b1,Y a1 l1 c1,CV d1,Y e1 f1 g1,CV x2,CV b2,Y a2 l2 c2,CV d2,Y e2 f2 g2]/\KZ lo h n (Y aA lA kA) d.A/\(x1=φ↔d.lo≠[])/\IW h n b1 a1 l1 c1 (zj d.lo).num/\IW h n d1 e1 f1 g1 (denZ (zj d.lo))/\(x2=φ↔d.hi≠[])/\IW h n b2 a2 l2 c2 (zj d.hi).num/\IW h n d2 e2 f2 g2 (denZ (zj d.hi))
def uK.stay(lo:Nat):Stay (uK lo):=⟨λ_ _ _ _ _ _ ⟨i,T,P,Z4,m,f,R,q,u,A,C,F,V,p,g,S,s,y,B,D,G,H,I,J,K,L,M,N,Z1⟩ x a=>⟨i,T,P,Z4,m,f,R,q,u,A,C,F,V,p,g,S,s,y,B,D,G,H,I.ext x a,J,K.ext x a,L.ext x a,M,N.ext x a,Z1.ext x a⟩⟩
def uK.nus{lo:Nat}{c:List ψ}{d:SideD}{h:HF}{n:Nat}(s:uK lo c d h n):c.all nu=φ/\ones c=φ/\O c=11:=by obtain⟨g,K,H,L,i,a,I,p,u,A,C,F,M,m,f,J,q,y,B,D,G,rfl,_⟩:=s;exact R3
def MM(lo n:Nat)(h h':HF):Prop:=∀b,b<3*n->h' b=h b\/((b<3*lo\/gro b=φ)/\∃cs e,h b=ξ (.row cs e)/\cs.all nu=φ)
def Sl.chgG{lo:Nat}{h:HF}{n:Nat}(s:Sl h n 1 v cl)(f:∀x∈cl,nu x=χ)(m:MM lo n h h')(q:n<=n'):Sl h' n' 1 v cl:=by
 cases s with
 |nil ha=>exact .nil (uw ha q)
 | @at_ b2 off len cap x cs2 c2 hb hx hc2 hcap hl he=>
  obtain g|⟨_,cs,e,u,y⟩:=m b2 hb;exact .at_ Z (g.trans hx) hc2 hcap hl he;by_cases h0:len=0;subst h0;have:cl=[]:=by rw[<-he];simp
  subst this;exact .nil (.inr ⟨_,_,_,ω,Z⟩);exfalso;rw[u]at hx;cases hx;injection hc2 with hc2;subst hc2;have i:O cl=len:=by rw[<-he,DK,DN];omega
  obtain⟨d,a,rfl⟩:∃d a,cl=d::a:=by
   cases cl with
   |nil=>exact CO i.symm h0
   |cons d a=>exact⟨d,a,ω⟩
  have p:d∈cs:=by
   have:d∈(cs.drop off).take (len*1):=by rw[he];exact CD
   exact Cc
  have:=Fy.1 y _ p;rw[f d EM]at this;cases this
def IW.chg{lo:Nat}{h:HF}{n:Nat}{b:Bool}{a:Option Addr}{x:Int}(i:IW h n b a l c x)(p:MM lo n h h')(q:n<=n'):IW h' n' b a l c x:=by have⟨e,L,f,g,m⟩:=i;exact⟨e,L,f.chgG (λx s=>by obtain⟨d,_,rfl⟩:=D2.1 s;rfl) p q,g,m⟩
def KZ.chg{lo:Nat}{h:HF}{n:Nat}{l:List Rat}(r:KZ lo h n v l)(s:MM lo n h h')(u:n<=n'):KZ lo h' n' v l:=by
 have⟨⟨p,B,C⟩,y⟩:=r;refine⟨⟨p,?_,C.mono λc d⟨b,a,l,k,d,e,f,g,A,i,j⟩=>⟨b,a,l,k,d,e,f,g,A,i.chg s u,j.chg s u⟩⟩,y⟩;cases B with
 |nil ha=>exact .nil (uw ha u)
 |at_ hb hx hcs hcap hl he=>
  refine .at_ Z ?_ hcs hcap hl he;have:=y _ _ _ rfl;obtain m|⟨m|m,_⟩:=s _ hb;exact m.trans hx;have q:=this.1;simp only at q;omega;have q:=this.2;simp only at q;rw[q]at m;cases m
def uK.chg{lo:Nat}{c:List ψ}{d:SideD}{h:HF}{n:Nat}(s:uK lo c d h n)(a:MM lo n h h')(f:n<=n'):uK lo c d h' n':=by have⟨m,V,S,W,p,g,T,u,A,C,F,H,Z3,q,i,Z4,y,B,D,G,I,J,K,L,M,N,Z1,P,R⟩:=s;exact⟨m,V,S,W,p,g,T,u,A,C,F,H,Z3,q,i,Z4,y,B,D,G,I,J,K.chg a f,L,M.chg a f,N.chg a f,Z1,P.chg a f,R.chg a f⟩
def Gro.same{lo n len:Nat}{h:HF}{C:List ψ}(g:Gro h lo n e sz v len C)(a:∀b,3*lo<=b->b<3*n->gro b=φ->h' b=h b):Gro h' lo n e sz v len C:=by
 cases g with
 |nil=>exact .nil
 |at_ hg hlo hb hr hl ho=>exact .at_ hg hlo hb ((a _ hlo hb hg).trans hr) hl ho
structure GSL (lo:Nat)(h:HF)(n:Nat)(v:ψ)(ds:List SideD):Prop where
 ex:∃C,Gro h lo n 115 11 v (O ds) C/\Rec 11 (λc d=>uK lo c d h n) C ds/\C.all nu=φ
def GSL.nil(lo:Nat)(h:HF)(n:Nat):GSL lo h n (η) []:=⟨[],.nil,.nil,ω⟩
def GSL.ext{lo:Nat}{h:HF}{n:Nat}{a:List SideD}(g:GSL lo h n v a)(x:Ko n h h')(f:n<=n'):GSL lo h' n' v a:=by have⟨C,i,m,p⟩:=g.ex;exact⟨C,i.ext x f,m.mono λc d q=>(uK.stay lo).go c d _ _ _ _ q x f,p⟩
def GSL.x{lo:Nat}{h:HF}{n:Nat}{a:List SideD}(g:GSL lo h n v a)(t:Tx n h n' h'):GSL lo h' n' v a:=g.ext t.2 t.1
def GSL.st{lo:Nat}{h:HF}{n:Nat}{a:List SideD}(g:GSL lo h n v a)(y:h b=ξ (.row cs e))(hu:cs.all nu=φ)(f:Only b h h')(hb:b<3*lo):GSL lo h' n v a:=by have⟨C,i,m,p⟩:=g.ex;have q:MM lo n h h':=λk u=>(by by_cases e2:k=b;subst e2;exact .inr ⟨.inl hb,cs,e,y,hu⟩;exact .inl (f k e2));exact⟨C,i.same λk u _ _=>f k Z,m.mono λc d s=>s.chg q CS,p⟩
def GSL.sto{lo:Nat}{h:HF}{n:Nat}{a:List SideD}(g:GSL lo h n v a)(o:KS b h h')(hb:b<3*lo):GSL lo h' n v a:=by have⟨o,_,_,f,i⟩:=o;exact g.st f i o hb
def Keep.chg{lo n len:Nat}{h:HF}{C:List ψ}(k:Keep v n h h')(g:Gro h lo n e sz v len C)(hu:C.all nu=φ):MM lo n h h':=λb a=>by
 cases g with
 |nil=>exact .inl (k b a λo l c e=>by cases e)
 | @at_ b2 _ _ hg hlo hb2 hr hl ho2=>
  by_cases e2:b=b2
  .subst e2;exact .inr ⟨.inr hg,_,_,hr,hu⟩
  exact .inl (k b a λo l c e=>by cases e;exact e2 ω)
def KZ.st{lo:Nat}{h:HF}{n:Nat}{l:List Rat}(g:KZ lo h n v l)(f:h b=ξ (.row cs e))(hu:cs.all nu=φ)(a:Only b h h')(hb:b<3*lo):KZ lo h' n v l:=
 g.chg (λk i=>by
  by_cases e2:k=b
  .subst e2;exact .inr ⟨.inl hb,cs,e,f,hu⟩
  .exact .inl (a k e2)) CS
def KZ.sto{lo:Nat}{h:HF}{n:Nat}{l:List Rat}(g:KZ lo h n v l)(o:KS b h h')(hb:b<3*lo):KZ lo h' n v l:=by have⟨o,_,_,a,f⟩:=o;exact g.st a f o hb
def KZ.lo{lo:Nat}{h:HF}{n:Nat}{l:List Rat}(r:KZ lo h n v l)(hl:lo'<=lo):KZ lo' h n v l:=⟨r.1,λf a cap e=>⟨by have:=(r.2 f a cap e).1;omega,(r.2 f a cap e).2⟩⟩
def KZ.nil(lo:Nat)(h:HF)(n:Nat):KZ lo h n (η) []:=⟨⟨[],.nil (.inl ω),.nil⟩,λf a cap e=>by cases e⟩
def uK.lo{lo:Nat}{c:List ψ}{d:SideD}{h:HF}{n:Nat}(s:uK lo c d h n)(hl:lo'<=lo):uK lo' c d h n:=by have⟨g,T,P,Z4,i,a,R,p,u,A,C,F,V,m,f,S,q,y,B,D,G,H,I,J,K,L,M,N,Z1⟩:=s;exact⟨g,T,P,Z4,i,a,R,p,u,A,C,F,V,m,f,S,q,y,B,D,G,H,I.lo hl,J,K,L,M,N,Z1⟩
def GSL.app{lo:Nat}{h:HF}{n:Nat}{v':ψ}{a:List SideD}{d:SideD}{C c:List ψ}(i:Gro h lo n 115 11 v (O a) C)(m:Rec 11 (λc d=>uK lo c d h n) C a)(h3:C.all nu=φ)(s:uK lo c d h n)(k:Keep v n h h')(g:Gro h' lo (n+1) 115 11 v' (O a+1) (C++c)):GSL lo h' (n+1) v' (a++[d]):=by have f:=k.chg i h3;refine⟨C++c,by rw[C1];exact g,(m.mono λc d s=>s.chg f Zq).snoc s.nus.2.2 (s.chg f Zq),?_⟩;rw[IC,h3,s.nus.1];rfl
def LO(h:HF)(n:Nat)(v:ψ)(ds:List SideD):Prop:=RS 11 (uK 0) h n v ds
def GSL.sds{lo:Nat}{h:HF}{n:Nat}{a:List SideD}(g:GSL lo h n v a):LO h n v a:=by have⟨C,f,i,m⟩:=g.ex;exact⟨C,f.sl,i.mono λc d s=>s.lo CT⟩
def LO.ext{h:HF}{n:Nat}{l:List SideD}(r:LO h n v l)(x:Ko n h h')(a:n<=n'):LO h' n' v l:=RS.ext' (uK.stay 0) r x a
def LO.len{h:HF}{n:Nat}{a:Option Addr}{len:Nat}{l:List SideD}(r:LO h n (Y a len cap) l):len=O l:=RS.len' zd r
def LO.at{h:HF}{n:Nat}{a:Option Addr}{len:Nat}{l:List SideD}{d:SideD}(r:LO h n (Y a len cap) l)(hj:l[j]?=ξ d):∃g f p N K Z1 q i L u B D G I P s m M y C F H J,a=ξ ⟨g,f,θ⟩/\g<3*n/\j<len/\At h g (f+j*11) [Y p N K,CV Z1,CV q,Y i L u,CV B,Y D G I,CV P,CV s,Y m M y,CV C,Y F H J]/\QS h n (Y p N K) d.A/\(Z1=φ↔d.lo≠[])/\IW h n q i L u (zj d.lo).num/\IW h n B D G I (denZ (zj d.lo))/\(P=φ↔d.hi≠[])/\IW h n s m M y (zj d.hi).num/\IW h n C F H J (denZ (zj d.hi)):=by obtain⟨g,f,c,Z0,p2,p3,p4,_,p,N,K,Z1,q,i,L,u,B,D,G,I,P,s,m,M,y,C,F,H,J,rfl,R,S,T,Z4,V,W,Z3⟩:=RS.at' zd r hj;exact⟨g,f,p,N,K,Z1,q,i,L,u,B,D,G,I,P,s,m,M,y,C,F,H,J,Z0,p2,p3,p4,R.1,S,T,Z4,V,W,Z3⟩
section
variable {h:HF}{n:Nat}{d:Tmp}
def wE(cs:List ψ)(a:qu X ops t o d (Ku o.op=2/\KD X.E o.op (Kn t)=ξ ⟨cs,e,χ,ξ (l,c)⟩))
  (k:∀h',h' (3*n+2)=ξ (.row cs e)->Ko n h h'->EO X ops r ⟨upd t d (Y (ξ ⟨3*n+2,0,θ⟩) l c),h',n+1,w⟩ Q):EO X ops (o::r) ⟨t,h,n,w⟩ Q:=by have⟨a,g,m,f,i⟩:=a;exact pZ ⟨a,g,m,f,i⟩ (k _ (zg _ _ _) (Ko.upd Z))
end
end
section
variable {h h':HF}{lo n n':Nat}{ds:List SideD}
structure RowD where
 A:List (List UInt8)
 lo:List UInt8
 hi:List UInt8
structure LPD where
 obj:List (List UInt8)
 rows:List RowD
 lower:List (List UInt8)
 upper:List (List UInt8)
def rowP(c:List ψ)(d:RowD)(h:HF)(n:Nat):Prop:=∃a l k,c=[Y a l k,CY ⟨⟨d.lo⟩⟩,CY ⟨⟨d.hi⟩⟩]/\Sl h n 1 (Y a l k) (strs d.A)
def rowP.stay:Stay rowP:=⟨λ_ _ _ _ _ _ ⟨a,l,k,e,s⟩ x c=>⟨a,l,k,e,s.ext x c⟩⟩
def KW(h:HF)(n:Nat)(v:ψ)(ds:List RowD):Prop:=RS 3 rowP h n v ds
def KW.ext{l:List RowD}(r:KW h n v l)(x:Ko n h h')(a:n<=n'):KW h' n' v l:=RS.ext' rowP.stay r x a
def KW.x{l:List RowD}(r:KW h n v l)(t:Tx n h n' h'):KW h' n' v l:=r.ext t.2 t.1
def KW.len{a:Option Addr}{len:Nat}{l:List RowD}(r:KW h n (Y a len cap) l):len=O l:=RS.len' zd r
def KW.at{a:Option Addr}{len:Nat}{l:List RowD}{d:RowD}(r:KW h n (Y a len cap) l)(hj:l[j]?=ξ d):∃g f i o m,a=ξ ⟨g,f,θ⟩/\g<3*n/\j<len/\At h g (f+j*3) [Y i o m,CY ⟨⟨d.lo⟩⟩,CY ⟨⟨d.hi⟩⟩]/\Sl h n 1 (Y i o m) (strs d.A):=by obtain⟨g,f,c,p,q,u,w,_,i,o,m,rfl,s⟩:=RS.at' zd r hj;exact⟨g,f,i,o,m,p,q,u,w,s⟩
structure VLP (p:LPD):Prop where
 n1:1<=O p.obj
 n2:O p.obj<=64
 ll:O p.lower=O p.obj
 lu:O p.upper=O p.obj
 lr:O p.rows<=64
 ob:∀s∈p.obj,vF s
 bd:∀(j:Nat) lo hi,p.lower[j]?=ξ lo->p.upper[j]?=ξ hi->pairOk lo hi
 rw:∀r∈p.rows,pairOk r.lo r.hi/\(∀s∈r.A,vF s)/\O r.A=O p.obj
def Lo(a:Nat)(s:List UInt8):Prop:=O s<500/\Sz a (zj s)
structure LPB (a:Nat)(p:LPD):Prop where
 ob:∀s∈p.obj,Lo a s
 lw:∀s∈p.lower,Lo a s
 up:∀s∈p.upper,Lo a s
 rl:∀r∈p.rows,Lo a r.lo/\Lo a r.hi/\O r.A<1000000/\∀s∈r.A,Lo a s
 n1:O p.obj<1000000
 n2:O p.rows<1000000
 n3:O p.lower<1000000
 n4:O p.upper<1000000
noncomputable def rowS(r:RowD):SideD:=⟨r.A.map zj,r.lo,r.hi⟩
noncomputable def zk(p:LPD):List SideD:=p.rows.map rowS
def zC(p:LPD):List SideD:=List.zipWith (λlo hi=>⟨[],lo,hi⟩) p.lower p.upper
def gj{p:LPD}{lo hi:List UInt8}(a:p.lower[j]?=ξ lo)(c:p.upper[j]?=ξ hi):(zC p)[j]?=ξ ⟨[],lo,hi⟩:=by unfold zC;rw[List.getElem?_zipWith,a,c]
def PH{p:LPD}{r:RowD}(a:p.rows[j]?=ξ r):(zk p)[j]?=ξ (rowS r):=by unfold zk;rw[Dz,a];rfl
def GSL.extB{B:List Nat}(g:GSL lo h n v ds)(x:ExtB n B h h')(o:n<=n')(i:∀b∈B,b<3*lo/\∃cs e,h b=ξ (.row cs e)/\cs.all nu=φ):GSL lo h' n' v ds:=by
 have⟨C,p,q,u⟩:=g.ex;have y:MM lo n h h':=λk l=>(by by_cases a:k∈B;have⟨f,w⟩:=i k a;exact .inr ⟨.inl f,w⟩;exact .inl (x k l a));have f:=p.same (h':=h') λk l m _=>x k m λa=>by have:=(i k a).1;omega
 refine⟨C,?_,q.mono λc d s=>s.chg y o,u⟩;exact f.ext (Ko.refl n h') o
def Keep.blk{len:Nat}{C:List ψ}(k:Keep v n h h')(g:Gro h lo n e sz v len C)(hb:gro b=χ)(hl:b<3*n):h' b=h b:=by
 refine k b hl λo l c e=>?_;cases g with
 |nil=>cases e
 |at_ hg hlo hb2 hr hl ho=>cases e;rw[hg]at hb;cases hb
end
section
variable {c len off:Nat}{sT:TypeId}{x:Operand}
def GR{D:Type}(sz:Nat)(P:List ψ->D->HF->Nat->Prop)(lo:Nat)(h:HF)(n:Nat)(e:TypeId)(v:ψ)(ds:List D):Prop:=∃C,Gro h lo n e sz v (O ds) C/\Rec sz (λc d=>P c d h n) C ds/\C.all nu=φ
section
variable {P:List ψ->D->HF->Nat->Prop}{lo n n':Nat}{h h':HF}{ds:List D}
def GR.nil:GR sz P lo h n e (η) ([]:List D):=⟨[],.nil,.nil,ω⟩
def GR.go(g:GR sz P lo h n e v ds)(q:KP sz P)(t:Tr n h n' h')(p:∀b,BkOf v b->h' b=h b):GR sz P lo h' n' e v ds:=by
 have⟨C,a,f,j⟩:=g;refine⟨C,?_,f.mono λ_ _ r=>q.t r t,j⟩;generalize (O ds)=L at a;cases a with
 |nil=>exact .nil
 |at_ hg hlo hb hr hl ho=>exact .at_ hg hlo (by have:=t.1;omega) ((p _ ⟨_,_,_,ω⟩).trans hr) hl ho
def GR.bk(g:GR sz P lo h n e v ds):∀b,BkOf v b->3*lo<=b/\b<3*n/\gro b=φ/\On (h b):=by
 have⟨C,a,j,f⟩:=g;generalize (O ds)=L at a;rintro b⟨o,l,c,rfl⟩;cases a with
 |at_ hg hlo hb hr hl ho=>exact⟨hlo,hb,hg,.row hr f⟩
def GR.shape(g:GR sz P lo h n e v ds){L:Nat}(j:O ds=L):∃a,v=Y a L L:=by have⟨C,f,p,q⟩:=g;subst j;have⟨a,e,_⟩:=f.shape;exact⟨a,e⟩
def GR.or(g:GR sz P lo h n e v ds){L:Nat}(p:O ds=L)(h0:L≠0):∃b,v=Y (ξ ⟨b,0,θ⟩) L L/\gro b=φ/\3*lo<=b/\OR sz P h n b ds/\Ld h b e:=by
 have⟨C,a,f,j⟩:=g;rw[p]at a;cases a with
 |nil=>exact CO ω h0
 |at_ hg hlo hb hr hl ho=>exact⟨_,ω,hg,hlo,⟨hb,_,_,hr,j,f⟩,_,hr⟩
theorem OR.gr(o:OR sz P h n b ds)(B:KP sz P)(A:Ld h b e)(y:gro b=φ)(p:3*lo<=b){L:Nat}(s:O ds=L):GR sz P lo h n e (Y (ξ ⟨b,0,θ⟩) L L) ds:=by
 obtain⟨u,C,G,g,j,a⟩:=o;obtain⟨F,f⟩:=A;rw[f]at g;cases g;subst s;have q:ones C=φ:=by
  clear f j;induction a with
  |nil=>rfl
  |cons hl hp hr ih=>exact yZ (B.c hp).2.2 ih
 exact⟨_,.at_ y p u f a.len q,a,j⟩
end
def rF{m i:Nat}{r:List (Nat×Nat)}(hm:m.testBit i=φ)(k:ya m W r=φ):ya m W ((i,b)::r)=φ:=by unfold ya;rw[hm,Bool.true_or];exact k
section
variable {h:HF}{n:Nat}{ld:List (Nat×Nat)}{d:Tmp}
def MN{D:Type}{sz:Nat}{P:List ψ->D->HF->Nat->Prop}{e:TypeId}{s:Operand}{lo:Nat}{ds:List D}{q:D}{v:ψ}(c:List ψ)(g:GR sz P lo h n e v ds)(u:KP sz P)(p:P c q h n)(hx:argS h sz (Kn t x) 1 c)(S:ds.length<1000000)(G:lo<=n)(F:∀W:List Nat,(∀b∈W,3*lo<=b)->ya m W ld=φ)
  (k:∀f h' W,(∀b∈W,3*lo<=b)->GR sz P lo h' (n+1) e f (ds++[q])->Tr n h (n+1) h'->Exa lo h h'->(∀b,b<3*n->¬BkOf v b->h' b=h b)->(∀b,BkOf f b->3*n<=b)->ED X ops r ms (i+1) ⟨⟨upd t d f,h',n+1,addW n0 W w⟩,al,ld,(i,h,W)::ef⟩ Q)
  (T:zh ops t o=φ:=by rfl)(hd:o.dst=ξ d:=by rfl)(hn:zv X.nt (ξ d)=φ:=by rfl)(ho:o.op=.call {callee:=.builtin .append,args:=#[s,x],argTypes:=#[sT,xT]}:=by rfl)(hv:Kn t s=v:=by rfl)(hxT:(match X.E.und xT with|some (.int _)=>χ|none=>χ|_=>φ)=φ:=by rfl)(hu:X.E.und sT=ξ (.slice e):=by rfl)(hi:X.E.inf e=ξ (sz,bytes,z):=by rfl)(hz:(zn z).length=sz:=by rfl)(h1:1<=sz/\1<=bytes/\bytes<=1000:=by decide)(g1:xq m ef=φ:=by rfl)(g2:xJ m al=φ:=by rfl)(hX:X.n0=n0:=by rfl):ED X ops (o::r) (m::ms) i ⟨⟨t,h,n,w⟩,al,ld,ef⟩ Q:=by
 have R:=g;have⟨C,J,V,Z4⟩:=g;subst hv;have⟨y,H,I⟩:=u.c p;have a:(ds.length+1)*bytes<=1099511627776:=Nat.le_trans (Nat.mul_le_mul (show ds.length+1<=1000000 from Z) h1.2.2) zd;have⟨f,h',W,K,L,M,N,A,Z1⟩:=uf hu hi hz ⟨h1.1,h1.2.1⟩ J hx (Nat.le_refl _) a (by rw[Nat.one_mul];exact y) I G;refine iV T hd hn ho hxT K g1 g2 (F W A) Zq ?_;rw[hX];have B:∀b,b<3*n->¬BkOf (Kn t s) b->h' b=h b:=λb a hn=>N b a λo l c e=>hn ⟨o,l,c,e⟩;have j:Tr n h (n+1) h':=⟨Nat.le_succ _,λb a=>by
  by_cases hB:BkOf (Kn t s) b;exact .inr (R.bk b hB).2.2.2;exact .inl (B b a hB)⟩
 refine k f h' W A ⟨C++c,by rw[List.length_append];exact L,(V.mono λ_ _ r=>u.t r j).snoc y (u.t p j),by rw[List.all_append,Z4,H];rfl⟩ j ⟨M⟩ B λb⟨o,l,Z3,e⟩=>?_;subst e;exact Z1
def NI{a:Operand}{sz:Nat}{c:List ψ}{e:TypeId}(c':List ψ)(k:∀h',h' b=ξ (.row c' e)->KS b h h'->EO X ops r ⟨t,h',n,w⟩ Q)(f:zh ops t o=φ:=by rfl)(hd:o.dst=θ:=by rfl)(ho:o.op=.store ty a x:=by rfl)(hi:X.E.inf ty=ξ (sz,bt,z):=by rfl)(ha:Kn t a=.pointer (ξ ⟨b,off,θ⟩):=by rfl)(hb:h b=ξ (.row c e):=by exact zp)(hu:c.all nu=φ:=by rfl)(hx:zn (Kn t x)=cs:=by rfl)(hs:cs.length=sz:=by rfl)(h1:ones cs=φ:=by rfl)(hl:off+sz<=c.length:=by exact zb)(hsp:zu c off cs=c':=by rfl)(hX:X.n0=n0:=by rfl)(hnew:3*n0<=b:=by omega):EO X ops (o::r) ⟨t,h,n,w⟩ Q:=
 OC c' hb (λh' p q=>by rw[kX hnew];exact k h' p q) f hd ho hi ha hu hx hs h1 hl hsp hX
def MO{e:TypeId}(cs:List ψ)(k:∀h',h' (3*n+2)=ξ (.row cs e)->Ko n h h'->ED X ops r ms (i+1) ⟨⟨upd t d (.slice (ξ ⟨3*n+2,0,θ⟩) l c),h',n+1,w⟩,(i,3*n+2)::al,ld,ef⟩ Q)(a:zh ops t o=φ:=by rfl)(hd:o.dst=ξ d:=by rfl)(hn:zv X.nt (ξ d)=φ:=by rfl)(hc:Ku o.op=2:=by rfl)(hm:KD X.E o.op (Kn t)=ξ ⟨cs,e,χ,ξ (l,c)⟩:=by rfl):ED X ops (o::r) (m::ms) i ⟨⟨t,h,n,w⟩,al,ld,ef⟩ Q:=
 QM a hd hn hc hm (k _ (zg _ _ _) (Ko.upd (show 3*n<=3*n+2 from Z)))
end
def yL{l w:List Nat}{p:Nat->Prop}(a:∀c∈l,p c)(f:∀c∈w,p c):∀c∈addW n0 l w,p c:=λc g=>by
 obtain⟨h,_⟩|h:=tI _ _ c g
 .exact a c h
 exact f c h
def RS.sub{D:Type}{sz:Nat}{P:List ψ->D->HF->Nat->Prop}(u:0<sz){h:HF}{n:Nat}{l:List D}(q:RS sz P h n (Y (ξ ⟨b,off,θ⟩) len cap) l){m cap':Nat}(hm:m+c<=len)(y:c<=cap'):RS sz P h n (Y (ξ ⟨b,off+m*sz,θ⟩) c cap') ((l.drop m).take c):=by
 have F:=q.len' u;have⟨a,s,r⟩:=q;by_cases h0:len=0;have g:c=0:=Z;have f:=s.below;subst g;rw[E1];exact⟨[],.nil (.inr ⟨_,_,_,ω,f⟩),.nil⟩;have⟨_,_,x,cs,e,f,H,j,A,I,C⟩:=s.inv h0;injection e with e;injection e with e1 e2;subst e1 e2;have p:=C9 sz hm;rw[Nat.add_mul]at p;refine⟨(a.drop (m*sz)).take (c*sz),.at_ f H j y Z (Xb C Z),?_⟩;have B:∀{m:Nat} {a:List ψ} {l:List D},Rec sz (λc d=>P c d h n) a l->Rec sz (λc d=>P c d h n) (a.drop (m*sz)) (l.drop m):=by
  intro m;induction m with
  |zero=>intro a l r;rw[Ep];exact r
  |succ m ih=>
   intro a l r;cases r with
   |nil=>rw[ak9,ak9];exact .nil
   | @cons c1 cs1 d1 ds1 hl hp hr=>
    rw[ID,Ff,EE (m*sz) sz,<-EH,Hc hl];exact ih hr
 have G:∀{c:Nat} {a:List ψ} {l:List D},Rec sz (λc d=>P c d h n) a l->Rec sz (λc d=>P c d h n) (a.take (c*sz)) (l.take c):=by
  intro c;induction c with
  |zero=>intro a l r;rw[Ep,E1,E1];exact .nil
  |succ c ih=>
   intro a l r;cases r with
   |nil=>rw[al0,al0];exact .nil
   | @cons c1 cs1 d1 ds1 hl hp hr=>
    rw[J4,Ff,EE (c*sz) sz,ad3,C7 Z,hl,E6];exact .cons hl hp (ih hr)
 exact G (B r)
section
variable {h:HF}{n:Nat}{ld:List (Nat×Nat)}{d:Tmp}
def tC{e:TypeId}{sz:Nat}{j:Int}(mm:Nat)(a:qu X ops t o d (o.op=.slice ty x θ (ξ hi) θ/\X.E.und ty=ξ (.slice e)/\X.E.inf e=ξ (sz,bt,z)))
  (hx:Kn t x=Y (ξ ⟨b,off,θ⟩) len cap)(hj:Kn t hi=U ik j)(hm:j=(mm:Int))(A:mm<=cap)(k:ED X ops r ms (i+1) ⟨⟨upd t d (Y (ξ ⟨b,off,θ⟩) mm cap),h,n,w⟩,al,ld,ef⟩ Q):ED X ops (o::r) (m::ms) i ⟨⟨t,h,n,w⟩,al,ld,ef⟩ Q:=by
 have⟨a,s,u,g,y,f⟩:=a;refine yQ a s u gY ?_ k;rw[g];subst hm;show xc X.E ty (Kn t x) θ (ξ (Kn t hi))=_;rw[hx,hj];have p:(0:Int)<=(mm:Int)/\(mm:Int)<=cap:=Z;have q:(gro b&&(DC 1 0&&DC cap 0))=χ:=by cases gro b<;>rfl
 simp only[xc,y,f,KV,CQ p,Ew,q,QG,GC]
end
end
section
variable {k off:Nat}{x:Operand}
def mY{n:Nat}:(Lg k n nt).n0=n:=rfl
section
variable {h:HF}{n:Nat}{d:Tmp}
def NJ{l c:Operand}{L:Nat}(zs:List ψ)(k:∀h',h' (3*n+2)=ξ (.row (rep L zs) e)->Ko n h h'->EO X ops r ⟨upd t d (.slice (ξ ⟨3*n+2,0,θ⟩) L L),h',n+1,w⟩ Q)(a:L<=1000)(f:zh ops t o=φ:=by rfl)(hd:o.dst=ξ d:=by rfl)(hn:zv X.nt (ξ d)=φ:=by rfl)(ho:o.op=.makeSlice ty l c:=by rfl)(hu:X.E.und ty=ξ (.slice e):=by rfl)(hi:X.E.inf e=ξ (sz,bt,z):=by rfl)(hz:zn z=zs:=by rfl)(hl:Kn t l=.int ik (L:Int):=by rfl)(hc:Kn t c=.int ik' (L:Int):=by rfl)(hs:zs.length=sz:=by rfl)(hb:bt<=1000:=by exact Nat.le_of_ble_eq_true ω):EO X ops (o::r) ⟨t,h,n,w⟩ Q:=
 vB ⟨f,hd,hn,ho,hu,hi,hl,hc,(by rw[hz];exact hs)⟩ ⟨Nat.le_refl _,Nat.le_trans (Nat.mul_le_mul a hb) zd,Z⟩ (k _ (by rw[<-hz];exact zg _ _ _) (Ko.upd Z))
end
section
variable {h:HF}{n:Nat}{ld:List (Nat×Nat)}{d:Tmp}
def PI{P:List ψ->D->HF->Nat->Prop}{a:Operand}{zs:List D}{q:D}(c:List ψ)(y:OR sz P h n b zs)(u:KP sz P)(hj:j<zs.length)(l:off=j*sz)(s:P c q h n)(g:3*n0<=b)(k:∀f,OR sz P f n b (zs.set j q)->KS b h f->ED X ops r ms (i+1) ⟨⟨t,f,n,w⟩,al,ld,(i,h,[b])::ef⟩ Q)(p:zh ops t o=φ:=by rfl)(hd:o.dst=θ:=by rfl)(ho:o.op=.store ty a x:=by rfl)(hi:X.E.inf ty=ξ (sz,bt,z):=by rfl)(ha:Kn t a=.pointer (ξ ⟨b,off,θ⟩):=by rfl)(hx:zn (Kn t x)=c:=by rfl)(h1:xq m ef=φ:=by rfl)(h2:xJ m al=φ:=by rfl)(h3:ya m [b] ld=φ:=by rfl)(hX:X.n0=n0:=by rfl):ED X ops (o::r) (m::ms) i ⟨⟨t,h,n,w⟩,al,ld,ef⟩ Q:=
 dZ c y u hj l s (λf v A _=>by rw[kX g];exact k f v A) p hd ho hi ha hx h1 h2 h3 hX
end
def SG(k:Nat)(h:HF)(n:Nat):CX (Kp (k+3)) 55 [U .i64 1] h n (QV 1):=by refine zw (fn:=Tryz.f55) R4<|Zd λh1 v A=>?_;refine zG ?_;refine sC (NH _ _ _) ?_;rintro _ p s⟨c,a,g,f,rfl,l⟩ C B;refine sT #[CV c,Y a g f,CV χ,η] ?_;refine sS [CV c,Y a g f,CV χ,η] λq y u=>?_;refine zq ?_;exact⟨_,_,_,_,_,_,_,_,ω,(l.t zt:IW _ _ _ _ _ _ 1),E9 _ _⟩
end
section
variable {P:List ψ->D->Prop}
def Rec.app{cs a:List ψ}{c b:List D}(r:Rec sz P cs c)(s:Rec sz P a b):Rec sz P (cs++a) (c++b):=by
 induction r with
 |nil=>exact s
 |cons hl hp hr ih=>rw[DH];exact .cons hl hp ih
end
section
variable {h:HF}{n:Nat}{ld:List (Nat×Nat)}{d:Tmp}
def OE{D:Type}{sz:Nat}{P:List ψ->D->HF->Nat->Prop}{xT sT e:TypeId}{s x:Operand}{lo a:Nat}{z:ψ}{q:List D}{v:ψ}{n0:Nat}(c:List ψ)(p:List D)(g:GR sz P lo h n e v q)(F:KP sz P)(H:Rec sz (λc d=>P c d h n) c p)(hu:c.all nu=φ/\ones c=φ){J:ψ}(hx:argS h sz J p.length c)(hm:1<=p.length)(Z4:q.length+p.length<1000000)(B:n0<=lo/\lo<=n)
  (k:∀u f,GR sz P lo f (n+1) e u (q++p)->Tr n h (n+1) f->Ko lo h f->(∀b,b<3*n->¬BkOf v b->f b=h b)->(∀b,BkOf u b->3*n<=b)->EO X ops r ⟨upd t d u,f,n+1,w⟩ Q)
  (V:zh ops t o=φ:=by rfl)(hd:o.dst=ξ d:=by rfl)(hn:zv X.nt (ξ d)=φ:=by rfl)(ho:o.op=.call {callee:=.builtin .append,args:=#[s,x],argTypes:=#[sT,xT]}:=by rfl)(hv:Kn t s=v:=by rfl)(hux:Kn t x=J:=by rfl)(hxT:(match X.E.und xT with|some (.int _)=>χ|none=>χ|_=>φ)=φ:=by rfl)(hus:X.E.und sT=ξ (.slice e):=by rfl)(hi:X.E.inf e=ξ (sz,a,z):=by rfl)(hz:(zn z).length=sz:=by rfl)(h1:1<=sz/\1<=a/\a<=1000:=by decide)(hX:X.n0=n0:=by rfl):EO X ops (o::r) ⟨t,h,n,w⟩ Q:=by
 have T:=g;have⟨C,K,I,G⟩:=g;subst hv hux;have j:(q.length+p.length)*a<=1099511627776:=Nat.le_trans (Nat.mul_le_mul (show q.length+p.length<=1000000 from Z) h1.2.2) zd;have⟨u,f,W,L,M,N,R,Z1,S⟩:=uf hus hi hz ⟨h1.1,h1.2.1⟩ K hx hm j H.len hu.2 B.2;refine yM ⟨V,hd,hn,ho,hxT⟩ L ?_;rw[hX,zV λb j=>by have:=Z1 b j;omega];have A:∀b,b<3*n->¬BkOf (Kn t s) b->f b=h b:=λb j hn=>R b j λo l c e=>hn ⟨o,l,c,e⟩;have y:Tr n h (n+1) f:=⟨Nat.le_succ _,λb j=>by
  by_cases hB:BkOf (Kn t s) b;exact .inr (T.bk b hB).2.2.2;exact .inl (A b j hB)⟩
 refine k u f ⟨C++c,by rw[List.length_append];exact M,(I.mono λ_ _ r=>F.t r y).app (H.mono λ_ _ r=>F.t r y),by rw[List.all_append,G,hu.1];rfl⟩ y N A λb⟨o,l,Z3,e⟩=>?_;subst e;exact S
end
def pOps(E:Env):List Oper->List Nat->Nat->List Nat->Bool
 |[],_,_,_=>φ
 |o::r,m::ms,i,es=>match o.op with
  | .store _ _ _=>es.all (λj=>m.testBit j)&&pOps E r ms (i+1) (i::es)
  |_=>(MJ E o.op&& !(D5 (Ku o.op) 1))&&pOps E r ms (i+1) es
 |_::_,[],_,_=>χ
def zgl{m:Nat}:∀{a:List (Nat×HF×List Nat)},(∀y∈a,m.testBit y.1=φ)->xq m a=φ:=by
 intro a;induction a with
 |nil=>intro _;rfl
 |cons y a ih=>
  intro h;have⟨j,g⟩:=y;unfold xq;rw[h (j,g) cA];exact ih λz b=>h z (by simp[b])
def ziv{X:CtxF}{ops:List Oper}:∀(l:List Oper) (ms:List Nat) (i:Nat) (s:SV) (f:List (Nat×HF×List Nat)) (es:List Nat),(∀y∈f,y.1∈es)->pOps X.E l ms i es=φ->z0 X ops l ms i ⟨s,[],[],f⟩=seqF X ops l s:=by
 intro l;induction l with
 |nil=>intro ms i s f es _ _;simp[z0,seqF]
 |cons o l ih=>
  intro ms i s f es e b;cases ms with
  |nil=>simp[pOps]at b
  |cons m ms=>
   unfold pOps at b;unfold z0 seqF;simp only;split at b;rename_i ty a x g;rw[DY]at b;cases hw:zh ops s.t o with
   |false=>
    simp only;congr 1;funext s1;exact ih ms (i+1) s1 f (i::es) (λy j=>E3 _ (e y j)) b.2
   |true=>
    simp only;have p:Ku o.op=3:=by rw[g];rfl
    unfold rL Lt;have u:xq m f=φ:=zgl λy j=>Fy.1 b.1 _ (e y j);simp only[p,u,xJ,Eg];unfold mf;have A:effF X.E o.op (Kn s.t) s.h s.n=uG X.E ty (Kn s.t a) (Kn s.t x) s.h s.n:=by rw[g];rfl
    rw[A];cases he:uG X.E ty (Kn s.t a) (Kn s.t x) s.h s.n with
    |none=>rfl
    |some r=>
     obtain⟨v,F,G,W,rfl⟩:=jz he;have B:=Rx he;subst B;simp only;have w:ya m W []=φ:=rfl;unfold xH;split;simp only[w,C8 CS,Eg];refine ih ms (i+1) _ _ (i::es) (λy j=>?_) b.2;obtain rfl|j:=DA.1 j;exact CD;exact E3 _ (e y j);rfl
   rw[DY,DY]at b;cases hw:zh ops s.t o with
   |false=>
    simp only;congr 1;funext s1;exact ih ms (i+1) s1 f es e b.2
   |true=>
    simp only;unfold rL Lt;obtain D|⟨t,d,x,k,g,q⟩:=Pk b.1.1;cases p:Ku o.op with
    |zero=>
     simp only[p];cases yy X.E o.op (Kn s.t)with
     |none=>rfl
     |some v=>
      simp only;congr 1;funext s1;exact ih ms (i+1) s1 f es e b.2
    |succ c=>
     cases c with
     |zero=>rw[p]at b;simp at b
     |succ c=>omega
    have p:Ku o.op=4:=by rw[g];rfl
    have C:KD X.E o.op (Kn s.t)=θ:=by rw[g];exact Pl q _
    simp only[p,C];cases hpu:yy X.E o.op (Kn s.t)with
    |none=>
     rw[g];simp only[vJ q]
    |some v=>
     rw[g];simp only[vJ q];congr 1;funext s1;exact ih ms (i+1) s1 f es e b.2
def nR{X:CtxF}{d:Nat}{ops:Array Oper}{s:SV}{Q:Ex->SV->Prop}(b:pOps X.E ops.toList (xA ops.toList []) 0 []=φ):EC X (.region d ops φ) s Q↔EO X ops.toList ops.toList s (Q .normal):=by
 unfold EC EO;rw[xk];have a:z0 X ops.toList ops.toList (xA ops.toList []) 0 ⟨s,[],[],[]⟩=seqF X ops.toList ops.toList s:=ziv _ _ _ _ _ _ (λy c=>CO c C6) b;rw[a];cases h:seqF X ops.toList ops.toList s with
 |none=>simp
 |some r=>simp only[vH];simp
section
variable {x:Operand}{s:List UInt8}
def yP:List UInt8:=[48,48,48,49,48,50,48,51,48,52,48,53,48,54,48,55,48,56,48,57,49,48,49,49,49,50,49,51,49,52,49,53,49,54,49,55,49,56,49,57,50,48,50,49,50,50,50,51,50,52,50,53,50,54,50,55,50,56,50,57,51,48,51,49,51,50,51,51,51,52,51,53,51,54,51,55,51,56,51,57,52,48,52,49,52,50,52,51,52,52,52,53,52,54,52,55,52,56,52,57,53,48,53,49,53,50,53,51,53,52,53,53,53,54,53,55,53,56,53,57,54,48,54,49,54,50,54,51,54,52,54,53,54,54,54,55,54,56,54,57,55,48,55,49,55,50,55,51,55,52,55,53,55,54,55,55,55,56,55,57,56,48,56,49,56,50,56,51,56,52,56,53,56,54,56,55,56,56,56,57,57,48,57,49,57,50,57,51,57,52,57,53,57,54,57,55,57,56,57,57]
def wI(m:Nat)(hm:m<100):∃b1 b2,yP[m*2]?=ξ b1/\yP[m*2+1]?=ξ b2/\b1.toNat=48+m/10/\b2.toNat=48+m%10/\(yP.drop (m*2)).take 2=[b1,b2]:=by
 have h:∀i:Fin 100,(match yP[i.val*2]?,yP[i.val*2+1]? with|some b1,ξ b2=>decide (b1.toNat=48+i.val/10/\b2.toNat=48+i.val%10/\(yP.drop (i.val*2)).take 2=[b1,b2])|_,_=>χ)=φ:=by decide+kernel
 have:=h ⟨m,hm⟩;simp only at this;split at this;rename_i b1 b2 h1 h2;have b:=of_decide_eq_true this;exact⟨b1,b2,h1,h2,b.1,b.2.1,b.2.2⟩;cases this
section
variable {h:HF}{n:Nat}{d:Tmp}
def jB{i l:Operand}(b:qu X ops t o d (o.op=.slice ty x (ξ i) (ξ l) θ/\X.E.und ty=ξ .string/\Kn t x=CY ⟨⟨s⟩⟩/\Kn t i=U ik (j:Int)/\Kn t l=U ik' (m:Int)))(hl:j<=m/\m<=O s)
  (k:EO X ops r ⟨upd t d (CY ⟨⟨(s.drop j).take (m-j)⟩⟩),h,n,w⟩ Q):EO X ops (o::r) ⟨t,h,n,w⟩ Q:=by have⟨b,g,u,c,v,A,p,q⟩:=b;refine zS ⟨b,g,u,AF⟩ ?_ k;rw[c];show xc X.E ty (Kn t x) (ξ (Kn t i)) (ξ (Kn t l))=_;rw[A,p,q];have e:(0:Int)<=(j:Int)/\(j:Int)<=(m:Int):=Z;have f:(0:Int)<=(m:Int)/\(m:Int)<=(O s:Int):=Z;simp only[xc,v,KV,CQ e,CQ f,Ew]
end
section
variable {h:HF}{n:Nat}{d:Tmp}
def zap{s:Nat}(l:zh ops t o=φ)(f:o.dst=ξ d)(g:zv X.nt (ξ d)=φ)(b:o.op=.binOp .shr ty x y ty')(hx:Kn t x=U .i64 (a:Int))(p:Kn t y=U ik (s:Int))(q:s<=64)
  (k:EO X ops r ⟨upd t d (U .i64 ((a/2^s:Nat):Int)),h,n,w⟩ Q):EO X ops (o::r) ⟨t,h,n,w⟩ Q:=by
 refine zS ⟨l,f,g,(by rw[b];rfl)⟩ ?_ k;rw[b];show binE X.E .shr ty (Kn t x) (Kn t y)=_;rw[hx,p];have c:¬(s:Int)<0:=Z;have e:min (s:Int).toNat (EP .i64)=s:=by simp[EP];omega
 exact BK
end
def zbs(h:i<10):decT i=[EA (48+i)]:=by
 have c:(EA (48+i)).toNat=48+i:=Ok h;by_cases h0:i=0;subst h0;rfl;have:=qC (d:=[EA (48+i)]) (λb f=>by rw[Dc.1 f,c];omega) cA (by
  intro e;injection e with e;have:=congrArg ap7 e;rw[c]at this;have g:(48:UInt8).toNat=48:=rfl;omega)
 rw[<-this];congr 1;show i=10*0+((EA (48+i)).toNat-48);rw[c];omega
def zi2{c f:UInt8}(u:10<=i/\i<100)(p:c.toNat=48+i/10)(q:f.toNat=48+i%10):decT i=[c,f]:=by
 have:=qC (d:=[c,f]) (λb g=>by
  simp only[DA,C6,or_false]at g;obtain rfl|rfl:=g<;>omega) cA (by
  intro e;injection e with e;have:=congrArg ap7 e;have l:(48:UInt8).toNat=48:=rfl;omega)
 rw[<-this];congr 1;show i=10*(10*0+(c.toNat-48))+(f.toNat-48);omega
def PJ:List UInt8:=[48,49,50,51,52,53,54,55,56,57,97,98,99,100,101,102,103,104,105,106,107,108,109,110,111,112,113,114,115,116,117,118,119,120,121,122]
def znu(m:Nat)(hm:m<10):(PJ.drop m).take 1=[EA (48+m)]:=by
 have h:∀i:Fin 10,(PJ.drop i.val).take 1=[EA (48+i.val)]:=by decide+kernel
 exact h ⟨m,hm⟩
def ka(k:Nat)(h:HF)(n:Nat)(hi:i<100):VF (Kp (k+1)) 145 [U .i64 (i:Int)] h n λv=>v=CY ⟨⟨decT i⟩⟩:=by refine zO (fn:=Tryz.f145) R4<|mM ?_;by_cases h10:i<10;refine Zp ?_;refine zR ?_;refine jB (s:=PJ) (j:=i) (m:=i+1) R8 ⟨Z,by show i+1<=36;omega⟩ ?_;rw[show i+1-i=1 by omega,znu i h10,<-zbs h10];refine Ze ?_;exact BG;refine Zb ?_;have⟨g,l,_,_,c,e,f⟩:=wI i hi;refine zM ?_;refine st_mul (a:=(i:Int)) (b:=2) ω ω ω ω ω ω Z ?_;refine zM ?_;refine st_mul (a:=(i:Int)) (b:=2) ω ω ω ω ω ω Z ?_;refine zR ?_;refine jB (s:=yP) (j:=i*2) (m:=i*2+2) R8 ⟨Z,by show i*2+2<=200;omega⟩ ?_;rw[show i*2+2-i*2=2 by omega,f,<-zi2 Z c e];refine Ze ?_;exact BG
def aI(k:Nat)(h:HF)(n:Nat)(b:Bool):VF (Kp (k+1)) 172 [CV b] h n λv=>v=U .i64 (if b then 1 else 0):=by refine zO (fn:=Tryz.f172) R4<|Zu ?_;cases b;rw[za rfl];refine mM ?_;exact BG;rw[ze rfl];refine mM ?_;exact BG
def zh6(k:Nat)(h:HF)(n:Nat)(hm:m<=64):VF (Kp (k+1)) 170 [U .i64 (m:Int)] h n λv=>v=U .i64 ((m*78913/262144:Nat):Int):=by refine zO (fn:=Tryz.f170) R4<|Za ?_;refine Za ?_;refine st_mul (a:=(m:Int)) (b:=78913) ω ω ω ω ω ω Z ?_;refine zap (a:=m*78913) (s:=18) ω ω ω ω ω ω Z<|Ze ?_;exact BG
def zpx(hm:m<20):GK.p10[0+(m:Int).toNat*1]?=ξ (U .u64 ((10^m:Nat):Int)):=by
 rw[show 0+(m:Int).toNat*1=m from Z];have h:∀i:Fin 20,(match GK.p10[i.val]? with|some (U .u64 x)=>decide (x=((10^i.val:Nat):Int))|_=>χ)=φ:=by decide+kernel
 have:=h ⟨m,hm⟩;simp only at this;split at this;rename_i x hx;rw[hx,of_decide_eq_true this];cases this
def zbb(hm:m<=64):m*78913/262144<20/\2^m<=10^(m*78913/262144+1)/\10^(m*78913/262144)<=5*2^m:=by
 have h:∀i:Fin 65,decide (i.val*78913/262144<20/\2^i.val<=10^(i.val*78913/262144+1)/\10^(i.val*78913/262144)<=5*2^i.val)=φ:=by decide+kernel
 exact of_decide_eq_true (h ⟨m,Z⟩)
def vy(k:Nat){h:HF}(B:GK.G h)(n:Nat){x:Nat}(hx:x<18446744073709551616)(h0:x≠0):VF (Kp (k+2)) 146 [U .u64 (x:Int)] h n λv=>∃m:Nat,v=U .i64 (m:Int)/\1<=m/\m<=20/\x<10^m/\10^(m-1)<=x:=by refine zO (fn:=Tryz.f146) R4<|mM ?_;refine zM ?_;refine yi _ R5 (bi k _ _ hx) ?_;rintro _⟨m,rfl,e,f,g⟩;refine yi _ R5 (zh6 k _ _ e) ?_;rintro _ rfl;have⟨c,u,A⟩:=zbb e;have D:=g h0;generalize m*78913/262144=q at c u A⊢;refine Ze ?_;refine Zo ?_;refine fk R8 ⟨Int.natCast_nonneg _,Int.ofNat_lt.2 c⟩ ?_;refine zT R6 B.2.1 (v:=U .u64 ((10^q:Nat):Int)) ⟨ω,(zpx c)⟩ ?_;by_cases hge:10^q<=x;refine jD R6 (ab5.2 hge)<|yi _ R5 (aI (k+1) _ _ φ) ?_;rintro _ rfl;refine uI (a:=(q:Int)) (b:=1) R6 Z<|Ze ?_;exact retF _ ω (zi ω) R2 ⟨q+1,ω,Z,Z,Dm f u,hge⟩;refine Nz R6 (λC=>hge (ab5.1 C)) ?_;refine yi _ R5 (aI (k+1) _ _ χ) ?_;rintro _ rfl;refine uI (a:=(q:Int)) (b:=0) R6 Z ?_;rw[Int.add_zero];refine Ze ?_;have l:1<=q:=(by obtain h|h:=Nat.eq_zero_or_pos q;subst h;rw[EV]at hge;omega;exact h);refine retF _ ω (zi ω) R2 ⟨q,ω,l,Z,Z,?_⟩;obtain⟨p,rfl⟩:∃p,q=p+1:=⟨q-1,Z⟩;rw[Dj]at A;show 10^p<=x;omega
end
section
variable {h h0:HF}{n:Nat}
def Dg(c:List ψ)(o L Z4 i:Nat):Prop:=∀j,i<=j->j<L->c[o+j]?=ξ (U .u8 ((48+Z4/10^(L-1-j)%10:Nat):Int))
structure FbI (h0:HF)(B:Nat)(e:TypeId)(o L Z4:Nat)(c0:List ψ)(h:HF)(w:List Nat)(c:List ψ)(i:Nat):Prop where
 w1:∀b∈w,b=B
 w2:w=[]->h=h0
 oth:Only B h0 h
 row:h B=ξ (.row c e)
 len:O c=O c0
 dg:Dg c o L Z4 i
 out:∀k,(k<o\/o+L<=k)->c[k]?=c0[k]?
def FbI.put{o L:Nat}{c:List ψ}{v:Nat}(f:FbI h0 B e o L Z4 c0 h w c i)(hi:i=m+1)(p:i<=L)(hl:o+L<=O c0)(hv:v=48+Z4/10^(L-i)%10):FbI h0 B e o L Z4 c0 (upd h B (ξ (.row (c.set (o+m) (U .u8 (v:Int))) e))) (B::w) (c.set (o+m) (U .u8 (v:Int))) m:=by refine⟨λb a=>?_,λh=>AI,λb a=>(zm a).trans (f.oth b a),zg _ _ _,by rw[List.length_set,f.len],λj l d=>?_,λk g=>?_⟩;obtain h|h:=DA.1 a;exact h;exact f.w1 b h;by_cases e2:j=m;subst e2;rw[List.getElem?_set_self (by rw[f.len];omega),hv,show L-1-j=L-i by omega];rw[JT Z];exact f.dg j Z d;rw[JT Z];exact f.out k g
def FbP(h:HF)(n B:Nat)(e:TypeId)(o L Z4:Nat)(c0:List ψ)(h':HF)(n':Nat)(w:List Nat):Prop:=n'=n/\(∀b∈w,b=B)/\∃c,FbI h B e o L Z4 c0 h' w c 0
def kN(k:Nat){o L:Nat}(hB:B<3*n)(Z0:h B=ξ (.row c0 e))(hl:o+L<=O c0)(hL:1<=L/\L<=20)(hU:Z4<10^L)(a2:Z4<18446744073709551616):
  CF (Kp (k+1)) 147 [Y (ξ ⟨B,o,θ⟩) L cap,U .u64 (Z4:Int)] h n λ_ J M w=>FbP h n B e o L Z4 c0 J M w:=by
 refine rT (fn:=Tryz.f147) R4 ?_;have f0:FbI h B e o L Z4 c0 h [] c0 L:=⟨λb hb=>CO hb C6,λ_=>rfl,λ_ _=>rfl,Z0,ω,λj K h2=>CO K Z,λ_ _=>rfl⟩;refine mM ?_;refine ye (α:=Nat×Nat×List ψ) (λz=>[(0,Y (ξ ⟨B,o,θ⟩) L cap),(1,U .u64 (z.2.1:Int)),(4,U .i64 (z.1:Int))])
  (λz J M w=>n=M/\FbI h B e o L Z4 c0 J w z.2.2 z.1/\z.1<=L/\z.2.1=Z4/10^(L-z.1)) (λz=>z.1) (L,Z4,c0) P3 ⟨ω,f0,CS,by show Z4=Z4/10^(L-L);rw[Ec,EV,Ht]⟩ (by show L<LL;unfold LL;omega) ?_
 rintro⟨i,u,c⟩ t K _ w ⟨rfl,d,F,g⟩;dsimp only at d F g;have C:∀q,Z4/10^(L-i+q)=u/10^q:=λq=>by rw[g,FB,<-Ef]
 have a6:u<18446744073709551616:=by rw[g];exact Dw (EL _ _) a2
 have f:u<10^i:=(by rw[g];refine Iv ?_;rw[<-Ef,show L-i+i=L by omega];exact hU);refine zN ?_;by_cases h8:8<=i;refine Zx ?_;refine vO (a:=u) (b:=100000000) R6 Z<|M6 (c:=u%100000000) R7 Z<|Zn ?_;refine xN (a:=u) (b:=100000000) R6 ⟨Z,Z⟩ ?_;refine Ze ?_;generalize hus:u%100000000=us;refine zM ?_;refine wT (a:=us) (b:=10000) R6 ⟨Z,Z⟩ ?_;refine zM ?_;refine wR (a:=us) (b:=10000) R6 Z<|mZ ?_;refine zN ?_;generalize hlo:us%10000=lo;generalize hhi:us/10000=hg;have a3:lo%100=u%100:=Z;refine zM ?_;refine wT (a:=lo) (b:=100) R6 ⟨Z,Z⟩ ?_;refine xM (a:=lo/100) (b:=2) R6 Z<|zM ?_;refine wR (a:=lo) (b:=100) R6 Z<|xM (a:=lo%100) (b:=2) R6 Z<|mZ ?_;refine Za ?_;refine wT (a:=hg) (b:=100) R6 ⟨Z,Z⟩ ?_;refine xM (a:=hg/100) (b:=2) R6 Z<|zM ?_;refine wR (a:=hg) (b:=100) R6 Z<|xM (a:=hg%100) (b:=2) R6 Z<|mZ ?_;refine zN ?_;generalize hm1:lo%100=m1;generalize hm2:lo/100=m2;generalize hm3:hg%100=m3;generalize hm4:hg/100=m4;have H:m1%10=u%10/\m1/10=u/10%10:=Z;have S:m2%10=u/100%10/\m2/10=u/1000%10:=Z;have k2:m3%10=u/10000%10/\m3/10=u/100000%10:=Z;have k3:m4%10=u/1000000%10/\m4/10=u/10000000%10:=Z;have l1:m1<100/\m2<100/\m3<100/\m4<100:=Z;rw[nR rfl];have⟨N,Z1,l,p,y,A,_⟩:=wI (m1) Z;refine Zs ?_;refine Zs ?_;refine zM ?_;refine xu (a:=m1*2) (b:=1) R6 Z<|yH (s:=yP) (j:=m1*2+1) R8 p ?_;rw[A];refine zM ?_;refine yH (s:=yP) (j:=m1*2) R8 l ?_;rw[y];refine yG (j:=i-1) R8 Z ⟨Z,Br⟩ d.row gX (λ_=>rfl) R3 (λ_=>rfl) ω λ_=>?_;have D:=d.put (m:=i-1) (v:=48+(m1)%10) Z Z hl (by rw[<-g,H.1]);refine yG (j:=i-2) R8 Z ⟨Z,by rw[D.len];omega⟩ D.row gX (λ_=>rfl) R3 (λ_=>rfl) ω λ_=>?_;have G:=D.put (m:=i-2) (v:=48+(m1)/10) Z Z hl Aw;refine zN ?_;rw[nR rfl];have⟨N,Z1,l,p,y,A,_⟩:=wI (m2) Z;refine Zs ?_;refine Zs ?_;refine zM ?_;refine xu (a:=m2*2) (b:=1) R6 Z<|yH (s:=yP) (j:=m2*2+1) R8 p ?_;rw[A];refine zM ?_;refine yH (s:=yP) (j:=m2*2) R8 l ?_;rw[y];refine yG (j:=i-3) R8 Z ⟨Z,by rw[G.len];omega⟩ G.row gX (λ_=>rfl) R3 (λ_=>rfl) ω λ_=>?_;have I:=G.put (m:=i-3) (v:=48+(m2)%10) Z Z hl (by rw[show L-(i-2)=L-i+2 by omega,C 2,S.1]);refine yG (j:=i-4) R8 Z ⟨Z,by rw[I.len];omega⟩ I.row gX (λ_=>rfl) R3 (λ_=>rfl) ω λ_=>?_;have P:=I.put (m:=i-4) (v:=48+(m2)/10) Z Z hl (by rw[show L-(i-3)=L-i+3 by omega,C 3,S.2]);refine zN ?_;rw[nR rfl];have⟨N,Z1,l,p,y,A,_⟩:=wI (m3) Z;refine Zs ?_;refine Zs ?_;refine zM ?_;refine xu (a:=m3*2) (b:=1) R6 Z<|yH (s:=yP) (j:=m3*2+1) R8 p ?_;rw[A];refine zM ?_;refine yH (s:=yP) (j:=m3*2) R8 l ?_;rw[y];refine yG (j:=i-5) R8 Z ⟨Z,by rw[P.len];omega⟩ P.row gX (λ_=>rfl) R3 (λ_=>rfl) ω λ_=>?_;have V:=P.put (m:=i-5) (v:=48+(m3)%10) Z Z hl (by rw[show L-(i-4)=L-i+4 by omega,C 4,k2.1]);refine yG (j:=i-6) R8 Z ⟨Z,by rw[V.len];omega⟩ V.row gX (λ_=>rfl) R3 (λ_=>rfl) ω λ_=>?_;have W:=V.put (m:=i-6) (v:=48+(m3)/10) Z Z hl (by rw[show L-(i-5)=L-i+5 by omega,C 5,k2.2]);refine zN ?_;rw[nR rfl];have⟨N,Z1,l,p,y,A,_⟩:=wI (m4) Z;refine Zs ?_;refine Zs ?_;refine zM ?_;refine xu (a:=m4*2) (b:=1) R6 Z<|yH (s:=yP) (j:=m4*2+1) R8 p ?_;rw[A];refine zM ?_;refine yH (s:=yP) (j:=m4*2) R8 l ?_;rw[y];refine yG (j:=i-7) R8 Z ⟨Z,by rw[W.len];omega⟩ W.row gX (λ_=>rfl) R3 (λ_=>rfl) ω λ_=>?_;have Z3:=W.put (m:=i-7) (v:=48+(m4)%10) Z Z hl (by rw[show L-(i-6)=L-i+6 by omega,C 6,k3.1]);refine yG (j:=i-8) R8 Z ⟨Z,by rw[Z3.len];omega⟩ Z3.row gX (λ_=>rfl) R3 (λ_=>rfl) ω λ_=>?_;have f9:=Z3.put (m:=i-8) (v:=48+(m4)/10) Z Z hl (by rw[show L-(i-7)=L-i+7 by omega,C 7,k3.2]);refine mM ?_;exact goOn (i-8,u/100000000,_) (by show i-8<i;omega) ⟨ω,ω,by show U .i64 _=U .i64 _;congr 1;show(i:Int)-8=((i-8:Nat):Int);omega,CR⟩ ⟨ω,f9,by show i-8<=L;omega,by show u/100000000=Z4/10^(L-(i-8));rw[show L-(i-8)=L-i+8 by omega,C 8]⟩;refine Zb ?_;have a5:u<100000000:=Dm f (Dd zd (show i<=8 from Z));refine zM ?_;refine M6 (c:=u) R7 Z<|Zn ?_;refine MH R6<|zN ?_;refine yj (α:=Nat×Nat×List ψ) (λz=>[(0,Y (ξ ⟨B,o,θ⟩) L cap),(4,U .i64 (z.1:Int)),(12,U .u32 (z.2.1:Int))]) (λz J M w=>n=M/\FbI h B e o L Z4 c0 J w z.2.2 z.1/\z.1<=L/\z.2.1=Z4/10^(L-z.1)/\z.2.1<10^z.1/\z.1<4) ?_ ?_;by_cases h4:4<=i;rw[CN (show(i:Int)>=4 from Z)];rw[ze rfl];refine Za ?_;refine wR (a:=u) (b:=10000) R6 Z<|Zn ?_;refine wT (a:=u) (b:=10000) R6 ⟨Z,Z⟩ ?_;refine Ze ?_;generalize hlo:u%10000=lo;refine zM ?_;refine wT (a:=lo) (b:=100) R6 ⟨Z,Z⟩ ?_;refine xM (a:=lo/100) (b:=2) R6 Z<|zM ?_;refine wR (a:=lo) (b:=100) R6 Z<|xM (a:=lo%100) (b:=2) R6 Z<|mZ ?_;refine zN ?_;generalize hm1:lo%100=m1;generalize hm2:lo/100=m2;have H:m1%10=u%10/\m1/10=u/10%10:=Z;have S:m2%10=u/100%10/\m2/10=u/1000%10:=Z;have l1:m1<100/\m2<100:=Z;rw[nR rfl];have⟨N,Z1,l,p,y,A,_⟩:=wI (m1) Z;refine Zs ?_;refine Zs ?_;refine zM ?_;refine xu (a:=m1*2) (b:=1) R6 Z<|yH (s:=yP) (j:=m1*2+1) R8 p ?_;rw[A];refine zM ?_;refine yH (s:=yP) (j:=m1*2) R8 l ?_;rw[y];refine yG (j:=i-1) R8 Z ⟨Z,Br⟩ d.row gX (λ_=>rfl) R3 (λ_=>rfl) ω λ_=>?_;have D:=d.put (m:=i-1) (v:=48+(m1)%10) Z Z hl (by rw[<-g,H.1]);refine yG (j:=i-2) R8 Z ⟨Z,by rw[D.len];omega⟩ D.row gX (λ_=>rfl) R3 (λ_=>rfl) ω λ_=>?_;have G:=D.put (m:=i-2) (v:=48+(m1)/10) Z Z hl Aw;refine zN ?_;rw[nR rfl];have⟨N,Z1,l,p,y,A,_⟩:=wI (m2) Z;refine Zs ?_;refine Zs ?_;refine zM ?_;refine xu (a:=m2*2) (b:=1) R6 Z<|yH (s:=yP) (j:=m2*2+1) R8 p ?_;rw[A];refine zM ?_;refine yH (s:=yP) (j:=m2*2) R8 l ?_;rw[y];refine yG (j:=i-3) R8 Z ⟨Z,by rw[G.len];omega⟩ G.row gX (λ_=>rfl) R3 (λ_=>rfl) ω λ_=>?_;have I:=G.put (m:=i-3) (v:=48+(m2)%10) Z Z hl (by rw[show L-(i-2)=L-i+2 by omega,C 2,S.1]);refine yG (j:=i-4) R8 Z ⟨Z,by rw[I.len];omega⟩ I.row gX (λ_=>rfl) R3 (λ_=>rfl) ω λ_=>?_;have P:=I.put (m:=i-4) (v:=48+(m2)/10) Z Z hl (by rw[show L-(i-3)=L-i+3 by omega,C 3,S.2]);refine mM ?_;refine zA (i-4,u/10000,_) ⟨ω,by show U .i64 _=U .i64 _;congr 1;show(i:Int)-4=((i-4:Nat):Int);omega,ω,CR⟩ ⟨ω,P,by show i-4<=L;omega,by show u/10000=Z4/10^(L-(i-4));rw[show L-(i-4)=L-i+4 by omega,C 4],?_,by show i-4<4;omega⟩;show u/10000<10^(i-4);refine Iv ?_;rw[show(10000:Nat)=10^4 from ω,<-Ef,show 4+(i-4)=i by omega];exact f;rw[CM (show ¬(i:Int)>=4 from Z)];rw[za rfl];try refine zN ?_
 exact zA (i,u,c) P3 ⟨ω,d,F,g,f,by show i<4;omega⟩;rintro⟨i,u,c⟩ t K _ w ⟨rfl,d,F,g,f,R⟩;dsimp only at d F g f R;have C:∀q,Z4/10^(L-i+q)=u/10^q:=λq=>by rw[g,FB,<-Ef]
 have a4:u<10000:=Dm f (Dd zd (show i<=4 from Z));refine Za ?_;refine MH R6<|zN ?_;refine yj (α:=Nat×Nat×List ψ) (λz=>[(0,Y (ξ ⟨B,o,θ⟩) L cap),(4,U .i64 (z.1:Int)),(12,U .u32 (z.2.1:Int))]) (λz J M w=>n=M/\FbI h B e o L Z4 c0 J w z.2.2 z.1/\z.1<=L/\z.2.1=Z4/10^(L-z.1)/\z.2.1<10^z.1/\z.1<2) ?_ ?_;by_cases h2:2<=i;rw[CN (show(i:Int)>=2 from Z)];rw[ze rfl];refine Za ?_;refine wR (a:=u) (b:=100) R6 Z<|xM (a:=u%100) (b:=2) R6 Z<|Zn ?_;refine wT (a:=u) (b:=100) R6 ⟨Z,Z⟩ ?_;refine Ze ?_;generalize hm1:u%100=m1;have H:m1%10=u%10/\m1/10=u/10%10:=Z;have l1:m1<100:=Z;rw[nR rfl];have⟨N,Z1,l,p,y,A,_⟩:=wI (m1) Z;refine Zs ?_;refine Zs ?_;refine zM ?_;refine xu (a:=m1*2) (b:=1) R6 Z<|yH (s:=yP) (j:=m1*2+1) R8 p ?_;rw[A];refine zM ?_;refine yH (s:=yP) (j:=m1*2) R8 l ?_;rw[y];refine yG (j:=i-1) R8 Z ⟨Z,Br⟩ d.row gX (λ_=>rfl) R3 (λ_=>rfl) ω λ_=>?_;have D:=d.put (m:=i-1) (v:=48+(m1)%10) Z Z hl (by rw[<-g,H.1]);refine yG (j:=i-2) R8 Z ⟨Z,by rw[D.len];omega⟩ D.row gX (λ_=>rfl) R3 (λ_=>rfl) ω λ_=>?_;have G:=D.put (m:=i-2) (v:=48+(m1)/10) Z Z hl Aw;refine mM ?_;refine zA (i-2,u/100,_) ⟨ω,by show U .i64 _=U .i64 _;congr 1;show(i:Int)-2=((i-2:Nat):Int);omega,ω,CR⟩ ⟨ω,G,by show i-2<=L;omega,by show u/100=Z4/10^(L-(i-2));rw[show L-(i-2)=L-i+2 by omega,C 2],?_,by show i-2<2;omega⟩;show u/100<10^(i-2);refine Iv ?_;rw[show(100:Nat)=10^2 from ω,<-Ef,show 2+(i-2)=i by omega];exact f;rw[CM (show ¬(i:Int)>=2 from Z)];rw[za rfl];try refine zN ?_
 exact zA (i,u,c) P3 ⟨ω,d,F,g,f,by show i<2;omega⟩;rintro⟨i,u,c⟩ t K _ w ⟨rfl,d,F,g,f,T⟩;dsimp only at d F g f T;refine zN ?_;by_cases h0:i=0;subst h0;refine lF ?_;try refine zN ?_
 refine⟨ω,[],ω,⟨ω,d.w1,c,d⟩,λhw=>?_⟩;subst hw;have:=d.w2 rfl;subst this;exact⟨ω,d.w1,c,d⟩;have a1:i=1:=Z;subst a1;have a0:u<10:=f;refine Zp ?_;refine xu (a:=48) (b:=u) R6 Z<|mE (a:=48+u) R7 ?_;rw[Di (show 48+u<256 from Z)];refine yG (j:=0) R8 ω ⟨Z,Br⟩ d.row gX (λ_=>rfl) R3 (λ_=>rfl) ω λ_=>?_;have D:=d.put (m:=0) (v:=48+u) ω F hl (by rw[<-g,Di a0]);refine zN ?_;exact⟨ω,[],ω,⟨ω,D.w1,_,D⟩,λhw=>(by cases hw)⟩
end
section
variable {h0:HF}{len:Nat}{x:Operand}
theorem ak:∀(L Z4:Nat),1<=L->Z4<10^L->10^(L-1)<=Z4->O (decD Z4)=L/\∀j,j<L->(decD Z4)[j]?=ξ (Z4/10^(L-1-j)%10):=by
 intro L;induction L with
 |zero=>intro Z4 h;omega
 |succ L ih=>
  intro Z4 _ f g;have p:0<10^L:=DQ zd;rw[Fh]at g;have a:=wy (V:=Z4) Z;by_cases hL:L=0;subst hL;have e:Z4/10=0:=by rw[Nat.pow_one]at f;omega
  rw[e,xo]at a;rw[a];refine⟨ω,λj m=>?_⟩;have:j=0:=Z;subst this;rw[show 0+1-1-0=0 by omega,EV,Ht];rfl;have⟨c,l⟩:=ih (Z4/10) Z (by rw[Dj]at f;omega) (by
   obtain⟨q,rfl⟩:∃q,L=q+1:=⟨L-1,Z⟩;rw[Dj]at g;rw[Fh];omega)
  rw[a];refine⟨by rw[C1,c];rfl,λj m=>?_⟩;by_cases h3:j<L;rw[D7 Z,l j h3,FB,C5 10,<-Dj,show(L-1-j).succ=L+1-1-j by omega];have:j=L:=Z;subst this;rw[Dx Z,c,Ec,Fh,Ec,EV,Ht];rfl
def FbI.cells{o L:Nat}{h:HF}{w:List Nat}{c:List ψ}(f:FbI h0 B e o L Z4 c0 h w c 0)(hl:o+L<=O c0)(m:1<=L)(g:Z4<10^L)(l:10^(L-1)<=Z4):(c.drop o).take L=KE (decB Z4):=by have⟨p,a⟩:=ak L Z4 m g l;have q:=f.len;refine List.ext_getElem? λj=>?_;by_cases hj:j<L;rw[Ek hj,List.getElem?_drop,f.dg j CT hj];unfold KE decB;rw[Dz,Dz,a j hj];rfl;rw[Dn pe,Dn (by rw[rU];unfold decB;rw[Da];omega)]
section
variable {h:HF}{n:Nat}{d:Tmp}
theorem oh{lo:Operand}(a:qu X ops t o d (o.op=.slice ty x (ξ lo) (ξ hi) θ/\X.E.und ty=ξ (.array len e)/\X.E.inf e=ξ (sz,bt,z)/\Kn t x=ι b/\Kn t lo=U ik (i:Int)/\Kn t hi=U ik' ji))(g:ji=(j:Int))(hb:gro b=χ)(hl:i<=j/\j<=len/\i<len)
  (k:EO X ops r ⟨upd t d (Y (ξ ⟨b,0+i*sz,θ⟩) (j-i) (len-i)),h,n,w⟩ Q):EO X ops (o::r) ⟨t,h,n,w⟩ Q:=by
 obtain⟨a,u,v,m,y,f,A,l,c⟩:=a;subst g;refine zS ⟨a,u,v,(by rw[m];rfl)⟩ ?_ k;rw[m];show xc X.E ty (Kn t x) (ξ (Kn t lo)) (ξ (Kn t hi))=_;rw[A,l,c];have p:(0:Int)<=(i:Int)/\(i:Int)<=(j:Int):=Z;have q:(0:Int)<=(j:Int)/\(j:Int)<=(len:Int):=Z;have s:D5 len i=χ:=by
  cases he:D5 len i with
  |false=>rfl
  |true=>have:=DU he;omega
 simp only[xc,y,f,KV,CQ p,CQ q,Ew,hb,IU,ab6,offA,s,wO]
theorem te(a:qu X ops t o d (o.op=.slice ty x θ (ξ hi) θ/\X.E.und ty=ξ (.array len e)/\X.E.inf e=ξ (sz,bt,z)/\Kn t x=ι b/\Kn t hi=U ik' ji))(g:ji=(j:Int))(hb:gro b=χ)(hl:j<=len/\0<len)
  (k:EO X ops r ⟨upd t d (Y (ξ ⟨b,0,θ⟩) j len),h,n,w⟩ Q):EO X ops (o::r) ⟨t,h,n,w⟩ Q:=by
 obtain⟨a,q,s,l,u,f,v,c⟩:=a;subst g;refine zS ⟨a,q,s,(by rw[l];rfl)⟩ ?_ k;rw[l];show xc X.E ty (Kn t x) θ (ξ (Kn t hi))=_;rw[v,c];have m:(0:Int)<=(j:Int)/\(j:Int)<=(len:Int):=Z;have p:D5 len 0=χ:=by
  cases he:D5 len 0 with
  |false=>rfl
  |true=>have:=DU he;omega
 simp only[xc,u,f,KV,CQ m,Ew,hb,IU,ab6,offA,p,wO,Ep,GC]
end
def intT(x:Int):List UInt8:=(if x<0 then[45]else[])++decT x.natAbs
def ae(h:Z4≠0):(decB Z4).map EA=decT Z4:=by unfold decT;rw[CP h]
def dW(d:Nat)(l:List Nat):KE (d::l)=U .u8 (d:Int)::KE l:=rfl
def wV{h:HF}{o L:Nat}{c:List ψ}(g:h b=ξ (.row c e))(f:(c.drop o).take L=cl)(hl:o+L<=O c)(a:L<=cap):argS h 1 (Y (ξ ⟨b,o,θ⟩) L cap) L cl:=
 uX (n:=b+1) (.at_ Z g ω a Z (by rw[D1];exact f))
def ze6(k:Nat){h:HF}(F:GK.G h){n:Nat}(K:20<=n){x:Int}(hx: -9223372036854775808<=x/\x<9223372036854775808):VF (Kp (k+3)) 117 [U .i64 x,U .i64 10] h n λv=>v=CY ⟨⟨intT x⟩⟩:=by
 refine zO (fn:=Tryz.f117) R4<|mM ?_;refine Zh ?_;by_cases hsm:0<=x/\x<100;obtain⟨i,rfl⟩:∃i:Nat,x=(i:Int):=⟨x.natAbs,Z⟩;refine Zx ?_;refine yi _ R5 (ka (k+1) _ _ Z) ?_;rintro _ rfl;refine Ze ?_;refine retF _ ω (zi ω) R2 ?_;show CY _=_;unfold intT;rw[CP Z];rfl;obtain⟨m,J⟩:∃m,m=x.natAbs:=⟨_,ω⟩;have l:m≠0:=Z;by_cases hneg:x<0;refine Zb ?_;refine wt (C3 24 (U .u8 0)) R6 λu C D=>?_;refine Za ?_;refine wm (ik:=.u64) (a:=((18446744073709551616-m:Nat):Int)) R6 ?_ ?_;show ξ (U .u64 (DE .u64 x))=_;rw[show x= -(m:Int)from Z,qK m Z];refine zM ?_;refine mM ?_;rw[ze rfl];refine Za ?_;refine zS (v:=U .u64 (m:Int)) R4 ?_ ?_;show ξ (U .u64 (DE .u64 (0-((18446744073709551616-m:Nat):Int))))=_;rw[ra _ Z];congr 3;omega;refine Zn ?_;refine yi _ R5 (vy k (rR F D K) _ Z l) ?_;rintro _⟨L,rfl,p,H,g,q⟩;refine Zn ?_;refine uI (a:=1) (b:=(L:Int)) R6 Z<|oh (i:=1) (j:=1+L) R9 Z (zB n) Z ?_;rw[show 1+L-1=L by omega];refine zM ?_;refine zF _ R5 (kN (k+1) (h:=u) (n:=n+1) (B:=3*n+2) (o:=1) (L:=L) (Z4:=m) Z C gN Z g Z) ?_;rintro v M _ W⟨rfl,y,c,f⟩;rw[zV λb A=>by rw[y b A];show 3*n<=_;omega];have s:O c=24:=by rw[f.len,DI]
 refine mM ?_;rw[ze rfl];refine zN ?_;refine fk R8 (j:=0) Z<|mq (b:=3*n+2) (off:=0) (c.set 0 (U .u8 45)) R5 f.row R3 (by rw[s];omega) (splice_one c 0 _ Z) dG ?_;intro Z1 N P;refine Za ?_;refine uI (a:=1) (b:=(L:Int)) R6 Z<|te (j:=1+L) R8 Z (zB n) Z ?_;have I:((c.set 0 (U .u8 45)).drop 0).take (1+L)=KE (45::decB m):=by
  rw[dW,<-f.cells gN p g q,DO];cases c with
  |nil=>simp at s
  |cons c1 c2=>rw[HW,EE,J4,ID,DO];rfl
 refine pY R5 (rg (B:=45::decB m) R3 (wV N I xd Z)) ?_;refine Ze ?_;refine retF _ ω (zi ω) R2 ?_;show CY _=_;unfold intT;rw[CQ hneg,<-J,<-ae l];rfl;refine Zb ?_;refine wt (C3 24 (U .u8 0)) R6 λu C D=>?_;refine Za ?_;refine wm (ik:=.u64) (a:=(m:Int)) R6 ?_ ?_;show ξ (U .u64 (DE .u64 x))=_;rw[show x=(m:Int)from Z,xR,Di Z];refine zM ?_;refine mM ?_;rw[za rfl];refine Za ?_;refine yi _ R5 (vy k (rR F D K) _ Z l) ?_;rintro _⟨L,rfl,p,H,g,q⟩;refine Zn ?_;refine uI (a:=1) (b:=(L:Int)) R6 Z<|oh (i:=1) (j:=1+L) R9 Z (zB n) Z ?_;rw[show 1+L-1=L by omega];refine zM ?_;refine zF _ R5 (kN (k+1) (h:=u) (n:=n+1) (B:=3*n+2) (o:=1) (L:=L) (Z4:=m) Z C gN Z g Z) ?_;rintro v M _ W⟨rfl,y,c,f⟩;rw[zV λb A=>by rw[y b A];show 3*n<=_;omega];have s:O c=24:=by rw[f.len,DI]
 refine mM ?_;rw[za rfl];refine Za ?_;refine uI (a:=1) (b:=(L:Int)) R6 Z<|oh (i:=1) (j:=1+L) R9 Z (zB n) Z ?_;rw[show 1+L-1=L by omega];refine pY R5 (rg (B:=decB m) R3 (wV f.row (f.cells gN p g q) Z Z)) ?_;refine Ze ?_;refine retF _ ω (zi ω) R2 ?_;show CY _=_;unfold intT;rw[CP hneg,<-J,<-ae l];rfl
def mV(k:Nat){h:HF}(a:GK.G h){n:Nat}(c:20<=n){x:Int}(hx: -9223372036854775808<=x/\x<9223372036854775808):VF (Kp (k+4)) 78 [U .i64 x,U .i64 10] h n λv=>v=CY ⟨⟨intT x⟩⟩:=by refine zO (fn:=Tryz.f78) R4<|Za ?_;refine Zl ?_;refine yi _ R5 (ze6 k a c hx) ?_;rintro _ rfl;refine Ze ?_;exact BG
def oT(k:Nat){h:HF}(a:GK.G h){n:Nat}(c:20<=n){x:Int}(hx: -9223372036854775808<=x/\x<9223372036854775808):VF (Kp (k+5)) 74 [U .i64 x] h n λv=>v=CY ⟨⟨intT x⟩⟩:=by refine zO (fn:=Tryz.f74) R4<|Za ?_;refine Za ?_;refine yi _ R5 (mV k a c hx) ?_;rintro _ rfl;refine Ze ?_;exact BG
end
section
variable {c len lo n' u:Nat}{sT:TypeId}{T:List Nat}{h' h0:HF}{x:Operand}
def decN(V:Nat):List Nat:=if V=0 then[48]else decB V
theorem np(V:Nat):decT V=(decN V).map EA:=by unfold decT decN;split<;>rfl
def znz:∀V,∀d∈decD V,d<10:=by
 intro V;induction V using Gx with
 |_ V ih=>
  intro d a;by_cases h0:V=0;subst h0;rw[xo]at a;exact CO a C6;rw[wy h0]at a;obtain h|h:=Ei.1 a;exact ih (V/10) Z d h;rw[Dc.1 h];omega
def zny(V:Nat):∀d∈decN V,d<256:=by intro d a;unfold decN at a;split at a;rw[Dc.1 a];decide;obtain⟨q,f,rfl⟩:=D2.1 a;have:=znz V q f;show 48+q<256;omega
def di(V:Nat):decN V≠[]:=by unfold decN;split;simp;rename_i h;intro e;unfold decB at e;rw[wy h]at e;simp at e
def zb7{l:List Nat}(h:∀d∈l,d<256):(l.map EA).map (λb:UInt8=>U .u8 (b.toNat:Int))=KE l:=by
 induction l with
 |nil=>rfl
 |cons d l ih=>
  rw[GJ,GJ,ih λx a=>h x AM,dW];have:=h d cA;rw[show(EA d).toNat=d from by rw[UInt8.toNat_ofNat'];omega]
def aZ{h:HF}:argS h 1 (CY ⟨⟨decT V⟩⟩) (O (decN V)) (KE (decN V)):=by refine⟨?_,?_⟩;show ξ (O (decT V))=_;rw[np,Da];show ξ (((decT V).take (O (decN V))).map λb:UInt8=>U .u8 (b.toNat:Int))=_;rw[np,C7 qq,zb7 (zny V)]
theorem aj{L:Nat}(g:1<=L)(a:Z4<10^L)(f:10^(L-1)<=Z4):O (decB Z4)=L:=by grind [decB,ak]
def Nj(v:ψ)(b:Nat):Prop:=∃o l c,v=Y (ξ ⟨b,o,θ⟩) l c
def GroT(h:HF)(n:Nat)(v:ψ)(T:List Nat):Prop:=Gro h 0 n 5 1 v (O T) (KE T)
def nH{h:HF}{n:Nat}{x:ψ}{new:List Nat}(hu:E.und sT=ξ (.slice e))(y:e=5)(hi:E.inf e=ξ (1,bytes,z))(s:O (zn z)=1)(j:1<=bytes)(i:GroT h n v T)(hx:argS h 1 x m (KE new))(hm:1<=m)(hl:O new=m)(hb:(O T+m)*bytes<=1099511627776):
  ∃v' h' W,yW E h n sT v x=ξ (.val v' h' (n+1) W)/\GroT h' (n+1) v' (T++new)/\Keep v n h h'/\(∀b∈W,Nj v b)/\xC n v':=by
 subst y;unfold GroT at*;have a:O (KE new)=m*1:=by rw[rU,hl,D1]
 have f:O T+m=O (T++new):=by rw[C1,hl]
 have g:KE T++KE new=KE (T++new):=by unfold KE;rw[EK]
 generalize hT:O T=tl at i hb f;generalize hc:KE T=cc at i g;cases i with
 |nil=>
  refine⟨_,_,_,append_nil hu hi s CS j hx hm AO,?_,λb hb _=>zm Z,λb hb=>CO hb C6,sn⟩;rw[<-g,<-f,Dl,DR];exact .at_ (uD n) Z Z (zg _ _ _) a (rE _)
 | @at_ b len _ hg2 hlo hb2 hr hl2 ho2=>
  refine⟨_,_,_,ue hu hi s CS j hx hm hb hg2 hr hl2 (yZ ho2 (rE _)) a,?_,λk p q=>?_,λk p=>?_,sn⟩;rw[<-g,<-f];exact .at_ (uD n) Z Z (zg _ _ _) (by rw[C1,hl2,a];omega) (yZ ho2 (rE _));rw[zm Z,zm (λe=>q 0 tl tl (by rw[e]))];rw[Dc.1 p];exact⟨_,_,_,ω⟩
structure AS (h0:HF)(n0:Nat)(v0:ψ)(h:HF)(n:Nat)(w:List Nat)(v:ψ)(T:List Nat):Prop where
 hn:n0<=n
 keep:Keep v0 n0 h0 h
 hw:∀b∈w,Nj v0 b
 g:GroT h n v T
 or:v=v0\/xC n0 v
def AS.refl(g:GroT h0 n0 v0 T):AS h0 n0 v0 h0 n0 [] v0 T:=⟨CS,λ_ _ _=>rfl,λb a=>CO a C6,g,an7 ω⟩
def AS.ext{h:HF}{n:Nat}{w:List Nat}(a:AS h0 n0 v0 h n w v T)(x:Ko n h h')(f:n<=n'):AS h0 n0 v0 h' n' w v T:=
 ⟨Dy a.hn f,λb j i=>(x b (by have:=a.hn;omega)).trans (a.keep b j i),a.hw,a.g.ext x f,a.or⟩
def AS.only{h:HF}{n:Nat}{w:List Nat}(a:AS h0 n0 v0 h n w v T)(o:Only b h h')(hb:3*n0<=b)(j:gro b=χ):AS h0 n0 v0 h' n w v T:=
 ⟨a.hn,λk f i=>(o k Z).trans (a.keep k f i),a.hw,a.g.same λk _ _ f=>o k λe=>(by rw[e,j]at f;cases f),a.or⟩
theorem Gro.blk{n o:Nat}{h:HF}{C:List ψ}(g:Gro h lo n e sz v len C)(hv:v=Y (ξ ⟨b,o,θ⟩) l c):gro b=φ/\b<3*n:=by cases g<;>grind [hv]
def AS.trans{q s:HF}{y A:Nat}{B w2:List Nat}{v1 v2:ψ}{C p:List Nat}(a:AS h0 n0 v0 q y B v1 C)(b:AS q y v1 s A w2 v2 p):AS h0 n0 v0 s A (addW n0 w2 B) v2 p:=by have D:=a.hn;refine⟨Dy a.hn b.hn,λk j i=>(b.keep k Z λo l c e=>?_).trans (a.keep k j i),λk j=>?_,b.g,?_⟩;obtain h|h:=a.or;exact i o l c (h▸e);rw[e]at h;have h:3*n0<=k:=h;omega;obtain h|⟨h,F⟩:=yN.1 j;exact a.hw k h;have⟨o,l,c,e⟩:=b.hw k h;obtain f|f:=a.or;exact⟨o,l,c,f▸e⟩;rw[e]at f;have f:3*n0<=k:=f;omega;obtain h|h:=b.or;rw[h];exact a.or;exact .inr (h.mono D)
section
variable {h:HF}{n:Nat}{d:Tmp}
def oi{s:Operand}{new:List Nat}(i:qu X ops t o d (o.op=.call {callee:=.builtin .append,args:=#[s,x],argTypes:=#[sT,xT]}/\(match X.E.und xT with|some (.int _)=>χ|none=>χ|_=>φ)=φ/\X.E.und sT=ξ (.slice e)/\e=5/\X.E.inf e=ξ (1,bytes,z)/\O (zn z)=1))(q:1<=bytes)(H:Kn t s=v)(hx:argS h 1 (Kn t x) m (KE new))(hm:1<=m)(hl:O new=m)(hb:(O T+m)*bytes<=1099511627776)(a:AS h0 X.n0 v0 h n w v T)
  (k:∀f h' w',AS h0 X.n0 v0 h' (n+1) w' f (T++new)->Keep v n h h'->EO X ops r ⟨upd t d f,h',n+1,w'⟩ Q):EO X ops (o::r) ⟨t,h,n,w⟩ Q:=by have⟨i,hd,hn,G,p,I,D,F,J⟩:=i;have⟨f,h',W,y,A,j,B,C⟩:=nH I D F J q a.g hx hm hl hb;refine yM ⟨i,hd,hn,G,p⟩ (by rw[H];exact y) ?_;have b:AS h n v h' (n+1) W f (T++new):=⟨Du _,j,B,A,.inr C⟩;exact k f h' _ (a.trans b) j
end
def GroT.shape{h:HF}{n:Nat}(g:GroT h n v T):∃a,v=Y a (O T) (O T):=by have⟨a,e,_⟩:=Gro.shape g;exact⟨a,e⟩
def GroT.keepB{h:HF}{n:Nat}(g:GroT h n v T)(k:Keep v n h h')(hb:gro b=χ)(hl:b<3*n):h' b=h b:=k.blk g hb hl
def zcc(k:Nat){h:HF}(M:GK.G h){n:Nat}(P:20<=n){a:Option Addr}(hu:u<18446744073709551616)(g:GroT h n (Y a (O T) (O T)) T)(hT:O T<1000000000):CF (Kp (k+3)) 149 [Y a (O T) (O T),U .u64 (u:Int),U .i64 10] h n λv h' n' w=>AS h n (Y a (O T) (O T)) h' n' w v (T++decN u):=by
 refine zw (fn:=aw1) R4 ?_;have D:=AS.refl g;have a5:O (decN u)<=20:=(by unfold decN;split;decide;unfold decB;rw[Da];exact ws 20 u Z);refine Za ?_;refine mM ?_;rw[ze rfl];refine zN ?_;by_cases hsm:u<100;refine Zp ?_;refine vj (a:=(u:Int)) R7 Z<|yi _ R5 (ka (k+1) _ _ hsm) ?_;rintro _ rfl;refine oi R9 zb ω (aZ (V:=u)) (by have:=di u;cases hh:decN u with|nil=>exact CO hh this|cons _ _=>simp) ω Z D ?_;intro S h' Z3 F _;obtain⟨C,rfl⟩:=F.g.shape;refine Ze ?_;exact retH [Y C _ _] R3 F;have A:u≠0:=Z;refine Zb ?_;refine wt (C3 24 (U .u8 0)) R6 λK R I=>?_;refine Za ?_;refine yi _ R5 (vy k (rR M I P) _ hu A) ?_;rintro _⟨L,rfl,i,Z0,p,q⟩;refine Zn ?_;refine te (j:=L) R8 ω (zB n) Z<|zM ?_;refine zF _ R5 (kN (k+1) (h:=K) (n:=n+1) (B:=3*n+2) (o:=0) (L:=L) (Z4:=u) Z R gN Z p Z) ?_;rintro v h2 _ W⟨rfl,N,c,f⟩;rw[zV λb Z1=>by rw[N b Z1];show 3*n<=_;omega];have a4:O c=24:=by rw[f.len,DI]
 have J:=(D.ext I Zq).only f.oth Z (zB n);have s:=f.cells gN i p q;have y:decN u=decB u:=by unfold decN;rw[CP A]
 rw[<-y]at s;refine Zl ?_;refine te (j:=L) R8 ω (zB n) Z<|oi R9 zb ω (wV f.row s Z Z) i (by rw[y];exact aj i p q) Z J ?_;intro S h' Z3 H _;obtain⟨C,rfl⟩:=H.g.shape;refine Ze ?_;exact retH [Y C _ _] R3 H
def zum(k:Nat){h:HF}(p:GK.G h){n:Nat}(s:20<=n){a:Option Addr}(hu:u<18446744073709551616)(g:GroT h n (Y a (O T) (O T)) T)(q:O T<1000000000):CF (Kp (k+4)) 143 [Y a (O T) (O T),U .u64 (u:Int),U .i64 10] h n λv h' n' w=>AS h n (Y a (O T) (O T)) h' n' w v (T++decN u):=by refine zw (fn:=aw2) R4<|Za ?_;refine Zl ?_;refine zM ?_;refine zF _ R5 (zcc k p s hu g q) λv y A B f=>?_;obtain⟨i,rfl⟩:=f.g.shape;have j:=(AS.refl g).trans f;refine Ze ?_;exact retH [Y i _ _] R3 j
end
section
variable {len u:Nat}{T:List Nat}
section
variable {h:HF}{n:Nat}{sT:TypeId}{x:ψ}
def tG{c:List ψ}(hu:E.und sT=ξ (.slice e)/\E.inf e=ξ (1,bytes,z)/\O (zn z)=1)(p:1<=bytes)(hx:argS h 1 x m new)(hb:(len+m)*bytes<=1099511627776)(hm:O new=m/\1<=m)(hc:len+m<=cap)(w:h b=ξ (.row c e'))(hl:len+m<=O c)(s:ones new=φ):
  yW E h n sT (Y (ξ ⟨b,0,θ⟩) len cap) x=ξ (.val (Y (ξ ⟨b,0,θ⟩) (len+m) cap) (upd h b (ξ (.row (zu c len new) e'))) n [b]):=by
 have⟨hu,q,y⟩:=hu;have⟨d,a⟩:=hx;have f:DC ((len+m)*bytes) 1099511627776=φ:=C8 hb;have g:D5 (O (zn z)) 1=φ:=by rw[y];exact B8
 have i:DC 1 1=φ:=rfl;have j:DC 1 bytes=φ:=C8 p;have l:DC (len+m) cap=φ:=C8 hc;have o:LY h ((⟨b,0,θ⟩:Addr).add (len*1)) new=ξ (upd h b (ξ (.row (zu c len new) e'))):=(by rw[wO,Dl,D1,uZ w Z s]);obtain⟨v,r,rfl⟩:∃v r,new=v::r:=by
  cases new with
  |nil=>simp at hm;omega
  |cons v r=>exact⟨v,r,ω⟩
 simp only[yW,hu,q,d,a,f,g,i,j,l,Eg,uB,o]
end
def BufT(T:List Nat)(h:HF)(n B cap:Nat)(e:TypeId)(c0:List ψ)(N:List Nat)(v:ψ)(h':HF)(n':Nat)(w:List Nat):Prop:=
 v=Y (ξ ⟨B,0,θ⟩) (O (T++N)) cap/\n<=n'/\(∀b∈w,b=B)/\(∀b,b<3*n->b≠B->h' b=h b)/\∃c,h' B=ξ (.row c e)/\O c=O c0/\c.take (O (T++N))=KE (T++N)
theorem vp{N:List Nat}{c:List ψ}(a:c.take (O T)=KE T)(hl:O T+O N<=O c):(zu c (O T) (KE N)).take (O (T++N))=KE (T++N)/\(zu c (O T) (KE N)).length=O c:=by grind [pU,KE,rU]
def sV(k:Nat){h:HF}(S:GK.G h){n:Nat}(Z0:20<=n){e:TypeId}(K:c0.take (O T)=KE T)(F:B<3*n)(p:h B=ξ (.row c0 e))(a1:cap=O c0/\O T+20<=cap/\cap<1000000)(hu:u<18446744073709551616):
  CF (Kp (k+3)) 149 [Y (ξ ⟨B,0,θ⟩) (O T) cap,U .u64 (u:Int),U .i64 10] h n λv Z1 n' w=>BufT T h n B cap e c0 (decN u) v Z1 n' w:=by
 refine zw (fn:=aw1) R4 ?_;have a3:O (decN u)<=20:=(by unfold decN;split;decide;unfold decB;rw[Da];exact ws 20 u Z);have M:1<=O (decN u):=by
  have:=di u;cases hh:decN u with
  |nil=>exact CO hh this
  |cons _ _=>simp
 refine Za ?_;refine mM ?_;rw[ze rfl];refine zN ?_;by_cases hsm:u<100;refine Zp ?_;refine vj (a:=(u:Int)) R7 Z<|yi _ R5 (ka (k+1) _ _ hsm) ?_;rintro _ rfl;refine yM R5 (tG R3 zb (aZ (V:=u)) Z ⟨rU _,M⟩ Z p Z (rE _)) ?_;rw[pN (by show B<3*n;exact F)];refine Ze ?_;have⟨H,I⟩:=vp (N:=decN u) K Z;refine retH [Y (ξ ⟨B,0,θ⟩) (O T+O (decN u)) cap] R3 ⟨by rw[C1];rfl,CS,λb d=>Dc.1 d,λb _ l=>zm l,_,zg _ _ _,I,H⟩;have D:u≠0:=Z;refine Zb ?_;refine wt (C3 24 (U .u8 0)) R6 λP p1 J=>?_;refine Za ?_;refine yi _ R5 (vy k (rR S J Z0) _ hu D) ?_;rintro _⟨L,rfl,g,a0,i,y⟩;refine Zn ?_;refine te (j:=L) R8 ω (zB n) Z<|zM ?_;refine zF _ R5 (kN (k+1) (h:=P) (n:=n+1) (B:=3*n+2) (o:=0) (L:=L) (Z4:=u) Z p1 gN Z i Z) ?_;rintro v R _ W⟨rfl,Z3,c,f⟩;rw[zV λb d=>by rw[Z3 b d];show 3*n<=_;omega];have a2:O c=24:=by rw[f.len,DI]
 have A:=f.cells gN g i y;have C:decN u=decB u:=by unfold decN;rw[CP D]
 rw[<-C]at A;have s:O (decN u)=L:=by rw[C];exact aj g i y
 have q:R B=ξ (.row c0 e):=(f.oth B Z).trans ((J B F).trans p);refine Zl ?_;refine te (j:=L) R8 ω (zB n) Z<|yM R5 (tG R3 zb (wV f.row A Z Z) Z ⟨by rw[rU,s],g⟩ Z q Z (rE _)) ?_;rw[pN (by show B<3*n;exact F)];refine Ze ?_;have⟨H,I⟩:=vp (N:=decN u) K Z;refine retH [Y (ξ ⟨B,0,θ⟩) (O T+L) cap] R3 ⟨by rw[C1,s];rfl,Am,λb d=>Dc.1 d,λb d l=>(zm l).trans ((f.oth b Z).trans (J b d)),_,zg _ _ _,I,H⟩
def BufP(h:HF)(n B cap:Nat)(e:TypeId)(c0:List ψ)(u:Nat)(v:ψ)(h':HF)(n':Nat)(w:List Nat):Prop:=
 v=Y (ξ ⟨B,0,θ⟩) (O (decN u)) cap/\n<=n'/\(∀b∈w,b=B)/\(∀b,b<3*n->b≠B->h' b=h b)/\∃c,h' B=ξ (.row c e)/\O c=O c0/\c.take (O (decN u))=KE (decN u)
def gp(k:Nat){h:HF}(y:GK.G h){n:Nat}(C:20<=n){e:TypeId}(s:B<3*n)(d:h B=ξ (.row c0 e))(a:cap=O c0/\20<=cap)(f:cap<1000000)(hu:u<18446744073709551616):
  CF (Kp (k+4)) 143 [Y (ξ ⟨B,0,θ⟩) 0 cap,U .u64 (u:Int),U .i64 10] h n λv q D w=>BufP h n B cap e c0 u v q D w:=by refine zw (fn:=aw2) R4<|Za ?_;refine Zl ?_;refine zM ?_;refine zF _ R5 (sV (T:=[]) k y C ω s d ⟨a.1,by simpa using a.2,f⟩ hu) ?_;rintro v F H I⟨rfl,g,i,j,c,l,o,p⟩;refine Ze ?_;refine retH [Y (ξ ⟨B,0,θ⟩) (O (decN u)) cap] R3 ⟨ω,g,λb A=>?_,j,c,l,o,p⟩;obtain h|⟨h,_⟩:=yN.1 A;exact CO h C6;exact i b h
end
def padD:Nat->Nat->List Nat
 |0,_=>[]
 |k+1,c=>padD k (c/10)++[c%10]
def zi4:∀(k c Q:Nat),c<10^k->Q≠0->decD (c+10^k*Q)=decD Q++padD k c:=by
 intro k;induction k with
 |zero=>
  intro c Q a b;have:c=0:=by rw[EV]at a;omega
  subst this;rw[EV,Et,Dl,padD,DJ]
 |succ k ih=>
  intro c Q a b;rw[Dj]at a;have d:(c+10^(k+1)*Q)/10=c/10+10^k*Q:=(by rw[Dj,F5,C5 _ 10];omega);have e:(c+10^(k+1)*Q)%10=c%10:=(by rw[Dj,F5,C5 _ 10];omega);have f:0<10^(k+1)*Q:=Fv (DQ zd) Z;rw[wy Z,d,e,ih (c/10) Q Z b,padD,DH]
def zms:∀(k c:Nat),c<10^k->padD k c=C3 (k-O (decD c)) 0++decD c:=by
 intro k;induction k with
 |zero=>
  intro c a;have:c=0:=by rw[EV]at a;omega
  subst this;rw[padD,xo];rfl
 |succ k ih=>
  intro c a;rw[Dj]at a;rw[padD,ih (c/10) Z];by_cases h0:c=0;subst h0;rw[xo];show C3 (k-0) 0++[]++[0]=C3 (k+1-0) 0++[];rw[DJ,DJ,GC,GC,<-FQ];have b:=wy h0;rw[b,C1,DH];congr 2;show k-O (decD (c/10))=k+1-(O (decD (c/10))+1);omega
def dk{c Q B:Nat}(l:10^19=B)(a:c<B)(d:Q≠0):decN (c+B*Q)=decN Q++(C3 (19-O (decN c)) 48++decN c):=by
 subst l;have b:0<10^19*Q:=Fv (DQ zd) Z;generalize hk:(19:Nat)=kk at a b⊢;have m:=zi4 kk c Q a d;have j:=zms kk c a;have e:decN (c+10^kk*Q)=decB (c+10^kk*Q):=(by unfold decN;rw[CP Z]);have i:decN Q=decB Q:=by unfold decN;rw[CP d]
 rw[e,i];unfold decB;rw[m,j,EK,EK,List.map_replicate];congr 1;by_cases h0:c=0;subst h0;have f:decN 0=[48]:=rfl;rw[f,xo];show C3 (kk-0) (48+0)++[]=C3 (kk-1) 48++[48];rw[<-FQ,DJ,<-hk];have g:decN c=decB c:=by unfold decN;rw[CP h0]
 rw[g];unfold decB;rw[Da]
def zbu{c Q:Nat}(b:c<10000000000000000000)(a:Q≠0):decN (c+10000000000000000000*Q)=decN Q++(C3 (19-O (decN c)) 48++decN c):=dk zd b a
def zbt{c:Nat}(a:c<10000000000000000000):O (decN c)<=19:=by unfold decN;split;decide;unfold decB;rw[Da];exact ws 19 c (Dm a zd)
section
variable {c len lo n':Nat}{sT:TypeId}{T:List Nat}{h' h0:HF}{x:Operand}
theorem Gro.inv{h:HF}{n:Nat}{c:List ψ}(g:Gro h lo n e 1 v len c)(hl:len≠0):∃b,v=Y (ξ ⟨b,0,θ⟩) len len/\3*lo<=b/\b<3*n/\h b=ξ (.row c e)/\gro b=φ:=by cases g<;>grind
def CB:Nat:=10000000000000000000
def zf8{d:Nat}(a:Kq L)(hl:O L<=30)(s:wv L=d+CB^O C*V)(h0:V≠0):O C<=30:=by
 apply Df;intro u;have f:CB^31<=CB^O C:=Dd zd Z;have g:=FR (CB^O C) (Nat.pos_of_ne_zero h0);have l:=wW a;have p:18446744073709551616^O L<=18446744073709551616^30:=Dd zd hl;have q:18446744073709551616^30<=CB^31:=by decide+kernel
 omega
structure TxI (n0:Nat)(v0:ψ)(hL:HF)(nL B:Nat)(eB:TypeId)(h:HF)(n:Nat)(w:List Nat)(a:Option Addr)(T:List Nat):Prop where
 hn:nL<=n
 g:GroT h n (Y a (O T) (O T)) T
 or:Y a (O T) (O T)=v0\/xC nL (Y a (O T) (O T))
 hw:∀b∈w,Nj v0 b
 fr:∀b,b<3*nL->b≠B->¬Nj v0 b->h b=hL b
 buf:∃c,h B=ξ (.row c eB)/\O c=20
def TxI.ext{l:HF}{f:Nat}{h:HF}{n:Nat}{w:List Nat}{a:Option Addr}(t:TxI n0 v0 l f B eB h n w a T)(x:Ko n h h')(y:n<=n')(F:B<3*f):TxI n0 v0 l f B eB h' n' w a T:=by have D:=t.hn;have⟨c,q,s⟩:=t.buf;exact⟨Z,t.g.ext x y,t.or,t.hw,λb u p A=>(x b Z).trans (t.fr b u p A),c,(x B Z).trans q,s⟩
def TxI.bufs{q:HF}{p:Nat}{h:HF}{n:Nat}{w:List Nat}{a:Option Addr}{c:List Nat}(t:TxI n0 v0 q p B eB h n w a T)(F:n<=n')(J:B<3*p)(u:gro B=χ)(y:∀b,b<3*n->b≠B->h' b=h b)(G:h' B=ξ (.row cs eB))(D:O cs=20):TxI n0 v0 q p B eB h' n' w a T:=by
 have I:=t.hn;refine⟨Z,?_,t.or,t.hw,λb l f H=>(y b Z f).trans (t.fr b l f H),cs,G,D⟩;have A:GroT h' n (Y a (O T) (O T)) T:=t.g.same λb _ l s=>y b l λe=>by rw[e,u]at s;cases s
 exact A.ext (Ko.refl n h') F
section
variable {h:HF}{n:Nat}{d:Tmp}
def SH{s:Operand}{H:HF}{u:Nat}{m:Nat}{a:Option Addr}{new:List Nat}(G:qu X ops t o d (o.op=.call {callee:=.builtin .append,args:=#[s,x],argTypes:=#[sT,xT]}/\(match X.E.und xT with|some (.int _)=>χ|none=>χ|_=>φ)=φ/\X.E.und sT=ξ (.slice e)/\e=5/\X.E.inf e=ξ (1,bytes,z)/\O (zn z)=1))(Z1:1<=bytes)(hs:Kn t s=Y a (O T) (O T))(hx:argS h 1 (Kn t x) m (KE new))(hm:1<=m)(hl:O new=m)(hb:(O T+m)*bytes<=1099511627776)(p:TxI X.n0 v0 H u B eB h n w a T)(hB:B<3*u)(I:gro B=χ)(h0:X.n0<=u)
  (k:∀A h' w',TxI X.n0 v0 H u B eB h' (n+1) w' A (T++new)->h' B=h B->EO X ops r ⟨upd t d (Y A (O (T++new)) (O (T++new))),h',n+1,w'⟩ Q):EO X ops (o::r) ⟨t,h,n,w⟩ Q:=by
 have⟨G,hd,hn,Z0,N,hu,Z3,hi,hz⟩:=G;have⟨v',h',W,P,F,f,R,Z4⟩:=nH hu Z3 hi hz Z1 p.g hx hm hl hb;obtain⟨A,rfl⟩:=F.shape;have J:=p.hn;have M:∀b,b<3*u->¬Nj v0 b->∀o l c,Y a (O T) (O T)≠Y (ξ ⟨b,o,θ⟩) l c:=λb hb hv o l c q=>(by obtain y|y:=p.or;exact hv ⟨o,l,c,y▸q⟩;rw[q]at y;have y:3*u<=b:=y;omega);have D:h' B=h B:=f B Z λo l c q=>by have:=(p.g.blk q).1;rw[I]at this;cases this
 refine yM ⟨G,hd,hn,Z0,N⟩ (by rw[hs];exact P) (k A h' _ ⟨Z,F,.inr (Z4.mono J),λb hb=>?_,λb hb K hv=>(f b Z (M b hb hv)).trans (p.fr b hb K hv),?_⟩ D);obtain h|⟨h,F⟩:=yN.1 hb;exact p.hw b h;have⟨o,l,c,q⟩:=R b h;obtain f|f:=p.or;exact⟨o,l,c,f▸q⟩;rw[q]at f;have f:3*u<=b:=f;omega;have⟨c,q1,q2⟩:=p.buf;exact⟨c,D.trans q1,q2⟩
end
def TxI.as{f:HF}{q:Nat}{h:HF}{n:Nat}{w:List Nat}{a:Option Addr}(t:TxI n0 v0 f q B eB h n w a T)(x:Ko n0 h0 f)(s:n0<=q)(y:3*n0<=B):AS h0 n0 v0 h n w (Y a (O T) (O T)) T:=by refine⟨by have:=t.hn;omega,λb u p=>(t.fr b Z Z λ⟨o,l,c,e⟩=>p o l c e).trans (x b u),t.hw,t.g,?_⟩;obtain h|h:=t.or;exact .inl h;exact .inr (h.mono s)
def G_fr{h:HF}(p:GK.G h)(a:∀b,b<60->gro b=χ->h' b=h b):GK.G h':=by have⟨f,g,l⟩:=p;exact⟨(a _ Z ω).trans f,(a _ Z ω).trans g,(a _ Z ω).trans l⟩
def zcn{h:HF}{s:Nat}(f:h b=ξ (.row (u64s S) e))(hj:S[j]?=ξ s):At h b (0+j*1) [U .u64 (s:Int)]:=by have a:=(C4.1 hj).1;refine⟨_,_,f,ω,by show 0+j*1+1<=_;rw[zL];omega,?_⟩;show((u64s S).drop (0+j*1)).take 1=_;rw[Dl,D1,rf,EX a,(C4.1 hj).2];rfl
def lH(C:List Nat)(m:Nat):List Nat:=if m=O C then[]else decN (dv CB (C.drop m))
def znr{m:Nat}(h:C[m]?=ξ c):dv CB (C.drop m)=c+CB*dv CB (C.drop (m+1)):=by have a:=(C4.1 h).1;rw[EX a,(C4.1 h).2];rfl
def znp{a:List Nat}{cl:Nat}(f:C=a++[cl])(h0:cl≠0){m:Nat}(hm:m<O C):dv CB (C.drop m)≠0:=by rw[f,List.drop_append_of_le_length (by rw[f,C1]at hm;simp at hm;omega),vm];show _+CB^_*(cl+CB*0)≠0;have:0<CB^O (a.drop m)*(cl+CB*0):=Fv (DQ zd) Z;omega
def zai{f:List Nat}{cl m:Nat}(g:C=f++[cl])(h0:cl≠0)(a:C[m]?=ξ c)(hb:c<CB):lH C m=lH C (m+1)++(C3 ((if m+1=O C then(decN c).length else 19)-O (decN c)) 48++decN c):=by have l:=(C4.1 a).1;unfold lH;rw[CP Z,znr a];by_cases he:m+1=O C;rw[CQ he,CQ he,he,EI,Ec];show decN (c+CB*0)=_;rw[EJ,Nat.add_zero];rfl;rw[CP he,CP he];exact zbu hb (znp g h0 Z)
section
variable {h:HF}{n:Nat}{ld:List (Nat×Nat)}{d:Tmp}
theorem zix(a:qu X ops t o d (o.op=.slice ty x θ (ξ hi) θ/\X.E.und ty=ξ (.array len e)/\X.E.inf e=ξ (sz,bt,z)/\Kn t x=ι b/\Kn t hi=U ik' ji/\ji=(j:Int)))(hb:gro b=χ)(hl:j<=len/\0<len)
  (k:ED X ops r ms (i+1) ⟨⟨upd t d (Y (ξ ⟨b,0,θ⟩) j len),h,n,w⟩,al,ld,ef⟩ Q):ED X ops (o::r) (m::ms) i ⟨⟨t,h,n,w⟩,al,ld,ef⟩ Q:=by
 obtain⟨a,u,y,p,A,g,D,f,l⟩:=a;subst l;refine yQ a u y Ba ?_ k;rw[p];show xc X.E ty (Kn t x) θ (ξ (Kn t hi))=_;rw[D,f];have q:(0:Int)<=(j:Int)/\(j:Int)<=(len:Int):=Z;have s:D5 len 0=χ:=by
  cases he:D5 len 0 with
  |false=>rfl
  |true=>have:=DU he;omega
 simp only[xc,A,g,KV,CQ q,Ew,hb,IU,ab6,offA,s,wO,Ep,GC]
end
theorem zag{q:List Nat}{r:Nat}(a:wv L=dv CB C+CB^O C*wv W)(f:wv W=CB*wv q+r):wv L=dv CB (C++[r])+CB^(O C+1)*wv q:=by grind [vm,dv,CB]
def gt(k:Nat){h:HF}(hG:GK.G h){n:Nat}(hn:20<=n){a:Option Addr}(g:GroT h n (Y a (O T) (O T)) T)(hT:O T<100000000)(hs:Sl h n 1 (Y ax lx cx) (u64s L))(nL:NW L)(hl:O L<=30)(h0:L≠[]):
  CF (Kp (k+5)) 169 [Y a (O T) (O T),Y ax lx cx,U .i64 0] h n λv h' n' w=>AS h n (Y a (O T) (O T)) h' n' w v (T++decN (wv L)):=by
 refine zw (fn:=Tryz.f169) R4 ?_;have b4:=hs.lenW;subst b4;have af:O L≠0:=λe=>h0 (De.1 e);refine Za ?_;refine Za ?_;refine zF _ R5 (ub (k+3) hs Z) ?_;rintro vw h1 P _⟨rfl,c6,bp,bl,ak⟩;obtain⟨A,rfl,c2,bc,bk,c3⟩:=(ak h0).inv af;refine Zn ?_;refine zN ?_;refine ye (α:=List Nat×List Nat×List Nat×Option Addr) (λz=>[(0,Y a (O T) (O T)),(2,U .i64 0),(7,Y (ξ ⟨A,0,θ⟩) (O z.1) (O L)),(8,Y z.2.2.2 (O z.2.2.1) (O z.2.2.1))])
  (λz h' n' w=>w=[]/\P<=n'/\Ko n h h'/\h' A=ξ (.row (u64s (z.1++z.2.1)) 164)/\O z.1+O z.2.1=O L/\NW z.1/\Gro h' P n' 164 1 (Y z.2.2.2 (O z.2.2.1) (O z.2.2.1)) (O z.2.2.1) (u64s z.2.2.1)/\(∀c∈z.2.2.1,c<CB)/\wv L=dv CB z.2.2.1+CB^O z.2.2.1*wv z.1/\(wv z.1=0->∃C' c,z.2.2.1=C'++[c]/\c≠0)/\O z.2.2.1<=31) (λz=>32-O z.2.2.1)
  (L,[],[],θ) P4 ⟨ω,CS,bp,by rw[DJ];exact bk,ω,nL,.nil,λc hc=>CO hc C6,by show wv L=0+CB^0*wv L;rw[EV];omega,λe=>CO (nL.zero.1 e) h0,by show 0<=31;omega⟩ (by show 32-0<LL;unfold LL;omega) ?_
 rintro⟨W,R,C,a8⟩ t h2 p _ ⟨rfl,c7,av,ac,an,nW,a2,hC,hV,K,a3⟩;dsimp only at ac an nW a2 hC hV K a3;refine zN ?_;by_cases hW0:W=[];subst hW0;have b9:wv L=dv CB C:=by rw[hV];show _+_*0=_;omega
 have⟨C',cl,ag,b0⟩:=K rfl;have b5:O C≠0:=by rw[ag,C1];simp
 refine Zb ?_;refine wt (C3 20 (U .u8 0)) R6 λH pL xL=>?_;refine Za ?_;refine mM ?_;obtain⟨eB,pL⟩:∃e,H (3*p+2)=ξ (.row (C3 20 (U .u8 0)) e):=⟨_,pL⟩;have ad:Ko n h H:=av.trans xL Z;have gC:Gro H P (p+1) 164 1 (Y a8 (O C) (O C)) (O C) (u64s C):=a2.ext xL Zq;have⟨b8,Z0,bx,aw,ay,a4⟩:=gC.inv b5;injection Z0 with Z0;subst Z0;have gT:GroT H (p+1) (Y a (O T) (O T)) T:=g.ext ad Z;have br:TxI n (Y a (O T) (O T)) H (p+1) (3*p+2) eB H (p+1) [] a T:=⟨CS,gT,.inl ω,λb I=>CO I C6,λ_ _ _ _=>rfl,C3 20 (U .u8 0),pL,DI⟩;have ar:∀b,Nj (Y a (O T) (O T)) b->gro b=φ/\b<3*n:=λb⟨o,l,c,e⟩=>g.blk e;refine ye (α:=Nat×Option Addr×List Nat) (λz=>[(0,Y z.2.1 (O z.2.2) (O z.2.2)),(2,U .i64 0),(8,Y (ξ ⟨b8,0,θ⟩) (O C) (O C)),(11,ι (3*p+2)),(12,CV (decide (z.1=O C))),(13,U .i64 ((z.1:Int)-1))])
   (λz h' n' w=>TxI n (Y a (O T) (O T)) H (p+1) (3*p+2) eB h' n' w z.2.1 z.2.2/\z.1<=O C/\z.2.2=T++lH C z.1/\O z.2.2<=O T+19*(O C-z.1)) (λz=>z.1)
   (O C,a,T) ⟨ω,ω,ω,ω,by show CV φ=CV (decide (O C=O C));rw[CN rfl],ω,CR⟩ ⟨br,CS,by show T=T++lH C (O C);unfold lH;rw[CQ ω,DJ],Nat.le_add_right _ _⟩ (by show O C<LL;unfold LL;omega) ?_
 rintro⟨m,a1,u⟩ t F n3 w3 ⟨Z4,hm,a0,ah⟩;dsimp only at Z4 hm a0 ah;have c8:=Z4.hn;refine zN ?_;cases m with
 |zero=>
  have hf:decide (0=O C)=χ:=CM Z;rw[hf];refine Zr ?_;refine zN ?_;rw[za rfl];refine Zl ?_;refine zN ?_;have:=Z4.as ad Z Z;rw[show T++decN (wv L)=u by rw[a0,b9];unfold lH;rw[CP Z,DO]];exact retH [Y a1 _ _] R3 this
 |succ m=>
  obtain⟨c,hc⟩:∃c,C[m]?=ξ c:=⟨C[m]'Z,CW Z⟩;have a6:c<CB:=hC c (C0 hc);have az:c<18446744073709551616:=H8 a6 zd;have bv:=zbt a6;have b6:1<=O (decN c):=by
   have:=di c;cases hh:decN c with
   |nil=>exact CO hh this
   |cons _ _=>simp
  have bj:F b8=ξ (.row (u64s C) 164):=(Z4.fr b8 aw (λe=>by rw[e,zB]at a4;cases a4) (λhv=>by have:=(ar _ hv).2;omega)).trans ay;have bb:=zcn bj hc;have b7:GK.G F:=G_fr (rR hG ad hn) λb I hg=>Z4.fr b Z Z λhv=>by have:=(ar _ hv).1;rw[hg]at this;cases this
  have⟨cb,be,a9⟩:=Z4.buf;refine Zh ?_;refine zl [0,0,0,6,14,31,63] rfl<|zix (j:=0) R9 (zB p) Z<|zE ?_;refine zE ?_;refine SA ω ω ω ω ω ω (aq:=ξ ⟨b8,0,θ⟩) ω (j:=m) bJ ω Z ?_;refine yd (v:=U .u64 (c:Int)) R6 (bb.ld1 0 ω ω) R2<|wa _ R7 (gp k b7 Z Z be ⟨a9.symm,Z⟩ Z az) ?_;rintro v4 h4 n4 W4⟨rfl,ao,ba,bh,c4,ap,bg,bf⟩;refine⟨RT ω,ao,?_⟩;rw[zV λb I=>by rw[ba b I];show 3*n<=_;omega];refine zE ?_;refine zN ?_;have bs:=Z4.bufs (c:=[]) ao Z (zB _) bh ap (by rw[bg,a9]);obtain⟨S,hS⟩:∃S,S=if m+1=O C then(decN c).length else 19:=⟨_,ω⟩;have c0:O (decN c)<=S/\S<=19:=by rw[hS];split<;>omega
  refine Zn ?_;refine zN ?_;refine MG [(0,Y a1 (O u) (O u)),(2,U .i64 0),(8,Y (ξ ⟨b8,0,θ⟩) (O C) (O C)),(11,ι (3*p+2)),(12,CV (decide (m+1=O C))),(13,U .i64 (((m+1:Nat):Int)-1)),(14,Y (ξ ⟨3*p+2,0,θ⟩) (O (decN c)) 20),(15,U .i64 (S:Int))] (λh' n' w'=>h4=h'/\n4=n'/\w3=w') ?_ ?_;by_cases hf:m+1=O C;rw[ze (by show CV (decide (m+1=O C))=_;rw[CN hf])];refine Zl ?_;refine mZ ?_;refine st_mul (a:=19) (b:=((m+1:Nat):Int)-1) ω ω ω ω ω ω Z ?_;refine Ma (a:=0) (b:=19*(((m+1:Nat):Int)-1)) R6 Z<|st_I (ik:=.i64) (a:=(S:Int)) ⟨ω,ω,ω,ω,?_⟩ ?_;show ξ (U .i64 (if((O (decN c):Nat):Int)<0-19*(((m+1:Nat):Int)-1)then 0-19*(((m+1:Nat):Int)-1)else((O (decN c):Nat):Int)))=_;rw[CP Z,hS,CQ hf];refine Ze ?_;exact LH P8 R3;rw[za (by show CV (decide (m+1=O C))=_;rw[CM hf])];refine zN ?_;exact LH ⟨ω,ω,ω,ω,ω,ω,ω,by show U .i64 19=U .i64 (S:Int);rw[hS,CP hf];rfl,CR⟩ R3;rintro t _ _ _⟨rfl,rfl,rfl⟩;refine Zl ?_;refine zM ?_;refine Ma (a:=(S:Int)) (b:=((O (decN c):Nat):Int)) R6 Z ?_;obtain⟨N,hN⟩:∃N,N=S-O (decN c):=⟨_,ω⟩;rw[show(S:Int)-((O (decN c):Nat):Int)=(N:Int)by omega];refine Ze ?_;refine ye (α:=Nat×Option Addr×List Nat) (λz=>[(0,Y z.2.1 (O z.2.2) (O z.2.2)),(2,U .i64 0),(8,Y (ξ ⟨b8,0,θ⟩) (O C) (O C)),(11,ι (3*p+2)),(12,CV (decide (m+1=O C))),(13,U .i64 (((m+1:Nat):Int)-1)),(14,Y (ξ ⟨3*p+2,0,θ⟩) (O (decN c)) 20),(70,U .i64 (N:Int)),(71,U .i64 (z.1:Int))])
    (λz h' n' w=>TxI n (Y a (O T) (O T)) H (p+1) (3*p+2) eB h' n' w z.2.1 z.2.2/\h' (3*p+2)=h4 (3*p+2)/\z.1<=N/\z.2.2=u++C3 z.1 48) (λz=>N-z.1)
    (0,a1,u) P9 ⟨bs,ω,CT,by show u=u++[];rw[DJ]⟩ (by show N-0<LL;unfold LL;omega) ?_
  rintro⟨s,a5,M⟩ t h5 n5 w5 ⟨Z3,ai,aa,Z1⟩;dsimp only at Z3 aa Z1;have c5:O M=O u+s:=by rw[Z1,C1,DI]
  have c9:=Z3.hn;refine zN ?_;by_cases hlt:s<N;refine Zx ?_;refine wE [U .u8 48] (l:=1) (c:=1) R5 λh6 p6 x6=>?_;refine SH (m:=1) (new:=[48]) R9 zb ω (yp p6 R2) CS ω Z (Z3.ext x6 Zq Z) Z (zB _) (by show n<=p+1;omega) ?_;intro a7 h7 w7 ae aj;refine Ze ?_;refine zR ?_;refine Ze ?_;exact goOn (s+1,a7,M++[48]) (by show N-(s+1)<N-s;omega) P9 ⟨ae,aj.trans ((x6 _ Z).trans ai),by show s+1<=N;omega,by show M++[48]=u++C3 (s+1) 48;rw[Z1,DH,<-FQ]⟩;have bd:s=N:=Z;refine Zy ?_;refine SH (m:=O (decN c)) (new:=decN c) R9 zb ω (wV (ai.trans ap) (by rw[DO];exact bf) Z Z) b6 ω Z Z3 Z (zB _) (by show n<=p+1;omega) ?_;intro a7 h7 w7 ae aj;refine Zn ?_;refine Za ?_;refine Ma (a:=((m+1:Nat):Int)-1) (b:=1) R6 Z<|Ze ?_;refine goOn (m,a7,M++decN c) (by show m<m+1;omega) ⟨ω,ω,ω,ω,by show CV χ=CV (decide (m=O C));rw[CM Z],bJ,CR⟩ ⟨ae,by show m<=O C;omega,?_,?_⟩;show M++decN c=T++lH C m;rw[zai ag b0 hc a6,Z1,a0,bd,hN,hS];simp only[DH];show(M++decN c).length<=O T+19*(O C-m);rw[C1];omega
 have c1:O W≠0:=λe=>hW0 (De.1 e);have b3:wv W≠0:=λe=>hW0 (nW.zero.1 e);have bu:=zf8 nL.1 hl hV b3;refine Zx ?_;refine mM ?_;refine ye (α:=Nat×List Nat×Nat) (λx=>[(0,Y a (O T) (O T)),(2,U .i64 0),(7,Y (ξ ⟨A,0,θ⟩) (O W) (O L)),(8,Y a8 (O C) (O C)),(9,U .u64 (x.2.2:Int)),(10,U .i64 ((x.1:Int)-1))])
  (λx h' n' w=>w=[]/\p=n'/\Only A h2 h'/\h' A=ξ (.row (u64s (W.take x.1++(x.2.1++R))) 164)/\x.1+O x.2.1=O W/\Kq x.2.1/\x.2.2<CB/\wv (W.drop x.1)=CB*wv x.2.1+x.2.2) (λx=>x.1)
  (O W,[],0) P6 ⟨ω,ω,λ_ _=>rfl,by rw[Ds,DR];exact ac,ω,Kq.nil,by show 0<CB;decide,by rw[EI];rfl⟩ (by show O W<LL;unfold LL;omega) ?_
 rintro⟨j,q,r⟩ t F _ _ ⟨rfl,rfl,ab,D,am,hq,hr,J⟩;dsimp only at D am hq hr J;have bq:Ko n h F:=av.st ab Z;refine zN ?_;cases j with
 |succ j=>
  obtain⟨x,hx⟩:∃x,W[j]?=ξ x:=⟨W[j]'Z,CW Z⟩;have au:=nW.1.get hx;have bm:Sl F p 1 (Y (ξ ⟨A,0,θ⟩) (O W) (O L)) (u64s (W.take (j+1)++q)):=.at_ Z D ω Z Ay (by
   rw[DO,D1,re,<-DH,Fc dO,C7 dO])
  have b2:(W.take (j+1)++q)[j]?=ξ x:=by rw[D7 dO,Ek Z,hx]
  refine Zk ?_;refine yE (f:=λd:Nat=>U .u64 (d:Int)) (j:=j) R7 bm ⟨ω,Z⟩ b2 (λ_=>rfl) R4 λ_=>?_;refine yi _ R5 (pH (k+1) F p (y:=CB) hr au zd) ?_;rintro _ rfl;repeat refine zR ?_
  refine uH (j:=j) (v:=U .u64 (((r*18446744073709551616+x)/CB:Nat):Int)) R8 Z ⟨Z,Ay⟩ D (by show 3*n<=A;omega) (λ_=>rfl) R3 (λ_=>rfl) ω λ_=>?_;rw[yk,List.set_append_left _ _ dO,ab4,hx,Option.toList_some,List.set_append_right _ _ gQ,DK,Ee Z,Ec,HW,DH,List.singleton_append];refine Zg ?_;have⟨g1,g2⟩:=pQ (V:=wv (W.drop (j+1))) (Vq:=wv q) (r:=r) (a:=x) (d:=CB) zd J;refine goOn (j,(r*18446744073709551616+x)/CB::q,(r*18446744073709551616+x)%CB) AE ⟨ω,ω,ω,ω,ω,bJ,CR⟩ ⟨ω,ω,λb I=>(zm I).trans (ab b I),(zg _ _ _).trans (by rw[Gn]),by show j+O (_::q)=_;simp;omega,?_,DS _ zd,?_⟩;intro y hy;obtain rfl|hy:=DA.1 hy;exact RM hr au;exact hq y hy;show wv (W.drop j)=CB*wv (_::q)+_;rw[gI hx,<-g2];have:=Nat.div_add_mod (x+18446744073709551616*wv (W.drop (j+1))) CB;rw[g1]at this;exact this.symm
 |zero=>
  rw[E1,DR]at D;rw[DO]at J;have ca:O q=O W:=Z;refine Zr ?_;have bn:Sl F p 1 (Y (ξ ⟨A,0,θ⟩) (O W) (O L)) (u64s q):=.at_ Z D ω Z Ay (by
   rw[DO,D1,re,Fc Z,C7 Z])
  refine zF _ R5 (xi (k+3) (l:=q) Z (λ_ e=>by injection e with e;rw[<-e]) bn) ?_;rintro _ F p _⟨rfl,rfl,rfl,rfl,bz⟩;refine Ze ?_;refine mZ ?_;refine wE [U .u64 (r:Int)] (l:=1) (c:=1) R5 λh4 p4 x4=>?_;have b1:Gro h4 P (p+1) 164 1 (Y a8 (O C) (O C)) (O C) (u64s C):=(a2.same λb I _ _=>ab b Z).ext x4 Zq;refine cm (lo:=P) (m:=1) R8 ⟨Dt ω,Dt ω⟩ b1 (yp p4 R2) CS Z ω ω ⟨Bq,Z⟩ λv5 h5 g5 x5 k5=>?_;obtain⟨a5,rfl,_⟩:=g5.shape;have bi:h5 A=_:=(x5 A bc).trans ((x4 A Z).trans D);refine Ze ?_;have bo:=zag (C:=C) (r:=r) hV J;refine goOn (yf q,q.drop (O (yf q))++R,C++[r],a5) (by show 32-O (C++[r])<32-O C;rw[C1];show 32-(O C+1)<_;omega) ⟨ω,ω,ω,by show Y a5 _ _=Y a5 _ _;rw[C1];rfl,CR⟩ ⟨ω,by show P<=p+1+1;omega,?_,?_,?_,NW.trim hq,?_,?_,?_,?_,?_⟩;exact λb I=>(x5 b Z).trans ((x4 b Z).trans (bq b I));.refine bi.trans ?_;show ξ (BF.row (u64s (q++R)) _)=ξ (BF.row (u64s (yf q++(q.drop (O (yf q))++R))) _);rw[<-DH];conv=>rhs;rw[<-rV q,DK,Ee (xU q),List.take_append_drop]
  show(yf q).length+(q.drop (O (yf q))++R).length=O L;have:=xU q;exact eP;show Gro h5 P (p+1+1) _ 1 (Y a5 (O (C++[r])) (O (C++[r]))) (O (C++[r])) (u64s (C++[r]));rw[vg,C1];exact g5;intro c hc;obtain h|h:=Ei.1 hc;exact hC c h;rw[Dc.1 h];exact hr;show wv L=dv CB (C++[r])+CB^O (C++[r])*wv (yf q);rw[show wv (yf q)=wv q from Oh _ _,C1];exact bo;intro e;dsimp only at e;rw[show wv (yf q)=wv q from Oh _ _]at e;rw[e,EJ,Dl]at J;exact⟨C,r,ω,Z⟩;show(C++[r]).length<=31;rw[C1];show (O C)+1<=31;omega
end
section
variable {h h':HF}{c n n':Nat}{T:List Nat}
def dE(k:Nat)(p:GK.G h)(s:20<=n){a:Option Addr}(g:GroT h n (Y a (O T) (O T)) T)(q:O T<100000000){j:Option Addr}{o:Nat}(e:Sl h n 1 (Y ax lx cx) (u64s L))(u:NW L)(hl:O L<=30)(h0:L≠[]):
  CF (Kp (k+6)) 144 [Y a (O T) (O T),Y ax lx cx,U .i64 0,Y j 1 o] h n λv h' n' w=>AS h n (Y a (O T) (O T)) h' n' w v (T++decN (wv L)):=by refine zw (fn:=Tryz.f144) R4 ?_;have d:=e.lenW;subst d;refine Za ?_;refine mM ?_;refine Zh ?_;refine Zo ?_;refine zF _ R5 (gt k p s g q e u hl h0) λv y A B b=>?_;obtain⟨f,rfl⟩:=b.g.shape;have i:=(AS.refl g).trans b;refine Ze ?_;exact retH [Y f _ _] R3 i
def nI(k:Nat)(C:GK.G h)(D:20<=n){a:Option Addr}(g:GroT h n (Y a (O T) (O T)) T)(J:O T<100000000)(s:Sl h n 1 (Y ax lx cx) (u64s L))(F:NW L)(hl:O L<=30):
  CF (Kp (k+7)) 116 [Y a (O T) (O T),Y ax lx cx] h n λv h' n' w=>AS h n (Y a (O T) (O T)) h' n' w v (T++decN (wv L)):=by refine zw (fn:=Tryz.f116) R4 ?_;have A:=s.lenW;subst A;refine Za ?_;refine zN ?_;by_cases h0:L=[];subst h0;refine Zx ?_;refine wE [U .u8 48] (l:=1) (c:=1) R5 λp H y=>?_;refine oi (m:=1) (new:=[48]) R9 zb ω (yp H R2) CS ω Z ((AS.refl g).ext y Zq) λR h' S b _=>?_;obtain⟨o,rfl⟩:=b.g.shape;refine Ze ?_;exact retH [Y o _ _] R3 b;have I:O L≠0:=λe=>h0 (De.1 e);refine Zb ?_;by_cases p:O L=1;obtain⟨w,rfl⟩:=List.length_eq_one_iff.1 p;have u:w<18446744073709551616:=F.1 w cA;refine Zp ?_;refine yE (f:=λd:Nat=>U .u64 (d:Int)) (j:=0) (dv:=w) R7 s R2 ω (λ_=>rfl) R4 λ_=>?_;refine zF _ R5 (zum (k+2) C D u g Z) λv p N Z4 b=>?_;obtain⟨o,rfl⟩:=b.g.shape;have q:=(AS.refl g).trans b;refine Ze ?_;rw[pP];exact retH [Y o _ _] R3 q;refine Zb ?_;refine wE [U .u64 10000000000000000000] (l:=1) (c:=1) R5 λp H y=>?_;refine wE [Y (ξ ⟨3*n+2,0,θ⟩) 1 1] (l:=1) (c:=1) R5 λB P K=>?_;refine Ze ?_;have i:Ko n h B:=y.trans K Z;refine ye (α:=Nat) (λ_=>[(0,Y a (O T) (O T)),(1,Y ax (O L) cx),(5,Y (ξ ⟨3*(n+1)+2,0,θ⟩) 1 1)]) (λ_ h' n' w=>B=h'/\n+1+1=n'/\w=[]) (λz=>z) 0 P3 R3 (by show 0<LL;unfold LL;omega) ?_;rintro _ t _ _ _⟨rfl,rfl,rfl⟩;refine mM ?_;rw[za rfl];refine Zl ?_;refine zM ?_;refine zF _ R5 (dE k (rR C i D) (n:=n+1+1) Z (g.ext i Z) J (s.ext i Z) F hl h0) λv M Z1 V b=>?_;obtain⟨o,rfl⟩:=b.g.shape;have q:=((AS.refl g).ext i Z).trans b;refine Ze ?_;exact retH [Y o _ _] R3 q
def intN(x:Int):List Nat:=(if x<0 then[45]else[])++decN x.natAbs
theorem SI(x:Int):(intN x).map EA=intT x:=by grind [intN,intT,np]
def IW.few{b:Bool}{a:Option Addr}{x:Int}(i:IW h n b a l c x)(hx:x.natAbs<2^m)(hm:m<=1920):∃L,Sl h n 1 (Y a l c) (u64s L)/\NW L/\O L<=30/\wv L=x.natAbs:=by have⟨_,L,f,d,e⟩:=i;refine⟨L,f,d,d.len_le (k:=30) ?_,e⟩;rw[e];refine Dm hx (Dy (Dd zd hm) ?_);decide+kernel
def zlv{o:Nat}(hm:m≠0)(hl:O L=m)(h:((KE T).drop o).take m=u64s L):False:=by
 obtain⟨d,a,rfl⟩:∃d a,L=d::a:=by
  cases L with
  |nil=>exact CO hl.symm hm
  |cons d a=>exact⟨d,a,ω⟩
 have b:U .u64 (d:Int)∈((KE T).drop o).take m:=by rw[h];exact CD
 have f:=List.mem_of_mem_drop (D8 b);have⟨q,_,e⟩:=D2.1 f;cases e
def Sl.kept{u:ψ}(s:Sl h n 1 v (u64s L))(k:Keep u n h h')(g:GroT h n u T)(d:n<=n'):Sl h' n' 1 v (u64s L):=by
 generalize hL:u64s L=cl at s;cases s with
 |nil ha=>exact .nil (uw ha d)
 | @at_ b off len cap x cs c2 hb hx hc hcap hl he=>
  by_cases h0:len=0;subst h0;have:cl=[]:=by rw[<-he];simp
  subst this;exact .nil (.inr ⟨_,_,_,ω,Z⟩);refine .at_ Z ((k b hb λo l c e=>?_).trans hx) hc hcap hl he;unfold GroT at g;generalize (O T)=tl at g;generalize hT:KE T=tc at g;cases g with
  |nil=>cases e
  |at_ hg hlo hb2 hr hl2 ho=>
   cases e;rw[hr]at hx;cases hx;injection hc with hc;subst hc;have a:O L=len*1:=(by have:=congrArg O he;rw[<-hL,zL,DK,DN]at this;omega);rw[<-hT,<-hL]at he;exact zlv Z a he
def nF(k:Nat)(H:GK.G h)(K:20<=n){a:Option Addr}(g:GroT h n (Y a (O T) (O T)) T)(hT:O T<10000000){b:Bool}{x:Int}(i:IW h n b ax lx cx x)(hx:x.natAbs<2^m)(hm:m<=1920):
  CF (Kp (k+8)) 76 [.agg #[CV b,Y ax lx cx],Y a (O T) (O T)] h n λv h' n' w=>AS h n (Y a (O T) (O T)) h' n' w v (T++intN x):=by refine zw (fn:=Tryz.f76) R4<|zN ?_;refine tK [CV b,Y ax lx cx] R5 λZ0 y e=>?_;have V:=i.ext e Zq;have⟨L,M,Z1,J,o⟩:=V.few hx hm;have q:=(AS.refl g).ext e Zq;refine Zn ?_;refine z7 (v:=CV b) R5 (zX ω y R2)<|zN ?_;cases b;have p:=i.ge;rw[za rfl];refine Zl ?_;refine z7 (v:=Y ax lx cx) R5 (zX ω y R2)<|zF _ R5 (nI k (rR H e K) (n:=n+1) Z q.g Z M Z1 J) λv j n3 Z3 d=>?_;obtain⟨A,rfl⟩:=d.g.shape;have B:=q.trans d;rw[o]at B;refine Ze ?_;rw[show intN x=decN x.natAbs by unfold intN;rw[CP Z];rfl];exact retH [Y A _ _] R3 (by rw[o];exact B);have p:=i.lt;rw[ze rfl];refine Za ?_;refine wE [U .u8 45] (l:=1) (c:=1) R5 λF W f=>?_;have P:F (3*n+2)=_:=(f _ Z).trans y;refine oi (m:=1) (new:=[45]) R9 zb ω (yp W R2) CS ω Z (q.ext f Zq) λv' j Z3 d u=>?_;obtain⟨A,rfl⟩:=d.g.shape;have s:GroT F (n+1+1) (Y a (O T) (O T)) T:=(g.ext e Zq).ext f Zq;have R:j (3*n+2)=_:=(s.keepB u (zB n) Z).trans P;have I:GK.G j:=G_fr (rR H (e.trans f Zq) K) λb hb Z4=>s.keepB u Z4 Z;have N:Sl j (n+1+1+1) 1 (Y ax lx cx) (u64s L):=(M.ext f Zq).kept u s Zq;refine Ze ?_;refine mZ ?_;refine z7 (v:=Y ax lx cx) R5 (zX ω R R2)<|zF _ R5 (nI k I (n:=n+1+1+1) Z d.g (by rw[C1];simp;omega) N Z1 J) ?_;intro v h4 n4 w4 C;obtain⟨S,rfl⟩:=C.g.shape;have D:=d.trans C;rw[o]at D;refine Ze ?_;rw[show T++intN x=T++[45]++decN x.natAbs by unfold intN;rw[CQ p,DH]];exact retH [Y S _ _] R3 (by rw[o];exact D)
end
section
variable {h h0:HF}{c n:Nat}{T:List Nat}
def GroT.text{a:Option Addr}(g:GroT h n (Y a (O T) (O T)) T):argS h 1 (Y a (O T) (O T)) (O T) (KE T):=uX (Gro.sl g)
def GroT.nil(h:HF)(n:Nat):GroT h n (Y θ (O ([]:List Nat)) (O ([]:List Nat))) []:=Gro.nil
def zi5:∀(m V:Nat),V<2^m->O (decD V)<=m:=by
 intro m;induction m with
 |zero=>(intro V h;have:V=0:=by simpa using h);subst this;simp[decD]
 |succ m ih=>
  intro V h;by_cases h0:V=0;subst h0;simp[decD];rw[decD];simp only[h0,if_false,↓reduceDIte,↓reduceIte,DM,C1,Db,FV];have:=ih (V/10) (by rw[Dj]at h;omega);omega
def zif{x:Int}(h:x.natAbs<2^m):O (intN x)<=m+2:=by have a:O (decN x.natAbs)<=m+1:=(by unfold decN;split;simp;have:=zi5 m _ h;simp only[decB,Da,List.length_reverse];omega);unfold intN;rw[C1];split<;>simp<;>omega
def AS.w_nil(a:AS h0 n0 (Y θ l c) h n w v T):w=[]:=by
 cases w with
 |nil=>rfl
 |cons b w=>
  have⟨o,l,c,e⟩:=a.hw b EM;cases e
def zcw(k:Nat)(j:GK.G h)(o:20<=n){b:Bool}{x:Int}(i:IW h n b ax lx cx x)(hx:x.natAbs<2^m)(hm:m<=1920):
  VF (Kp (k+9)) 75 [.agg #[CV b,Y ax lx cx]] h n λv=>v=CY ⟨⟨intT x⟩⟩:=by refine zO (fn:=Tryz.f75) R4<|zN ?_;refine tK [CV b,Y ax lx cx] R5 λf s e=>?_;have p:=i.ext e Zq;refine Ze ?_;refine z7 (v:=.agg #[CV b,Y ax lx cx]) R5 (yw R2 s ω zb ω)<|zF _ R5 (nF k (rR j e o) (n:=n+1) Z (GroT.nil f (n+1)) (by show 0<10000000;omega) p hx hm) ?_;intro v y A C a;obtain⟨u,rfl⟩:=a.g.shape;have d:=a.w_nil;subst d;refine pY R5 (rg (B:=[]++intN x) R3 a.g.text)<|Ze ?_;refine retF _ ω (zi ω) R2 ?_;show CY _=_;rw[DR,SI]
def js{w:Nat}(a:w<=9223372036854775808)(h0:0<w):DE .i64 ((18446744073709551616-w:Nat):Int)= -(w:Int):=by simp only[DE,IntKind.signed,EP];simp;omega
def zig(k:Nat){b:Bool}{x:Int}(i:IW h n b ax lx cx x):
  VF (Kp (k+1)) 73 [.agg #[CV b,Y ax lx cx]] h n λv=>∃y ok,v=.tuple #[U .i64 y,CV ok]/\(ok=φ->y=x/\ -9223372036854775808<=x/\x<9223372036854775808):=by
 refine zO (fn:=Tryz.f73) R4 ?_;have⟨A,L,C,H,F⟩:=i;have B:=C.lenW;subst B;refine zN ?_;refine tK [CV b,Y ax (O L) cx] R5 λs o I=>?_;have D:=C.ext I Zq;refine mZ ?_;refine Za ?_;refine z7 (v:=Y ax (O L) cx) R5 (zX ω o R2) ?_;by_cases h0:L=[];subst h0;have p:x=0:=(by have:x.natAbs=0:=F.symm.trans rfl;omega);refine Zi ?_;exact retF [U .i64 0,CV φ] ω (yX ω (yX ω qP)) R2 ⟨_,_,ω,λ_=>⟨p.symm,Z,Z⟩⟩;have J:O L≠0:=λe=>h0 (De.1 e);obtain⟨w,g,rfl⟩:∃w g,L=w::g:=by
  cases L with
  |nil=>exact CO ω h0
  |cons w g=>exact⟨w,g,ω⟩
 have u:w<18446744073709551616:=H.1 w cA;refine Zr ?_;refine z7 (v:=Y ax (O (w::g)) cx) R5 (zX ω o R2) ?_;refine yE (f:=λd:Nat=>U .u64 (d:Int)) (j:=0) (dv:=w) R7 D R2 ω (λ_=>rfl) R4 λ_=>?_;refine Zn ?_;refine z7 (v:=Y ax (O (w::g)) cx) R5 (zX ω o R2) ?_;by_cases s:g=[];subst s;rw[pP]at F;have G:w≠0:=H.last (l:=[]);refine zM ?_;refine M5 R6 (by show ¬(((1:Nat):Int)>1);omega) ?_;refine Ze ?_;rw[za rfl];refine Za ?_;refine z7 (v:=CV b) R5 (zX ω o R2) ?_;cases b;have p:0<=x:=J9.1 (of_decide_eq_false A.symm);refine Zr ?_;refine z7 (v:=CV χ) R5 (zX ω o R2) ?_;by_cases hlt:w<=9223372036854775807;refine Zo ?_;refine oa R6 Z<|mZ ?_;refine zN ?_;rw[ze rfl];refine Za ?_;refine vj (a:=(w:Int)) R7 Z<|mZ ?_;refine zN ?_;exact retF [U .i64 (w:Int),CV φ] ω (yX ω (yX ω qP)) R2 ⟨_,_,ω,λ_=>⟨Z,Z,Z⟩⟩;refine Zo ?_;refine mD R6 Z<|mZ ?_;refine zN ?_;rw[za rfl];refine Zl ?_;exact BM;have p:x<0:=of_decide_eq_true A.symm;by_cases hlt:w<=9223372036854775808;refine mZ ?_;refine oa R6 Z<|mZ ?_;refine zN ?_;rw[ze rfl];refine Za ?_;refine zS (v:=U .u64 ((18446744073709551616-w:Nat):Int)) R4 (Rm u G)<|wm (ik:=.i64) (a:= -(w:Int)) R6 (by show ξ (U .i64 (DE .i64 _))=_;rw[js hlt Z]) ?_;refine mZ ?_;refine zN ?_;exact retF [U .i64 (-(w:Int)),CV φ] ω (yX ω (yX ω qP)) R2 ⟨_,_,ω,λ_=>⟨Z,Z,Z⟩⟩;refine mZ ?_;refine mD R6 Z<|mZ ?_;refine zN ?_;rw[za rfl];refine Za ?_;refine z7 (v:=CV φ) R5 (zX ω o R2)<|Zy ?_;exact BM;have K:2<=O (w::g):=by
  cases g with
  |nil=>exact CO ω s
  |cons _ _=>simp
 refine zM ?_;refine MI R6 Z<|Ze ?_;rw[ze rfl];refine Zl ?_;exact BM
theorem tj(h:denZ q=0):ratT q=intT q.num:=by grind [ratT,intT,yr]
theorem jS(h:¬denZ q=0):ratT q=(intN q.num++[47]++intN (denZ q)).map EA:=by grind [SI,wq,ratT,intT,yr,only]
def vx(k:Nat)(hG:GK.G h)(hn:20<=n){b d:Bool}{a e:Option Addr}{f g:Nat}(i:IW h n b a l c q.num)(j:IW h n d e f g (denZ q))(J:Sz m q)(hm:m<=1920):
  VF (Kp (k+10)) 34 [.agg #[CV b,Y a l c,CV d,Y e f g]] h n λv=>v=CY ⟨⟨ratT q⟩⟩:=by
 refine zO (fn:=Tryz.f34) R4<|zN ?_;refine tK [CV b,Y a l c,CV d,Y e f g] R5 λZ1 D K=>?_;have R:=i.ext K Zq;have j1:=j.ext K Zq;have u:=rR hG K hn;refine Zn ?_;refine z7 (v:=.agg #[CV d,Y e f g]) R5 (yw R2 D ω zb ω)<|yi _ R5 (bj (k+8) j1) ?_;rintro _⟨z,rfl,s⟩;refine zN ?_;cases z;have s:¬denZ q=0:=λe=>by cases s.2 e
 rw[za rfl];refine Za ?_;refine z7 (v:=.agg #[CV b,Y a l c]) R5 (yw R2 D ω zb ω)<|zF _ R5 (nF (k+1) u (n:=n+1) Z (GroT.nil Z1 (n+1)) (by show 0<10000000;omega) R J.1 hm) ?_;intro v h2 C w2 A;obtain⟨a',rfl⟩:=A.g.shape;have a0:=A.w_nil;subst a0;have Z4:Ko (n+1) Z1 h2:=λb p=>A.keep b p λo l c e=>by cases e
 have ac:=A.hn;refine wE [U .u8 47] (l:=1) (c:=1) R5 λI p3 L=>?_;have H:GroT I (C+1) _ _:=A.g.ext L Zq;have ab:O (intN q.num)<=1922:=Dy (zif J.1) Z;have hA:AS h (Lg (k+9) n 0).n0 (η) I (C+1) [] _ ([]++intN q.num):=⟨by show n<=C+1;omega,λb p _=>(L b (by have p:b<3*n:=p;omega)).trans ((Z4 b (by have p:b<3*n:=p;omega)).trans (K b p)),λb p=>CO p C6,H,by obtain h|h:=A.or;exact .inl h;exact .inr (h.mono (Du n))⟩;refine oi (m:=1) (new:=[47]) R9 zb ω (yp p3 R2) CS ω AQ hA λv' P w4 F S=>?_;obtain⟨a5,rfl⟩:=F.g.shape;have a1:=F.w_nil;subst a1;have p4:P (3*n+2)=_:=(H.keepB S (zB n) Z).trans ((L _ Z).trans ((Z4 _ Z).trans D));have M:Ko (n+1) Z1 I:=Z4.trans L Z;have V:GK.G I:=rR u M Z;have W:GK.G P:=G_fr V λb p hg=>H.keepB S hg Z;have⟨ej,Lj,Z3,aa,Z0⟩:=j1.ext M (show n+1<=C+1 from Z);have j4:IW P (C+1+1) d e f g (denZ q):=⟨ej,Lj,Z3.kept S H Zq,aa,Z0⟩;refine Zn ?_;refine z7 (v:=.agg #[CV d,Y e f g]) R5 (yw R2 p4 ω zb ω)<|zM ?_;refine zF _ R5 (nF (k+1) W (n:=C+1+1) Z F.g Bv j4 (by rw[wq s,Dk];exact J.2) hm) ?_;intro v h5 n5 w5 N;obtain⟨a7,rfl⟩:=N.g.shape;have a3:addW (Lg (k+9) n 0).n0 w5 []=[]:=(F.trans N).w_nil;refine pY R5 (rg (B:=[]++intN q.num++[47]++intN (denZ q)) R3 N.g.text)<|Ze ?_;refine retF _ ω (zi ω) ⟨ω,a3⟩ ?_;show CY _=_;rw[DR,jS s];have s:denZ q=0:=s.1 rfl;rw[ze rfl];refine Za ?_;refine z7 (v:=.agg #[CV b,Y a l c]) R5 (yw R2 D ω zb ω)<|yi _ R5 (zig (k+8) R) ?_;rintro _⟨y,ok,rfl,hy⟩;refine mZ ?_;refine mZ ?_;refine Zn ?_;refine zN ?_;cases ok;rw[za rfl];refine Za ?_;refine z7 (v:=.agg #[CV b,Y a l c]) R5 (yw R2 D ω zb ω)<|yi _ R5 (zcw k u (n:=n+1) Z R J.1 hm) ?_;exact Ct;obtain⟨rfl,a8,a9⟩:=hy rfl;rw[ze rfl];refine Za ?_;refine yi _ R5 (oT (k+4) u (n:=n+1) Z ⟨a8,a9⟩) ?_;exact Ct
end
section
variable {c off:Nat}{x:Operand}
section
variable {h:HF}{n:Nat}{d:Tmp}
def sZ{P:List ψ->D->HF->Nat->Prop}{a:Operand}{zs:List D}{q:D}(c:List ψ)(u:OR sz P h n b zs)(p:KP sz P)(hj:j<zs.length)(f:off=j*sz)(g:P c q h n)(k:∀h',OR sz P h' n b (zs.set j q)->KS b h h'->EO X ops r ⟨t,h',n,addW n0 [b] w⟩ Q)(I:zh ops t o=φ:=by rfl)(hd:o.dst=θ:=by rfl)(ho:o.op=.store ty a x:=by rfl)(hi:X.E.inf ty=ξ (sz,bt,z):=by rfl)(ha:Kn t a=.pointer (ξ ⟨b,off,θ⟩):=by rfl)(hx:zn (Kn t x)=c:=by rfl)(hX:X.n0=n0:=by rfl):EO X ops (o::r) ⟨t,h,n,w⟩ Q:=by have v:=u;have⟨M,C,e,A,N,J⟩:=u;have H:=J.len;have⟨B,L,F⟩:=p.c g;have K:j*sz+sz<=zs.length*sz:=(by have:=Nat.mul_le_mul_right sz (show j+1<=zs.length from hj);rw[Nat.add_mul,Nat.one_mul]at this;exact this);subst f;rw[rS I (by rw[hd];rfl) (by rw[ho];rfl) (by rw[ho];exact xn hi ha (by rw[hx];exact B) (by rw[hx];exact F) A Z),hd,hx,hX];have s:=v.set (h':=upd h b (ξ (.row (zu C (j*sz) c) e))) p A hj g (zg _ _ _) (λc G=>zm G);exact k _ s.1 s.2
def sZn{P:List ψ->D->HF->Nat->Prop}{a:Operand}{zs:List D}{q:D}(c:List ψ)(A:OR sz P h n b zs)(u:KP sz P)(hj:j<zs.length)(g:off=j*sz)(s:P c q h n)(f:3*n0<=b)(k:∀e,OR sz P e n b (zs.set j q)->KS b h e->EO X ops r ⟨t,e,n,w⟩ Q)(p:zh ops t o=φ:=by rfl)(hd:o.dst=θ:=by rfl)(ho:o.op=.store ty a x:=by rfl)(hi:X.E.inf ty=ξ (sz,bt,z):=by rfl)(ha:Kn t a=.pointer (ξ ⟨b,off,θ⟩):=by rfl)(hx:zn (Kn t x)=c:=by rfl)(hX:X.n0=n0:=by rfl):EO X ops (o::r) ⟨t,h,n,w⟩ Q:=
 sZ c A u hj g s (λe v B=>by rw[kX f];exact k e v B) p hd ho hi ha hx hX
end
section
variable {h:HF}{n:Nat}{d:Tmp}
def sQ{a b:List UInt8}(v:Bool)(hv:(a==b)=v)(k:EO X ops r ⟨upd t d (.bool v),h,n,w⟩ Q)(e:zh ops t o=φ:=by rfl)(hd:o.dst=ξ d:=by rfl)(hn:zv X.nt (ξ d)=φ:=by rfl)(ho:o.op=.binOp .eql ty x y ty':=by rfl)(hx:Kn t x=.string ⟨⟨a⟩⟩:=by rfl)(hy:Kn t y=.string ⟨⟨b⟩⟩:=by rfl):EO X ops (o::r) ⟨t,h,n,w⟩ Q:=
 zS (v:=.bool v) ⟨e,hd,hn,(by rw[ho];rfl)⟩ (by rw[ho];show binE X.E .eql ty (Kn t x) (Kn t y)=_;rw[hx,hy];show ξ (Value.bool (a==b))=_;rw[hv]) k
end
section
variable {h:HF}{n:Nat}{ld:List (Nat×Nat)}{d:Tmp}
end
def strP(c:List ψ)(s:List UInt8)(_:HF)(_:Nat):Prop:=c=[CY ⟨⟨s⟩⟩]
def strP.kp:KP 1 strP:=⟨λe _=>e,λe=>by cases e;exact R3⟩
def Rec.strsE{C:List ψ}{h:HF}{n:Nat}(r:Rec 1 (λc s=>strP c s h n) C ss):C=strs ss:=by
 induction r with
 |nil=>rfl
 |cons h1 h2 h3 ih=>rw[ih,h2];rfl
abbrev OT(h:HF)(n b:Nat)(ss:List (List UInt8)):Prop:=OR 1 strP h n b ss
def SJ(k:Nat){h:HF}{n:Nat}(g:GG h n){b d:Bool}{a e:Option Addr}{f p:Nat}(i:IW h n b a l c q.num)(j:IW h n d e f p (denZ q)){m:Nat}(s:Sz m q)(hm:m<=1920):CX (Kp (k+10)) 34 [.agg #[CV b,Y a l c,CV d,Y e f p]] h n λv _ _=>v=CY ⟨⟨ratT q⟩⟩:=(vx k g.1 g.2 i j s hm).cx
end
section
variable {p:LPD}{n:Nat}{h:HF}{ds:List SideD}
theorem SK{lo hi:List UInt8}(h:∀i,i<j->∀lo hi,p.lower[i]?=ξ lo->p.upper[i]?=ξ hi->pairOk lo hi)(b:p.lower[j]?=ξ lo)(c:p.upper[j]?=ξ hi)(d:pairOk lo hi):∀i,i<j+1->∀lo hi,p.lower[i]?=ξ lo->p.upper[i]?=ξ hi->pairOk lo hi:=by grind
def ot{l:List α}{P:α->Prop}{r:α}(h:∀r∈l.take i,P r)(d:l[i]?=ξ r)(e:P r):∀r∈l.take (i+1),P r:=by intro f c;rw[xa d]at c;obtain b|b:=Ei.1 c;exact h f b;rw[Dc.1 b];exact e
def GSL.lo{lo:Nat}(g:GSL lo h n v ds)(hl:lo'<=lo):GSL lo' h n v ds:=by
 have⟨C,b,e,f⟩:=g.ex;refine⟨C,?_,e.mono λc d s=>s.lo hl,f⟩;generalize (O ds)=m at b⊢;cases b with
 |nil=>exact .nil
 |at_ hg hlo hb hr hl2 ho=>exact .at_ hg Z hb hr hl2 ho
def zpl(k:Nat)(g:GG h n){lo:Nat}(io:Sl h n 1 (Y ao lo co) (strs p.obj))(ir:KW h n (Y ar lr cr) p.rows)(iw:Sl h n 1 (Y aw lw cw) (strs p.lower))(iu:Sl h n 1 (Y au lu cu) (strs p.upper))(hp:LPB a p)(ha:a+a<=2000):CX (Kp (k+12)) 22 [.agg #[Y ao lo co,Y ar lr cr,Y aw lw cw,Y au lu cu]] h n λv Z1 S=>∃aO lO kO aR lR kR aC lC kC ok,v=.tuple #[.agg #[Y aO lO kO,Y aR lR kR,Y aC lC kC],CV ok]/\(ok=φ↔VLP p)/\(ok=φ->KZ n Z1 S (Y aO lO kO) (p.obj.map zj)/\GSL n Z1 S (Y aR lR kR) (zk p)/\GSL n Z1 S (Y aC lC kC) (zC p)):=by
 have gb:=z8 io;have gc:=ir.len;have ge:=z8 iw;have gd:=z8 iu;have⟨d6,c1,c2,T,d5,fq,fr,fs⟩:=hp;refine zw (fn:=Tryz.f22) R4<|zG ?_;refine sB [Y ao lo co,Y ar lr cr,Y aw lw cw,Y au lu cu] λeq gw j8=>?_;refine sA λer gx j9=>?_;refine zG ?_;by_cases q13:(lo:Int)<1;refine zG ?_;refine sT #[η,η,η] ?_;refine sS [η,η,η] λes gy gg=>?_;exact BA;refine zG ?_;by_cases q15:(lo:Int)>64;refine zG ?_;refine sT #[η,η,η] ?_;refine sS [η,η,η] λet gz gh=>?_;exact BA;refine zG ?_;by_cases q17:(lw:Int)=(lo:Int);refine zG ?_;by_cases q18:(lu:Int)=(lo:Int);refine zG ?_;by_cases q19:(lr:Int)>64;refine zG ?_;refine sT #[η,η,η] ?_;refine sS [η,η,η] λeu i0 gi=>?_;exact BA;refine zG ?_;refine sC (rC _ (g.x zx) (io.x zx) (λs hs=>(d6 s hs).1) d5) ?_;rintro _ ev o⟨D,P,H,ef,rfl,ca,dw⟩ jn ja;obtain⟨rfl,bl⟩|⟨rfl,bl⟩:=Ky ca;refine zG ?_;refine sT #[η,η,η] ?_;refine sS [η,η,η] λew i1 gk=>?_;refine zq ?_;exact⟨_,_,_,_,_,_,_,_,_,_,ω,⟨λe=>ns,λhv=>CO hv.ob bl⟩,λe=>ns⟩;have Z4:=dw rfl;have eb:=Z4.1.len;rw[Da]at eb;refine zG ?_;refine sT #[Y D P H,η,η] ?_;refine sA λey i2 jb=>?_;refine sS [Y D P H,η,η] λd3 dq gl=>?_;refine zG ?_;refine sF (α:=Nat×Option Addr×Nat×Nat) (λz=>[(1,ι (3*n+2)),(2,ι (3*(n+1)+2)),(4,U .i64 (lo:Int)),(7,ι (3*o+2)),(58,U .i64 (lo:Int)),(59,U .i64 (z.1:Int))]) (λz Z1 S w'=>w'=[]/\o+1<=S/\ExtB (o+1) [3*o+2] d3 Z1/\Z1 (3*o+2)=ξ (.row [Y D P H,η,Y z.2.1 z.2.2.1 z.2.2.2] 60)/\GSL (o+1) Z1 S (Y z.2.1 z.2.2.1 z.2.2.2) ((zC p).take z.1)/\z.1<=O p.obj/\∀i,i<z.1->∀lo hi,p.lower[i]?=ξ lo->p.upper[i]?=ξ hi->pairOk lo hi) (λz=>O p.obj-z.1) (0,θ,0,0) ⟨ω,CS,F7 _ _ _,dq,GSL.nil _ _ _,CT,(λi hi=>CO hi (Nat.not_lt_zero _))⟩ ?_;rintro⟨j,aC,lC,kC⟩ t a9 w _ ⟨rfl,jo,em,a4,u,hj,b4⟩;dsimp only at a4 u hj b4;refine zG ?_;by_cases q26:(j:Int)<(lo:Int);refine zG ?_;refine zl [0,1,0,7,15,0,32,0,224,480,1023,2047,4095,4095,0,24575,65535] rfl<|zH ?_;obtain⟨cy,a7⟩:∃d,(p.lower)[j]?=ξ d:=⟨_,CW Z⟩;have⟨g7,gm,d0,di,e1,e6⟩:=vM iw a7;refine dI d0 e1 ?_;refine dL e6 di 0 ?_;refine zH ?_;obtain⟨cz,a8⟩:∃d,(p.upper)[j]?=ξ d:=⟨_,CW Z⟩;have⟨g8,gn,d1,dj,e2,e7⟩:=vM iu a8;refine dI d1 e2 ?_;refine dL e7 dj 0 ?_;refine dC (jP _ (g.x zx) (c1 _ (C0 a7)).1 (c2 _ (C0 a8)).1 (c1 _ (C0 a7)).2 (c2 _ (C0 a8)).2 Z) ?_;rintro _ ez ap⟨ac,ay,ax,b5,az,b0,b1,b2,b3,L,W,V,a3,Z3,Z0,a0,a1,a2,eg,rfl,cb,dx⟩ jp jc;obtain⟨rfl,bm⟩|⟨rfl,bm⟩:=Ky cb;refine zH ?_;refine dB [η,CV χ,CV χ,η,CV χ,η,CV χ,CV χ,η,CV χ,η] λf0 i3 jd=>?_;refine dS [η,CV ac,CV ay,Y ax b5 az,CV b0,Y b1 b2 b3,CV L,CV W,Y V a3 Z3,CV Z0,Y a0 a1 a2] λf1 i4 go=>?_;refine zJ ?_;refine sT #[η,η,η] ?_;refine sS [η,η,η] λf2 i5 c5=>?_;have ft:=(Z4.x zx).sto c5 Z;have fu:=(u.x zx).sto c5 Z;refine zq ?_;exact⟨_,_,_,_,_,_,_,_,_,_,ω,⟨λe=>ns,λhv=>CO (hv.bd _ _ _ a7 a8) bm⟩,λe=>ns⟩;have⟨e9,d7,df,bw,bs,bu⟩:=dx rfl;refine zH ?_;refine dB [η,CV χ,CV χ,η,CV χ,η,CV χ,CV χ,η,CV χ,η] λf3 i6 je=>?_;refine dS [η,CV ac,CV ay,Y ax b5 az,CV b0,Y b1 b2 b3,CV L,CV W,Y V a3 Z3,CV Z0,Y a0 a1 a2] λf4 i7 gp=>?_;refine zJ ?_;refine wE [η,CV ac,CV ay,Y ax b5 az,CV b0,Y b1 b2 b3,CV L,CV W,Y V a3 Z3,CV Z0,Y a0 a1 a2] (l:=1) (c:=1) R5 λbg dr jf=>?_;have e4:uK (o+1) [η,CV ac,CV ay,Y ax b5 az,CV b0,Y b1 b2 b3,CV L,CV W,Y V a3 Z3,CV Z0,Y a0 a1 a2] (⟨[],cy,cz⟩) bg (ap+1+1):=⟨_,_,_,_,_,_,_,_,_,_,_,_,_,_,_,_,_,_,_,_,_,ω,KZ.nil _ _ _,e9,(d7.t zt),(df.t zt),bw,(bs.t zt),(bu.t zt)⟩;have⟨ek,C,cp,ci⟩:=((u.x (h':=bg) (n':=ap+1+1) zx)).ex;have cl:bg (3*(ap+1)+2)=_:=dr;refine cm (lo:=(o+1)) (m:=1) R8 ⟨Dt ω,Dt ω⟩ C (yp cl R2) CS gQ ω ω ⟨Bq,Z⟩ λj6 ak be c8 ab=>?_;have cs:=GSL.app C cp ci e4 ab be;have⟨bz,cf,_⟩:=be.shape;subst cf;replace c8:Exa (o+1) _ _:=⟨c8⟩;have i8:ak (3*n+2)=_:=(ab.blk C (zB _) Z).trans zp;have i9:ak (3*(n+1)+2)=_:=(ab.blk C (zB _) Z).trans zp;have ia:ak (3*o+2)=_:=(ab.blk C (zB _) Z).trans zp;have ib:ak (3*ap+2)=_:=(ab.blk C (zB _) Z).trans zp;have ic:ak (3*(ap+1)+2)=_:=(ab.blk C (zB _) Z).trans zp;refine zG ?_;refine sS (b:=3*o+2) (off:=2) [Y D P H,η,Y bz (O ((zC p).take j)+1) (O ((zC p).take j)+1)] λf5 dt dm=>?_;have d8:=cs.sto dm Z;refine zG ?_;exact sK (j+1,bz,(O ((zC p).take j)+1),(O ((zC p).take j)+1)) ⟨ω,Z,zy,dt,((xa (gj a7 a8)).symm▸d8),(by show j+1<=O p.obj;omega),(SK b4 a7 a8 bm)⟩;refine zG ?_;have fp:j=O p.obj:=Z;have bq:GSL (o+1) a9 w (Y aC lC kC) (zC p):=by have e:=u;rw[C7 (by unfold zC;rw[List.length_zipWith];omega)]at e;exact e
 refine zG ?_;have ck:a9 (3*o+2)=_:=a4;refine sF (α:=Nat×Option Addr×Nat×Nat) (λz=>[(2,ι (3*(n+1)+2)),(4,U .i64 (lo:Int)),(7,ι (3*o+2)),(87,Y ar lr cr),(88,U .i64 (lr:Int)),(89,U .i64 (z.1:Int))]) (λz Z1 S w'=>w'=[]/\w<=S/\ExtB w [3*o+2] a9 Z1/\Z1 (3*o+2)=ξ (.row [Y D P H,Y z.2.1 z.2.2.1 z.2.2.2,Y aC lC kC] 60)/\GSL w Z1 S (Y z.2.1 z.2.2.1 z.2.2.2) ((zk p).take z.1)/\z.1<=O p.rows/\∀r∈p.rows.take z.1,pairOk r.lo r.hi/\(∀s∈r.A,vF s)/\O r.A=O p.obj) (λz=>O p.rows-z.1) (0,θ,0,0) ⟨ω,CS,F7 _ _ _,a4,GSL.nil _ _ _,CT,(λr hr=>CO hr cA)⟩ ?_;rintro⟨i,aR,lR,kR⟩ t al aq _ ⟨rfl,jq,en,b9,f,hi,am⟩;dsimp only at b9 f hi am;refine zG ?_;by_cases q47:(i:Int)<(lr:Int);refine zG ?_;obtain⟨bc,q⟩:∃d,(p.rows)[i]?=ξ d:=⟨_,CW Z⟩;have⟨g9,gq,cv,dh,cx,d2,dk,e3,e8,bj⟩:=KW.at ir q;have ee:=z8 bj;refine sI d2 e3 ?_;refine sL e8 dk 0 ?_;refine sA λf6 id jg=>?_;refine sS [Y cv dh cx,CY ⟨⟨bc.lo⟩⟩,CY ⟨⟨bc.hi⟩⟩] λf7 ie gr=>?_;refine zG ?_;refine sC (jP _ (g.x zx) (T _ (C0 q)).1.1 (T _ (C0 q)).2.1.1 (T _ (C0 q)).1.2 (T _ (C0 q)).2.1.2 Z) ?_;rintro _ f8 c4⟨a5,ae,ad,an,af,ag,ah,ai,aj,y,G,F,R,I,J,K,M,N,eh,rfl,cc,dy⟩ jr jh;obtain⟨rfl,b7⟩|⟨rfl,b7⟩:=Ky cc;refine Zd λf9 ig ji=>?_;refine sS [η,CV a5,CV ae,Y ad an af,CV ag,Y ah ai aj,CV y,CV G,Y F R I,CV J,Y K M N] λfa ii gs=>?_;refine zG ?_;refine sC (rC _ (g.x zx) (bj.x zx) (λs hs=>((T _ (C0 q)).2.2.2 s hs).1) (T _ (C0 q)).2.2.1) ?_;rintro _ fb gf⟨eo,ga,ep,ei,rfl,cd,dz⟩ js jj;obtain⟨rfl,dl⟩|⟨rfl,dl⟩:=Ky cd;refine zG ?_;refine sT #[η,η,η] ?_;refine sS [η,η,η] λfc ij c6=>?_;have fv:=(Z4.x zx).sto c6 Z;have fw:=(f.x zx).sto c6 Z;exact Cz;have c3:=dz rfl;have ec:=c3.1.len;rw[Da]at ec;refine zG ?_;refine sT #[η,η,η] ?_;refine sS [η,η,η] λfd ik bo=>?_;have fx:=(Z4.x zx).sto bo Z;have fy:=(f.x zx).sto bo Z;have fz:=c3.sto bo Z;exact Cz;have⟨ea,d9,dg,bx,bt,bv⟩:=dy rfl;refine Zd λfe il jk=>?_;refine sS [η,CV a5,CV ae,Y ad an af,CV ag,Y ah ai aj,CV y,CV G,Y F R I,CV J,Y K M N] λff im gt=>?_;refine zG ?_;refine sC (rC _ (g.x zx) (bj.x zx) (λs hs=>((T _ (C0 q)).2.2.2 s hs).1) (T _ (C0 q)).2.2.1) ?_;rintro _ fg b8⟨ba,b6,bb,ej,rfl,ce,e0⟩ jt jl;obtain⟨rfl,bn⟩|⟨rfl,bn⟩:=Ky ce;refine zG ?_;refine sT #[η,η,η] ?_;refine sS [η,η,η] λfh ip c7=>?_;have g0:=(Z4.x zx).sto c7 Z;have g1:=(f.x zx).sto c7 Z;refine zq ?_;exact⟨_,_,_,_,_,_,_,_,_,_,ω,⟨λe=>ns,λhv=>CO (hv.rw _ (C0 q)).2.1 bn⟩,λe=>ns⟩;have bk:=e0 rfl;have ed:=bk.1.len;rw[Da]at ed;refine zG ?_;by_cases q68:(b6:Int)=(lo:Int);refine zG ?_;refine sS [Y ba b6 bb,CV a5,CV ae,Y ad an af,CV ag,Y ah ai aj,CV y,CV G,Y F R I,CV J,Y K M N] λfi iq dn=>?_;have da:=bk.sto dn Z;refine zG ?_;refine wE [Y ba b6 bb,CV a5,CV ae,Y ad an af,CV ag,Y ah ai aj,CV y,CV G,Y F R I,CV J,Y K M N] (l:=1) (c:=1) R5 λbh du jm=>?_;have e5:uK (w) [Y ba b6 bb,CV a5,CV ae,Y ad an af,CV ag,Y ah ai aj,CV y,CV G,Y F R I,CV J,Y K M N] (rowS bc) bh (b8+1):=⟨_,_,_,_,_,_,_,_,_,_,_,_,_,_,_,_,_,_,_,_,_,ω,((da.x zx)).lo (show w<=c4+1 from Z),ea,(d9.t zt),(dg.t zt),bx,(bt.t zt),(bv.t zt)⟩;have⟨el,B,cq,cj⟩:=((f.x (h':=bh) (n':=b8+1) zx)).ex;have cn:bh (3*b8+2)=_:=du;refine cm (lo:=(w)) (m:=1) R8 ⟨Dt ω,Dt ω⟩ B (yp cn R2) CS gQ ω ω ⟨Bq,Z⟩ λj7 aa bf c9 a6=>?_;have ct:=GSL.app B cq cj e5 a6 bf;have⟨c0,cg,_⟩:=bf.shape;subst cg;replace c9:Exa w _ _:=⟨c9⟩;have it:aa (3*n+2)=_:=(a6.blk B (zB _) Z).trans zp;have iv:aa (3*(n+1)+2)=_:=(a6.blk B (zB _) Z).trans zp;have ix:aa (3*o+2)=_:=(a6.blk B (zB _) Z).trans zp;have iy:aa (3*aq+2)=_:=(a6.blk B (zB _) Z).trans zp;have iz:aa (3*c4+2)=_:=(a6.blk B (zB _) Z).trans zp;have j0:aa (3*b8+2)=_:=(a6.blk B (zB _) Z).trans zp;refine zG ?_;refine sS (b:=3*o+2) (off:=1) [Y D P H,Y c0 (O ((zk p).take i)+1) (O ((zk p).take i)+1),Y aC lC kC] λfj dv dp=>?_;have db:=ct.sto dp Z;refine zG ?_;exact sK (i+1,c0,(O ((zk p).take i)+1),(O ((zk p).take i)+1)) ⟨ω,Z,zy,dv,((xa (PH q)).symm▸db),Aq,(ot am q ⟨b7,bn,Z⟩)⟩;refine zG ?_;refine sT #[η,η,η] ?_;refine sS [η,η,η] λfk j1 bp=>?_;have g2:=(Z4.x zx).sto bp Z;have g3:=(f.x zx).sto bp Z;have g4:=bk.sto bp Z;refine zq ?_;exact⟨_,_,_,_,_,_,_,_,_,_,ω,⟨λe=>ns,λhv=>CO (hv.rw _ (C0 q)).2.2 Z⟩,λe=>ns⟩;refine zG ?_;have d4:i=O p.rows:=Z;have br:GSL w al aq (Y aR lR kR) (zk p):=by have e:=f;rw[C7 (by unfold zk;rw[Da];omega)]at e;exact e
 have bi:=bq.extB (n':=aq) (show ExtB w [3*o+2] a9 al from zy) Z (by intro b hb;simp only[DA,C6,or_false]at hb;subst hb;exact⟨Z,_,_,ck,ω⟩);have ch:=(Z4.x (h':=al) (n':=aq) zx);refine zG ?_;refine sS [Y D P H,Y aR lR kR,Y aC lC kC] λfl j3 av=>?_;have dc:=br.sto av Z;have dd:=bi.sto av Z;have de:=ch.sto av Z;have g5:=(Z4.x zx).sto av Z;have g6:=f.sto av Z;refine zq ?_;exact⟨_,_,_,_,_,_,_,_,_,_,ω,⟨λ_=>⟨Z,Z,Z,Z,Z,bl,λj2 lo hi h1 h2=>b4 j2 (by have:=(C4.1 h1).1;omega) lo hi h1 h2,by rw[d4,Ds]at am;exact am⟩,λ_=>rfl⟩,λ_=>⟨de.lo Z,dc.lo Z,dd.lo Z⟩⟩;refine zG ?_;refine sT #[η,η,η] ?_;refine sS [η,η,η] λfm j4 gu=>?_;exact BA;refine zG ?_;refine sT #[η,η,η] ?_;refine sS [η,η,η] λfo j5 gv=>?_;exact BA
end
section
variable {h:HF}{c n:Nat}
theorem pG{s t x y:Rat}(h:t=s+x*y)(h0:x=0\/y=0):s=t:=by grind
def SL(k:Nat)(g:GG h n)(ix:QS h n (Y ax lx cx) xs)(iy:QS h n (Y ay ly cy) ys)(Z1:∀q∈xs,Sz a q)(P:∀q∈ys,Sz b q)(hl:O xs<=O ys)(hc:∀j,j<=O xs->Sz c (dotR (xs.take j) (ys.take j)))(hb:c+a+b+1<=2496)(hn:O xs<1000000):CX (Kp (k+11)) 33 [Y ax lx cx,Y ay ly cy] h n (QV (dotR xs (ys.take (O xs)))):=by have bi:=ix.len;have bj:=iy.len;refine zw (fn:=Tryz.f33) R4<|Zd λb5 bt c1=>?_;refine Zd λa7 ae c2=>?_;refine zG ?_;refine sF (α:=Nat×Bool×Option Addr×Nat×Nat×Bool×Option Addr×Nat×Nat) (λz=>[(1,Y ay ly cy),(4,ι (3*n+2)),(5,ι (3*(n+1)+2)),(8,Y ax lx cx),(9,U .i64 (lx:Int)),(10,U .i64 (z.1:Int))]) (λz F n' w'=>w'=[]/\n+1+1<=n'/\ExtB (n+1+1) [3*(n+1)+2] a7 F/\F (3*(n+1)+2)=ξ (.row [CV z.2.1,Y z.2.2.1 z.2.2.2.1 z.2.2.2.2.1,CV z.2.2.2.2.2.1,Y z.2.2.2.2.2.2.1 z.2.2.2.2.2.2.2.1 z.2.2.2.2.2.2.2.2] 81)/\IW F n' z.2.1 z.2.2.1 z.2.2.2.1 z.2.2.2.2.1 ((dotR (xs.take z.1) (ys.take z.1)).num)/\IW F n' z.2.2.2.2.2.1 z.2.2.2.2.2.2.1 z.2.2.2.2.2.2.2.1 z.2.2.2.2.2.2.2.2 (denZ (dotR (xs.take z.1) (ys.take z.1)))/\z.1<=O xs) (λz=>O xs-z.1) (0,χ,θ,0,0,χ,θ,0,0) ⟨ω,CS,F7 _ _ _,ae,(E9 _ _).as (by rw[E1,kV];rfl),(E9 _ _).as (by rw[E1,kV];rfl),CT⟩ ?_;rintro⟨j,p,o,v,u,A,B,C,D⟩ t s Z3 _ ⟨rfl,c9,am,m,e,f,hj⟩;dsimp only at m e f hj;refine zG ?_;by_cases q14:(j:Int)<(lx:Int);refine zG ?_;obtain⟨az,i⟩:∃d,(xs)[j]?=ξ d:=⟨_,CW Z⟩;have⟨be,bo,a4,a3,ac,a5,ai,aj,ak,al,a6,ad,ag,ah,R,T⟩:=QS.at ix i;refine sI a6 ag ?_;refine sL ah ad 0 ?_;refine sA λb6 bu c3=>?_;refine zG ?_;refine sS [CV a4,Y a3 ac a5,CV ai,Y aj ak al] λb7 bv bp=>?_;refine zG ?_;refine sC (kD _ (R.x zx) (T.x zx)) ?_;rintro _ b8 bk⟨ap,rfl,a1⟩ ca c4;obtain⟨rfl,w⟩|⟨rfl,w⟩:=Ky a1;refine zG ?_;obtain⟨b0,l⟩:∃d,(ys)[j]?=ξ d:=⟨_,CW Z⟩;have⟨bf,bq,aq,an,bg,av,bx,bz,c0,c5,K,W,Z0,a0,S,Z4⟩:=QS.at iy l;refine sI K Z0 ?_;refine sL a0 W 0 ?_;refine sC (kD _ (S.x zx) (Z4.x zx)) ?_;rintro _ b9 bl⟨ar,rfl,a2⟩ cb c6;obtain⟨rfl,y⟩|⟨rfl,y⟩:=Ky a2;refine zG ?_;refine zl [0,0,0,0,12,28,62,127,255] rfl<|zH ?_;refine dI K Z0 ?_;refine dL a0 W 0 ?_;refine dC (mulQ _ (g.x zx) (R.x zx) (T.x zx) (S.x zx) (Z4.x zx) (Z1 _ (C0 i)) (P _ (C0 l)) Z) ?_;rintro _ ba bm⟨au,ao,bh,aw,b1,b2,b3,b4,rfl,a8,aa⟩ cc c7;refine dC (addQ _ (g.x zx) (e.t zt) (f.t zt) a8 aa (hc _ hj) ((Z1 _ (C0 i)).mul (P _ (C0 l))) Z) ?_;rintro _ bb bn⟨H,G,V,I,J,L,M,N,rfl,a9,ab⟩ cd c8;refine dS [CV H,Y G V I,CV J,Y L M N] λbc af br=>?_;refine zG ?_;exact sK (j+1,H,G,V,I,J,L,M,N) ⟨ω,Z,zy,af,((a9.t zt).as (congrArg at1 ((wK i l).symm))),((ab.t zt).as (congrArg denZ ((wK i l).symm))),Bj⟩;refine zG ?_;exact sK (j+1,p,o,v,u,A,B,C,D) ⟨ω,Z,zy,zp,((e.t zt).as (congrArg at1 (pG (wK i l) (.inr y)))),((f.t zt).as (congrArg denZ (pG (wK i l) (.inr y)))),Bj⟩;refine zG ?_;exact sK (j+1,p,o,v,u,A,B,C,D) ⟨ω,Z,zy,zp,((e.t zt).as (congrArg at1 (pG (wK i (CW Z)) (.inl w)))),((f.t zt).as (congrArg denZ (pG (wK i (CW Z)) (.inl w)))),Bj⟩;refine zG ?_;refine sS [CV p,Y o v u,CV A,Y B C D] λbd bw bs=>?_;refine zq ?_;exact⟨_,_,_,_,_,_,_,_,ω,(e.t zt).as Bz,(f.t zt).as Bz⟩
def dotQ(k:Nat)(g:GG h n)(i:QS h n (Y ax lx cx) xs)(l:QS h n (Y ay ly cy) ys)(d:∀q∈xs,Sz a q)(e:∀q∈ys,Sz b q)(hl:O xs<=O ys)(hb:O xs*(a+b+1)+a+b+2<=2496):CX (Kp (k+11)) 33 [Y ax lx cx,Y ay ly cy] h n (QV (dotR xs (ys.take (O xs)))):=by have m:=FR (O xs) (show 0<a+b+1 from Z);exact SL k g i l d e hl (c:=1+O xs*(a+b+1)) (λj f=>(nf d e j f Z).mono (by have:=C9 (a+b+1) f;omega)) Z Z
end
def mN{i j:Nat}(h:i<=j):10^i<=10^j:=Dd zd h
def hH(k:Nat)(h:HF)(n:Nat)(s:List UInt8)(f:AllD s)(hl:O s<=9):VF (Kp (k+1)) 95 [CY ⟨⟨s⟩⟩] h n λv=>v=U .i64 ((dval s:Nat):Int):=by
 refine zO (fn:=Tryz.f95) R4<|Zu ?_;refine zM ?_;refine st_I (ik:=.i64) (a:=(O s:Int)) R5<|oQ ?_;refine ye (α:=Nat) (λm=>[(0,CY ⟨⟨s⟩⟩),(3,U .i64 ((dval (s.take m):Nat):Int)),(6,U .i64 (O s:Int)),(7,U .i64 (m:Int))]) (λm g o w=>h=g/\n=o/\w=[]/\m<=O s) (λm=>O s-m) 0 P4 ⟨ω,ω,ω,CT⟩ (by show O s-0<LL;unfold LL;omega) ?_;rintro m t _ _ _⟨rfl,rfl,rfl,q⟩;refine zN ?_;by_cases hml:m=O s;refine Zj ?_;exact retF _ ω (zi ω) R2 (by rw[hml,Ds];rfl);obtain⟨b,d⟩:∃b,s[m]?=ξ b:=⟨s[m]'Z,CW Z⟩;have p:=f b (C0 d);have e:dval (s.take m)<10^m:=(by have:=qy (s:=s.take m) λb d=>f b (D8 d);exact BL);have l:=mN (i:=m) (j:=8) Z;rw[show(10:Nat)^8=100000000 from rfl]at l;have c:dval (s.take (m+1))=10*dval (s.take m)+(b.toNat-48):=by rw[mA d,rK]
 generalize dval (s.take m)=V at e c;refine Zi ?_;refine zM ?_;refine st_mul (a:=10) (b:=(V:Int)) ω ω ω ω ω ω Z ?_;refine mZ ?_;refine yH (j:=m) R8 d<|jA (a:=b.toNat) (b:=48) R6 Z<|wm (ik:=.i64) (a:=((b.toNat-48:Nat):Int)) R6 vT ?_;refine uI (a:=10*(V:Int)) (b:=((b.toNat-48:Nat):Int)) R6 Z<|Zg ?_;exact goOn (m+1) (by show O s-(m+1)<O s-m;omega) ⟨ω,by show U .i64 _=U .i64 _;rw[c];congr 1,ω,ω,CR⟩ ⟨ω,ω,ω,by show m+1<=_;omega⟩
def SO(k:Nat)(h:HF)(n:Nat)(a b:Nat)(hb:b<9223372036854775808):VF (Kp (k+1)) 77 [U .i64 (a:Int),U .i64 (b:Int)] h n λv=>v=U .i64 ((Dh a b:Nat):Int):=by refine zO (fn:=Tryz.f77) R4<|mM ?_;refine ye (α:=Nat×Nat) (λz=>[(0,U .i64 (z.1:Int)),(1,U .i64 (z.2:Int))]) (λz e f w=>h=e/\n=f/\w=[]/\z.2<9223372036854775808/\Dh z.1 z.2=Dh a b) (λz=>z.2) (a,b) P2 ⟨ω,ω,ω,hb,ω⟩ (by show b<LL;unfold LL;omega) ?_;rintro⟨x,y⟩ t _ _ _ ⟨rfl,rfl,rfl,d,c⟩;simp only at d c;refine zN ?_;by_cases hy0:y=0;subst hy0;refine Zj ?_;exact retF _ ω (zi ω) R2 (by rw[<-c,Nat.gcd_zero_right];rfl);refine Zh ?_;rw[wb rfl];refine Zo ?_;refine QE (a:=(x:Int)) (b:=(y:Int)) R6 Z ?_;rw[show(x:Int).tmod (y:Int)=((x%y:Nat):Int)from rfl];refine oQ ?_;exact goOn (y,x%y) (DS _ Z) P2 ⟨ω,ω,ω,H8 (DS _ Z) d,by show Dh y (x%y)=_;rw[<-c,E5 x y,Nat.gcd_rec y x,E5]⟩
def ShR(s:List UInt8)(v:ψ):Prop:=∃(x y:Int) (ok:Bool),v=.tuple #[.agg #[U .i64 x,U .i64 y],CV ok]/\(ok=φ->∃q:Rat,ratT q=s/\x=q.num/\y=(q.den:Int)/\q.num.natAbs<1000000000/\q.den<1000000000)
def PK(s:List UInt8):Prop:=O s<=20/\(KI s).1.length<=9/\(KI s).2.1.length<=9/\(KI s).2.2=φ/\((KI s).2.1=[]\/Dh (dval (KI s).1) (dval (KI s).2.1)=1)
def ShR2(s:List UInt8)(v:ψ):Prop:=∃(x y:Int) (ok:Bool),v=.tuple #[.agg #[U .i64 x,U .i64 y],CV ok]/\(ok=φ->∃q:Rat,ratT q=s/\x=q.num/\y=(q.den:Int)/\q.num.natAbs<1000000000/\q.den<1000000000)/\(PK s->ok=φ)
def SP{s:List UInt8}(h:AllD s)(hl:O s<=9):dval s<1000000000:=Dm (qy h) (Dy (mN hl) zd)
theorem kj(k:Nat)(h:HF)(n:Nat)(s:List UInt8)(T:O s<1000000):VX (Kp (k+5)) 44 [CY ⟨⟨s⟩⟩] h n (ShR2 s):=by
 refine zw (fn:=Tryz.f44) R4 ?_;refine zN ?_;refine xV R5 ?_;refine oQ ?_;generalize hh:upd h (3*n+2) _=h1;have c:∃e,h1 (3*n+2)=ξ (.row [U .i64 0,U .i64 0] e):=⟨_,gP⟩;obtain⟨y,c⟩:=c;have j:Ko n h h1:=λb i=>by rw[<-hh,zm Z]
 clear hh;refine zM ?_;refine st_I (ik:=.i64) (a:=(O s:Int)) R5 ?_;by_cases hl20:20<O s
 .refine Zh ?_;refine zS (v:=.agg #[U .i64 0,U .i64 0]) R4 rfl ?_;refine yc [U .i64 0,U .i64 0] R7 rfl c rfl aD ?_;refine oQ ?_;exact yR (CV χ) R6 (zg _ _ _) rfl Z (λb i=>(zm Z).trans (j b i)) ⟨_,_,χ,rfl,(λh=>by cases h),λh=>by have:=h.1;omega⟩
 refine Zr ?_;refine zF _ R5 (cn k h1 (n+1) s T) ?_;rintro _ J d _⟨rfl,V,G,rfl⟩;replace c:=(G (3*n+2) Z).trans c;replace j:Ko n h J:=λb i=>(G b Z).trans (j b i);have l:(KI s).2.2=φ->Frm s (KI s).1 (KI s).2.1:=λe=>rZ (by rw[<-e]);have m:PK s->(KI s).1.length<=9/\(KI s).2.1.length<=9/\(KI s).2.2=φ/\((KI s).2.1=[]\/Dh (dval (KI s).1) (dval (KI s).2.1)=1):=λh=>h.2;generalize (KI s).1=M at l m⊢;generalize (KI s).2.1=D at l m⊢;generalize (KI s).2.2=ok at l m⊢;generalize hmi:z6 s=mi;repeat refine zR ?_
 refine xV R5 ?_;refine yc [CV mi,CY ⟨⟨M⟩⟩,CY ⟨⟨D⟩⟩] R7 rfl (zg _ _ _) rfl (by show 3*n<=3*d+2;omega) ?_;rw[uk];generalize hh:upd J (3*d+2) _=h2;replace c:h2 (3*n+2)=ξ (.row [U .i64 0,U .i64 0] y):=by rw[<-hh,zm Z];exact c
 have f:∃e,h2 (3*d+2)=ξ (.row [CV mi,CY ⟨⟨M⟩⟩,CY ⟨⟨D⟩⟩] e):=⟨_,mp⟩;obtain⟨L,f⟩:=f;replace j:Ko n h h2:=λb i=>by rw[<-hh,zm Z,j b i]
 clear hh;repeat refine zR ?_
 simp only[yu,xg,zK,yY];refine yj (α:=Bool) (λz=>[(2,ι (3*n+2)),(4,ι (3*d+2)),(29,CV z)]) (λz u N w=>h2=u/\N=d+1/\w=[]/\(z=χ->ok=φ/\O M<=9/\O D<=9)/\(z=φ->¬PK s)) ?_ ?_
 .refine zN ?_;cases ok with
  |false=>
   refine oQ ?_;exact zA φ ⟨rfl,rfl,rfl,CR⟩ ⟨rfl,rfl,rfl,(λh=>by cases h),(λ_ h=>by cases (m h).2.2.1)⟩
  |true=>
  repeat refine zR ?_
  refine zT R6 f (v:=CY ⟨⟨M⟩⟩) R2 ?_;refine st_I (ik:=.i64) (a:=(O M:Int)) R5 ?_;by_cases C:9<O M
  .refine oQ ?_;exact zA φ ⟨rfl,rfl,rfl,CR⟩ ⟨rfl,rfl,rfl,(λh=>by cases h),(λ_ h=>by have:=(m h).1;omega)⟩
  repeat refine zR ?_
  refine zT R6 f (v:=CY ⟨⟨D⟩⟩) R2 ?_;refine st_I (ik:=.i64) (a:=(O D:Int)) R5 ?_;by_cases B:9<O D
  .refine oQ ?_;exact zA φ ⟨rfl,rfl,rfl,CR⟩ ⟨rfl,rfl,rfl,(λh=>by cases h),(λ_ h=>by have:=(m h).2.1;omega)⟩
  refine oQ ?_;exact zA χ ⟨rfl,rfl,rfl,CR⟩ ⟨rfl,rfl,rfl,(λ_=>⟨by first|rfl|trivial,Z,Z⟩),λh=>by cases h⟩
 rintro z t _ _ _⟨rfl,rfl,rfl,H,R⟩;cases z with
 |true=>
  rw[ze rfl];refine zN ?_;refine zS (v:=.agg #[U .i64 0,U .i64 0]) R4 rfl ?_;refine yc [U .i64 0,U .i64 0] R7 rfl c rfl aD ?_;refine oQ ?_;exact yR (CV χ) R6 (zg _ _ _) rfl Z (λb i=>(zm Z).trans (j b i)) ⟨_,_,χ,rfl,(λh=>by cases h),λh=>CO h (R rfl)⟩
 |false=>
 refine Zw ?_;obtain⟨rfl,C,B⟩:=H rfl;have F:=l rfl;have Z4:=SP F.dm C;have Z1:=SP F.dd B;clear H l;repeat refine zR ?_
 refine zT R6 f (v:=CY ⟨⟨M⟩⟩) R2 ?_;refine yi _ R5 (hH (k+3) h2 (d+1) M F.dm C) ?_;rintro _ rfl;refine zS (v:=.agg #[U .i64 ((dval M:Nat):Int),U .i64 1]) R4 rfl ?_;refine xV R5 ?_;refine yc [U .i64 ((dval M:Nat):Int),U .i64 1] R7 rfl (zg _ _ _) rfl Bi ?_;rw[uk];generalize hh:upd h2 (3*(d+1)+2) _=h3;replace c:h3 (3*n+2)=ξ (.row [U .i64 0,U .i64 0] y):=by rw[<-hh,zm Z];exact c
 replace f:h3 (3*d+2)=ξ (.row [CV mi,CY ⟨⟨M⟩⟩,CY ⟨⟨D⟩⟩] L):=by rw[<-hh,zm Z];exact f
 have g:∃e,h3 (3*(d+1)+2)=ξ (.row [U .i64 ((dval M:Nat):Int),U .i64 1] e):=⟨_,mp⟩;obtain⟨A,g⟩:=g;replace j:Ko n h h3:=λb i=>by rw[<-hh,zm Z,j b i]
 clear hh;refine kG ?_;refine zT R6 f (v:=CY ⟨⟨D⟩⟩) R2 ?_;refine zo (!(D==[])) rfl rfl rfl rfl rfl rfl rfl ?_;simp only[yu,xg,zK,yY];refine yj (α:=Nat) (λ_=>[(2,ι (3*n+2)),(4,ι (3*d+2)),(6,ι (3*(d+1)+2))]) (λz u N w=>w=[]/\N=d+1+1/\Ko n h u/\u (3*n+2)=ξ (.row [U .i64 0,U .i64 0] y)/\u (3*d+2)=ξ (.row [CV mi,CY ⟨⟨M⟩⟩,CY ⟨⟨D⟩⟩] L)/\(∃e,u (3*(d+1)+2)=ξ (.row [U .i64 ((dval M:Nat):Int),U .i64 (z:Int)] e))/\z=(if D=[]then 1 else dval D)/\(D=[]\/Dh (dval M) (dval D)=1)) ?_ ?_
 .by_cases hD:D=[]
  .rw[za (by show CV _=_;rw[hD];rfl)];refine zN ?_;exact zA 1 ⟨rfl,rfl,rfl,CR⟩ ⟨rfl,rfl,j,c,f,⟨A,g⟩,by rw[CQ hD],.inl hD⟩
  rw[ze (by show CV _=_;rw[show(D==[])=χ from by simpa using hD];rfl)];refine kG ?_;refine zT R6 f (v:=CY ⟨⟨D⟩⟩) R2 ?_;refine yi _ R5 (hH (k+3) h3 (d+1+1) D F.dd B) ?_;rintro _ rfl;repeat refine zR ?_
  refine yF (cs:=[U .i64 ((dval D:Nat):Int)]) R8 g zb Bi ?_;generalize hh:upd h3 (3*(d+1)+2) _=h4;replace c:h4 (3*n+2)=ξ (.row [U .i64 0,U .i64 0] y):=by rw[<-hh,zm Z];exact c
  replace f:h4 (3*d+2)=ξ (.row [CV mi,CY ⟨⟨M⟩⟩,CY ⟨⟨D⟩⟩] L):=by rw[<-hh,zm Z];exact f
  replace g:h4 (3*(d+1)+2)=ξ (.row [U .i64 ((dval M:Nat):Int),U .i64 ((dval D:Nat):Int)] A):=by rw[<-hh,zg];rfl
  replace j:Ko n h h4:=λb i=>by rw[<-hh,zm Z,j b i]
  clear hh;refine kG ?_;refine zT R6 g (v:=U .i64 ((dval M:Nat):Int)) R2 ?_;repeat refine zR ?_
  refine zT R6 g (v:=U .i64 ((dval D:Nat):Int)) R2 ?_;refine yi _ R5 (SO (k+3) h4 (d+1+1) (dval M) (dval D) Z) ?_;rintro _ rfl;by_cases I:Dh (dval M) (dval D)=1
  .refine Zb ?_;exact zA (dval D) ⟨rfl,rfl,rfl,CR⟩ ⟨rfl,rfl,j,c,f,⟨A,g⟩,by rw[CP hD],.inr I⟩
  refine Zh ?_;refine zS (v:=.agg #[U .i64 0,U .i64 0]) R4 rfl ?_;refine yc [U .i64 0,U .i64 0] R7 rfl c rfl aD ?_;refine oQ ?_;exact yR (CV χ) R6 (zg _ _ _) rfl Z (λb i=>(zm Z).trans (j b i)) ⟨_,_,χ,rfl,(λh=>by cases h),λh=>by
   rcases(m h).2.2.2 with h|h
   .exact(hD h).elim
   .exact(I h).elim⟩
 rintro z t S W _⟨rfl,rfl,j,c,f,⟨A,g⟩,H,I⟩;obtain⟨q,P,o,p⟩:=F.rat I;rw[<-H]at p;rw[hmi]at o;have K:z<1000000000:=by
  rw[H];split
  .decide
  exact Z1
 refine kG ?_;refine zT R6 f (v:=CV mi) R2 ?_;refine zN ?_;cases mi with
 |true=>
  rw[ze rfl];refine kG ?_;refine zT R6 g (v:=U .i64 ((dval M:Nat):Int)) R2 ?_;refine st_I (ik:=.i64) (a:= -((dval M:Nat):Int)) ⟨rfl,rfl,rfl,rfl,(by show ξ (U .i64 (DE .i64 _))=_;rw[vZ Z,Int.zero_sub])⟩ ?_;repeat refine zR ?_
  refine yF (cs:=[U .i64 (-((dval M:Nat):Int))]) R8 g zb Bi ?_;generalize hh:upd S (3*(d+1)+2) _=h6;replace c:h6 (3*n+2)=ξ (.row [U .i64 0,U .i64 0] y):=by rw[<-hh,zm Z];exact c
  replace g:h6 (3*(d+1)+2)=ξ (.row [U .i64 (-((dval M:Nat):Int)),U .i64 (z:Int)] A):=by rw[<-hh,zg];rfl
  replace j:Ko n h h6:=λb i=>by rw[<-hh,zm Z,j b i]
  clear hh;refine zN ?_;refine z7 (v:=.agg #[U .i64 (-((dval M:Nat):Int)),U .i64 (z:Int)]) R5 (yw R2 g rfl zb rfl) ?_;refine yc [U .i64 (-((dval M:Nat):Int)),U .i64 (z:Int)] R7 rfl c rfl aD ?_;refine oQ ?_;refine yR (CV φ) R6 (zg _ _ _) rfl Z (λb i=>(zm Z).trans (j b i)) ⟨_,_,φ,rfl,(λ_=>⟨q,P,?_,by rw[p],?_,by rw[p];exact K⟩),λ_=>rfl⟩
  .rw[o];rfl
  rw[o];simp only[if_true];omega
 |false=>
  refine Zw ?_;refine z7 (v:=.agg #[U .i64 ((dval M:Nat):Int),U .i64 (z:Int)]) R5 (yw R2 g rfl zb rfl) ?_;refine yc [U .i64 ((dval M:Nat):Int),U .i64 (z:Int)] R7 rfl c rfl aD ?_;refine oQ ?_;refine yR (CV φ) R6 (zg _ _ _) rfl Z (λb i=>(zm Z).trans (j b i)) ⟨_,_,φ,rfl,(λ_=>⟨q,P,?_,by rw[p],?_,by rw[p];exact K⟩),λ_=>rfl⟩
  .rw[o];rfl
  rw[o];simp only[ET,if_false];omega
def jQ(k:Nat)(h:HF)(n:Nat)(s:List UInt8)(f:O s<1000000):VX (Kp (k+5)) 44 [CY ⟨⟨s⟩⟩] h n (ShR s):=by refine wc (kj k h n s f) ?_;rintro v i j w⟨a,b,c,x,y,g,e,d,_⟩;exact⟨a,b,c,x,y,g,e,d⟩
section
variable {x:Operand}{T:List Nat}
section
variable {h:HF}{n:Nat}{d:Tmp}
def SQ{a b c:Int}(j:qu X ops t o d (o.op=.binOp .quo ty x y ty'/\Kn t x=U .i64 a/\Kn t y=U .i64 b))(i:b≠0)(g:a.tdiv b=c)(f: -9223372036854775808<=c/\c<9223372036854775808)
  (k:EO X ops r ⟨upd t d (U .i64 c),h,n,w⟩ Q):EO X ops (o::r) ⟨t,h,n,w⟩ Q:=by refine Zz j ?_ k;have:ikEq .i64 .i64=φ:=rfl;simp only[binE,isSh,this,intE,CP i,g,vZ f]
def zo3{a:Int}(i:zh ops t o=φ)(c:o.dst=ξ d)(f:zv X.nt (ξ d)=φ)(b:o.op=.unOp .neg ty x)(hx:Kn t x=U .i64 a)(g: -9223372036854775808<= -a/\ -a<9223372036854775808)
  (k:EO X ops r ⟨upd t d (U .i64 (-a)),h,n,w⟩ Q):EO X ops (o::r) ⟨t,h,n,w⟩ Q:=by refine zS ⟨i,c,f,(by rw[b];rfl)⟩ ?_ k;rw[b];show N0 .neg (Kn t x)=_;rw[hx];show ξ (U .i64 (DE .i64 (0-a)))=_;rw[show 0-a= -a by omega,vZ g]
end
def zcd(k:Nat){h:HF}(L:GK.G h){n:Nat}(Z3:20<=n)(Z1:c0.take (O T)=KE T)(K:60<=B/\B<3*n)(s:h B=ξ (.row c0 e))(f:cap=O c0/\O T+21<=cap/\cap<1000000){x:Int}(hx: -9223372036854775808<=x/\x<9223372036854775808):
  CF (Kp (k+4)) 118 [Y (ξ ⟨B,0,θ⟩) (O T) cap,U .i64 x,U .i64 10] h n λv Z4 Z0 w=>BufT T h n B cap e c0 (intN x) v Z4 Z0 w:=by
 refine zw (fn:=Tryz.f118) R4 ?_;obtain⟨m,P⟩:∃m,m=x.natAbs:=⟨_,ω⟩;refine Za ?_;refine zN ?_;by_cases hneg:x<0;have i:intN x=[45]++decN m:=by unfold intN;rw[CQ hneg,P]
 refine zM ?_;refine wm (ik:=.u64) (a:=((18446744073709551616-m:Nat):Int)) R6 ?_ ?_;show ξ (U .u64 (DE .u64 x))=_;rw[show x= -(m:Int)from Z,qK m Z];refine zM ?_;refine mM ?_;rw[ze rfl];refine Za ?_;refine wE [U .u8 45] (l:=1) (c:=1) R5 λV p1 J=>?_;have D:=(J B K.2).trans s;refine yM R5 (tG (m:=1) R3 zb (yp p1 R2) Z ⟨ω,CS⟩ Z D Z ω) ?_;rw[pN (by show B<3*n;exact K.2)];rw[show (O T)+1=O (T++[45]) from by rw[C1];rfl];have⟨t1,S⟩:=vp (N:=[45]) Z1 (by show O T+1<=_;omega);have M:GK.G (upd V B (ξ (.row (zu c0 (O T) [U .u8 45]) e))):=G_fr L λb g _=>(zm Z).trans (J b Z);refine Zn ?_;refine zS (v:=U .u64 (m:Int)) R4 ?_ ?_;show ξ (U .u64 (DE .u64 (0-((18446744073709551616-m:Nat):Int))))=_;rw[ra _ Z];congr 3;omega;refine Ze ?_;refine Zo ?_;refine zF _ R5 (sV k M (n:=n+1) Z (T:=T++[45]) (B:=B) (cap:=cap) (u:=m) t1 Z (zg _ _ _) ⟨by rw[S];exact f.1,by rw[C1];simp;omega,f.2.2⟩ Z) ?_;rintro v W R w3⟨rfl,F,C,p,I,q,j,A⟩;refine Ze ?_;refine retH [Y (ξ ⟨B,0,θ⟩) (O (T++[45]++decN m)) cap] R3 ⟨by rw[i,<-DH];rfl,by show n<=R;omega,λb g=>?_,λb g H=>(p b Z H).trans ((zm H).trans (J b g)),I,q,j.trans S,by rw[i,<-DH];exact A⟩;obtain h|⟨h,_⟩:=yN.1 g;exact Dc.1 h;exact C b h;have i:intN x=decN m:=by unfold intN;rw[CP hneg,P];rfl
 obtain rfl:x=(m:Int):=Z;refine zM ?_;refine se (c:=m) R7 Z<|zM ?_;refine mM ?_;rw[za rfl];refine Zl ?_;refine zM ?_;refine zF _ R5 (sV k L Z3 (T:=T) (B:=B) (cap:=cap) (u:=m) Z1 Z s ⟨f.1,Z,f.2.2⟩ Z) ?_;rintro v W R w3⟨rfl,F,C,p,I,q,j,A⟩;refine Ze ?_;refine retH [Y (ξ ⟨B,0,θ⟩) (O (T++decN m)) cap] R3 ⟨by rw[i];rfl,F,λb g=>?_,p,I,q,j,by rw[i];exact A⟩;obtain h|⟨h,_⟩:=yN.1 g;exact CO h C6;exact C b h
def nJ(k:Nat){h:HF}(u:GK.G h){n:Nat}(D:20<=n)(A:c0.take (O T)=KE T)(s:60<=B/\B<3*n)(a:h B=ξ (.row c0 e))(c:cap=O c0/\O T+21<=cap/\cap<1000000){x:Int}(hx: -9223372036854775808<=x/\x<9223372036854775808):
  CF (Kp (k+5)) 79 [Y (ξ ⟨B,0,θ⟩) (O T) cap,U .i64 x,U .i64 10] h n λv q F w=>BufT T h n B cap e c0 (intN x) v q F w:=by refine zw (fn:=Tryz.f79) R4<|Za ?_;refine Zl ?_;refine zM ?_;refine zF _ R5 (zcd k u D A s a c hx) ?_;rintro v H I J⟨rfl,g,m,i,p,j,f,l⟩;refine Ze ?_;refine retH [Y (ξ ⟨B,0,θ⟩) (O (T++intN x)) cap] R3 ⟨ω,g,λb C=>?_,i,p,j,f,l⟩;obtain h|⟨h,_⟩:=yN.1 C;exact CO h C6;exact m b h
theorem pd(N:Int){D:Nat}(a:0<D):(DT N D).num=N.tdiv ((Dh N.natAbs D:Nat):Int)/\((DT N D).den:Int)=(D:Int).tdiv ((Dh N.natAbs D:Nat):Int):=by have b:0<Dh N.natAbs D:=Eh _ a;rw[ad4,<-Ia Z,HH];simp only;refine⟨?_,?_⟩;rw[G0];exact FM.2 (Fo _ _);rfl
def mS{x:Int}(hx: -9223372036854775808<=x/\x<9223372036854775808):O (intN x)<=21:=by have a:O (decN x.natAbs)<=20:=(by unfold decN;split;decide;unfold decB;rw[Da];exact ws 20 _ Z);unfold intN;rw[C1];split<;>simp<;>omega
def eF(k:Nat){h:HF}(A:GK.G h){n:Nat}(I:20<=n){N:Int}{D:Nat}(hN: -9000000000000000000<=N/\N<=9000000000000000000)(u:0<D/\D<=9000000000000000000):VF (Kp (k+6)) 36 [U .i64 N,U .i64 (D:Int)] h n λv=>v=CY ⟨⟨ratT (DT N D)⟩⟩:=by
 refine zO (fn:=Tryz.f36) R4 ?_;have⟨g,i⟩:=pd N u.1;have hg:0<Dh N.natAbs D:=Eh _ u.1;have a0:Dh N.natAbs D<=D:=Nat.le_of_dvd u.1 (Fs _ _);generalize DT N D=q at g i⊢;have a6:(q.den:Int)<=D/\(0:Int)<q.den:=(by refine⟨?_,by have:=q.den_pos;omega⟩;rw[i];exact ab5.2 (EL _ _));have a7: -9000000000000000000<=q.num/\q.num<=9000000000000000000:=by
  have h1:q.num.natAbs<=N.natAbs:=by rw[g,Gy];exact Cr
  omega
 refine Za ?_;refine mM ?_;rw[za ω,yu,zK,yY];refine yj (α:=Unit) (λ_=>[(0,U .i64 q.num),(1,U .i64 (q.den:Int))]) (λ_ h' n' w=>h=h'/\n'=n/\w=[]) ?_ ?_;refine zN ?_;by_cases hD1:D=1;subst hD1;rw[Je]at g i;refine Zb ?_;exact zA () ⟨by rw[g];simp;rfl,by rw[i];rfl,CR⟩ R3;refine Zp ?_;refine zo3 ω ω ω ω ω Z<|st_I (ik:=.i64) (a:=(N.natAbs:Int)) ⟨ω,ω,ω,ω,?_⟩ ?_;show ξ (U .i64 (if N< -N then -N else N))=_;congr 2;split<;>omega;refine zM ?_;refine yi _ R5 (SO (k+4) _ _ N.natAbs D Z) ?_;rintro _ rfl;refine Ze ?_;rw[wb rfl];refine mZ ?_;refine SQ (c:=q.num) R6 Z g.symm Z<|mZ ?_;refine SQ (c:=(q.den:Int)) R6 Z i.symm Z<|mZ ?_;refine zN ?_;exact zA () P2 R3;rintro _ t _ n _⟨rfl,rfl,rfl⟩;refine zN ?_;by_cases hq1:q.den=1;refine Zx ?_;refine yi _ R5 (mV (k+1) A I (x:=q.num) Z) ?_;rintro _ rfl;refine Ze ?_;exact retF _ ω (zi ω) R2 (by rw[tj (yr.2 hq1)];rfl);have Z4:¬denZ q=0:=mt yr.1 hq1;refine Zb ?_;refine wt (C3 48 (U .u8 0)) R6 λh1 p1 W=>?_;have C:=rR A W I;have a1:O (intN q.num)<=21:=mS Z;refine zN ?_;refine te (j:=0) R8 ω (zB n) Z<|zM ?_;refine zF _ R5 (nJ k C (n:=n+1) Z (T:=[]) (B:=3*n+2) (cap:=48) ω Z p1 ⟨by rw[DI],by show 0+21<=48;omega,Z⟩ (x:=q.num) Z) ?_;rintro v h2 n2 w2⟨rfl,a3,R,J,Z0,K,p,Z1⟩;rw[zV λb f=>by rw[R b f];show 3*n<=_;omega];rw[DI]at p;refine Zn ?_;refine wE [U .u8 47] (l:=1) (c:=1) R5 λh3 p3 Z3=>?_;have L:=(Z3 (3*n+2) Z).trans K;refine yM R5 (tG (m:=1) R3 zb (yp p3 R2) AQ ⟨ω,CS⟩ (by rw[DR];omega) L (by rw[DR];omega) ω) ?_;rw[zV λb f=>by rw[Dc.1 f];show 3*n<=_;omega];rw[show(([]:List Nat)++intN q.num).length+1=O (([]:List Nat)++intN q.num++[47]) from by simp];have⟨t1,V⟩:=vp (N:=[47]) Z1 (by show([]++intN q.num).length+1<=_;rw[DR];omega);generalize hh4:upd h3 (3*n+2) _=h4;have F:GK.G h4:=(by rw[<-hh4];exact G_fr A λb f _=>(zm Z).trans ((Z3 b Z).trans ((J b Z Z).trans (W b Z))));have s:∃e,h4 (3*n+2)=ξ (.row (zu Z0 (O ([]++intN q.num)) [U .u8 47]) e):=⟨_,by rw[<-hh4];exact zg _ _ _⟩;have⟨e4,s⟩:=s;have a2:O (intN (q.den:Int))<=21:=mS Z;refine Ze ?_;refine mZ ?_;refine zF _ R5 (nJ k F (n:=n2+1) Z (T:=[]++intN q.num++[47]) (B:=3*n+2) (cap:=48) t1 Z s ⟨by rw[V,p],Bv,Z⟩ (x:=(q.den:Int)) Z) ?_;rintro v h5 n5 w5⟨rfl,a4,S,a5,c5,M,H,P⟩;rw[zV λb f=>by rw[S b f];show 3*n<=_;omega];refine pY R5 (rg (B:=[]++intN q.num++[47]++intN (q.den:Int)) R3 (wV M (by rw[DO];exact P) (by rw[H,V,p];simp only[C1,DR,Db];omega) (by simp only[C1,DR,Db];omega))) ?_;refine Ze ?_;refine retF _ ω (zi ω) R2 ?_;show CY _=_;rw[DR,jS Z4,wq Z4]
end
section
variable {h:HF}{n r:Nat}{s:List UInt8}
structure SR (s:List UInt8)(x y:Int):Prop where
 e1:x=(zj s).num
 e2:y=((zj s).den:Int)
 b1: -1000000000<x/\x<1000000000
 b2:0<y/\y<1000000000
def mul9{a b:Int}(c: -1000000000<a/\a<1000000000)(hb: -1000000000<b/\b<1000000000): -1000000000000000000<=a*b/\a*b<=1000000000000000000:=by have h:(a*b).natAbs<=1000000000*1000000000:=(by rw[D6];exact Nat.mul_le_mul Z Z);omega
def zp5{a b:Int}(c:0<a/\a<1000000000)(hb:0<b/\b<1000000000):0<a*b/\a*b<=1000000000000000000:=⟨G3 c.1 hb.1,(mul9 ⟨Z,c.2⟩ ⟨Z,hb.2⟩).2⟩
def mL(k:Nat)(h:HF)(n:Nat)(s:List UInt8)(i:O s<1000000):CX (Kp (k+5)) 44 [CY ⟨⟨s⟩⟩] h n λv _ _=>∃x y a,v=.tuple #[.agg #[U .i64 x,U .i64 y],CV a]/\(a=φ->SR s x y):=by refine wc (jQ k h n s i) ?_;rintro v m o w⟨b,c,d,x,y,a,rfl,g⟩;refine⟨b,c,d,x,y,a,ω,λf=>?_⟩;obtain⟨q,e,rfl,rfl,j,l⟩:=g f;rw[<-pA e]at*;have:=(zj s).den_pos;exact⟨ω,ω,Z,Z⟩
def zv2(k:Nat)(g:GG h n){N D:Int}(a: -9000000000000000000<=N/\N<=9000000000000000000)(b:0<D/\D<=9000000000000000000):CX (Kp (k+6)) 36 [U .i64 N,U .i64 D] h n λv _ _=>v=CY ⟨⟨ratT (DT N D)⟩⟩:=by obtain⟨d,rfl⟩:∃d:Nat,D=(d:Int):=⟨D.toNat,Z⟩;exact(eF k g.1 g.2 a ⟨Z,Z⟩).cx
def SR.mul{a b:List UInt8}{x y u v:Int}(p:SR a x y)(q:SR b u v):DT (x*u) (y*v)=zj a*zj b:=by rw[p.e1,p.e2,q.e1,q.e2,Rat.mul_def',<-ad4,EY]
def TL.ratT(h:Sz 1890 q):TL (ratT q):=by have a:∀V,V<2^1890->O (decT V)<=570:=λV b=>(by unfold decT;split;decide;rw[Da,kY];exact ws 570 V (Dm b eN));refine⟨?_,λm d e=>?_⟩;have c:=a _ h.1;have f:=a _ h.2;unfold Go.Proofs.YteoagenjaemllaaGreatDoor.ratT;simp only[C1];split<;>split<;>simp<;>omega;rw[px]at e;injection e with e1 e2;injection e2 with e2 _;subst e1 e2;refine⟨a _ h.1,?_⟩;split;exact GA _;exact a _ h.2
def kh(k:Nat){a b:List UInt8}(ha:O a<1000000)(hb:O b<1000000):CX (Kp (k+6)) 35 [CY ⟨⟨a⟩⟩,CY ⟨⟨b⟩⟩] h n λv _ _=>∃x y u t ok,v=.tuple #[.agg #[U .i64 x,U .i64 y],.agg #[U .i64 u,U .i64 t],CV ok]/\(ok=φ->SR a x y/\SR b u t):=by refine zw (fn:=Tryz.f35) R4<|Zd λo a4 ak=>?_;refine sA λp a5 al=>?_;refine zG ?_;refine sC (mL _ _ _ a ha) ?_;rintro _ w R⟨c,e,l,rfl,g⟩ au am;cases l;refine Zd λA a6 an=>?_;refine sS [U .i64 c,U .i64 e] λB a7 T=>?_;refine zG ?_;refine sT #[U .i64 0,U .i64 0] ?_;refine sT #[U .i64 0,U .i64 0] ?_;refine sS [U .i64 0,U .i64 0] λC a8 Z4=>?_;refine sS [U .i64 0,U .i64 0] λD a9 V=>?_;refine zq ?_;exact⟨_,_,_,_,_,ω,λj=>(by cases j)⟩;have g:=g rfl;refine Zd λF aa ao=>?_;refine sS [U .i64 c,U .i64 e] λG ab W=>?_;refine zG ?_;refine sC (mL _ _ _ b hb) ?_;rintro _ H S⟨d,f,m,rfl,i⟩ av ap;cases m;refine Zd λI ac aq=>?_;refine sS [U .i64 d,U .i64 f] λJ ad Z3=>?_;refine zG ?_;refine sT #[U .i64 0,U .i64 0] ?_;refine sT #[U .i64 0,U .i64 0] ?_;refine sS [U .i64 0,U .i64 0] λK ae Z0=>?_;refine sS [U .i64 0,U .i64 0] λL af a0=>?_;refine zq ?_;exact⟨_,_,_,_,_,ω,λj=>(by cases j)⟩;have i:=i rfl;refine Zd λM ag ar=>?_;refine sS [U .i64 d,U .i64 f] λN ah a1=>?_;refine zG ?_;refine zl [0,0,1,7,15] rfl<|zH ?_;refine dS [U .i64 c,U .i64 e] λZ1 ai a2=>?_;refine dS [U .i64 d,U .i64 f] λP aj a3=>?_;refine zq ?_;exact⟨_,_,_,_,_,ω,λ_=>⟨g,i⟩⟩
def my(k:Nat)(g:GG h n)(hs:TL s):CX (Kp (k+10)) 37 [CY ⟨⟨s⟩⟩] h n (QV (zj s)):=by refine zw (fn:=Tryz.f37) R4<|Zd λp F J=>?_;refine zG ?_;refine sC (SB _ (g.x zx) hs) ?_;rintro _ u B⟨b,a,j,c,d,e,f,i,o,rfl,l,m,A⟩ M K;refine Zd λv G L=>?_;refine sS [CV b,Y a j c,CV d,Y e f i] λw H C=>?_;refine zG ?_;refine sS [CV b,Y a j c,CV d,Y e f i] λy I D=>?_;refine zq ?_;exact⟨_,_,_,_,_,_,_,_,ω,(l.t zt),(m.t zt)⟩
def mulS(k:Nat)(g:GG h n){a b:List UInt8}(ha:TL a)(hb:TL b){p q:Nat}(C:Sz p (zj a))(F:Sz q (zj b))(ap:p+q+1<=2496)(G:Sz r (zj a*zj b))(hr:r<=1920):VF (Kp (k+11)) 11 [CY ⟨⟨a⟩⟩,CY ⟨⟨b⟩⟩] h n λv=>v=CY ⟨⟨ratT (zj a*zj b)⟩⟩:=by refine zO (fn:=Tryz.f11) R4<|zG ?_;refine sC (kh _ ha.1 hb.1) ?_;rintro _ ab av⟨e,f,c,d,l,rfl,B⟩ bp bf;cases l;refine Zd λac b7 bg=>?_;refine sA λad b8 bh=>?_;refine sS [U .i64 e,U .i64 f] λae b9 b3=>?_;refine sS [U .i64 c,U .i64 d] λaf ba b4=>?_;refine zG ?_;refine sC (my _ (g.x zx) ha) ?_;rintro _ ag aw⟨K,H,aq,R,V,a0,a4,a8,rfl,m,w⟩ bq bi;refine zG ?_;refine sC (my _ (g.x zx) hb) ?_;rintro _ ah ax⟨L,I,ar,S,W,a1,a5,a9,rfl,o,y⟩ br bj;refine sC (mulQ _ (g.x zx) (m.t zt) (w.t zt) o y C F Z) ?_;rintro _ ai ay⟨M,J,au,T,Z3,a2,a6,aa,rfl,u,A⟩ bs bk;refine sC ((vx _ (g.x zx).1 (g.x zx).2 u A G hr).cx) ?_;rintro _ aj az rfl bt bl;refine zf ?_;exact rfl;have⟨i,j⟩:=B rfl;have Z4:=i.b1;have Z0:=i.b2;have a3:=j.b1;have a7:=j.b2;refine Zd λak bb bm=>?_;refine sA λal bc bn=>?_;refine sS [U .i64 e,U .i64 f] λam bd b5=>?_;refine sS [U .i64 c,U .i64 d] λan be b6=>?_;refine zG ?_;have Z1:=mul9 (a:=e) (b:=c) Z Z;refine st_mul ω ω ω ω ω ω Z ?_;refine zG ?_;have P:=zp5 (a:=f) (b:=d) Z Z;refine st_mul ω ω ω ω ω ω Z ?_;refine sC (zv2 _ (g.x zx) (N:=(e*c)) (D:=(f*d)) Z Z) ?_;rintro _ ao b0 rfl bu bo;refine zf ?_;exact by rw[SR.mul i j];rfl
end
end Go.Proofs.YteoagenjaemllaaGreatDoor
