import Derived.Test.YtfajmfoofmienaaGreatDoorSlkC
open Bool renaming and_eq_true→Ew,and_self→EF,eq_false_iff→IC,false_eq_true→FE,not_eq_true'→FY,or_self→ab5
open Classical renaming byContradiction→DU
open Go.IntKind renaming bits→Ft,wrap→D8
open Go.Proofs.Tryz renaming f191→au2,f198→au3,f229→au1
open Go.Proofs.YtfajmfoofmienaaGreatDoor.ExtB renaming refl→IT
open Go.Proofs.YtfajmfoofmienaaGreatDoor.Gro renaming shape→JM
open Go.Proofs.YtfajmfoofmienaaGreatDoor.IW renaming zero→GH
open Go.Proofs.YtfajmfoofmienaaGreatDoor.KN renaming refl→FU
open Go.Proofs.YtfajmfoofmienaaGreatDoor.KQ renaming nil→IB
open Go.Value renaming bool→Dk,int→U,pointer→Dn,slice→Y,string→Dl
open Iff renaming rfl→Hi
open Int renaming add_comm→ak8,add_zero→al2,gcd→Kj,lt_trichotomy→Iy,mul_comm→Jg,mul_ediv_cancel_left→Ik,mul_ne_zero→J1,mul_one→an1,mul_tdiv_cancel_left→Hu,mul_zero→JV,natAbs_eq_zero→F4,natAbs_mul→Fl,natAbs_natCast→DQ,natAbs_neg→F3,natAbs_tdiv→HL,natCast_mul→E0,neg_mul→Kd,neg_neg→Hl,not_lt→Kt,ofNat_dvd_left→Gj,ofNat_le→ab4,one_dvd→ae2,sign_eq_neg_one_of_neg→HV,sign_eq_one_of_pos→GX,sub_self→JU,tdiv_eq_ediv_of_dvd→GS,tdiv_one→GZ,toNat_natCast→Ez,zero_tdiv→Kr
open List renaming all_append→J2,all_eq_true→Fy,any_eq_true→H5,append_assoc→DN,append_nil→DZ,cons_append→Gp,dropWhile_cons→Km,drop_append→JL,drop_drop→ES,drop_eq_getElem_cons→Fs,drop_eq_nil_of_le→Ga,drop_length→Fo,drop_one→ai2,drop_take→IG,drop_zero→EE,ext_getElem?→Fh,getElem?_append_left→En,getElem?_append_right→DL,getElem?_eq_getElem→Dm,getElem?_eq_none→DS,getElem?_eq_some_iff→Du,getElem?_map→DB,getElem?_range→Et,getElem?_set_ne→Kf,getElem?_take_of_lt→Eu,isEmpty_iff→ac7,length→O,length_append→Do,length_cons→D3,length_drop→Ea,length_eq_zero_iff→DA,length_map→DC,length_nil→GB,length_replicate→DV,length_set→EU,length_singleton→Dy,length_take→DW,map_append→EN,map_cons→GJ,map_nil→H9,mem_append→Ec,mem_cons→DR,mem_cons_of_mem→Fm,mem_cons_self→Fj,mem_map→EX,mem_of_getElem?→Dq,mem_of_mem_drop→FB,mem_of_mem_take→EB,mem_singleton→Dx,nil_append→El,not_mem_nil→Ds,replicate→Dp,replicate_succ'→GP,set_cons_zero→G3,tail_cons→ag5,takeWhile_append_dropWhile→Hy,takeWhile_cons→I9,take_add_one→JC,take_append_drop→Ep,take_append_of_le_length→Fk,take_length→DO,take_of_length_le→DK,take_take→GO,take_zero→Fe
open Nat renaming Coprime→Hk,add_assoc→HO,add_comm→EY,add_mul→DE,add_sub_cancel→FR,add_sub_cancel_left→Fa,add_zero→Ej,beq→Eh,ble→DX,ble_eq_true_of_le→Dv,coprime_div_gcd_div_gcd→Jh,div_add_mod→EP,div_div_eq_div_mul→Gb,div_le_self→FL,div_lt_of_lt_mul→Ho,div_one→HY,eq_of_beq_eq_true→Eb,gcd→DH,gcd_comm→FJ,gcd_dvd_left→FW,gcd_dvd_right→F0,gcd_le_right→ac6,gcd_mul_left→IQ,gcd_one_right→JB,gcd_pos_of_pos_left→GT,gcd_pos_of_pos_right→EK,lcm→ab6,le_of_ble_eq_true→D5,le_succ→DM,le_trans→Ed,lt_of_le_of_lt→DP,lt_of_lt_of_le→DY,lt_or_ge→EG,lt_trans→ID,min_eq_left→Ev,mod_eq_of_lt→Dz,mod_lt→EA,mul_add→D4,mul_assoc→DG,mul_comm→Dt,mul_div_cancel'→GV,mul_div_cancel_left→F1,mul_le_mul→Es,mul_le_mul_left→DT,mul_le_mul_right→Dw,mul_left_comm→ER,mul_lt_mul''→IS,mul_one→Ek,mul_pos→Fw,mul_right_comm→Gi,mul_zero→Fp,one_mul→EM,pos_of_ne_zero→GI,pow_add→EH,pow_le_pow_right→DJ,pow_pos→Er,pow_succ→DI,pow_zero→FD,strongRecOn→Hb,sub_self→Ee,sub_zero→Gv,succ_mul→Fb,two_pow_pos→HN,zero_add→D7,zero_le→Hf,zero_mul→EI
open Nat.Coprime renaming coprime_dvd_left→I7,coprime_dvd_right→GQ,gcd_mul_left_cancel_right→H8,mul_left→I3,mul_right→IL,symm→ac5
open Option renaming isSome_none→Jp
open Option.some renaming injEq→HR
open Or renaming inl→al1
open Prod.mk renaming injEq→FV
open Rat renaming add_def→ae0,den_inv→ae3,divInt→Ef,div_def→FI,intCast_mul→FO,intCast_pos→He,inv_zero→ab1,mul_def→ae1,mul_eq_zero→J4,mul_pos→Ke,mul_zero→Gg,neg_den→an4,neg_num→an3,normalize_eq→Ia,normalize_eq_mkRat→IF,num_eq_zero→FM,num_inv→an6,sub_eq_add_neg→Gk,zero_divInt→af1,zero_mul→IE
open UInt8 renaming ofNat→EV,toNat→an5,toNat_inj→HM
set_option maxHeartbeats 8000000
set_option linter.unusedVariables false
set_option linter.unusedSimpArgs false
namespace Go.Proofs.YtfajmfoofmienaaGreatDoor
open Go Go.GL
variable {b g m cx cy fx fy gx gy lx ly m' bb n' n c d l:Nat}{q:Rat}{dx dy sx sy:Bool}{ax ay ex ey a:Option Addr}{h' h:HF}{cs:List Value}{ld ln L w:List Nat}{d1 d2 n1 n2 v:Value}{e:TypeId}
def denZ(q:Rat):Int:=if q.den=1 then 0 else(q.den:Int)
theorem yN{q:Rat}:denZ q=0↔q.den=1:=by
 unfold denZ;have:=q.den_pos;split<;>omega
theorem wV{q:Rat}(h:¬denZ q=0):denZ q=(q.den:Int):=by
 unfold denZ at*
 split
 .rename_i h1;rw[De h1]at h;exact oU rfl h
 rfl
theorem tK(x y:Rat):(x+y).num=(x.num*y.den+y.num*x.den)/((DH (x.num*y.den+y.num*x.den).natAbs (x.den*y.den):Nat):Int):=by
 rw[ae0,Ia]
theorem tL(x y:Rat):(x+y).den=(x.den*y.den)/DH (x.num*y.den+y.num*x.den).natAbs (x.den*y.den):=by
 rw[ae0,Ia]
theorem qo(x y:Rat):(x*y).num=(x.num*y.num)/((DH (x.num*y.num).natAbs (x.den*y.den):Nat):Int):=by
 rw[ae1,Ia]
theorem qp(x y:Rat):(x*y).den=(x.den*y.den)/DH (x.num*y.num).natAbs (x.den*y.den):=by
 rw[ae1,Ia]
theorem qu(a b:Int)(m:Nat):DH (a*m+b).natAbs m=DH b.natAbs m:=by
 have c:(Kj (a*m+b) m)=Kj b m:=by
  rw[ak8,Int.gcd_add_mul_right_left]
 simpa [Kj]using c
theorem No{x y:Rat}(c:denZ x=0)(d:denZ y=0):(x+y).num=x.num+y.num∧denZ (x+y)=0:=by
 rw[yN]at*
 have a:=tK x y;have b:=tL x y;rw[c,d]at a b;simp at a b;exact⟨a,b⟩
theorem N5{x y:Rat}(f:denZ x=0)(c:¬denZ y=0):(x+y).num=x.num*denZ y+y.num∧denZ (x+y)=denZ y:=by
 have g:=wV c;rw[yN]at f c;have a:=tK x y;have b:=tL x y;have d:DH (x.num*(y.den:Int)+y.num).natAbs y.den=1:=(qu x.num y.num y.den).trans y.reduced;rw[f]at a b;simp only[EM]at a b;have e:((1:Nat):Int)=1:=rfl;rw[e,an1,d]at a;rw[e,an1,d,HY]at b;rw[a,g];refine⟨by rw[e,Int.ediv_one],?_⟩;unfold denZ;rw[b,CT c]
theorem Qe{x y:Rat}(a:¬denZ x=0)(b:denZ y=0):(x+y).num=y.num*denZ x+x.num∧denZ (x+y)=denZ x:=by
 rw[Rat.add_comm];exact N5 b a
structure AddS (x y:Rat)(d l r:Nat)(N:Int)(s:Nat):Prop where
 hd:d=DH x.den y.den
 hl:y.den=d*l
 hr:x.den=d*r
 hN:N=x.num*l+y.num*r
 hs:s=DH N.natAbs d
theorem AddS.cop{x y:Rat}{d l r:Nat}{N:Int}{s:Nat}(a:AddS x y d l r N s):DH N.natAbs (r*l)=1:=by
 have e:0<d:=by rw[a.hd];exact GT _ x.den_pos
 have b:Hk l r:=by
  have c:DH x.den y.den=d*DH r l:=by rw[a.hr,a.hl,IQ]
  rw[←a.hd]at c;have:d*1=d*DH r l:=Z;have:=Nat.eq_of_mul_eq_mul_left e this;rw[Nat.coprime_iff_gcd_eq_one,FJ];exact this.symm
 have f:Hk x.num.natAbs r:=GQ ⟨d,by rw[a.hr,Dt]⟩ x.reduced;have g:Hk y.num.natAbs l:=GQ ⟨d,by rw[a.hl,Dt]⟩ y.reduced;have c:DH N.natAbs r=1:=by
  have:DH (y.num*(r:Int)+x.num*(l:Int)).natAbs r=1:=by
   rw[qu,Fl,DQ];exact I3 f b
  rw[a.hN,ak8];exact this
 have i:DH N.natAbs l=1:=by
  have:DH (x.num*(l:Int)+y.num*(r:Int)).natAbs l=1:=by
   rw[qu,Fl,DQ];exact I3 g b.symm
  rw[a.hN];exact this
 exact IL c i
theorem AddS.res{x y:Rat}{d l r:Nat}{N:Int}{s:Nat}(a:AddS x y d l r N s):(x+y).num=N.tdiv (s:Int)∧(x+y).den=r*(y.den/s):=by
 have b:0<d:=by rw[a.hd];exact GT _ x.den_pos
 have c:0<s:=by rw[a.hs];exact EK _ b
 have q:=a.cop;have j:=tK x y;have m:=tL x y;have f:x.num*(y.den:Int)+y.num*(x.den:Int)=(d:Int)*N:=by
  rw[a.hl,a.hr,a.hN];simp only[E0];grind
 have g:x.den*y.den=d*(r*l*d):=by rw[a.hl,a.hr];grind
 have i:DH ((d:Int)*N).natAbs (d*(r*l*d))=d*s:=by
  rw[Fl,DQ,IQ,H8 d (ac5 q),←a.hs]
 rw[f,g,i]at j;rw[f,g,i]at m;have o:(s:Int)∣N:=by
  have:s∣N.natAbs:=by rw[a.hs];exact FW _ _
  exact Gj.2 this
 have p:s∣d:=by rw[a.hs];exact F0 _ _
 refine⟨?_,?_⟩
 .rw[j,E0,Int.mul_ediv_mul_of_pos _ _ Z,GS o]
 rw[m,Nat.mul_div_mul_left _ _ b];obtain⟨e,u⟩:=p;rw[a.hl,u];rw[show r*l*(s*e)=s*(r*(l*e))from by grind,F1 _ c,show s*e*l=s*(l*e)from by grind,F1 _ c]
theorem ju(a b:Nat):(a:Int).tdiv (b:Int)=((a/b:Nat):Int):=rfl
theorem AddS.mk'{x y:Rat}(b:¬denZ x=0)(c:¬denZ y=0):∃d l r N s,AddS x y d l r N s∧((DH (denZ x).natAbs (denZ y).natAbs:Nat):Int)=d∧(denZ y).tdiv ((DH (denZ x).natAbs (denZ y).natAbs:Nat):Int)=l∧(denZ x).tdiv ((DH (denZ x).natAbs (denZ y).natAbs:Nat):Int)=r∧x.num*((denZ y).tdiv ((DH (denZ x).natAbs (denZ y).natAbs:Nat):Int))+y.num*((denZ x).tdiv ((DH (denZ x).natAbs (denZ y).natAbs:Nat):Int))=N∧∀M:Int,M=N→((DH M.natAbs (((DH (denZ x).natAbs (denZ y).natAbs:Nat):Int)).natAbs:Nat):Int)=(s:Nat):=by
 rw[wV b,wV c];simp only[DQ,ju];have e:0<DH x.den y.den:=GT _ x.den_pos;refine⟨DH x.den y.den,y.den/DH x.den y.den,x.den/DH x.den y.den,_,DH (x.num*((y.den/DH x.den y.den:Nat):Int)+y.num*((x.den/DH x.den y.den:Nat):Int)).natAbs (DH x.den y.den),⟨rfl,?_,?_,rfl,rfl⟩,rfl,rfl,rfl,rfl,?_⟩
 .rw[GV (F0 _ _)]
 .rw[GV (FW _ _)]
 intro M a;rw[a]
theorem We(x y:Rat):(x*y).num=(x.num/((DH x.num.natAbs y.den:Nat):Int))*(y.num/((DH y.num.natAbs x.den:Nat):Int))∧(x*y).den=(x.den/DH y.num.natAbs x.den)*(y.den/DH x.num.natAbs y.den):=by
 have p:=qo x y;have q:=qp x y;have L:DH (x.num*y.num).natAbs (x.den*y.den)=DH x.num.natAbs y.den*DH y.num.natAbs x.den:=by
  rw[Fl];by_cases hx:x.num=0
  .have s:x.den=1:=by have:=x.reduced;rw[hx]at this;simpa using this
   rw[hx,s];simp
  by_cases hy:y.num=0
  .have w:y.den=1:=by have:=y.reduced;rw[hy]at this;simpa using this
   rw[hy,w];simp
  have d:0<DH x.num.natAbs y.den:=EK _ y.den_pos;have f:0<DH y.num.natAbs x.den:=EK _ x.den_pos;have F:=Jh d;have G:=Jh f;have A:=GV (FW x.num.natAbs y.den);have B:=GV (F0 x.num.natAbs y.den);have C:=GV (FW y.num.natAbs x.den);have D:=GV (F0 y.num.natAbs x.den);have g:=x.reduced;have i:=y.reduced;generalize DH x.num.natAbs y.den=g1 at*
  generalize DH y.num.natAbs x.den=g2 at*
  generalize x.num.natAbs/g1=a at*
  generalize y.den/g1=b at*
  generalize y.num.natAbs/g2=c at*
  generalize x.den/g2=e at*
  rw[←A,←B,←C,←D];rw[←A,←D]at g;rw[←C,←B]at i;have m:Hk a e:=I7 ⟨g1,Dt _ _⟩ (GQ ⟨g2,Dt _ _⟩ g);have o:Hk c b:=I7 ⟨g2,Dt _ _⟩ (GQ ⟨g1,Dt _ _⟩ i);have:Hk (a*c) (e*b):=I3 (IL m F) (IL G o);rw[show g1*a*(g2*c)=(g1*g2)*(a*c)from by grind,show g2*e*(g1*b)=(g1*g2)*(e*b)from by grind,IQ,this,Ek]
 rw[L]at p q;have H:((DH x.num.natAbs y.den:Nat):Int)∣x.num:=Gj.2 (FW _ _);have I:((DH y.num.natAbs x.den:Nat):Int)∣y.num:=Gj.2 (FW _ _);have J:DH y.num.natAbs x.den∣x.den:=F0 _ _;have K:DH x.num.natAbs y.den∣y.den:=F0 _ _;refine⟨?_,?_⟩
 .rw[p,E0];obtain⟨u,j⟩:=H;obtain⟨v,l⟩:=I;have d:0<DH x.num.natAbs y.den:=EK _ y.den_pos;have f:0<DH y.num.natAbs x.den:=EK _ x.den_pos;generalize DH x.num.natAbs y.den=g1 at*
  generalize DH y.num.natAbs x.den=g2 at*
  rw[j,l,Ik _ Z,Ik _ Z,show(g1:Int)*u*(g2*v)=(g1*g2)*(u*v)from by grind,Ik];exact J1 Z Z
 rw[q];obtain⟨u,j⟩:=J;obtain⟨v,l⟩:=K;have d:0<DH x.num.natAbs y.den:=EK _ y.den_pos;have f:0<DH y.num.natAbs x.den:=EK _ x.den_pos;generalize DH x.num.natAbs y.den=g1 at*
 generalize DH y.num.natAbs x.den=g2 at*
 rw[j,l,F1 _ f,F1 _ d,show g2*u*(g1*v)=(g1*g2)*(u*v)from by grind,F1 _ (Fw d f)]
theorem ut{x y:Int}(h:x.natAbs<m):(x.tdiv y).natAbs<m:=by
 rw[HL];exact DP (FL _ _) h
theorem vo{x y:Int}{a:Nat}(c:x.natAbs<2^a)(d:y.natAbs<2^b):(x*y).natAbs<2^(a+b):=by
 rw[Fl,EH];exact IS c d
theorem N6{x y:Int}{a:Nat}(c:x.natAbs<2^a)(d:y.natAbs<2^b)(h:a+b≤2496):(x*y).natAbs<BW:=uR (vo c d) h
theorem kd{x y:Int}(a:x.natAbs<2^m)(c:y.natAbs<2^m):(x+y).natAbs<2^(m+1):=by
 rw[DI];omega
theorem N7{x y u v:Int}{a:Nat}(c:x.natAbs<2^a)(d:y.natAbs<2^b)(hu:u.natAbs<2^b)(hv:v.natAbs<2^a)(h:a+b+1≤2496):(x*y+u*v).natAbs<BW:=
 uR (kd (vo c d) (by rw[EY a b];exact vo hu hv)) h
theorem Wf{x y u:Int}{a:Nat}(c:x.natAbs<2^a)(d:y.natAbs<2^b)(hu:u.natAbs<2^b)(h:a+b+1≤2496):(x*y+u).natAbs<BW:=
 uR (kd (vo c d) (DY hu (DJ zd Z))) h
theorem Qf{x y:Int}(a:x.natAbs<m)(h0:¬x=0):((DH x.natAbs y.natAbs:Nat):Int).natAbs<m:=by
 rw[DQ];exact DP (Nat.gcd_le_left _ Z) a
theorem dP{x y:Int}(a:y.natAbs<m)(h0:¬y=0):((DH x.natAbs y.natAbs:Nat):Int).natAbs<m:=by
 rw[DQ];exact DP (ac6 _ Z) a
theorem Wg{x y:Int}(h:¬x=0):((DH x.natAbs y.natAbs:Nat):Int)≠0:=by
 have:=GT (n:=y.natAbs) (m:=x.natAbs) Z;omega
theorem dM{x y:Int}(h:¬y=0):((DH x.natAbs y.natAbs:Nat):Int)≠0:=by
 have:=EK (m:=x.natAbs) (n:=y.natAbs) Z;omega
theorem Wh:(1:Int).natAbs<BW:=uR (e:=1) zd zd
theorem KU{x:Int}(h:x.natAbs<BW:=by first|assumption|exact ut ‹_› |exact N6 ‹_› ‹_› Z|exact N6 ‹_› (ut ‹_›) Z|exact N6 (ut ‹_›) (ut ‹_›) Z|exact N7 ‹_› (ut ‹_›) ‹_› (ut ‹_›) Z|exact N7 ‹_› ‹_› ‹_› ‹_› Z|exact Wf ‹_› ‹_› ‹_› Z|exact Qf ‹_› ‹_› |exact Qf (N7 ‹_› (ut ‹_›) ‹_› (ut ‹_›) Z) ‹_› |exact dP ‹_› ‹_› |exact Wh):x.natAbs<BW:=h
theorem LM{x:Int}(h:x≠0:=by first|assumption|exact Wg ‹_› |exact dM ‹_› |omega):x≠0:=h
def Sz(m:Nat)(q:Rat):Prop:=q.num.natAbs<2^m∧q.den<2^m
theorem Sz.z(h:Sz m q):(denZ q).natAbs<2^m:=by
 unfold denZ;split
 .exact HN m
 rw[DQ];exact h.2
theorem Sz.mono(h:Sz m q)(a:m≤m'):Sz m' q:=⟨DY h.1 (DJ zd a),DY h.2 (DJ zd a)⟩
theorem mV{x:Int}(h:x.natAbs<m):(x/(g:Int)).natAbs<m:=by
 refine DP ?_ h;exact Int.natAbs_ediv_le_natAbs _ _
theorem Sz.mul{a:Nat}{x y:Rat}(c:Sz a x)(d:Sz b y):Sz (a+b) (x*y):=by
 refine⟨?_,?_⟩
 .rw[qo];exact mV (vo c.1 d.1)
 rw[qp];refine DP (FL _ _) ?_;rw[EH];exact IS c.2 d.2
theorem Sz.zero(a:Nat)(h:1≤a):Sz a 0:=⟨HN a,DY (by decide:(1:Nat)<2^1) (DJ zd h)⟩
def QV(q:Rat)(v:Value)(h:HF)(n:Nat):Prop:=∃b a l c d e f g,v=.agg #[Dk b,Y a l c,Dk d,Y e f g]∧IW h n b a l c q.num∧IW h n d e f g (denZ q)
theorem QV.zero(h:HF)(n:Nat):QV 0 (.agg #[Dk false,Y none 0 0,Dk false,Y none 0 0]) h n:=⟨_,_,_,_,_,_,_,_,rfl,GH h n,GH h n⟩
theorem Wi(k:Nat)(h:HF)(n:Nat):CX (KO (k+1)) 184 [U .u64 1] h n (WV 1):=VO k h n (w:=1) zd
theorem MT(k:Nat)(h:HF)(n:Nat):CX (KO (k+2)) 161 [U .i64 1] h n (IV 1):=by
 refine zl (fn:=Tryz.f161) R4<|Zs ?_;intro i s v;refine zG ?_;refine vk R6 (ik:=.u64) (a:=1) rfl<|sC (Wi _ _ _) ?_;rintro _ j o⟨c,e,d,rfl,f⟩ y w;refine sT #[Dk false,Y c e d] ?_;refine sS [Dk false,Y c e d] ?_;intro l u p;refine zq ?_;exact⟨_,_,_,_,rfl,rfl,(f.t zt)⟩
theorem Wj(k:Nat){x:Rat}(e:IW h n sx ax lx cx x.num)(w:IW h n dx ex fx gx (denZ x)):VF (KO (k+2)) 167 [.agg #[Dk sx,Y ax lx cx,Dk dx,Y ex fx gx]] h n fun v=>∃b:Bool,v=Dk b∧(b=true↔x=0):=by
 refine zB (fn:=Tryz.f167) R4<|zG ?_;refine sB [Dk sx,Y ax lx cx,Dk dx,Y ex fx gx] ?_;intro i o p;refine zG ?_;refine sC (xv _ (e.t zt)) ?_;rintro _ j l⟨f,rfl,c⟩ u s;rcases K3 c with⟨rfl,a⟩|⟨rfl,a⟩
 .refine zf ?_;exact P8 fun d=>oU (FM.2 d) a
 refine zf ?_;exact P9 (FM.1 a)
theorem Wk(k:Nat){x:Rat}(c:IW h n sx ax lx cx x.num)(u:IW h n dx ex fx gx (denZ x)):VF (KO (k+2)) 166 [.agg #[Dk sx,Y ax lx cx,Dk dx,Y ex fx gx]] h n fun v=>∃s:Int,v=U .i64 s∧(s= -1∧x.num<0∨s=0∧x.num=0∨s=1∧0<x.num):=by
 refine zB (fn:=Tryz.f166) R4<|zG ?_;refine sB [Dk sx,Y ax lx cx,Dk dx,Y ex fx gx] ?_;intro d i l;refine zG ?_;refine sC (N4 _ (c.t zt)) ?_;rintro _ e f⟨j,rfl,a⟩ p o;rcases a with⟨rfl,a⟩|⟨rfl,a⟩|⟨rfl,a⟩
 .refine zf ?_;exact⟨_,rfl,Z⟩
 .refine zf ?_;exact⟨_,rfl,Z⟩
 refine zf ?_;exact⟨_,rfl,Z⟩
theorem qr(k:Nat){x:Rat}(a:IW h n sx ax lx cx x.num)(c:IW h n dx ex fx gx (denZ x)):CX (KO (k+2)) 167 [.agg #[Dk sx,Y ax lx cx,Dk dx,Y ex fx gx]] h n (BV (x=0)):=(Wj k a c).cx
theorem Qg(k:Nat){x:Rat}(a:IW h n sx ax lx cx x.num)(c:IW h n dx ex fx gx (denZ x)):CX (KO (k+2)) 166 [.agg #[Dk sx,Y ax lx cx,Dk dx,Y ex fx gx]] h n (MQ x.num):=(Wk k a c).cx
theorem denQ(k:Nat){x:Rat}(P:IW h n sx ax lx cx x.num)(j:IW h n dx ex fx gx (denZ x)):CX (KO (k+3)) 136 [.agg #[Dk sx,Y ax lx cx,Dk dx,Y ex fx gx]] h n (IV (x.den:Int)):=by
 refine zl (fn:=Tryz.f136) R4<|zG ?_;refine sB [Dk sx,Y ax lx cx,Dk dx,Y ex fx gx] ?_;intro p F J;refine sA ?_;intro s G K;refine zG ?_;refine sC (xv _ (j.t zt)) ?_;rintro _ u A⟨o,rfl,c⟩ N L;rcases K3 c with⟨rfl,a⟩|⟨rfl,a⟩
 .refine zG ?_;refine sS [Dk dx,Y ex fx gx] ?_;intro v H C;refine zq ?_;exact⟨_,_,_,_,rfl,(j.t zt).as (wV a)⟩
 refine zG ?_;refine sC (MT _ _ _) ?_;rintro _ w B⟨e,d,l,f,rfl,i⟩ Z1 M;refine sS [Dk e,Y d l f] ?_;intro y I D;refine zq ?_;exact⟨_,_,_,_,rfl,(i.t zt).as (by rw[yN.1 a];rfl)⟩
theorem uS(k:Nat){x:Int}{y:Int}(e:IW h n sx ax lx cx x)(f:IW h n sy ay ly cy y)(d:q.num=x)(c:(q.den:Int)=y):CX (KO (k+2)) 130 [.agg #[Dk sx,Y ax lx cx],.agg #[Dk sy,Y ay ly cy]] h n (QV q):=by
 refine zl (fn:=Tryz.f130) R4<|zG ?_;refine sB [Dk sx,Y ax lx cx] ?_;intro l C I;refine sB [Dk sy,Y ay ly cy] ?_;intro o D J;refine sA ?_;intro p F K;refine zG ?_;refine sC (qd _ (f.t zt)) ?_;rintro _ s w⟨j,rfl,a⟩ M L;rcases K3 a with⟨rfl,i⟩|⟨rfl,i⟩
 .refine zG ?_;refine sT #[Dk sx,Y ax lx cx,Dk sy,Y ay ly cy] ?_;refine sS [Dk sx,Y ax lx cx,Dk sy,Y ay ly cy] ?_;intro u G A;refine zq ?_;exact⟨_,_,_,_,_,_,_,_,rfl,(e.t zt).as (d.symm),(f.t zt).as (((wV (mt yN.1 (by have:=c;omega))).trans c).symm)⟩
 refine zG ?_;refine sT #[Dk sx,Y ax lx cx,Dk false,Y none 0 0] ?_;refine sS [Dk sx,Y ax lx cx,Dk false,Y none 0 0] ?_;intro v H B;refine zq ?_;exact⟨_,_,_,_,_,_,_,_,rfl,(e.t zt).as (d.symm),(GH _ _).as ((yN.2 (by have:=c;omega)).symm)⟩
theorem iK(k:Nat){x:Int}{y:Int}(g:GG h n)(s:IW h n sx ax lx cx x)(j:IW h n sy ay ly cy y)(hx:x.natAbs<BW)(hy:y.natAbs<BW)(a6:¬y=0):CX (KO (k+9)) 135 [.agg #[Dk sx,Y ax lx cx],.agg #[Dk sy,Y ay ly cy]] h n fun v I Z1=>∃b a l c g d e f,v=.tuple #[.agg #[Dk b,Y a l c],.agg #[Dk g,Y d e f]]∧IW I Z1 b a l c (x.tdiv ((DH x.natAbs y.natAbs:Nat):Int))∧IW I Z1 g d e f (y.tdiv ((DH x.natAbs y.natAbs:Nat):Int)):=by
 refine zl (fn:=Tryz.f135) R4<|zG ?_;refine sB [Dk sx,Y ax lx cx] ?_;intro R ag aq;refine sB [Dk sy,Y ay ly cy] ?_;intro S ah ar;refine sA ?_;intro T ai au;refine sA ?_;intro Z4 aj av;refine zG ?_;refine sC (qd _ (j.t zt)) ?_;rintro _ V a7⟨P,rfl,p⟩ b3 aw;rcases K3 p with⟨rfl,i⟩|⟨rfl,i⟩
 .refine zG ?_;refine sC (gcdX _ (g.t zt) (s.t zt) (j.t zt) KU KU) ?_;rintro _ W a8⟨B,u,L,F,rfl,o⟩ b4 az;refine sA ?_;intro Z3 ak b0;refine sS [Dk B,Y u L F] ?_;intro Z0 al ab;refine zG ?_;refine zn [0,0,3,0,0,31,63,127] rfl<|zH ?_;refine dC (quoX _ (s.t zt) (o.t zt) KU KU LM) ?_;rintro _ a0 a9⟨C,w,M,G,rfl,J⟩ b5 b1;refine zH ?_;refine dC (quoX _ (j.t zt) (o.t zt) KU KU LM) ?_;rintro _ a1 aa⟨D,A,N,H,rfl,K⟩ b6 b2;refine dS [Dk C,Y w M G] ?_;intro a2 am ac;refine dS [Dk D,Y A N H] ?_;intro a3 an ad;refine zq ?_;exact⟨_,_,_,_,_,_,_,_,rfl,(J.t zt),(K.t zt)⟩
 refine zG ?_;refine zn [0,0,1,7] rfl<|zH ?_;refine dS [Dk sx,Y ax lx cx] ?_;intro a4 ao ae;refine dS [Dk sy,Y ay ly cy] ?_;intro a5 ap af;refine zq ?_;exact⟨_,_,_,_,_,_,_,_,rfl,(s.t zt).as (by rw[i];simp),(j.t zt).as (by rw[i];simp)⟩
theorem Wl{x y:Rat}(e:¬denZ x=0)(f:¬denZ y=0)(h:x.num*((denZ y).tdiv ((DH (denZ x).natAbs (denZ y).natAbs:Nat):Int))+y.num*((denZ x).tdiv ((DH (denZ x).natAbs (denZ y).natAbs:Nat):Int))=0):x+y=0:=by
 obtain⟨d,l,r,N,s,a,i,j,o,c,p⟩:=AddS.mk' e f;rw[c]at h;rw[←FM,a.res.1,h,Kr]
theorem iP{x y:Rat}(j:¬denZ x=0)(c:¬denZ y=0):(x+y).num=(x.num*((denZ y).tdiv ((DH (denZ x).natAbs (denZ y).natAbs:Nat):Int))+y.num*((denZ x).tdiv ((DH (denZ x).natAbs (denZ y).natAbs:Nat):Int))).tdiv ((DH (x.num*((denZ y).tdiv ((DH (denZ x).natAbs (denZ y).natAbs:Nat):Int))+y.num*((denZ x).tdiv ((DH (denZ x).natAbs (denZ y).natAbs:Nat):Int))).natAbs (((DH (denZ x).natAbs (denZ y).natAbs:Nat):Int)).natAbs:Nat):Int)∧((x+y).den:Int)=((denZ x).tdiv ((DH (denZ x).natAbs (denZ y).natAbs:Nat):Int))*((denZ y).tdiv ((DH (x.num*((denZ y).tdiv ((DH (denZ x).natAbs (denZ y).natAbs:Nat):Int))+y.num*((denZ x).tdiv ((DH (denZ x).natAbs (denZ y).natAbs:Nat):Int))).natAbs (((DH (denZ x).natAbs (denZ y).natAbs:Nat):Int)).natAbs:Nat):Int)):=by
 obtain⟨d,l,r,N,s,a,o,p,e,f,i⟩:=AddS.mk' j c;rw[f,i N rfl,e];refine⟨a.res.1,?_⟩;rw[a.res.2,E0,wV c,ju]
theorem Qh{x y:Rat}(c:¬denZ x=0)(d:¬denZ y=0)(h:((DH (denZ x).natAbs (denZ y).natAbs:Nat):Int)=1):(x+y).num=x.num*((denZ y).tdiv ((DH (denZ x).natAbs (denZ y).natAbs:Nat):Int))+y.num*((denZ x).tdiv ((DH (denZ x).natAbs (denZ y).natAbs:Nat):Int))∧((x+y).den:Int)=denZ x*denZ y:=by
 have a:=iP c d;rw[h]at a⊢;have e:(1:Int).natAbs=1:=rfl;rw[e,JB,show((1:Nat):Int)=1 from rfl,GZ,GZ,GZ]at a;rw[GZ,GZ];exact a
theorem addQ(k:Nat){x:Rat}{y:Rat}(g:GG h n)(s:IW h n sx ax lx cx x.num)(f:IW h n dx ex fx gx (denZ x))(u:IW h n sy ay ly cy y.num)(i:IW h n dy ey fy gy (denZ y)){a:Nat}(hx:Sz a x)(hy:Sz b y)(dz:a+b+1≤2496):CX (KO (k+9)) 88 [.agg #[Dk sx,Y ax lx cx,Dk dx,Y ex fx gx],.agg #[Dk sy,Y ay ly cy,Dk dy,Y ey fy gy]] h n (QV (x+y)):=by
 obtain⟨au,ar⟩:x.num.natAbs<2^a∧(denZ x).natAbs<2^a:=⟨hx.1,hx.z⟩;obtain⟨aw,av⟩:y.num.natAbs<2^b∧(denZ y).natAbs<2^b:=⟨hy.1,hy.z⟩;have bn:=uR au Z;have bm:=uR ar Z;have bp:=uR aw Z;have bo:=uR av Z;refine zl (fn:=Tryz.f88) R4<|zG ?_;refine sB [Dk sx,Y ax lx cx,Dk dx,Y ex fx gx] ?_;intro cm fa fu;refine sB [Dk sy,Y ay ly cy,Dk dy,Y ey fy gy] ?_;intro cn fb fv;refine sA ?_;intro co fc fw;refine zG ?_;refine sC (xv _ (f.t zt)) ?_;rintro _ cp e8⟨bz,rfl,P⟩ gt fz;rcases K3 P with⟨rfl,c⟩|⟨rfl,c⟩
 .refine zG ?_;refine sC (xv _ (f.t zt)) ?_;rintro _ cq e9⟨c0,rfl,R⟩ gu g0;rcases K3 R with⟨rfl,d⟩|⟨rfl,d⟩
  .refine zG ?_;refine sC (xv _ (i.t zt)) ?_;rintro _ cr ea⟨c1,rfl,S⟩ gv g1;rcases K3 S with⟨rfl,e⟩|⟨rfl,e⟩
   .refine zG ?_;refine sC (gcdX _ (g.t zt) (f.t zt) (i.t zt) KU KU) ?_;rintro _ cs eb⟨a5,Z3,bf,ac,rfl,l⟩ gw g2;refine sA ?_;intro ct fd g3;refine sS [Dk a5,Y Z3 bf ac] ?_;intro cu fe ez;refine zG ?_;refine zn [0,1,0,7,0,16,0,127,0,0,1023,2047] rfl<|zH ?_;refine dC (quoX _ (i.t zt) (l.t zt) KU KU LM) ?_;rintro _ cv ec⟨a6,Z0,bg,ad,rfl,az⟩ gz g4;refine zH ?_;refine dC (quoX _ (f.t zt) (l.t zt) KU KU LM) ?_;rintro _ cw ed⟨a7,a0,bh,ae,rfl,I⟩ i0 g5;refine dB [Dk false,Y none 0 0] ?_;intro cz ff g6;refine dB [Dk false,Y none 0 0] ?_;intro d0 fg g7;refine dS [Dk a6,Y Z0 bg ad] ?_;intro d1 fh f0;refine dS [Dk a7,Y a0 bh ae] ?_;intro d2 fi f1;refine zG ?_;refine zn [0,1,0,7,0,16,0,127,255,0,1023] rfl<|zH ?_;refine dC (mulX _ (s.t zt) (az.t zt) KU KU) ?_;rintro _ d3 ee⟨c2,bq,e0,ce,rfl,b0⟩ i1 g8;refine zH ?_;refine dC (mulX _ (u.t zt) (I.t zt) KU KU) ?_;rintro _ d4 ef⟨c3,br,e1,cf,rfl,b1⟩ i2 g9;refine dC (addX _ (b0.t zt) b1 KU KU) ?_;rintro _ d5 eg⟨a8,a1,bi,af,rfl,o⟩ i3 ga;refine dB [Dk false,Y none 0 0] ?_;intro d6 fj gb;refine dS [Dk a8,Y a1 bi af] ?_;intro d7 fk f2;refine zG ?_;refine sC (xv _ (o.t zt)) ?_;rintro _ d8 eh⟨c4,rfl,T⟩ i4 gc;rcases K3 T with⟨rfl,N⟩|⟨rfl,N⟩
    .refine zG ?_;refine sC (qd _ (l.t zt)) ?_;rintro _ d9 ei⟨c5,rfl,Z4⟩ i5 gd;rcases K3 Z4 with⟨rfl,p⟩|⟨rfl,p⟩
     .refine zG ?_;refine sC (gcdX _ (g.t zt) (o.t zt) (l.t zt) KU KU) ?_;rintro _ da ej⟨a9,a2,bj,ag,rfl,J⟩ i6 ge;refine sA ?_;intro db fl gf;refine sS [Dk a9,Y a2 bj ag] ?_;intro dc fm f3;refine zG ?_;refine zn [0,0,3,0,0,16,0,119,255,511,1023] rfl<|zH ?_;refine dC (quoX _ (o.t zt) (J.t zt) KU KU LM) ?_;rintro _ dd ek⟨c6,bs,e2,cg,rfl,b2⟩ i7 gg;refine zH ?_;refine dC (quoX _ (i.t zt) (J.t zt) KU KU LM) ?_;rintro _ de el⟨c7,bt,e3,ch,rfl,b3⟩ i8 gh;refine dC (mulX _ (I.t zt) b3 KU KU) ?_;rintro _ df em⟨c8,bu,e4,ci,rfl,b4⟩ i9 gi;refine dC (uS _ (b2.t zt) b4 (iP d e).1 (iP d e).2) ?_;rintro _ dg en⟨aa,a3,bk,ah,aj,al,an,ap,rfl,b5,bd⟩ ia gj;refine dS [Dk aa,Y a3 bk ah,Dk aj,Y al an ap] ?_;intro dh fo f4;refine zq ?_;exact⟨_,_,_,_,_,_,_,_,rfl,(b5.t zt),(bd.t zt)⟩
     refine zG ?_;refine zn [0,0,2,0,8,30,63,127] rfl<|zH ?_;refine dC (mulX _ (f.t zt) (i.t zt) KU KU) ?_;rintro _ di eo⟨c9,bv,e5,cj,rfl,b6⟩ ib gk;refine dC (uS _ (o.t zt) b6 (Qh d e p).1 (Qh d e p).2) ?_;rintro _ dj ep⟨ab,a4,bl,ai,ak,am,ao,aq,rfl,b7,be⟩ ic gl;refine dS [Dk ab,Y a4 bl ai,Dk ak,Y am ao aq] ?_;intro dk fp f5;refine zq ?_;exact⟨_,_,_,_,_,_,_,_,rfl,(b7.t zt),(be.t zt)⟩
    refine zG ?_;refine sT #[Dk false,Y none 0 0,Dk false,Y none 0 0] ?_;refine sS [Dk false,Y none 0 0,Dk false,Y none 0 0] ?_;intro dl fq f6;refine zq ?_;exact(show x+y=0 from Wl (c) (e) N)▸QV.zero _ _
   refine zG ?_;refine zn [0,1,0,4,15,0,32,127,0,256,1023,2047] rfl<|zH ?_;refine dC (mulX _ (u.t zt) (f.t zt) KU KU) ?_;rintro _ dm eq⟨ca,bw,e6,ck,rfl,b8⟩ id gm;refine zH ?_;refine dC (addX _ b8 (s.t zt) KU KU) ?_;rintro _ dn er⟨B,v,K,F,rfl,b9⟩ ie gn;refine zH ?_;refine dT #[Dk B,Y v K F,Dk dx,Y ex fx gx] ?_;refine dS [Dk B,Y v K F,Dk dx,Y ex fx gx] ?_;intro dp fr f7;refine zq ?_;exact⟨_,_,_,_,_,_,_,_,rfl,(b9.t zt).as ((Qe d e).1.symm),(f.t zt).as ((Qe d e).2.symm)⟩
  exact oU d c
 refine zG ?_;refine sC (xv _ (i.t zt)) ?_;rintro _ dq es⟨cb,rfl,V⟩ ig go;rcases K3 V with⟨rfl,j⟩|⟨rfl,j⟩
 .refine zG ?_;refine sC (xv _ (f.t zt)) ?_;rintro _ dr et⟨cc,rfl,W⟩ ii gp;rcases K3 W with⟨rfl,Z1⟩|⟨rfl,Z1⟩
  .exact oU c Z1
  refine zG ?_;refine zn [0,1,0,4,15,0,32,127,0,256,1023,2047] rfl<|zH ?_;refine dC (mulX _ (s.t zt) (i.t zt) KU KU) ?_;rintro _ ds eu⟨cd,bx,e7,cl,rfl,ba⟩ ij gq;refine zH ?_;refine dC (addX _ ba (u.t zt) KU KU) ?_;rintro _ dt ev⟨C,w,L,G,rfl,bb⟩ ik gr;refine zH ?_;refine dT #[Dk C,Y w L G,Dk dy,Y ey fy gy] ?_;refine dS [Dk C,Y w L G,Dk dy,Y ey fy gy] ?_;intro du fs f8;refine zq ?_;exact⟨_,_,_,_,_,_,_,_,rfl,(bb.t zt).as ((N5 c j).1.symm),(i.t zt).as ((N5 c j).2.symm)⟩
 refine zG ?_;refine sC (addX _ (s.t zt) (u.t zt) KU KU) ?_;rintro _ dv ew⟨D,A,M,H,rfl,bc⟩ il gs;refine sT #[Dk D,Y A M H,Dk false,Y none 0 0] ?_;refine sS [Dk D,Y A M H,Dk false,Y none 0 0] ?_;intro dw ft f9;refine zq ?_;exact⟨_,_,_,_,_,_,_,_,rfl,(bc.t zt).as ((No c j).1.symm),(GH _ _).as ((No c j).2.symm)⟩
theorem aw{x y:Rat}(d:denZ x=0)(e:denZ y=0):(x*y).num=x.num*y.num∧denZ (x*y)=0:=by
 rw[yN]at*
 have a:=qo x y;have c:=qp x y;rw[d,e]at a c;simp at a c;exact⟨a,c⟩
theorem jV(x y:Rat):(x*y).num=(x.num.tdiv ((DH x.num.natAbs ((y.den:Int)).natAbs:Nat):Int))*(y.num.tdiv ((DH y.num.natAbs ((x.den:Int)).natAbs:Nat):Int))∧((x*y).den:Int)=((x.den:Int).tdiv ((DH y.num.natAbs ((x.den:Int)).natAbs:Nat):Int))*((y.den:Int).tdiv ((DH x.num.natAbs ((y.den:Int)).natAbs:Nat):Int)):=by
 simp only[DQ,ju];have h:=We x y;rw[GS (Gj.2 (FW _ _)),GS (Gj.2 (FW _ _))];refine⟨h.1,?_⟩;rw[h.2,E0]
theorem mulQ(k:Nat){x:Rat}{y:Rat}(g:GG h n)(c:IW h n sx ax lx cx x.num)(C:IW h n dx ex fx gx (denZ x))(d:IW h n sy ay ly cy y.num)(D:IW h n dy ey fy gy (denZ y)){a:Nat}(hx:Sz a x)(B:Sz b y)(e0:a+b≤2496):CX (KO (k+10)) 90 [.agg #[Dk sx,Y ax lx cx,Dk dx,Y ex fx gx],.agg #[Dk sy,Y ay ly cy,Dk dy,Y ey fy gy]] h n (QV (x*y)):=by
 obtain⟨ap,an⟩:x.num.natAbs<2^a∧(denZ x).natAbs<2^a:=⟨hx.1,hx.z⟩;obtain⟨au,aq⟩:y.num.natAbs<2^b∧(denZ y).natAbs<2^b:=⟨B.1,B.z⟩;have br:=uR ap Z;have bp:=uR an Z;have bu:=uR au Z;have bs:=uR aq Z;have e1:=x.den_pos;have e2:=y.den_pos;have ao:((x.den:Int)).natAbs<2^a:=hx.2;have ar:((y.den:Int)).natAbs<2^b:=B.2;have bq:=uR ao Z;have bt:=uR ar Z;refine zl (fn:=Tryz.f90) R4<|zG ?_;refine sB [Dk sx,Y ax lx cx,Dk dx,Y ex fx gx] ?_;intro co f9 g0;refine sB [Dk sy,Y ay ly cy,Dk dy,Y ey fy gy] ?_;intro cp fa g1;refine sA ?_;intro cq fb g2;refine zG ?_;refine sC (xv _ (c.t zt)) ?_;rintro _ cr eb⟨c4,rfl,u⟩ gu g3;rcases K3 u with⟨rfl,p⟩|⟨rfl,p⟩
 .refine zG ?_;refine sC (xv _ (d.t zt)) ?_;rintro _ cs ec⟨c5,rfl,v⟩ gv g4;rcases K3 v with⟨rfl,s⟩|⟨rfl,s⟩
  .refine zG ?_;refine sC (xv _ (C.t zt)) ?_;rintro _ ct ed⟨c6,rfl,w⟩ gw g5;rcases K3 w with⟨rfl,e⟩|⟨rfl,e⟩
   .refine zG ?_;refine zn [0,1,0,4,15,31,63,63,0,0,895,2047] rfl<|zH ?_;refine dC (denQ _ (d.t zt) (D.t zt)) ?_;rintro _ cu ee⟨c7,bv,e3,cg,rfl,av⟩ gz g6;refine dC (iK _ (g.t zt) (c.t zt) av KU KU Z) ?_;rintro _ cv ef⟨L,F,bj,S,ah,Z0,a5,ab,rfl,az,bd⟩ i0 g7;refine zH ?_;refine dB [Dk false,Y none 0 0] ?_;intro cw fc g8;refine dB [Dk false,Y none 0 0] ?_;intro cz fd g9;refine dS [Dk L,Y F bj S] ?_;intro d0 fe eu;refine dS [Dk ah,Y Z0 a5 ab] ?_;intro d1 ff ev;refine zG ?_;refine zn [0,1,0,4,15,31,63,63,0,0,895,2047] rfl<|zH ?_;refine dC (denQ _ (c.t zt) (C.t zt)) ?_;rintro _ d2 eg⟨c8,bw,e4,ch,rfl,b0⟩ i1 ga;refine dC (iK _ (g.t zt) (d.t zt) b0 KU KU Z) ?_;rintro _ d3 eh⟨M,G,bk,T,ai,a0,a6,ac,rfl,b1,be⟩ i2 gb;refine zH ?_;refine dB [Dk false,Y none 0 0] ?_;intro d4 fg gc;refine dB [Dk false,Y none 0 0] ?_;intro d5 fh gd;refine dS [Dk M,Y G bk T] ?_;intro d6 fi ew;refine dS [Dk ai,Y a0 a6 ac] ?_;intro d7 fj ez;refine zG ?_;refine zn [0,0,3,0,0,31,63,127] rfl<|zH ?_;refine dC (mulX _ (az.t zt) (b1.t zt) KU KU) ?_;rintro _ d8 ei⟨c9,bx,e5,ci,rfl,b2⟩ i3 ge;refine zH ?_;refine dC (mulX _ (be.t zt) (bd.t zt) KU KU) ?_;rintro _ d9 ej⟨ca,bz,e6,cj,rfl,b3⟩ i4 gf;refine dC (uS _ (b2.t zt) b3 (jV x y).1 (jV x y).2) ?_;rintro _ da ek⟨N,H,bl,Z4,a1,a7,ad,aj,rfl,b4,bf⟩ i5 gg;refine dS [Dk N,Y H bl Z4,Dk a1,Y a7 ad aj] ?_;intro db fk f0;refine zq ?_;exact⟨_,_,_,_,_,_,_,_,rfl,(b4.t zt),(bf.t zt)⟩
   refine zG ?_;refine sC (xv _ (D.t zt)) ?_;rintro _ dc el⟨cb,rfl,A⟩ i6 gh;rcases K3 A with⟨rfl,f⟩|⟨rfl,f⟩
   .refine zG ?_;refine zn [0,1,0,4,15,31,63,63,0,0,895,2047] rfl<|zH ?_;refine dC (denQ _ (d.t zt) (D.t zt)) ?_;rintro _ dd em⟨cc,c0,e7,ck,rfl,b5⟩ i7 gi;refine dC (iK _ (g.t zt) (c.t zt) b5 KU KU Z) ?_;rintro _ de en⟨Z1,I,bm,V,ak,a2,a8,ae,rfl,b6,bg⟩ i8 gj;refine zH ?_;refine dB [Dk false,Y none 0 0] ?_;intro df fl gk;refine dB [Dk false,Y none 0 0] ?_;intro dg fm gl;refine dS [Dk Z1,Y I bm V] ?_;intro dh fo f1;refine dS [Dk ak,Y a2 a8 ae] ?_;intro di fp f2;refine zG ?_;refine zn [0,1,0,4,15,31,63,63,0,0,895,2047] rfl<|zH ?_;refine dC (denQ _ (c.t zt) (C.t zt)) ?_;rintro _ dj eo⟨cd,c1,e8,cl,rfl,b7⟩ i9 gm;refine dC (iK _ (g.t zt) (d.t zt) b7 KU KU Z) ?_;rintro _ dk ep⟨P,J,bn,W,al,a3,a9,af,rfl,b8,bh⟩ ia gn;refine zH ?_;refine dB [Dk false,Y none 0 0] ?_;intro dl fq go;refine dB [Dk false,Y none 0 0] ?_;intro dm fr gp;refine dS [Dk P,Y J bn W] ?_;intro dn fs f3;refine dS [Dk al,Y a3 a9 af] ?_;intro dp ft f4;refine zG ?_;refine zn [0,0,3,0,0,31,63,127] rfl<|zH ?_;refine dC (mulX _ (b6.t zt) (b8.t zt) KU KU) ?_;rintro _ dq eq⟨ce,c2,e9,cm,rfl,b9⟩ ib gq;refine zH ?_;refine dC (mulX _ (bh.t zt) (bg.t zt) KU KU) ?_;rintro _ dr er⟨cf,c3,ea,cn,rfl,ba⟩ ic gr;refine dC (uS _ (b9.t zt) ba (jV x y).1 (jV x y).2) ?_;rintro _ ds es⟨R,K,bo,Z3,a4,aa,ag,am,rfl,bb,bi⟩ id gs;refine dS [Dk R,Y K bo Z3,Dk a4,Y aa ag am] ?_;intro dt fu f5;refine zq ?_;exact⟨_,_,_,_,_,_,_,_,rfl,(bb.t zt),(bi.t zt)⟩
   refine zG ?_;refine sC (mulX _ (c.t zt) (d.t zt) KU KU) ?_;rintro _ du et⟨j,i,o,l,rfl,bc⟩ ie gt;refine sT #[Dk j,Y i o l,Dk false,Y none 0 0] ?_;refine sS [Dk j,Y i o l,Dk false,Y none 0 0] ?_;intro dv fv f6;refine zq ?_;exact⟨_,_,_,_,_,_,_,_,rfl,(bc.t zt).as ((aw e f).1.symm),(GH _ _).as ((aw e f).2.symm)⟩
  refine zG ?_;refine sT #[Dk false,Y none 0 0,Dk false,Y none 0 0] ?_;refine sS [Dk false,Y none 0 0,Dk false,Y none 0 0] ?_;intro dw fw f7;refine zq ?_;exact(show x*y=0 from by rw[FM.1 s,Gg])▸QV.zero _ _
 refine zG ?_;refine sT #[Dk false,Y none 0 0,Dk false,Y none 0 0] ?_;refine sS [Dk false,Y none 0 0,Dk false,Y none 0 0] ?_;intro dz fz f8;refine zq ?_;exact(show x*y=0 from by rw[FM.1 p,IE])▸QV.zero _ _
theorem wo{S:List (List UInt8)}{h:HF}{n:Nat}{a:Option Addr}{len cap:Nat}(d:Sl h n 1 (Y a len cap) (strs S)):len=O S:=by
 obtain⟨g,f,b,e,c⟩:=d.len;injection e with e1 e2 e3
 rw[bM]at c;omega
theorem Wm(m:Nat)(l:List Value):O (K1 m l)=m*O l:=by
 induction m with
 |zero=>simp[K1]
 |succ m ih=>rw[K1,Do,ih,Fb];omega
def BX:Nat:=18446744073709551616^60
theorem uf{e:Nat}(h:m<2^e)(j:e≤3840):m<BX:=by
 have f:e≤64*60:=j;generalize hk:60=k at f;have i:m<(2^64)^k:=by
  rw[←Nat.pow_mul];exact DY h (DJ zd f)
 subst hk;exact i
theorem Wo{x y:Int}{a:Nat}(f:x.natAbs<2^a)(i:y.natAbs<2^b)(h:a+b≤3840):(x*y).natAbs<BX:=uf (vo f i) h
theorem Wp{x y u v:Int}{a:Nat}(f:x.natAbs<2^a)(i:y.natAbs<2^b)(hu:u.natAbs<2^b)(hv:v.natAbs<2^a)(h:a+b+1≤3840):(x*y+u*v).natAbs<BX:=
 uf (kd (vo f i) (by rw[EY a b];exact vo hu hv)) h
theorem Wq{x y u v:Int}{a:Nat}(o:x.natAbs<2^a)(p:y.natAbs<2^d)(hu:u.natAbs<2^b)(hv:v.natAbs<2^c)(f:a+d≤3839)(i:b+c≤3839):(x*y+u*v).natAbs<BX:=by
 obtain⟨e,j⟩:∃e,e=3839:=⟨_,rfl⟩;rw[←j]at f i;exact uf (e:=e+1) (kd (DY (vo o p) (DJ zd f)) (DY (vo hu hv) (DJ zd i))) Z
theorem K5{x:Int}(h:x.natAbs<BX:=by first|assumption|exact Wo ‹_› ‹_› Z|exact Wp ‹_› ‹_› ‹_› ‹_› Z|exact Wq ‹_› ‹_› ‹_› ‹_› Z Z|exact uf (e:=1) zd zd):x.natAbs<BX:=h
def BD:Nat:=BX
theorem N8{e:Nat}(h:m<2^e)(f:e≤3840):m<BD:=uf h f
theorem Qi{x y:Int}{a:Nat}(f:x.natAbs<2^a)(i:y.natAbs<2^b)(h:a+b≤3840):(x*y).natAbs<BD:=N8 (vo f i) h
theorem Np{x:Int}(h:x.natAbs<BD:=by first|assumption|exact Qi ‹_› ‹_› Z|exact N8 (e:=1) zd zd):x.natAbs<BD:=h
def UW(h:HF)(n:Nat)(a:Option Addr)(l c m:Nat):Prop:=∃L,Sl h n 1 (Y a l c) (u32s L)∧Norm L∧val L=m
theorem UW.ext{h:HF}{n:Nat}(i:UW h n a l c m)(e:KN n h h')(p:n≤n'):UW h' n' a l c m:=by
 obtain⟨L,f,j,o⟩:=i;exact⟨L,f.ext e p,j,o⟩
theorem UW.only{h:HF}{n:Nat}(i:UW h n a l c m)(hp:h bb=some (.row cs e))(hu:cs.all nu=true)(p:Only bb h h'):UW h' n a l c m:=by
 obtain⟨L,f,j,o⟩:=i;exact⟨L,f.only32 hp hu p,j,o⟩
theorem UW.t{h:HF}{n:Nat}(i:UW h n a l c m)(t:Tr n h n' h'):UW h' n' a l c m:=by
 obtain⟨L,f,j,o⟩:=i;exact⟨L,f.trG (fun x p=>by obtain⟨d,_,rfl⟩:=EX.1 p;rfl) t,j,o⟩
theorem UW.zero{h:HF}{n:Nat}(i:UW h n a l c m):l=0↔m=0:=by
 obtain⟨L,f,j,o⟩:=i;have e:=f.lenU;rw[←o,j.zero,←DA,e]
theorem UW.nil(h:HF)(n:Nat):UW h n none 0 0 0:=⟨[],.nil (.inl rfl),Norm.nil,rfl⟩
def UI(h:HF)(n:Nat)(b:Bool)(a:Option Addr)(l c:Nat)(x:Int):Prop:=b=decide (x<0)∧UW h n a l c x.natAbs
theorem UI.ext{h:HF}{n:Nat}{b:Bool}{x:Int}(i:UI h n b a l c x)(e:KN n h h')(f:n≤n'):UI h' n' b a l c x:=⟨i.1,i.2.ext e f⟩
theorem UI.only{h:HF}{n:Nat}{b:Bool}{x:Int}(i:UI h n b a l c x)(hp:h bb=some (.row cs e))(hu:cs.all nu=true)(f:Only bb h h'):UI h' n b a l c x:=⟨i.1,i.2.only hp hu f⟩
theorem UI.t{h:HF}{n:Nat}{b:Bool}{x:Int}(i:UI h n b a l c x)(t:Tr n h n' h'):UI h' n' b a l c x:=⟨i.1,i.2.t t⟩
theorem UI.x{h:HF}{n:Nat}{b:Bool}{x:Int}(i:UI h n b a l c x)(t:Tx n h n' h'):UI h' n' b a l c x:=i.ext t.2 t.1
theorem UI.as{h:HF}{n:Nat}{b:Bool}{x y:Int}(i:UI h n b a l c x)(e:x=y):UI h n b a l c y:=e▸i
theorem UI.lt{h:HF}{n:Nat}{x:Int}(i:UI h n true a l c x):x<0:=of_decide_eq_true i.1.symm
theorem UI.ge{h:HF}{n:Nat}{x:Int}(i:UI h n false a l c x):0≤x:=Kt.1 (of_decide_eq_false i.1.symm)
theorem UI.zero(h:HF)(n:Nat):UI h n false none 0 0 0:=⟨rfl,UW.nil h n⟩
def UV(m:Nat)(v:Value)(h:HF)(n:Nat):Prop:=∃a l c,v=Y a l c∧UW h n a l c m
def Ml(x:Int)(v:Value)(h:HF)(n:Nat):Prop:=∃b a l c,v=.agg #[Dk b,Y a l c]∧UI h n b a l c x
def NQ(q:Rat)(v:Value)(h:HF)(n:Nat):Prop:=∃b a l c d e f g,v=.agg #[Dk b,Y a l c,Dk d,Y e f g]∧UI h n b a l c q.num∧UI h n d e f g (denZ q)
theorem NQ.zero(h:HF)(n:Nat):NQ 0 (.agg #[Dk false,Y none 0 0,Dk false,Y none 0 0]) h n:=⟨_,_,_,_,_,_,_,_,rfl,UI.zero h n,UI.zero h n⟩
theorem Norm.len800(h:Norm L)(f:val L<BX):O L≤1200:=by
 refine h.len_pow (DY f ?_);unfold BX;decide+kernel
theorem UI.r{h:HF}{n:Nat}{b:Bool}{x:Int}(i:UI h n b a l c x):∃L,IntR h n (Dk b) (Y a l c) x L:=by
 obtain⟨e,L,f,j,o⟩:=i;exact⟨L,by rw[e],f,j,o⟩
theorem IntR.ui{h:HF}{n:Nat}{c1 c2:Value}{x:Int}(i:IntR h n c1 c2 x L):∃b a l c,c1=Dk b∧c2=Y a l c∧UI h n b a l c x:=by
 obtain⟨rfl,f,j,o⟩:=i;obtain⟨a,l,c,rfl,_⟩:=f.len;exact⟨_,_,_,_,rfl,rfl,rfl,L,f,j,o⟩
theorem RatR.nq{h:HF}{n:Nat}(r:RatR h n n1 n2 d1 d2 q ln ld):NQ q (.agg #[n1,n2,d1,d2]) h n:=by
 obtain⟨b,a,l,c,rfl,rfl,i⟩:=r.num.ui;obtain⟨_,rfl,f,j,o⟩:=r;obtain⟨p,u,s,rfl,_⟩:=f.len;refine⟨_,_,_,_,_,_,_,_,rfl,i,?_,ld,f,j,?_⟩
 .unfold denZ;split<;>simp
 rw[o];unfold denZ;split<;>simp
theorem NQ.r{h:HF}{n:Nat}{b d:Bool}{e:Option Addr}{f:Nat}(i:UI h n b a l c q.num)(j:UI h n d e f g (denZ q)):∃ln ld,RatR h n (Dk b) (Y a l c) (Dk d) (Y e f g) q ln ld∧(∀m,Sz m q→m≤3840→O ln≤1200∧O ld≤1200):=by
 obtain⟨ln,o⟩:=i.r;obtain⟨B,ld,C,p,s⟩:=j;refine⟨ln,ld,⟨o,?_,C,p,?_⟩,fun m A u=>⟨o.norm.len800 (by rw[o.val];exact uf A.1 u),p.len800 (by rw[s];exact uf A.z u)⟩⟩
 .rw[B];unfold denZ;split<;>simp
 rw[s];unfold denZ;split<;>simp
theorem NewU.uv{n:Nat}{h:HF}(r:NewU n h v h' n' w L)(e:val L=m):Gw n h (UV m) v h' n' w:=by
 obtain⟨f,i,j,a,c,rfl,o,p,_⟩:=r;exact⟨f,i,j,_,_,_,rfl,L,o,p,e⟩
theorem sm(k:Nat){h:HF}{n:Nat}(i:UW h n a l c m)(neg:Bool):CX (KO (k+1)) 95 [Dk neg,Y a l c] h n (Ml (Lw neg m)):=by
 refine yD (uL k h n neg a l c) ?_;rintro _ h' n' _⟨rfl,rfl,rfl,f⟩;refine⟨rfl,DM _,f,_,_,_,_,rfl,?_,?_⟩
 .rw[P4];have:=i.zero;congr 1;by_cases h0:0<l
  .rw[kA h0,kA Z]
  rw[aA h0,aA Z]
 rw[P3];exact i.ext f zs
section
variable (k:Nat){h:HF}{n:Nat}{a1 a2:Option Addr}{l1 c1 l2 c2 x y:Nat}
theorem Qj(i:UW h n a1 l1 c1 x)(j:UW h n a2 l2 c2 y)(f:x<BX∧y<BX):CX (KO (k+2)) 110 [Y a1 l1 c1,Y a2 l2 c2] h n (UV (x+y)):=by
 obtain⟨A,s,o,rfl⟩:=i;obtain⟨C,u,p,rfl⟩:=j;have:=o.len800 f.1;have:=p.len800 f.2;refine yD (fU k s u o.1 p.1 Z) ?_;exact CM
theorem My(i:UW h n a1 l1 c1 x)(j:UW h n a2 l2 c2 y)(B:x<BX∧y<BX)(f:y≤x):CX (KO (k+2)) 112 [Y a1 l1 c1,Y a2 l2 c2] h n (UV (x-y)):=by
 obtain⟨A,s,o,rfl⟩:=i;obtain⟨C,u,p,rfl⟩:=j;have:=o.len800 B.1;refine yD (Ut k s u o.1 p.1 Z (o.len_le p f) f) ?_;exact CM
theorem Nq(i:UW h n a1 l1 c1 x)(j:UW h n a2 l2 c2 y)(f:x<BX∧y<BX):CX (KO (k+2)) 105 [Y a1 l1 c1,Y a2 l2 c2] h n (UV (x*y)):=by
 obtain⟨A,s,o,rfl⟩:=i;obtain⟨C,u,p,rfl⟩:=j;have:=o.len800 f.1;have:=p.len800 f.2;refine yD (gI k s u o.1 p.1 Z) ?_;exact CM
theorem Qk(i:UW h n a1 l1 c1 x)(j:UW h n a2 l2 c2 y)(s:x<BX∧y<BX):CX (KO (k+1)) 111 [Y a1 l1 c1,Y a2 l2 c2] h n (MQ ((x:Int)-y)):=by
 obtain⟨A,o,f,rfl⟩:=i;obtain⟨C,p,u,rfl⟩:=j;have:=f.len800 s.1;refine(fH k o p f u Z).cx.mono ?_;rintro _ _ _ rfl;refine⟨_,rfl,?_⟩;rcases Nat.lt_trichotomy (val A) (val C)with h|h|h
 .exact .inl ⟨vW h,Z⟩
 .exact .inr (.inl ⟨by rw[h];exact qy _,Z⟩)
 exact .inr (.inr ⟨uz h,Z⟩)
theorem Wr(h:HF)(n:Nat):CX (KO (k+2)) 73 [U .i64 1] h n (Ml 1):=by
 refine yD (pG k h n 1 zd) ?_;rintro _ h' n' w⟨f,j,o,c1,c2,L,rfl,r,_⟩;obtain⟨b,a,l,c,rfl,rfl,i⟩:=r.ui;exact⟨f,j,o,_,_,_,_,rfl,i⟩
end
theorem Ws(k:Nat){h:HF}{n:Nat}{b:Bool}{x:Int}(i:UI h n b a l c x):CX (KO (k+2)) 104 [.agg #[Dk b,Y a l c]] h n (Ml (-x)):=by
 obtain⟨L,r⟩:=i.r;refine yD (N1 k r) ?_;rintro _ h' n' w⟨f,j,o,c1,rfl,r⟩;obtain⟨b,a,l,c,rfl,e,i⟩:=r.ui;cases e;exact⟨f,j,o,_,_,_,_,rfl,i⟩
theorem mR(k:Nat){h:HF}{n:Nat}{f o:Bool}{a1 a2:Option Addr}{l1 c1 l2 c2:Nat}{x y:Int}(i:UI h n f a1 l1 c1 x)(j:UI h n o a2 l2 c2 y)(G:x.natAbs<BX)(H:y.natAbs<BD)(p:y≠0)(F:Ef x y=q):CX (KO (k+5)) 71 [.agg #[Dk f,Y a1 l1 c1],.agg #[Dk o,Y a2 l2 c2]] h n (NQ q):=by
 obtain⟨A,r⟩:=i.r;obtain⟨C,s⟩:=j.r;have:=r.norm.len800 (by rw[r.val];exact G);have:=s.norm.len800 (by rw[s.val];exact H);refine yD (PM k r s p Z) ?_;rintro _ h' n' w⟨u,B,D,K,M,I,J,ln,ld,rfl,r,_⟩;rw[F]at r;exact⟨u,B,D,r.nq⟩
theorem mA(k:Nat){h:HF}{n:Nat}{b d:Bool}{e:Option Addr}{f:Nat}(i:UI h n b a l c q.num)(j:UI h n d e f g (denZ q)):CX (KO (k+2)) 31 [.agg #[Dk b,Y a l c,Dk d,Y e f g]] h n (MQ q.num):=by
 obtain⟨ln,ld,r,_⟩:=NQ.r i j;refine(ag k r).cx.mono ?_;rintro _ _ _ rfl;refine⟨_,rfl,?_⟩;rcases Iy q.num 0 with h|h|h
 .exact .inl ⟨HV h,h⟩
 .exact .inr (.inl ⟨by rw[h];rfl,h⟩)
 exact .inr (.inr ⟨GX h,h⟩)
theorem Ql(k:Nat){h:HF}{n:Nat}{b d:Bool}{e:Option Addr}{f:Nat}(i:UI h n b a l c q.num)(j:UI h n d e f g (denZ q))(s:Sz m q)(o:m≤3840):VF (KO (k+4)) 21 [.agg #[Dk b,Y a l c,Dk d,Y e f g]] h n fun v=>v=Dl ⟨⟨ratT q⟩⟩:=by
 obtain⟨ln,ld,r,p⟩:=NQ.r i j;have:=p m s o;exact nZ k r Z
theorem Qm(k:Nat)(h:HF)(n:Nat)(s:List UInt8)(F:O s<1000000):CX (KO (k+6)) 52 [Dl ⟨⟨s⟩⟩] h n fun v h' n'=>∃b a l c d e f g p,∃q:Rat,v=.tuple #[.agg #[Dk b,Y a l c,Dk d,Y e f g],Dk p]∧UI h' n' b a l c q.num∧UI h' n' d e f g (denZ q)∧(p=true→ratT q=s)∧(xC s→p=true):=by
 refine yD (Vd k h n s F) ?_;rintro _ h' n' w⟨u,A,B,n1,n2,d1,d2,q,ln,ld,p,rfl,r,_,_,_,_,C,D⟩;obtain⟨b,a,l,c,d,e,f,g,o,i,j⟩:=r.nq;injection o with o
 injection o with o
 injection o with e2 o
 injection o with e3 o
 injection o with e4 o
 injection o with e5 _
 subst e2 e3 e4 e5;exact⟨u,A,B,_,_,_,_,_,_,_,_,p,q,rfl,i,j,C,D⟩
end Go.Proofs.YtfajmfoofmienaaGreatDoor
namespace Go.Proofs.YtfajmfoofmienaaGreatDoor
variable {s:List UInt8}{V b:Nat}
def K0(b:UInt8):Bool:=decide (48≤b.toNat∧b.toNat≤57)
theorem lv{b:UInt8}:K0 b=true↔48≤b.toNat∧b.toNat≤57:=by unfold K0;simp
theorem AllD.all:AllD s↔∀b∈s,K0 b=true:=by
 unfold AllD;constructor
 .exact fun h b a=>lv.2 (h b a)
 exact fun h b a=>lv.1 (h b a)
theorem tF{p:UInt8→Bool}:∀b∈s.takeWhile p,p b=true:=by
 induction s with
 |nil=>intro b a;simp at a
 |cons x s ih=>
  intro b a;rw[I9]at a;split at a
  .rename_i h;rcases DR.1 a with rfl|a
   .exact h
   exact ih b a
  simp at a
theorem qL{a r:List UInt8}(d:AllD a)(i:r=[]∨∃x e,r=x::e∧K0 x=false):(a++r).takeWhile K0=a∧(a++r).dropWhile K0=r:=by
 induction a with
 |nil=>
  rcases i with rfl|⟨x,e,rfl,j⟩
  .exact⟨rfl,rfl⟩
  simp[I9,Km,j]
 |cons b a ih=>
  have f:K0 b=true:=lv.2 (d b cA);have:=ih fun c g=>d c BS;simp only[Gp,I9,Km,f,if_true];exact⟨by rw[this.1],this.2⟩
theorem bD{a b:UInt8}(h:a.toNat=b.toNat):a=b:=HM.1 h
theorem Qn{b:UInt8}(h:48≤b.toNat∧b.toNat≤57):EV (48+(b.toNat-48))=b:=by
 apply bD;rw[tO Z];omega
theorem N9{d:List UInt8}(j:AllD d)(h0:d≠[])(f:d.head?≠some 48):dval d≠0∧(decB (dval d)).map EV=d:=by
 induction hl:O d generalizing d with
 |zero=>exact oU (DA.1 hl) h0
 |succ m ih=>
  obtain⟨i,b,rfl⟩:∃i b,d=i++[b]:=⟨d.dropLast,d.getLast h0,(List.dropLast_concat_getLast h0).symm⟩;have g:=j b cA;rw[re];by_cases hi:i=[]
  .subst hi;have u:b.toNat≠48:=fun e=>f (by show some b=some 48;rw[bD (a:=b) (b:=48) e]);have l:dval []=0:=rfl;rw[l];refine⟨Z,?_⟩;rw[lH Z (.inr Z)];have:decB 0=[]:=by unfold decB;rw[yZ];rfl
   rw[this,El,GJ,H9,Qn g];rfl
  obtain⟨o,p⟩:=ih (d:=i) (fun c q=>j c (by simp[q])) hi (by
   cases i with
   |nil=>exact oU rfl hi
   |cons x i=>simpa using f) (by simpa using hl)
  refine⟨Z,?_⟩;rw[lH Z (.inl o),EN,p,GJ,H9,Qn g]
theorem pK{d:List UInt8}(f:AllD d)(h0:d≠[])(a:d.head?≠some 48):decT (dval d)=d:=by
 obtain⟨c,e⟩:=N9 f h0 a;unfold decT;rw[CT c,e]
theorem Qo:decT 1=[49]:=pK (d:=[49]) (fun b a=>by rw[Dx.1 a];decide) cA cA
theorem Wt(h:V≠0):((decB V).map EV).head?≠some 48:=by
 induction V using Hb with
 |ind V ih=>
  have e:decB V=decB (V/10)++[48+V%10]:=by
   unfold decB;rw[wE h];simp
  rw[e];by_cases h2:V/10=0
  .have:decB (V/10)=[]:=by unfold decB;rw[h2,yZ];rfl
   rw[this];intro d;simp only[El,GJ,H9,List.head?_cons,HR]at d;have:=tO (c:=V%10) Z;rw[d]at this;have f:(48:UInt8).toNat=48:=rfl;omega
  have:=ih (V/10) Z h2;cases hd:(decB (V/10)).map EV with
  |nil=>
   have a:=(nI (V/10)).2;rw[hd]at a;exact oU a.symm h2
  |cons x l=>
   rw[EN,hd];rw[hd]at this;simpa using this
theorem fD(h:V≠0):(decT V).head?≠some 48:=by
 unfold decT;rw[CT h];exact Wt h
theorem Qp{a:Nat}(h:decT a=decT b):a=b:=by
 rw[←(wk a).2.1,h,(wk b).2.1]
def K2(s:List UInt8):List UInt8×List UInt8×Bool:=
 let b:=xf s
 let m:=b.takeWhile K0
 let r:=b.dropWhile K0
 if m=[48]then(m,[],!zI s&&r.isEmpty)
 else if m=[]∨m.head?=some 48 then(m,[],false)
 else if r=[]then(m,[],true)
 else if r.head?≠some 47 then(m,[],false)
 else
  let d:=(r.drop 1).takeWhile K0
  let r2:=(r.drop 1).dropWhile K0
  (m,d,r2.isEmpty&& !d.isEmpty&&d.head? != some 48&&d != [49])
theorem Wu(s:List UInt8):(xf s).takeWhile K0++(xf s).dropWhile K0=xf s:=Hy
theorem Wv:s=(if zI s then[45]else[])++xf s:=by
 unfold xf;by_cases h:zI s=true
 .rw[De h,De h];unfold zI at h;cases s with
  |nil=>simp at h
  |cons x s=>
   have:x=45:=by simpa using h
   subst this;rfl
 rw[CT h,CT h];rfl
structure Frm (s:List UInt8)(m d:List UInt8):Prop where
 dm:AllD m
 m0:m≠[]
 dd:AllD d
 lead:m=[48]∧zI s=false∧d=[]∨m.head?≠some 48
 den:d=[]∨d.head?≠some 48∧d≠[49]
 eq:s=(if zI s then[45]else[])++(m++(if d=[]then[]else 47::d))
theorem qm{m d:List UInt8}(h:K2 s=(m,d,true)):Frm s m d:=by
 have f:=Wu s;have w:=Wv (s:=s);have v:AllD ((xf s).takeWhile K0):=AllD.all.2 tF;unfold K2 at h;simp only at h;generalize (xf s).takeWhile K0=m0 at*
 generalize (xf s).dropWhile K0=r at*
 split at h
 .rename_i h48;simp only[FV]at h;obtain⟨rfl,rfl,a⟩:=h;simp only[Ew,FY,ac7]at a;obtain⟨a,rfl⟩:=a;refine⟨v,by rw[h48];simp,fun b f=>oU f cA,.inl ⟨h48,a,rfl⟩,.inl rfl,?_⟩;rw[De rfl,f];exact w
 split at h
 .simp at h
 rename_i h48 i;have j:¬m0=[]:=fun e=>i (.inl e);have l:¬m0.head?=some 48:=fun e=>i (.inr e);split at h
 .rename_i hr;simp only[FV]at h;obtain⟨rfl,rfl,_⟩:=h;refine⟨v,j,fun b f=>oU f cA,.inr l,.inl rfl,?_⟩;subst hr;rw[De rfl,f];exact w
 split at h
 .simp at h
 rename_i hr c;have c:r.head?=some 47:=Classical.not_not.1 c;simp only[FV]at h;obtain⟨rfl,rfl,a⟩:=h;simp only[Ew,FY,ac7,bne_iff_ne,ne_eq]at a;obtain⟨⟨⟨a,o⟩,q⟩,u⟩:=a;obtain⟨g,rfl⟩:∃g,r=47::g:=by
  cases r with
  |nil=>simp at c
  |cons x r=>exact⟨r,by simp at c;rw[c]⟩
 simp only[ai2,ag5]at a o q u⊢;have y:AllD (g.takeWhile K0):=AllD.all.2 tF;have p:g.takeWhile K0++g.dropWhile K0=g:=Hy;rw[a,DZ]at p;rw[p]at y o q u⊢;have i:¬g=[]:=fun e=>by rw[e]at o;simp at o
 refine⟨v,j,y,.inr l,.inr ⟨q,u⟩,?_⟩;rw[CT i,f];exact w
theorem np(q:Rat):K2 (ratT q)=(decT q.num.natAbs,(if q.den=1 then[]else decT q.den),true):=by
 obtain⟨B,C⟩:=rH q;obtain⟨D,F,u⟩:=wk q.num.natAbs;obtain⟨v,j,i⟩:=wk q.den;have g:=qL (a:=decT q.num.natAbs) (r:=if q.den=1 then[]else 47::decT q.den) D (by
  by_cases h:q.den=1
  .left;rw[De h]
  .right;rw[CT h];exact⟨47,_,rfl,rfl⟩)
 have d:=qL (a:=decT q.den) (r:=[]) v (.inl rfl);rw[DZ]at d;unfold K2;simp only;rw[C,g.1,g.2,B];by_cases h0:q.num=0
 .have c:q.den=1:=by
   have:=q.reduced;rw[h0]at this;simpa using this
  rw[h0,De c,De c];rfl
 have p:q.num.natAbs≠0:=Z;have f:=fD p;have m:¬decT q.num.natAbs=[48]:=fun e=>f A0;rw[CT m,CT (by rintro(e|e);exact u e;exact f e)];by_cases c:q.den=1
 .rw[De c,De rfl,De c]
 rw[CT c,CT cA,CT cA,CT c];simp only[ai2,ag5];rw[d.1,d.2];have o:q.den≠0:=q.den_nz;have w:(decT q.den).isEmpty=false:=by cases h:decT q.den with
  |nil=>exact oU h i
  |cons x l=>rfl
 have y:((decT q.den).head? != some 48)=true:=by rw[bne_iff_ne];exact fD o
 have A:(decT q.den != [49])=true:=by
  rw[bne_iff_ne];intro e;have:dval (decT q.den)=1:=by rw[e];rfl
  rw[j]at this;exact c this
 rw[w,y,A];rfl
theorem Frm.rat{m d:List UInt8}(h:Frm s m d)(C:d=[]∨DH (dval m) (dval d)=1):∃q:Rat,ratT q=s∧q.num=(if zI s then -(dval m:Int)else dval m)∧q.den=(if d=[]then 1 else dval d):=by
 obtain⟨l,v,i,a,j,y⟩:=h;have u:∃D:Nat,D≠0∧D=(if d=[]then 1 else dval d)∧DH (dval m) D=1∧(if D=1 then[]else 47::decT D)=(if d=[]then[]else 47::d):=by
  by_cases hd:d=[]
  .refine⟨1,by decide,by rw[De hd],JB _,by rw[De rfl,De hd]⟩
  rcases j with h|⟨o,A⟩
  .exact oU h hd
  have e:=pK i hd o;refine⟨dval d,(N9 i hd o).1,by rw[CT hd],C.resolve_left hd,?_⟩;rw[e,CT hd,CT];intro h;rw[h]at e;exact A (by rw[←e];exact Qo)
 obtain⟨D,w,B,f,p⟩:=u;refine⟨⟨if zI s then -(dval m:Int)else dval m,D,w,?_⟩,?_,rfl,B⟩
 .show Hk _ _;unfold Hk;split
  .rw[F3];exact f
  exact f
 have g:(if zI s then -(dval m:Int)else dval m).natAbs=dval m:=by
  split
  .rw[F3];rfl
  rfl
 have F:decT (dval m)=m:=by
  rcases a with⟨h,_,_⟩|h
  .rw[h];rfl
  exact pK l v h
 have c:(if(if zI s then -(dval m:Int)else dval m)<0 then[45]else[])=(if zI s then[45]else([]:List UInt8)):=by
  by_cases hh:zI s=true
  .rw[De hh,De hh];rcases a with⟨_,h,_⟩|h
   .rw[h]at hh;cases hh
   have:=(N9 l v h).1;rw[De Z]
  rw[CT hh,CT hh,CT Z]
 show(if(if zI s then -(dval m:Int)else dval m)<0 then[45]else[])++(decT (if zI s then -(dval m:Int)else dval m).natAbs++(if D=1 then[]else 47::decT D))=s;rw[c,g,F,p];exact y.symm
theorem sV(s:List UInt8):xC s↔(K2 s).2.2=true∧((K2 s).2.1=[]∨DH (dval (K2 s).1) (dval (K2 s).2.1)=1):=by
 constructor
 .rintro⟨q,rfl⟩;rw[np];refine⟨rfl,?_⟩;by_cases a:q.den=1
  .left;show(if q.den=1 then[]else _)=_;rw[De a]
  right;show DH (dval (decT _)) (dval (if q.den=1 then[]else _))=1;rw[CT a,(wk _).2.1,(wk _).2.1];exact q.reduced
 rintro⟨c,e⟩;have f:=qm (s:=s) (m:=(K2 s).1) (d:=(K2 s).2.1) (by rw[←c]);obtain⟨q,a,_⟩:=f.rat e;exact⟨q,a⟩
theorem dG(h:GK.isSmall s=true):xC s:=by
 unfold GK.isSmall at h;rw[H5]at h;obtain⟨l,c,a⟩:=h;have a:l=s:=by simpa using a
 subst a;simp only[GK.smalls,DR,Ds,or_false]at c;rcases c with rfl|rfl|rfl|rfl|rfl|rfl|rfl|rfl|rfl<;>exact(sV _).2 ⟨by decide,.inl zd⟩
theorem Ww(h:GK.isBad s=true):¬xC s∧GK.isSmall s=false:=by
 unfold GK.isBad at h;rw[H5]at h;obtain⟨l,c,a⟩:=h;have a:l=s:=by simpa using a
 subst a;simp only[GK.bads,DR,Ds,or_false]at c;rcases c with rfl|rfl|rfl<;>exact⟨fun h=>oU ((sV _).1 h).1 zd,by decide⟩
end Go.Proofs.YtfajmfoofmienaaGreatDoor
namespace Go.Proofs.YtfajmfoofmienaaGreatDoor
open Go Go.GL
variable {ops r:List Oper}{w ms L C S W:List Nat}{m cap b sz j n0 cx lx lo i bt l bytes B cy ly fx gx bS Z4 N fy gy c1 c2 l1 p V nt m' be M g:Nat}{X:CtxF}{t:TF}{Q:SV→Prop}{o:Oper}{e ty ty' xT e2 e3 e' eB:TypeId}{v z v0 x10 x4 x5 x6 x7 x8 x9 z2:Value}{ax a ay ex ey a1 a2 aq:Option Addr}{cs c0 cl new:List Value}{ik ik':IntKind}{sx sy dx dy:Bool}{al:List (Nat×Nat)}{ef:List (Nat×HF×List Nat)}{y hi:Operand}{D α:Type}{ji:Int}{s:List UInt8}{assign body:Code}{h1:HF}{q:Rat}{E:Env}{fn:Func}{T0:Nat→Nat→Int}{a0:Nat→Nat→Rat}
variable {k u n' n c:Nat}{x1 x2 x3:Value}{args:List Value}{h0 h':HF}{bf:Int}
theorem jL{p:Rat}(h:ratT p=ratT q):p=q:=by
 have b:=np p;have e:=np q;rw[h,e]at b;have d:decT q.num.natAbs=decT p.num.natAbs:=congrArg Prod.fst b;have a:(if q.den=1 then[]else decT q.den)=(if p.den=1 then[]else decT p.den):=congrArg (fun x=>x.2.1) b;have c:=(rH p).1;have f:=(rH q).1;rw[h,f]at c;have j:=Qp d;have l:q.num<0↔p.num<0:=decide_eq_decide.1 c;refine Rat.ext Z ?_;have g:=(wk p.den).2.2;have i:=(wk q.den).2.2;split at a<;>split at a
 .omega
 .exact oU a.symm g
 .exact oU a i
 exact(Qp a).symm
noncomputable def numOf(s:List UInt8):Rat:=open Classical in if h:xC s then h.choose else 0
theorem uI(h:¬xC s):numOf s=0:=by unfold numOf;rw[dif_neg h]
theorem rK(h:xC s):ratT (numOf s)=s:=by unfold numOf;rw[dif_pos h];exact h.choose_spec
theorem rL(h:ratT q=s):numOf s=q:=jL ((rK ⟨q,h⟩).trans h.symm)
section
variable {h:HF}{c d n:Nat}
theorem addU(k:Nat){x:Int}{y:Int}(e:UI h n sx ax lx cx x)(f:UI h n sy ay ly cy y)(hx:x.natAbs<BX)(a:y.natAbs<BX):CX (KO (k+3)) 75 [.agg #[Dk sx,Y ax lx cx],.agg #[Dk sy,Y ay ly cy]] h n (Ml (x+y)):=by
 refine zl (fn:=Tryz.f75) R4<|zG ?_;refine sB [Dk sx,Y ax lx cx] ?_;intro az cr d6;refine sB [Dk sy,Y ay ly cy] ?_;intro b0 cs d7;refine sA ?_;intro b1 ct d8;refine zG ?_;cases sx
 .refine zG ?_;cases sy
  .refine zG ?_;refine zn [0,1,0,4,0,16,60,127,255] rfl<|zH ?_;refine dC (Qj _ (e.t zt).2 (f.t zt).2 eU) ?_;rintro _ b2 c1⟨af,bs,an,rfl,P⟩ ds d9;refine dC (sm _ P false) ?_;rintro _ b3 c2⟨v,j,a7,H,rfl,R⟩ dt da;refine dS [Dk v,Y j a7 H] ?_;intro b4 cu cj;refine zq ?_;exact⟨_,_,_,_,rfl,(R.t zt).as (by have:=e.ge;have:=f.ge;unfold Lw;(try simp only[if_true,if_false,FE]);omega)⟩
  refine zG ?_;refine sC (Qk _ (e.t zt).2 (f.t zt).2 eU) ?_;rintro _ b5 c3⟨d4,rfl,g⟩ du db;rcases g with⟨rfl,g⟩|⟨rfl,g⟩|⟨rfl,g⟩
  .refine zG ?_;refine zn [0,1,0,4,0,16,60,127,255] rfl<|zH ?_;refine dC (My _ (f.t zt).2 (e.t zt).2 eU Z) ?_;rintro _ b6 c4⟨ag,bt,ao,rfl,S⟩ dv dc;refine dC (sm _ S true) ?_;rintro _ b7 c5⟨w,l,a8,I,rfl,T⟩ dw dd;refine dS [Dk w,Y l a8 I] ?_;intro b8 cv ck;refine zq ?_;exact⟨_,_,_,_,rfl,(T.t zt).as sn⟩
  .refine zG ?_;refine zn [0,1,0,4,0,16,60,127,255] rfl<|zH ?_;refine dC (My _ (e.t zt).2 (f.t zt).2 eU Z) ?_;rintro _ b9 c6⟨ah,bu,ap,rfl,Z4⟩ dz de;refine dC (sm _ Z4 false) ?_;rintro _ ba c7⟨A,m,a9,J,rfl,V⟩ e0 df;refine dS [Dk A,Y m a9 J] ?_;intro bb cw cl;refine zq ?_;exact⟨_,_,_,_,rfl,(V.t zt).as sn⟩
  refine zG ?_;refine zn [0,1,0,4,0,16,60,127,255] rfl<|zH ?_;refine dC (My _ (e.t zt).2 (f.t zt).2 eU Z) ?_;rintro _ bc c8⟨ai,bv,aq,rfl,W⟩ e1 dg;refine dC (sm _ W false) ?_;rintro _ bd c9⟨B,o,aa,K,rfl,Z3⟩ e2 dh;refine dS [Dk B,Y o aa K] ?_;intro be cz cm;refine zq ?_;exact⟨_,_,_,_,rfl,(Z3.t zt).as sn⟩
 refine zG ?_;cases sy
 .refine zG ?_;refine sC (Qk _ (e.t zt).2 (f.t zt).2 eU) ?_;rintro _ bf ca⟨d5,rfl,i⟩ e3 di;rcases i with⟨rfl,i⟩|⟨rfl,i⟩|⟨rfl,i⟩
  .refine zG ?_;refine zn [0,1,0,4,0,16,60,127,255] rfl<|zH ?_;refine dC (My _ (f.t zt).2 (e.t zt).2 eU Z) ?_;rintro _ bg cb⟨aj,bw,ar,rfl,Z0⟩ e4 dj;refine dC (sm _ Z0 false) ?_;rintro _ bh cc⟨C,p,ab,L,rfl,a0⟩ e5 dk;refine dS [Dk C,Y p ab L] ?_;intro bi d0 cn;refine zq ?_;exact⟨_,_,_,_,rfl,(a0.t zt).as sN⟩
  .refine zG ?_;refine zn [0,1,0,4,0,16,60,127,255] rfl<|zH ?_;refine dC (My _ (e.t zt).2 (f.t zt).2 eU Z) ?_;rintro _ bj cd⟨ak,bx,au,rfl,a1⟩ e6 dl;refine dC (sm _ a1 true) ?_;rintro _ bk ce⟨D,q,ac,M,rfl,a2⟩ e7 dm;refine dS [Dk D,Y q ac M] ?_;intro bl d1 co;refine zq ?_;exact⟨_,_,_,_,rfl,(a2.t zt).as sN⟩
  refine zG ?_;refine zn [0,1,0,4,0,16,60,127,255] rfl<|zH ?_;refine dC (My _ (e.t zt).2 (f.t zt).2 eU Z) ?_;rintro _ bm cf⟨al,bz,av,rfl,a3⟩ e8 dn;refine dC (sm _ a3 true) ?_;rintro _ bn cg⟨F,s,ad,N,rfl,a4⟩ e9 dp;refine dS [Dk F,Y s ad N] ?_;intro bo d2 cp;refine zq ?_;exact⟨_,_,_,_,rfl,(a4.t zt).as sN⟩
 refine zG ?_;refine zn [0,1,0,4,0,16,60,127,255] rfl<|zH ?_;refine dC (Qj _ (e.t zt).2 (f.t zt).2 eU) ?_;rintro _ bp ch⟨am,c0,aw,rfl,a5⟩ ea dq;refine dC (sm _ a5 true) ?_;rintro _ bq ci⟨G,u,ae,Z1,rfl,a6⟩ eb dr;refine dS [Dk G,Y u ae Z1] ?_;intro br d3 cq;refine zq ?_;exact⟨_,_,_,_,rfl,(a6.t zt).as (by have:=e.lt;have:=f.lt;unfold Lw;(try simp only[if_true,if_false,FE]);omega)⟩
theorem mulU(k:Nat){x:Int}{y:Int}(e:UI h n sx ax lx cx x)(f:UI h n sy ay ly cy y)(hx:x.natAbs<BX)(a:y.natAbs<BX):CX (KO (k+3)) 70 [.agg #[Dk sx,Y ax lx cx],.agg #[Dk sy,Y ay ly cy]] h n (Ml (x*y)):=by
 refine zl (fn:=Tryz.f70) R4<|zG ?_;refine sB [Dk sx,Y ax lx cx] ?_;intro W au b3;refine sB [Dk sy,Y ay ly cy] ?_;intro Z3 av b4;refine sA ?_;intro Z0 aw b5;refine zG ?_;refine zn [0,1,0,4,15,0,32,0,128,480,1023,2047] rfl<|zH ?_;cases sx
 .refine zH ?_;cases sy
  .refine zH ?_;refine dC (Nq _ (e.t zt).2 (f.t zt).2 eU) ?_;rintro _ a0 ag⟨N,ac,S,rfl,A⟩ be b6;refine dC (sm _ A false) ?_;rintro _ a1 ah⟨m,g,J,s,rfl,B⟩ bf b7;refine dS [Dk m,Y g J s] ?_;intro a2 az ao;refine zq ?_;exact⟨_,_,_,_,rfl,(B.t zt).as (by have:=e.ge;have:=f.ge;exact sw y0)⟩
  refine zH ?_;refine dC (Nq _ (e.t zt).2 (f.t zt).2 eU) ?_;rintro _ a3 ai⟨Z1,ad,T,rfl,C⟩ bg b8;refine dC (sm _ C true) ?_;rintro _ a4 aj⟨o,i,K,u,rfl,D⟩ bh b9;refine dS [Dk o,Y i K u] ?_;intro a5 b0 ap;refine zq ?_;exact⟨_,_,_,_,rfl,(D.t zt).as (by have:=e.ge;have:=f.lt;exact sw y0)⟩
 refine zH ?_;cases sy
 .refine zH ?_;refine dC (Nq _ (e.t zt).2 (f.t zt).2 eU) ?_;rintro _ a6 ak⟨P,ae,Z4,rfl,F⟩ bi ba;refine dC (sm _ F true) ?_;rintro _ a7 al⟨p,j,L,v,rfl,G⟩ bj bb;refine dS [Dk p,Y j L v] ?_;intro a8 b1 aq;refine zq ?_;exact⟨_,_,_,_,rfl,(G.t zt).as (by have:=e.lt;have:=f.ge;exact sw y0)⟩
 refine zH ?_;refine dC (Nq _ (e.t zt).2 (f.t zt).2 eU) ?_;rintro _ a9 am⟨R,af,V,rfl,H⟩ bk bc;refine dC (sm _ H false) ?_;rintro _ aa an⟨q,l,M,w,rfl,I⟩ bl bd;refine dS [Dk q,Y l M w] ?_;intro ab b2 ar;refine zq ?_;exact⟨_,_,_,_,rfl,(I.t zt).as (by have:=e.lt;have:=f.lt;exact sw y0)⟩
theorem denU(k:Nat){x:Rat}(I:UI h n sx ax lx cx x.num)(a:UI h n dx ex fx gx (denZ x)):CX (KO (k+3)) 72 [.agg #[Dk sx,Y ax lx cx,Dk dx,Y ex fx gx]] h n (Ml (x.den:Int)):=by
 refine zl (fn:=Tryz.f72) R4<|zG ?_;refine sB [Dk sx,Y ax lx cx,Dk dx,Y ex fx gx] ?_;intro m y D;refine sA ?_;intro o A F;refine zG ?_;by_cases q13:(fx:Int)=0
 .refine zG ?_;refine sC (Wr _ _ _) ?_;rintro _ p u⟨g,f,l,i,rfl,j⟩ H G;refine sS [Dk g,Y f l i] ?_;intro q B v;refine zq ?_;exact⟨_,_,_,_,rfl,(j.t zt).as (by rw[yN.1 (F4.1 (a.2.zero.1 Z))];rfl)⟩
 refine zG ?_;refine sS [Dk dx,Y ex fx gx] ?_;intro s C w;refine zq ?_;exact⟨_,_,_,_,rfl,(a.t zt).as (wV (fun e=>q13 (by have:=a.2.zero;rw[e]at this;simp at this;omega)))⟩
theorem jg(x y:Rat):Ef (x.num*(y.den:Int)+y.num*(x.den:Int)) ((x.den:Int)*(y.den:Int))=x+y:=by
 rw[ae0,IF,←E0];rfl
theorem jf(x y:Rat):Ef (x.num*y.num) ((x.den:Int)*(y.den:Int))=x*y:=by
 rw[ae1,IF,←E0];rfl
theorem Nr(x y:Rat):(x.den:Int)*(y.den:Int)≠0:=J1 (by have:=x.den_pos;omega) (by have:=y.den_pos;omega)
theorem Qq{x:Rat}(h:x.den<2^c):(denZ x).natAbs<2^c:=by
 unfold denZ;split
 .exact HN c
 exact h
theorem Qr(k:Nat){x:Rat}{y:Rat}(e:UI h n sx ax lx cx x.num)(g:UI h n dx ex fx gx (denZ x))(f:UI h n sy ay ly cy y.num)(i:UI h n dy ey fy gy (denZ y)){a:Nat}(hx:x.num.natAbs<2^a∧x.den<2^c)(p:y.num.natAbs<2^b∧y.den<2^d)(h1:a+d+1≤3840)(h2:b+c+1≤3840)(h3:c+d≤3840):CX (KO (k+6)) 32 [.agg #[Dk sx,Y ax lx cx,Dk dx,Y ex fx gx],.agg #[Dk sy,Y ay ly cy,Dk dy,Y ey fy gy]] h n (NQ (x+y)):=by
 obtain⟨M,K⟩:x.num.natAbs<2^a∧(denZ x).natAbs<2^c:=⟨hx.1,Qq hx.2⟩;obtain⟨P,N⟩:y.num.natAbs<2^b∧(denZ y).natAbs<2^d:=⟨p.1,Qq p.2⟩;have ah:=uf M Z;have af:=uf K Z;have ak:=uf P Z;have ai:=uf N Z;have cr:=x.den_pos;have cs:=y.den_pos;have L:((x.den:Int)).natAbs<2^c:=hx.2;have Z1:((y.den:Int)).natAbs<2^d:=p.2;have ag:=uf L Z;have aj:=uf Z1 Z;refine zl (fn:=Tryz.f32) R4<|zG ?_;refine sB [Dk sx,Y ax lx cx,Dk dx,Y ex fx gx] ?_;intro c2 e0 e6;refine sB [Dk sy,Y ay ly cy,Dk dy,Y ey fy gy] ?_;intro c3 e1 e7;refine sA ?_;intro c4 e2 e8;refine zG ?_;by_cases q14:(fx:Int)=0
 .refine zG ?_;by_cases q15:(fy:Int)=0
  .refine zG ?_;refine sC (addU _ (e.t zt) (f.t zt) K5 K5) ?_;rintro _ c5 db⟨l,j,o,m,rfl,R⟩ es e9;refine sT #[Dk l,Y j o m,Dk false,Y none 0 0] ?_;refine sS [Dk l,Y j o m,Dk false,Y none 0 0] ?_;intro c6 e3 dv;refine zq ?_;exact⟨_,_,_,_,_,_,_,_,rfl,(R.t zt).as ((No (F4.1 (g.2.zero.1 Z)) (F4.1 (i.2.zero.1 Z))).1.symm),(UI.zero _ _).as ((No (F4.1 (g.2.zero.1 Z)) (F4.1 (i.2.zero.1 Z))).2.symm)⟩
  refine zG ?_;refine zn [0,1,0,4,15,0,32,0,159,511,1023,0,4095,0,16383,32767,65535,131071] rfl<|zH ?_;refine dC (denU _ (f.t zt) (i.t zt)) ?_;rintro _ c7 dc⟨b5,al,ct,bl,rfl,S⟩ et ea;refine dC (mulU _ (e.t zt) S K5 K5) ?_;rintro _ c8 dd⟨b6,am,cu,bm,rfl,T⟩ eu eb;refine zH ?_;refine dC (denU _ (e.t zt) (g.t zt)) ?_;rintro _ c9 de⟨b7,an,cv,bn,rfl,Z4⟩ ev ec;refine dC (mulU _ (f.t zt) Z4 K5 K5) ?_;rintro _ ca df⟨b8,ao,cw,bo,rfl,V⟩ ew ed;refine dC (addU _ (T.t zt) V K5 K5) ?_;rintro _ cb dg⟨b9,ap,cz,bp,rfl,W⟩ ez ee;refine zH ?_;refine dC (denU _ (e.t zt) (g.t zt)) ?_;rintro _ cc dh⟨ba,aq,d0,bq,rfl,Z3⟩ f0 ef;refine zH ?_;refine dC (denU _ (f.t zt) (i.t zt)) ?_;rintro _ cd di⟨bb,ar,d1,br,rfl,Z0⟩ f1 eg;refine dC (mulU _ (Z3.t zt) Z0 K5 K5) ?_;rintro _ ce dj⟨bc,au,d2,bs,rfl,a0⟩ f2 eh;refine dC (mR _ (W.t zt) a0 K5 Np (Nr x y) (jg x y)) ?_;rintro _ cf dk⟨u,q,ad,w,B,D,G,I,rfl,a1,ab⟩ f3 ei;refine dS [Dk u,Y q ad w,Dk B,Y D G I] ?_;intro cg e4 dw;refine zq ?_;exact⟨_,_,_,_,_,_,_,_,rfl,(a1.t zt),(ab.t zt)⟩
 refine zG ?_;refine zn [0,1,0,4,15,0,32,0,159,511,1023,0,4095,0,16383,32767,65535,131071] rfl<|zH ?_;refine dC (denU _ (f.t zt) (i.t zt)) ?_;rintro _ ch dl⟨bd,av,d3,bt,rfl,a2⟩ f4 ej;refine dC (mulU _ (e.t zt) a2 K5 K5) ?_;rintro _ ci dm⟨be,aw,d4,bu,rfl,a3⟩ f5 ek;refine zH ?_;refine dC (denU _ (e.t zt) (g.t zt)) ?_;rintro _ cj dn⟨bf,az,d5,bv,rfl,a4⟩ f6 el;refine dC (mulU _ (f.t zt) a4 K5 K5) ?_;rintro _ ck dp⟨bg,b0,d6,bw,rfl,a5⟩ f7 em;refine dC (addU _ (a3.t zt) a5 K5 K5) ?_;rintro _ cl dq⟨bh,b1,d7,bx,rfl,a6⟩ f8 en;refine zH ?_;refine dC (denU _ (e.t zt) (g.t zt)) ?_;rintro _ cm dr⟨bi,b2,d8,bz,rfl,a7⟩ f9 eo;refine zH ?_;refine dC (denU _ (f.t zt) (i.t zt)) ?_;rintro _ cn ds⟨bj,b3,d9,c0,rfl,a8⟩ fa ep;refine dC (mulU _ (a7.t zt) a8 K5 K5) ?_;rintro _ co dt⟨bk,b4,da,c1,rfl,a9⟩ fb eq;refine dC (mR _ (a6.t zt) a9 K5 Np (Nr x y) (jg x y)) ?_;rintro _ cp du⟨v,s,ae,A,C,F,H,J,rfl,aa,ac⟩ fc er;refine dS [Dk v,Y s ae A,Dk C,Y F H J] ?_;intro cq e5 dz;refine zq ?_;exact⟨_,_,_,_,_,_,_,_,rfl,(aa.t zt),(ac.t zt)⟩
theorem MU(k:Nat){x:Rat}{y:Rat}(g:UI h n sx ax lx cx x.num)(j:UI h n dx ex fx gx (denZ x))(i:UI h n sy ay ly cy y.num)(l:UI h n dy ey fy gy (denZ y)){a:Nat}(e:Sz a x)(f:Sz b y)(m:a+b+1≤3840):CX (KO (k+6)) 32 [.agg #[Dk sx,Y ax lx cx,Dk dx,Y ex fx gx],.agg #[Dk sy,Y ay ly cy,Dk dy,Y ey fy gy]] h n (NQ (x+y)):=
 Qr k g j i l ⟨e.1,e.2⟩ ⟨f.1,f.2⟩ Z Z Z
theorem MV(k:Nat){x:Rat}{y:Rat}(e:UI h n sx ax lx cx x.num)(g:UI h n dx ex fx gx (denZ x))(f:UI h n sy ay ly cy y.num)(i:UI h n dy ey fy gy (denZ y)){a:Nat}(hx:Sz a x)(p:Sz b y)(bn:a+b+1≤3840):CX (KO (k+6)) 29 [.agg #[Dk sx,Y ax lx cx,Dk dx,Y ex fx gx],.agg #[Dk sy,Y ay ly cy,Dk dy,Y ey fy gy]] h n (NQ (x*y)):=by
 obtain⟨M,K⟩:x.num.natAbs<2^a∧(denZ x).natAbs<2^a:=⟨hx.1,hx.z⟩;obtain⟨P,N⟩:y.num.natAbs<2^b∧(denZ y).natAbs<2^b:=⟨p.1,p.z⟩;have a9:=uf M Z;have a7:=uf K Z;have ac:=uf P Z;have aa:=uf N Z;have bo:=x.den_pos;have bp:=y.den_pos;have L:((x.den:Int)).natAbs<2^a:=hx.2;have Z1:((y.den:Int)).natAbs<2^b:=p.2;have a8:=uf L Z;have ab:=uf Z1 Z;refine zl (fn:=Tryz.f29) R4<|zG ?_;refine sB [Dk sx,Y ax lx cx,Dk dx,Y ex fx gx] ?_;intro b6 cd cj;refine sB [Dk sy,Y ay ly cy,Dk dy,Y ey fy gy] ?_;intro b7 ce ck;refine sA ?_;intro b8 cf cl;refine zG ?_;by_cases q14:(fx:Int)=0
 .refine zG ?_;by_cases q15:(fy:Int)=0
  .refine zG ?_;refine sC (mulU _ (e.t zt) (f.t zt) K5 K5) ?_;rintro _ b9 bz⟨l,j,o,m,rfl,R⟩ cz cm;refine sT #[Dk l,Y j o m,Dk false,Y none 0 0] ?_;refine sS [Dk l,Y j o m,Dk false,Y none 0 0] ?_;intro ba cg ca;refine zq ?_;exact⟨_,_,_,_,_,_,_,_,rfl,(R.t zt).as ((aw (F4.1 (g.2.zero.1 Z)) (F4.1 (i.2.zero.1 Z))).1.symm),(UI.zero _ _).as ((aw (F4.1 (g.2.zero.1 Z)) (F4.1 (i.2.zero.1 Z))).2.symm)⟩
  refine zG ?_;refine zn [0,1,0,4,15,0,63,0,255,511,1023,2047] rfl<|zH ?_;refine dC (mulU _ (e.t zt) (f.t zt) K5 K5) ?_;rintro _ bb c0⟨al,ad,bq,av,rfl,S⟩ d0 cn;refine zH ?_;refine dC (denU _ (e.t zt) (g.t zt)) ?_;rintro _ bc c1⟨am,ae,br,az,rfl,T⟩ d1 co;refine zH ?_;refine dC (denU _ (f.t zt) (i.t zt)) ?_;rintro _ bd c2⟨an,af,bs,b0,rfl,Z4⟩ d2 cp;refine dC (mulU _ (T.t zt) Z4 K5 K5) ?_;rintro _ be c3⟨ao,ag,bt,b1,rfl,V⟩ d3 cq;refine dC (mR _ (S.t zt) V K5 Np (Nr x y) (jf x y)) ?_;rintro _ bf c4⟨u,q,a5,w,B,D,G,I,rfl,W,a3⟩ d4 cr;refine dS [Dk u,Y q a5 w,Dk B,Y D G I] ?_;intro bg ch cb;refine zq ?_;exact⟨_,_,_,_,_,_,_,_,rfl,(W.t zt),(a3.t zt)⟩
 refine zG ?_;refine zn [0,1,0,4,15,0,63,0,255,511,1023,2047] rfl<|zH ?_;refine dC (mulU _ (e.t zt) (f.t zt) K5 K5) ?_;rintro _ bh c5⟨ap,ah,bu,b2,rfl,Z3⟩ d5 cs;refine zH ?_;refine dC (denU _ (e.t zt) (g.t zt)) ?_;rintro _ bi c6⟨aq,ai,bv,b3,rfl,Z0⟩ d6 ct;refine zH ?_;refine dC (denU _ (f.t zt) (i.t zt)) ?_;rintro _ bj c7⟨ar,aj,bw,b4,rfl,a0⟩ d7 cu;refine dC (mulU _ (Z0.t zt) a0 K5 K5) ?_;rintro _ bk c8⟨au,ak,bx,b5,rfl,a1⟩ d8 cv;refine dC (mR _ (Z3.t zt) a1 K5 Np (Nr x y) (jf x y)) ?_;rintro _ bl c9⟨v,s,a6,A,C,F,H,J,rfl,a2,a4⟩ d9 cw;refine dS [Dk v,Y s a6 A,Dk C,Y F H J] ?_;intro bm ci cc;refine zq ?_;exact⟨_,_,_,_,_,_,_,_,rfl,(a2.t zt),(a4.t zt)⟩
theorem Wx(k:Nat){x:Rat}(j:UI h n sx ax lx cx x.num)(l:UI h n dx ex fx gx (denZ x)):CX (KO (k+3)) 69 [.agg #[Dk sx,Y ax lx cx,Dk dx,Y ex fx gx]] h n (NQ (-x)):=by
 refine zl (fn:=Tryz.f69) R4<|zG ?_;refine sB [Dk sx,Y ax lx cx,Dk dx,Y ex fx gx] ?_;intro m v A;refine sA ?_;intro o w B;refine zG ?_;refine zn [0,1,3,0,8,31,63] rfl<|zH ?_;refine dC (Ws _ (j.t zt)) ?_;rintro _ p s⟨e,a,g,f,rfl,i⟩ D C;refine zH ?_;refine dT #[Dk e,Y a g f,Dk dx,Y ex fx gx] ?_;refine dS [Dk e,Y a g f,Dk dx,Y ex fx gx] ?_;intro q y u;refine zq ?_;exact⟨_,_,_,_,_,_,_,_,rfl,(i.t zt).as ((an3 x).symm),(l.t zt).as (by unfold denZ;rw[an4])⟩
theorem Wy(k:Nat){x:Rat}{y:Rat}(A:UI h n sx ax lx cx x.num)(C:UI h n dx ex fx gx (denZ x))(B:UI h n sy ay ly cy y.num)(D:UI h n dy ey fy gy (denZ y)){a:Nat}(hx:x.num.natAbs<2^a∧x.den<2^c)(w:y.num.natAbs<2^b∧y.den<2^d)(h1:a+d+1≤3840)(h2:b+c+1≤3840)(v:c+d≤3840):CX (KO (k+7)) 28 [.agg #[Dk sx,Y ax lx cx,Dk dx,Y ex fx gx],.agg #[Dk sy,Y ay ly cy,Dk dy,Y ey fy gy]] h n (NQ (x-y)):=by
 refine zl (fn:=Tryz.f28) R4<|zG ?_;refine sB [Dk sx,Y ax lx cx,Dk dx,Y ex fx gx] ?_;intro M Z3 a2;refine sB [Dk sy,Y ay ly cy,Dk dy,Y ey fy gy] ?_;intro N Z0 a3;refine sA ?_;intro Z1 a0 a4;refine zG ?_;refine zn [0,0,2,7,15] rfl<|zH ?_;refine dC (Wx _ (B.t zt) (D.t zt)) ?_;rintro _ P Z4⟨G,F,T,H,I,J,K,L,rfl,o,q⟩ a7 a5;refine dC (Qr _ (A.t zt) (C.t zt) o q hx (by rw[an3,an4,F3];exact w) h1 h2 v) ?_;rintro _ R V⟨f,e,u,g,i,j,l,m,rfl,p,s⟩ a8 a6;refine dS [Dk f,Y e u g,Dk i,Y j l m] ?_;intro S a1 W;refine zq ?_;exact⟨_,_,_,_,_,_,_,_,rfl,(p.t zt).as (by rw[Gk]),(s.t zt).as (by rw[Gk])⟩
theorem Qs(k:Nat){x:Rat}{y:Rat}(g:UI h n sx ax lx cx x.num)(j:UI h n dx ex fx gx (denZ x))(i:UI h n sy ay ly cy y.num)(l:UI h n dy ey fy gy (denZ y)){a:Nat}(e:Sz a x)(f:Sz b y)(m:a+b+1≤3840):CX (KO (k+7)) 28 [.agg #[Dk sx,Y ax lx cx,Dk dx,Y ex fx gx],.agg #[Dk sy,Y ay ly cy,Dk dy,Y ey fy gy]] h n (NQ (x-y)):=
 Wy k g j i l ⟨e.1,e.2⟩ ⟨f.1,f.2⟩ Z Z Z
theorem Wz(k:Nat)(h:HF)(n:Nat)(s:List UInt8)(hs:O s<1000000):CX (KO (k+7)) 35 [Dl ⟨⟨s⟩⟩] h n (NQ (numOf s)):=by
 refine zl (fn:=Tryz.f35) R4<|Zs ?_;intro w M V;refine zG ?_;refine sC (Qm _ _ _ s hs) ?_;rintro _ y H⟨e,a,m,f,g,i,j,l,o,Z4,rfl,p,q,u,z12⟩ a0 W;cases o
 .refine Zs ?_;intro A N Z3;refine sS [Dk e,Y a m f,Dk g,Y i j l] ?_;intro B Z1 I;refine zG ?_;refine sT #[Dk false,Y none 0 0,Dk false,Y none 0 0] ?_;refine sS [Dk false,Y none 0 0,Dk false,Y none 0 0] ?_;intro C P J;refine zq ?_;exact(uI (fun v=>by cases z12 v)).symm▸NQ.zero _ _
 refine Zs ?_;intro D R Z0;refine sS [Dk e,Y a m f,Dk g,Y i j l] ?_;intro F S K;refine zG ?_;refine sS [Dk e,Y a m f,Dk g,Y i j l] ?_;intro G T L;refine zq ?_;exact(rL (u rfl)).symm▸⟨_,_,_,_,_,_,_,_,rfl,(p.t zt),(q.t zt)⟩
theorem numU(k:Nat)(h:HF)(n:Nat)(s:List UInt8)(a:O s<1000000):CX (KO (k+7)) 35 [Dl ⟨⟨s⟩⟩] h n (NQ (numOf s)):=Wz k h n s a
end
section
variable {off:Nat}
structure At (h:HF)(b o:Nat)(c:List Value):Prop where
 ex:∃x cs,h b=some x∧x.cells=some cs∧o+O c≤O cs∧(cs.drop o).take (O c)=c
theorem At.ext{h h':HF}{n o:Nat}{c:List Value}(a:At h b o c)(x:KN n h h')(A:b<3*n):At h' b o c:=by
 obtain⟨y,cs,f,g,l,p⟩:=a.ex;exact⟨y,cs,(x b A).trans f,g,l,p⟩
theorem At.ld{h:HF}{o:Nat}{c c':List Value}{sz:Nat}(a:At h b o c)(k:Nat)(p:GL.isAgg KT ty=some true)(B:KT.inf ty=some (sz,bt,z))(F:k+sz≤O c)(A:(c.drop k).take sz=c'):yE KT ty h ⟨b,o+k,none⟩=some (.agg c'.toArray):=by
 obtain⟨y,cs,f,g,C,l⟩:=a.ex;refine zF ⟨p,B⟩ f g Z ?_;rw[←A,←l,IG,GO,ES];congr 1;omega
theorem At.ld1{h:HF}{o:Nat}{c:List Value}(a:At h b o c)(k:Nat)(p:GL.isAgg KT ty=some false)(A:c[k]?=some v):yE KT ty h ⟨b,o+k,none⟩=some v:=by
 obtain⟨y,cs,f,g,B,l⟩:=a.ex;exact zL p f ⟨g,(wq l A)⟩
inductive Rec {D:Type} (sz:Nat) (P:List Value→D→Prop):List Value→List D→Prop
 |nil:Rec sz P [] []
 |cons {c cs:List Value} {d:D} {ds:List D} (hl:O c=sz) (hp:P c d) (hr:Rec sz P cs ds):Rec sz P (c++cs) (d::ds)
section
variable {P P':List Value→D→Prop}
theorem Rec.len{c:List D}(r:Rec sz P cs c):O cs=O c*sz:=by
 induction r with
 |nil=>simp
 |cons hl hp hr ih=>rw[Do,ih,hl,D3,Fb];omega
theorem Rec.mono{f:List D}(r:Rec sz P cs f)(g:∀c d,P c d→P' c d):Rec sz P' cs f:=by
 induction r with
 |nil=>exact .nil
 |cons hl hp hr ih=>exact .cons hl (g _ _ hp) ih
theorem Rec.snoc{c:List Value}{f:List D}{d:D}(r:Rec sz P cs f)(g:O c=sz)(hp:P c d):Rec sz P (cs++c) (f++[d]):=by
 induction r with
 |nil=>
  have:=Rec.cons g hp (Rec.nil (P:=P) (sz:=sz));rw[DZ]at this;exact this
 |cons hl2 hp2 hr ih=>rw[DN];exact .cons hl2 hp2 ih
theorem Rec.get{g:List D}{d:D}(r:Rec sz P cs g):∀{j:Nat},g[j]?=some d→∃c,O c=sz∧P c d∧(cs.drop (j*sz)).take sz=c∧j*sz+sz≤O cs:=by
 induction r with
 |nil=>intro j f;simp at f
 | @cons c cs d2 g hl hp hr ih=>
  intro j f;cases j with
  |zero=>
   simp at f;subst f;refine⟨c,hl,hp,?_,by rw[Do];omega⟩;rw[EI,EE,←hl,List.take_left]
  |succ j=>
   rw[List.getElem?_cons_succ]at f;obtain⟨l,p,A,B,C⟩:=ih f;refine⟨l,p,A,?_,by rw[Do,Fb];omega⟩;rw[←B,JL,Ga (by rw[hl,Fb];omega),El,Fb,hl,FR]
end
def RS{D:Type}(sz:Nat)(P:List Value→D→HF→Nat→Prop)(h:HF)(n:Nat)(v:Value)(l:List D):Prop:=∃cells,Sl h n sz v cells∧Rec sz (fun c d=>P c d h n) cells l
structure Stay {D:Type}(P:List Value→D→HF→Nat→Prop):Prop where
 go:∀c d h h' n n',P c d h n→KN n h h'→n≤n'→P c d h' n'
section
variable {P:List Value→D→HF→Nat→Prop}{h h':HF}{n n':Nat}
theorem RS.ext'(B:Stay P){l:List D}(r:RS sz P h n v l)(x:KN n h h')(g:n≤n'):RS sz P h' n' v l:=by
 obtain⟨f,p,A⟩:=r;exact⟨f,p.ext x g,A.mono fun c d C=>B.go c d _ _ _ _ C x g⟩
theorem RS.len'(f:0<sz){len:Nat}{l:List D}(r:RS sz P h n (Y a len cap) l):len=O l:=by
 obtain⟨g,p,A⟩:=r;obtain⟨B,F,C,e,c⟩:=p.len;injection e with e1 e2 e3
 subst e2;rw[A.len]at c;exact(Nat.eq_of_mul_eq_mul_right f c).symm
theorem RS.at'(B:0<sz){len:Nat}{l:List D}{d:D}(r:RS sz P h n (Y a len cap) l)(A:l[j]?=some d):∃b off c,a=some ⟨b,off,none⟩∧b<3*n∧j<len∧At h b (off+j*sz) c∧O c=sz∧P c d h n:=by
 have f:=r.len' B;obtain⟨C,H,g⟩:=r;have N:=(Du.1 A).1;obtain⟨b,off,x,cs,rfl,I,M,J,K,Z1,L⟩:=H.inv Z;obtain⟨c,p,F,G,R⟩:=g.get A;refine⟨b,off,c,rfl,I,Z,⟨x,cs,M,J,?_,?_⟩,p,F⟩
 .have:=g.len;rw[←f]at this;omega
 rw[p,←G,←L,IG,GO,ES];have:=g.len;rw[←f]at this;congr 1;omega
end
theorem xN{h:HF}{n:Nat}{len:Nat}{S:List (List UInt8)}(r:Sl h n 1 (Y a len cap) (strs S))(g:S[j]?=some s):∃b off,a=some ⟨b,off,none⟩∧b<3*n∧j<len∧At h b (off+j*1) [Dl ⟨⟨s⟩⟩]:=by
 have H:=(Du.1 g).1;have F:=wo r;obtain⟨b,off,x,cs,rfl,p,G,A,B,I,C⟩:=r.inv Z;refine⟨b,off,rfl,p,Z,⟨x,cs,G,A,by show off+j*1+1≤_;omega,?_⟩⟩;show(cs.drop (off+j*1)).take 1=_;have l:(strs S)[j]?=some (Dl ⟨⟨s⟩⟩):=by rw[strs,DB,g];rfl
 have c:=wq C l;rw[Ek];have f:off+j<O cs:=Z;rw[Fs f];rw[Dm f]at c;injection c with c
 rw[c];rfl
def ratP(c:List Value)(q:Rat)(h:HF)(n:Nat):Prop:=∃b a l k d e f g,c=[Dk b,Y a l k,Dk d,Y e f g]∧IW h n b a l k q.num∧IW h n d e f g (denZ q)
theorem ratP.stay:Stay ratP:=⟨fun _ _ _ _ _ _ ⟨b,a,l,k,d,e,f,g,p,i,j⟩ x c=>⟨b,a,l,k,d,e,f,g,p,i.ext x c,j.ext x c⟩⟩
def numP(c:List Value)(q:Rat)(h:HF)(n:Nat):Prop:=∃b a l k d e f g,c=[Dk b,Y a l k,Dk d,Y e f g]∧UI h n b a l k q.num∧UI h n d e f g (denZ q)
theorem numP.stay:Stay numP:=⟨fun _ _ _ _ _ _ ⟨b,a,l,k,d,e,f,g,p,i,j⟩ x c=>⟨b,a,l,k,d,e,f,g,p,i.ext x c,j.ext x c⟩⟩
def QS(h:HF)(n:Nat)(v:Value)(l:List Rat):Prop:=RS 4 ratP h n v l
def NS(h:HF)(n:Nat)(v:Value)(l:List Rat):Prop:=RS 4 numP h n v l
section
variable {h h':HF}{n n':Nat}
theorem QS.ext{l:List Rat}(r:QS h n v l)(x:KN n h h')(c:n≤n'):QS h' n' v l:=RS.ext' ratP.stay r x c
theorem NS.ext{l:List Rat}(r:NS h n v l)(x:KN n h h')(c:n≤n'):NS h' n' v l:=RS.ext' numP.stay r x c
theorem QS.len{len:Nat}{l:List Rat}(r:QS h n (Y a len cap) l):len=O l:=RS.len' zd r
theorem NS.len{len:Nat}{l:List Rat}(r:NS h n (Y a len cap) l):len=O l:=RS.len' zd r
theorem QS.at{len:Nat}{l:List Rat}(r:QS h n (Y a len cap) l)(I:l[j]?=some q):∃p off b A B k d e f g,a=some ⟨p,off,none⟩∧p<3*n∧j<len∧At h p (off+j*4) [Dk b,Y A B k,Dk d,Y e f g]∧IW h n b A B k q.num∧IW h n d e f g (denZ q):=by
 exact Cp
theorem NS.at{len:Nat}{l:List Rat}(r:NS h n (Y a len cap) l)(I:l[j]?=some q):∃p off b A B k d e f g,a=some ⟨p,off,none⟩∧p<3*n∧j<len∧At h p (off+j*4) [Dk b,Y A B k,Dk d,Y e f g]∧UI h n b A B k q.num∧UI h n d e f g (denZ q):=by
 exact Cp
end
section
variable {h:HF}{n:Nat}{d:Tmp}
theorem Oa{x i:Operand}{len sz:Nat}(c:Za X ops t o d (o.op=.indexAddr ty x i∧X.E.und ty=some (.slice e)∧X.E.inf e=some (sz,bt,z)∧KM t x=Y aq len cap∧KM t i=U ik (j:Int)∧aq=some ⟨b,off,none⟩))(G:j<len)(k:EO X ops r ⟨upd t d (Dn (some ⟨b,off+j*sz,none⟩)),h,n,w⟩ Q):EO X ops (o::r) ⟨t,h,n,w⟩ Q:=by
 obtain⟨c,g,A,B,C,l,F,p,f⟩:=c;subst f;exact wn ⟨c,g,A,B,C,l,F,p⟩ Z k
end
section
variable {h:HF}{n:Nat}{ld:List (Nat×Nat)}{d:Tmp}
theorem Qt{x:Operand}{len sz:Nat}(C:zh ops t o=true)(l:o.dst=some d)(B:zu X.nt (some d)=true)(c:o.op=.indexAddr ty x y)(hu:X.E.und ty=some (.slice e))(p:X.E.inf e=some (sz,bt,z))
  (F:KM t x=Y aq len cap)(A:KM t y=U ik (j:Int))(g:aq=some ⟨b,off,none⟩)(G:j<len)(k:ED X ops r ms (i+1) ⟨⟨upd t d (Dn (some ⟨b,off+j*sz,none⟩)),h,n,w⟩,al,ld,ef⟩ Q):ED X ops (o::r) (m::ms) i ⟨⟨t,h,n,w⟩,al,ld,ef⟩ Q:=by
 subst g;refine yQ C l B (by rw[c];rfl) ?_ k;have f:(0:Int)≤(j:Int)∧(j:Int)<(len:Int):=Z;rw[c];show yU X.E ty (KM t x) (KM t y)=_;rw[F,A];simp only[yU,hu,p,De f,ws,Ez]
end
theorem QS.x{h h':HF}{n n':Nat}{l:List Rat}(r:QS h n v l)(t:Tx n h n' h'):QS h' n' v l:=r.ext t.2 t.1
theorem At.x{h h':HF}{n n' o:Nat}{c:List Value}(a:At h b o c)(t:Tx n h n' h')(f:b<3*n):At h' b o c:=a.ext t.2 f
theorem At.lG{h:HF}{o sz:Nat}{c:List Value}{r:List Value}(L:List Value)(a:At h b o c)(l:GL.isAgg KT ty=some true)(p:KT.inf ty=some (sz,bt,z))(f:c.drop k=L++r)(A:L.length=sz)(B:0<L.length:=by exact Nat.succ_pos _):yE KT ty h ⟨b,o+k,none⟩=some (.agg L.toArray):=by
 have g:=congrArg List.length f;rw[List.length_drop,List.length_append]at g;exact a.ld k l p Z (c':=L) (by rw[f,←A,List.take_left])
theorem At.l2{h:HF}{o:Nat}{c:List Value}{r:List Value}(a:At h b o c)(f:GL.isAgg KT ty=some true)(l:KT.inf ty=some (2,bt,z))(g:c.drop k=x1::x2::r):yE KT ty h ⟨b,o+k,none⟩=some (.agg #[x1,x2]):=a.lG [x1,x2] f l g rfl
theorem At.l3{h:HF}{o:Nat}{c:List Value}{r:List Value}(a:At h b o c)(f:GL.isAgg KT ty=some true)(l:KT.inf ty=some (3,bt,z))(g:c.drop k=x1::x2::x3::r):yE KT ty h ⟨b,o+k,none⟩=some (.agg #[x1,x2,x3]):=a.lG [x1,x2,x3] f l g rfl
theorem At.l4{h:HF}{o:Nat}{c:List Value}{r:List Value}(a:At h b o c)(f:GL.isAgg KT ty=some true)(l:KT.inf ty=some (4,bt,z))(g:c.drop k=x1::x2::x3::x4::r):yE KT ty h ⟨b,o+k,none⟩=some (.agg #[x1,x2,x3,x4]):=a.lG [x1,x2,x3,x4] f l g rfl
section
variable {h:HF}{n:Nat}{d:Tmp}
theorem sI{x0 c:Operand}{len sz:Nat}(f:aq=some ⟨b,off,none⟩)(g:j<len)(k:EO X ops r ⟨upd t d (.pointer (some ⟨b,off+j*sz,none⟩)),h,n,w⟩ Q)(l:zh ops t o=true:=by exact rfl)(hd:o.dst=some d:=by exact rfl)(hn:zu X.nt (some d)=true:=by exact rfl)(ho:o.op=.indexAddr ty x0 c:=by exact rfl)(hu:X.E.und ty=some (.slice e):=by exact rfl)(hi:X.E.inf e=some (sz,bt,z):=by exact rfl)(hx:KM t x0=.slice aq len cap:=by exact rfl)(hj:KM t c=.int ik (j:Int):=by exact rfl):EO X ops (o::r) ⟨t,h,n,w⟩ Q:=Oa ⟨l,hd,hn,ho,hu,hi,hx,hj,f⟩ g k
theorem sL{x0:Operand}{f:Nat}{c:List Value}(a:At h0 b f c)(hb:b<3*n0)(g:Nat)(k:EO X ops r ⟨upd t d v,h,n,w⟩ Q)(l:zh ops t o=true:=by exact rfl)(hd:o.dst=some d:=by exact rfl)(hn:zu X.nt (some d)=true:=by exact rfl)(ho:o.op=.load ty x0:=by exact rfl)(hx:KM t x0=.pointer (some ⟨b,f+g,none⟩):=by exact rfl)(tx:Tx n0 h0 n h:=by exact zx)(hv:At h b f c→yE X.E ty h ⟨b,f+g,none⟩=some v:=by intro a;first|exact a.ld1 _ rfl rfl|exact a.l1 rfl rfl rfl|exact a.l2 rfl rfl rfl|exact a.l3 rfl rfl rfl|exact a.l4 rfl rfl rfl|exact a.l5 rfl rfl rfl|exact a.l10 rfl rfl rfl|exact a.l11 rfl rfl rfl):EO X ops (o::r) ⟨t,h,n,w⟩ Q:=zO ⟨l,hd,hn,ho,hx⟩ (hv (a.x tx hb)) k
end
section
variable {h:HF}{n:Nat}{ld:List (Nat×Nat)}{d:Tmp}
theorem dI{x0 c:Operand}{len sz:Nat}(f:aq=some ⟨b,off,none⟩)(g:j<len)(k:ED X ops r ms (i+1) ⟨⟨upd t d (.pointer (some ⟨b,off+j*sz,none⟩)),h,n,w⟩,al,ld,ef⟩ Q)(l:zh ops t o=true:=by exact rfl)(hd:o.dst=some d:=by exact rfl)(hn:zu X.nt (some d)=true:=by exact rfl)(ho:o.op=.indexAddr ty x0 c:=by exact rfl)(hu:X.E.und ty=some (.slice e):=by exact rfl)(hi:X.E.inf e=some (sz,bt,z):=by exact rfl)(hx:KM t x0=.slice aq len cap:=by exact rfl)(hj:KM t c=.int ik (j:Int):=by exact rfl):ED X ops (o::r) (m::ms) i ⟨⟨t,h,n,w⟩,al,ld,ef⟩ Q:=Qt l hd hn ho hu hi hx hj f g k
theorem dL{x0:Operand}{A f:Nat}{c:List Value}(a:At h0 b f c)(hb:b<3*n0)(l:Nat)(k:ED X ops r ms (i+1) ⟨⟨upd t d v,h,n,w⟩,al,(i,b)::ld,ef⟩ Q)(p:zh ops t o=true:=by exact rfl)(hd:o.dst=some d:=by exact rfl)(hn:zu X.nt (some d)=true:=by exact rfl)(ho:o.op=.load ty x0:=by exact rfl)(hx:KM t x0=.pointer (some ⟨b,f+l,none⟩):=by exact rfl){g:HF}(hr:vm m ef i h=(u,g):=by exact rfl)(tx:Tx n0 h0 A g:=by exact zx)(hv:At g b f c→yE X.E ty g ⟨b,f+l,none⟩=some v:=by intro a;first|exact a.ld1 _ rfl rfl|exact a.l1 rfl rfl rfl|exact a.l2 rfl rfl rfl|exact a.l3 rfl rfl rfl|exact a.l4 rfl rfl rfl|exact a.l5 rfl rfl rfl|exact a.l10 rfl rfl rfl|exact a.l11 rfl rfl rfl)(h1:wS u b ef=true:=by exact rfl)(h2:pz m b al=true:=by exact rfl):ED X ops (o::r) (m::ms) i ⟨⟨t,h,n,w⟩,al,ld,ef⟩ Q:=zS ⟨p,hd,hn,ho,hx,hr⟩ (hv (a.x tx hb)) ⟨h1,h2⟩ k
end
end
section
variable {x:Operand}
section
variable {h:HF}{n:Nat}{d:Tmp}
theorem qh{a b:List UInt8}(c:Bool)(e:Za X ops t o d (o.op=.binOp .eql ty x y ty'∧KM t x=Dl ⟨⟨a⟩⟩∧KM t y=Dl ⟨⟨b⟩⟩))(j:(a==b)=c)
  (k:EO X ops r ⟨upd t d (Dk c),h,n,w⟩ Q):EO X ops (o::r) ⟨t,h,n,w⟩ Q:=by
 obtain⟨e,g,i,f,l,m⟩:=e;refine zA ⟨e,g,i,Ao,?_⟩ k;rw[f];show binE X.E .eql ty (KM t x) (KM t y)=_;rw[l,m,←j];rfl
theorem WA{a b:List UInt8}(c:Bool)(j:zh ops t o=true)(f:o.dst=some d)(g:zu X.nt (some d)=true)(e:o.op=.binOp .neq ty x y ty')(l:KM t x=Dl ⟨⟨a⟩⟩)(m:KM t y=Dl ⟨⟨b⟩⟩)(i:(!(a==b))=c)
  (k:EO X ops r ⟨upd t d (Dk c),h,n,w⟩ Q):EO X ops (o::r) ⟨t,h,n,w⟩ Q:=by
 refine zA ⟨j,f,g,A0,?_⟩ k;rw[e];show binE X.E .neq ty (KM t x) (KM t y)=_;rw[l,m,←i];rfl
end
def VX(C:CalF)(f:FuncId)(args:List Value)(h:HF)(n:Nat)(P:Value→Prop):Prop:=CF C f args h n fun v h' n' w=>w=[]∧n≤n'∧KN n h h'∧P v
theorem xy{P:Value→Prop}{e:Ex}{t:TF}{h:HF}{n:Nat}{a f:Tmp}{i:TypeId}(u:Value)(c:rV e=true∧fn.results.toList=[.cell a ty,.tmp f]∧t a=Dn (some ⟨b,0,none⟩)∧t f=u∧GL.isAgg KT ty=some true∧KT.inf ty=some (sz,bt,z))(l:h' b=some (.row cs i))(D:O cs=sz)(q:n≤n')(B:KN n h h')(hp:P (.tuple #[.agg cs.toArray,u])):RetH fn (fun v h' n' w=>w=[]∧n≤n'∧KN n h h'∧P v) e ⟨t,h',n',[]⟩:=by
 obtain⟨c,A,j,g,m,p⟩:=c;refine retH [.agg cs.toArray,u] ⟨c,?_,rfl⟩ ⟨rfl,q,B,hp⟩;rw[A];have C:=zF ⟨m,p⟩ l rfl (show 0+sz≤O cs by omega) (show(cs.drop 0).take sz=cs by rw[EE,DK Z]);simp only[resF,j,g,C]
theorem WB(k:Nat)(h:HF)(n:Nat)(s:List UInt8):VF (KO (k+1)) 208 [Dl ⟨⟨s⟩⟩,Dl ⟨⟨[45]⟩⟩] h n fun v=>v=Dk (zI s):=by
 refine zB (fn:=Tryz.f208) R4<|Zc ?_;cases s with
 |nil=>
  refine zM ?_;refine st_I (ik:=.i64) (a:=0) R5<|zM ?_;refine st_I (ik:=.i64) (a:=1) R5<|Zb ?_;exact B4
 |cons x s=>
  refine zM ?_;refine st_I (ik:=.i64) (a:=(O (x::s):Int)) R5<|zM ?_;refine st_I (ik:=.i64) (a:=1) R5<|kE R6 (by rw[D3];omega) ?_;refine ZE ?_;refine st_I (ik:=.i64) (a:=1) R5<|rD (s:=x::s) (j:=1) R8 cA ?_;refine zM ?_;refine qh (a:=[x]) (b:=[45]) (x==45) R6 cA ?_;refine Zb ?_;exact retF _ rfl (zj rfl) R2 (by show Dk _=Dk _;simp[zI])
theorem WC(h:zI s=true):1≤O s:=by
 unfold zI at h;cases s with
 |nil=>simp at h
 |cons=>simp
theorem WD(k:Nat)(h:HF)(n:Nat)(s:List UInt8):VF (KO (k+2)) 177 [Dl ⟨⟨s⟩⟩,Dl ⟨⟨[45]⟩⟩] h n fun v=>v=.tuple #[Dl ⟨⟨xf s⟩⟩,Dk (zI s)]:=by
 refine zB (fn:=Tryz.f177) R4<|Zc ?_;refine Zi ?_;refine ye _ R5 (WB k h n s) ?_;rintro _ rfl;by_cases hm:zI s=true
 .rw[hm];refine Ze ?_;refine Zp ?_;refine st_I (ik:=.i64) (a:=1) R5<|uE (s:=s) (j:=1) R8 (WC hm)<|Zb ?_;refine retF [Dl ⟨⟨s.drop 1⟩⟩,Dk true] rfl rfl R2 ?_;unfold xf;rw[De hm];rfl
 rw[IC.2 hm];refine Zo ?_;refine retF [Dl ⟨⟨s⟩⟩,Dk false] rfl rfl R2 ?_;unfold xf;rw[CT hm];rfl
theorem WE(k:Nat)(h:HF)(n:Nat)(s:List UInt8):VF (KO (k+3)) 147 [Dl ⟨⟨s⟩⟩,Dl ⟨⟨[45]⟩⟩] h n fun v=>v=.tuple #[Dl ⟨⟨xf s⟩⟩,Dk (zI s)]:=by
 refine zB (fn:=Tryz.f147) R4<|Zc ?_;refine Zi ?_;refine ye _ R5 (WD k h n s) ?_;rintro _ rfl;refine Zb ?_;exact retF [Dl ⟨⟨xf s⟩⟩,Dk (zI s)] rfl rfl R2 rfl
theorem WF(s:List UInt8):∃T D,s.takeWhile K0=T∧s.dropWhile K0=D∧s=T++D∧(∀b∈T,K0 b=true)∧(D=[]∨∃x D',D=x::D'∧K0 x=false):=by
 refine⟨_,_,rfl,rfl,Hy.symm,tF,?_⟩;cases hd:s.dropWhile K0 with
 |nil=>exact .inl rfl
 |cons x D'=>exact .inr ⟨x,D',rfl,by
   have:=List.head?_dropWhile_not K0 s;rw[hd]at this;simpa using this⟩
theorem oN(k:Nat)(h:HF)(n:Nat)(s:List UInt8)(I:O s<1000000):VF (KO (k+1)) 148 [Dl ⟨⟨s⟩⟩] h n fun v=>v=.tuple #[Dl ⟨⟨s.takeWhile K0⟩⟩,Dl ⟨⟨s.dropWhile K0⟩⟩]:=by
 refine zB (fn:=Tryz.f148) R4 ?_;obtain⟨T,D,A,u,f,p,B⟩:=WF s;rw[A,u];have i:O s=O T+O D:=by rw[f,Do]
 refine Zx ?_;refine zK (α:=Nat) (fun m=>[(0,Dl ⟨⟨s⟩⟩),(4,U .i64 (m:Int))]) (fun m h' n' w=>h=h'∧n=n'∧w=[]∧m≤O T) (fun m=>O T-m) 0 V2 ⟨rfl,rfl,rfl,Di⟩ (by show O T-0<LL;unfold LL;omega) ?_;rintro m t _ _ _⟨rfl,rfl,rfl,H⟩;refine Zp ?_;refine st_I (ik:=.i64) (a:=(O s:Int)) R5 ?_;have F:∀t':TF,t' 0=Dl ⟨⟨s⟩⟩→m=O T→True:=fun _ _ _=>trivial;by_cases hmT:m=O T
 .have e:s.take m=T:=by rw[f,hmT,List.take_left' rfl]
  have c:s.drop m=D:=by rw[f,hmT,List.drop_left' rfl]
  rcases B with rfl|⟨x,q,rfl,l⟩
  .rw[GB]at i;refine Zk ?_;rw[yH rfl];refine Zi ?_;refine rD (s:=s) (j:=m) R8 Z<|Zi ?_;refine uE (s:=s) (j:=m) R8 Z ?_;rw[e,c];refine Zb ?_;exact retF [Dl ⟨⟨T⟩⟩,Dl ⟨⟨[]⟩⟩] rfl rfl R2 rfl
  rw[D3]at i;have g:s[m]?=some x:=by rw[f,hmT,DL Dh,Ee];rfl
  have G:¬(48≤x.toNat∧x.toNat≤57):=fun h=>by rw[lv.2 h]at l;cases l
  refine pZ R6 Z<|ZE ?_;refine yC (j:=m) R8 g ?_;by_cases C:48≤x.toNat
  .refine oa R6 Z ?_;repeat refine zR ?_
   refine yC (j:=m) R8 g<|Zk ?_;exact Cd
  refine mh R6 Z<|Zk ?_;exact Cd
 obtain⟨x,l⟩:∃x,T[m]?=some x:=⟨T[m]'Z,Dm Z⟩;have g:s[m]?=some x:=by rw[f,En Z];exact l
 have C:=lv.1 (p x (Dq l));refine pZ R6 Z<|ZE ?_;refine yC (j:=m) R8 g<|oa R6 Z ?_;repeat refine zR ?_
 refine yC (j:=m) R8 g<|Zo ?_;exact goOn (m+1) (by show O T-(m+1)<O T-m;omega) V2 ⟨rfl,rfl,rfl,by show m+1≤_;omega⟩
def Ly(mi:Bool)(m r:List UInt8):List UInt8×List UInt8×Bool:=
 if m=[48]then(m,[],!mi&&r.isEmpty)
 else if m=[]∨m.head?=some 48 then(m,[],false)
 else if r=[]then(m,[],true)
 else if r.head?≠some 47 then(m,[],false)
 else(m,(r.drop 1).takeWhile K0,((r.drop 1).dropWhile K0).isEmpty&& !((r.drop 1).takeWhile K0).isEmpty&&((r.drop 1).takeWhile K0).head? != some 48&&(r.drop 1).takeWhile K0 != [49])
theorem WG(s:List UInt8):K2 s=Ly (zI s) ((xf s).takeWhile K0) ((xf s).dropWhile K0):=rfl
theorem dJ{x:UInt8}{l:List UInt8}{c:UInt8}(h:x.toNat≠c.toNat):(x::l).head?≠some c:=fun e=>h (by
 have:x=c:=by simpa using e
 rw[this])
theorem jE(k:Nat)(h:HF)(n:Nat)(s:List UInt8)(L:O s<1000000):VX (KO (k+4)) 115 [Dl ⟨⟨s⟩⟩] h n fun v=>v=.tuple #[.agg #[Dk (zI s),Dl ⟨⟨(K2 s).1⟩⟩,Dl ⟨⟨(K2 s).2.1⟩⟩],Dk (K2 s).2.2]:=by
 refine zl (fn:=Tryz.f115) R4 ?_;rw[WG];have G:=jm s;refine zN ?_;refine z6 R5<|Zb ?_;refine z6 R5<|zN ?_;generalize hh:upd (upd h (3*n+2) _) (3*(n+1)+2) _=h1;have a:∃e,h1 (3*n+2)=some (.row [Dk false,Dl ⟨⟨[]⟩⟩,Dl ⟨⟨[]⟩⟩] e):=⟨_,by rw[←hh,zg Z,ze];rfl⟩;have g:∃e,h1 (3*(n+1)+2)=some (.row [Dk false,Dl ⟨⟨[]⟩⟩,Dl ⟨⟨[]⟩⟩] e):=⟨_,kS⟩;obtain⟨C,a⟩:=a;obtain⟨F,g⟩:=g;have i:KN n h h1:=fun b f=>by rw[←hh,zg Z,zg Z]
 refine zM ?_;refine ye _ R5 (WE k h1 (n+1+1) s) ?_;rintro _ rfl;generalize xf s=B at G⊢;generalize zI s=mi;refine Zj ?_;refine yr (cs:=[Dk mi]) R8 g zb jy ?_;refine zN ?_;generalize hh:upd h1 (3*(n+1)+2) _=h2;replace a:h2 (3*n+2)=some (.row [Dk false,Dl ⟨⟨[]⟩⟩,Dl ⟨⟨[]⟩⟩] C):=by rw[←hh,zg Z];exact a
 replace g:h2 (3*(n+1)+2)=some (.row [Dk mi,Dl ⟨⟨[]⟩⟩,Dl ⟨⟨[]⟩⟩] F):=by rw[←hh,ze];rfl
 replace i:KN n h h2:=fun b f=>by rw[←hh,zg Z,i b f]
 refine zM ?_;refine ye _ R5 (oN (k+2) h2 (n+1+1) B Z) ?_;rintro _ rfl;have A:O (B.dropWhile K0)≤O B:=(List.dropWhile_sublist K0).length_le;generalize B.takeWhile K0=M;generalize B.dropWhile K0=R at A⊢;repeat refine zR ?_
 refine yr (cs:=[Dl ⟨⟨M⟩⟩]) R8 g zb jy ?_;generalize hh:upd h2 (3*(n+1)+2) _=h3;replace a:h3 (3*n+2)=some (.row [Dk false,Dl ⟨⟨[]⟩⟩,Dl ⟨⟨[]⟩⟩] C):=by rw[←hh,zg Z];exact a
 replace g:h3 (3*(n+1)+2)=some (.row [Dk mi,Dl ⟨⟨M⟩⟩,Dl ⟨⟨[]⟩⟩] F):=by rw[←hh,ze];rfl
 replace i:KN n h h3:=fun b f=>by rw[←hh,zg Z,i b f]
 refine Zj ?_;refine zi R6 g (v:=Dl ⟨⟨M⟩⟩) R2 ?_;have m:yE KT 171 h3 ⟨3*(n+1)+2,0,none⟩=some (.agg #[Dk mi,Dl ⟨⟨M⟩⟩,Dl ⟨⟨[]⟩⟩]):=zF R2 g rfl zb rfl;by_cases h48:M=[48]
 .refine qh true R6 (by rw[h48];rfl) ?_;refine Zq ?_;refine zO (v:=.agg #[Dk mi,Dl ⟨⟨M⟩⟩,Dl ⟨⟨[]⟩⟩]) R5 m ?_;cases mi with
  |true=>
   repeat refine zR ?_
   refine zw [Dk true,Dl ⟨⟨M⟩⟩,Dl ⟨⟨[]⟩⟩] R7 rfl a rfl bR ?_;refine Zb ?_;refine xy (Dk false) R6 (ze _ _ _) rfl Z (fun b f=>(zg Z).trans (i b f)) ?_;rw[show Ly true M R=(M,[],false)from by unfold Ly;rw[De h48];rfl]
  |false=>
   cases R with
   |nil=>
    repeat refine zR ?_
    refine zw [Dk false,Dl ⟨⟨M⟩⟩,Dl ⟨⟨[]⟩⟩] R7 rfl a rfl bR ?_;refine Zb ?_;refine xy (Dk true) R6 (ze _ _ _) rfl Z (fun b f=>(zg Z).trans (i b f)) ?_;rw[show Ly false M []=(M,[],true)from by unfold Ly;rw[De h48];rfl]
   |cons z R=>
    repeat refine zR ?_
    refine zw [Dk false,Dl ⟨⟨M⟩⟩,Dl ⟨⟨[]⟩⟩] R7 rfl a rfl bR ?_;refine Zb ?_;refine xy (Dk false) R6 (ze _ _ _) rfl Z (fun b f=>(zg Z).trans (i b f)) ?_;rw[show Ly false M (z::R)=(M,[],false)from by unfold Ly;rw[De h48];rfl]
 refine qh false R6 (by simpa using h48) ?_;refine Zv ?_;refine zi R6 g (v:=Dl ⟨⟨M⟩⟩) R2 ?_;have K:∀t':TF,Ly mi M R=(M,[],false)→True:=fun _ _=>trivial;cases M with
 |nil=>
  refine Zq ?_;refine zO (v:=.agg #[Dk mi,Dl ⟨⟨[]⟩⟩,Dl ⟨⟨[]⟩⟩]) R5 m ?_;refine zw [Dk mi,Dl ⟨⟨[]⟩⟩,Dl ⟨⟨[]⟩⟩] R7 rfl a rfl bR ?_;refine Zb ?_;refine xy (Dk false) R6 (ze _ _ _) rfl Z (fun b f=>(zg Z).trans (i b f)) ?_;rw[show Ly mi [] R=([],[],false)from by unfold Ly;rw[CT h48,De (.inl rfl)]]
 |cons y M=>
 repeat refine zR ?_
 refine zi R6 g (v:=Dl ⟨⟨y::M⟩⟩) R2 ?_;refine yC (s:=y::M) (j:=0) R8 rfl ?_;by_cases hy:y.toNat=48
 .have I:y=48:=HM.1 hy;refine Zq ?_;refine zO (v:=.agg #[Dk mi,Dl ⟨⟨y::M⟩⟩,Dl ⟨⟨[]⟩⟩]) R5 m ?_;refine zw [Dk mi,Dl ⟨⟨y::M⟩⟩,Dl ⟨⟨[]⟩⟩] R7 rfl a rfl bR ?_;refine Zb ?_;refine xy (Dk false) R6 (ze _ _ _) rfl Z (fun b f=>(zg Z).trans (i b f)) ?_;rw[show Ly mi (y::M) R=(y::M,[],false)from by unfold Ly;rw[CT h48,De (.inr (by rw[I];rfl))]]
 have q:¬(y::M=[]∨(y::M).head?=some 48):=by
  rintro(h|h)
  .cases h
  exact dJ (c:=48) hy h
 refine Zk ?_;cases R with
 |nil=>
  refine Zq ?_;refine zO (v:=.agg #[Dk mi,Dl ⟨⟨y::M⟩⟩,Dl ⟨⟨[]⟩⟩]) R5 m ?_;refine zw [Dk mi,Dl ⟨⟨y::M⟩⟩,Dl ⟨⟨[]⟩⟩] R7 rfl a rfl bR ?_;refine Zb ?_;refine xy (Dk true) R6 (ze _ _ _) rfl Z (fun b f=>(zg Z).trans (i b f)) ?_;rw[show Ly mi (y::M) []=(y::M,[],true)from by unfold Ly;rw[CT h48,CT q,De rfl]]
 |cons z R=>
 refine Zy ?_;refine yC (s:=z::R) (j:=0) R8 rfl ?_;by_cases hz:z.toNat=47;case neg=>
  refine Zq ?_;refine zO (v:=.agg #[Dk mi,Dl ⟨⟨y::M⟩⟩,Dl ⟨⟨[]⟩⟩]) R5 m ?_;refine zw [Dk mi,Dl ⟨⟨y::M⟩⟩,Dl ⟨⟨[]⟩⟩] R7 rfl a rfl bR ?_;refine Zb ?_;refine xy (Dk false) R6 (ze _ _ _) rfl Z (fun b f=>(zg Z).trans (i b f)) ?_;rw[show Ly mi (y::M) (z::R)=(y::M,[],false)from by unfold Ly;rw[CT h48,CT q,CT cA,De (dJ (c:=47) hz)]]
 have H:Ly mi (y::M) (z::R)=(y::M,R.takeWhile K0,(R.dropWhile K0).isEmpty&& !(R.takeWhile K0).isEmpty&&(R.takeWhile K0).head? != some 48&&R.takeWhile K0 != [49]):=by
  have J:z=47:=HM.1 hz;unfold Ly;rw[CT h48,CT q,CT cA,CT (by rw[J];simp)];rfl
 rw[H];rw[D3]at A;refine Zy ?_;refine uE (s:=z::R) (j:=1) R8 cA ?_;rw[show(z::R).drop 1=R from rfl];refine ye _ R5 (oN (k+2) h3 (n+1+1) R Z) ?_;rintro _ rfl;generalize R.takeWhile K0=D;generalize R.dropWhile K0=E;repeat refine zR ?_
 refine yr (cs:=[Dl ⟨⟨D⟩⟩]) R8 g zb jy ?_;generalize hh:upd h3 (3*(n+1)+2) _=h4;replace a:h4 (3*n+2)=some (.row [Dk false,Dl ⟨⟨[]⟩⟩,Dl ⟨⟨[]⟩⟩] C):=by rw[←hh,zg Z];exact a
 replace g:h4 (3*(n+1)+2)=some (.row [Dk mi,Dl ⟨⟨y::M⟩⟩,Dl ⟨⟨D⟩⟩] F):=by rw[←hh,ze];rfl
 replace i:KN n h h4:=fun b f=>by rw[←hh,zg Z,i b f]
 refine Zb ?_;refine zn [0,0,2,6,14,30,62,126,254,510,1022,2046,4094,8190,16382,32766,65534,131070,262142,32767,1048575] rfl<|zS (v:=.agg #[Dk mi,Dl ⟨⟨y::M⟩⟩,Dl ⟨⟨D⟩⟩]) R6 (zF R2 g rfl zb rfl) R2 ?_;cases E with
 |cons x E=>
  repeat (first|refine zS R6 (zL rfl g R2) R2 ?_|refine zD ?_)
  refine xK (cs:=[Dk mi,Dl ⟨⟨y::M⟩⟩,Dl ⟨⟨D⟩⟩]) R7 rfl a zb bR R3 ?_;refine ZI ?_;exact xy (Dk false) (cs:=[Dk mi,Dl ⟨⟨y::M⟩⟩,Dl ⟨⟨D⟩⟩]) R6 (ze _ _ _) rfl Z (fun b f=>(zg Z).trans (i b f)) rfl
 |nil=>
 cases D with
 |nil=>
  repeat (first|refine zS R6 (zL rfl g R2) R2 ?_|refine zD ?_)
  refine xK (cs:=[Dk mi,Dl ⟨⟨y::M⟩⟩,Dl ⟨⟨[]⟩⟩]) R7 rfl a zb bR R3 ?_;refine ZI ?_;exact xy (Dk false) (cs:=[Dk mi,Dl ⟨⟨y::M⟩⟩,Dl ⟨⟨[]⟩⟩]) R6 (ze _ _ _) rfl Z (fun b f=>(zg Z).trans (i b f)) rfl
 |cons u D=>
 by_cases hu:u.toNat=48
 .have p:u=48:=HM.1 hu;repeat (first|refine zS R6 (zL rfl g R2) R2 ?_|refine zD ?_)
  refine xK (cs:=[Dk mi,Dl ⟨⟨y::M⟩⟩,Dl ⟨⟨u::D⟩⟩]) R7 rfl a zb bR R3 ?_;refine ZI ?_;refine xy (Dk false) (cs:=[Dk mi,Dl ⟨⟨y::M⟩⟩,Dl ⟨⟨u::D⟩⟩]) R6 (ze _ _ _) rfl Z (fun b f=>(zg Z).trans (i b f)) ?_;rw[p];rfl
 have p:((u::D).head? != some 48)=true:=by
  have:=dJ (l:=D) (c:=48) hu;simpa using this
 repeat (first|refine zS R6 (zL rfl g R2) R2 ?_|refine zD ?_)
 refine xK (cs:=[Dk mi,Dl ⟨⟨y::M⟩⟩,Dl ⟨⟨u::D⟩⟩]) R7 rfl a zb bR ⟨rfl,rfl,(dh (by intro x i;simp at i;rcases i with rfl|rfl|rfl|rfl<;>show 3*(n+1)+2≠3*n+2<;>omega))⟩ ?_;refine ZI ?_;refine xy (Dk (u::D != [49])) (cs:=[Dk mi,Dl ⟨⟨y::M⟩⟩,Dl ⟨⟨u::D⟩⟩]) R6 (ze _ _ _) rfl Z (fun b f=>(zg Z).trans (i b f)) ?_;rw[p];rfl
end
def dotR:List Rat→List Rat→Rat
 |x::xs,y::ys=>x*y+dotR xs ys
 |_,_=>0
theorem xY{α:Type}{l:List α}{j:Nat}{d:α}(h:l[j]?=some d):l.take (j+1)=l.take j++[d]:=by
 rw[JC,h];rfl
theorem WH(k:Nat)(h:HF)(n:Nat)(s:List UInt8)(e:O s<1000000):CX (KO (k+4)) 115 [Dl ⟨⟨s⟩⟩] h n fun v _ _=>∃neg m d ok,v=.tuple #[.agg #[Dk neg,Dl ⟨⟨m⟩⟩,Dl ⟨⟨d⟩⟩],Dk ok]∧neg=zI s∧K2 s=(m,d,ok):=by
 refine yD (jE k h n s e) ?_;rintro v f g w⟨a,b,c,rfl⟩;exact⟨a,b,c,_,_,_,_,rfl,rfl,rfl⟩
theorem Ob(k:Nat)(h:HF)(n:Nat)(m:AllD s)(j:O s≤570):CX (KO (k+6)) 116 [Dl ⟨⟨s⟩⟩] h n (IV ((dval s:Nat):Int)):=by
 refine yD (mG k h n m j) ?_;rintro v o p w⟨a,l,c,L,rfl,⟨b,d,e,f,g⟩,i⟩;refine⟨b,d,e,_,_,_,_,rfl,?_,L,f,g,?_⟩
 .rw[aA];omega
 rw[i];omega
theorem Frm.len{m d:List UInt8}(h:Frm s m d):O m≤O s∧O d≤O s:=by
 have:=congrArg O h.eq;simp only[Do]at this;refine⟨Z,?_⟩;by_cases hd:d=[]
 .subst hd;exact Hf _
 rw[CT hd,D3]at this;omega
theorem iD{m:List UInt8}(h:AllD m)(a:O m≤600):((dval m:Nat):Int).natAbs<BW:=by
 rw[DQ];refine DY (vK h) (Ed (DJ zd a) ?_);unfold BW;decide+kernel
theorem Oc{m d:List UInt8}(h:K2 s=(m,d,false)):¬xC s:=by
 rw[sV,h];rintro⟨a,_⟩;cases a
theorem tj{m d:List UInt8}(h:K2 s=(m,d,true))(c:d=[]):xC s∧(numOf s).num=(if zI s then -(dval m:Int)else dval m)∧denZ (numOf s)=0:=by
 obtain⟨q,a,e,b⟩:=(qm h).rat (.inl c);rw[rL a];rw[De c]at b;exact⟨⟨q,a⟩,e,yN.2 b⟩
theorem rJ{m d:List UInt8}(h:K2 s=(m,d,true))(c:¬d=[])(l:DH (dval m) (dval d)=1):xC s∧(numOf s).num=(if zI s then -(dval m:Int)else dval m)∧denZ (numOf s)=((dval d:Nat):Int):=by
 have f:=qm h;obtain⟨q,g,i,a⟩:=f.rat (.inr l);rw[rL g];rw[CT c]at a;refine⟨⟨q,g⟩,i,?_⟩;rw[←a];refine wV (mt yN.1 fun e=>?_);rcases f.den with b|⟨b,j⟩
 .exact c b
 have:=pK f.dd c b;rw[←a,e,Qo]at this;exact j this.symm
theorem pB{m d:List UInt8}(h:K2 s=(m,d,true))(b:¬d=[])(c:¬DH (dval m) (dval d)=1):¬xC s:=by
 rw[sV,h];rintro⟨_,a|a⟩
 .exact b a
 exact c a
section
variable {h:HF}{n:Nat}
def TL(s:List UInt8):Prop:=O s<1000000∧∀m d,K2 s=(m,d,true)→O m≤570∧O d≤570
theorem TL.of(h:O s<500):TL s:=⟨Z,fun m d e=>by have:=(qm e).len;omega⟩
theorem Qu(k:Nat)(g:GG h n)(hs:TL s):CX (KO (k+9)) 125 [Dl ⟨⟨s⟩⟩] h n fun v h' n'=>∃b a l c d e f g ok,v=.tuple #[.agg #[Dk b,Y a l c,Dk d,Y e f g],Dk ok]∧IW h' n' b a l c (numOf s).num∧IW h' n' d e f g (denZ (numOf s))∧(ok=true↔xC s):=by
 refine zl (fn:=Tryz.f125) R4<|Zs ?_;intro ab bq c8;refine zG ?_;refine sC (WH _ _ _ s hs.1) ?_;rintro _ ac b5⟨q,Z4,F,Z0,rfl,z12,i⟩ cl c9;cases Z0
 .refine Zs ?_;intro ad br ca;refine sS [Dk q,Dl ⟨⟨Z4⟩⟩,Dl ⟨⟨F⟩⟩] ?_;intro ae bs bd;refine zG ?_;refine sT #[Dk false,Y none 0 0,Dk false,Y none 0 0] ?_;refine sS [Dk false,Y none 0 0,Dk false,Y none 0 0] ?_;intro af bt be;refine zq ?_;exact⟨_,_,_,_,_,_,_,_,_,rfl,(GH _ _).as (by rw[uI (Oc i)];rfl),(GH _ _).as (by rw[uI (Oc i)];rfl),⟨fun m=>(by cases m),fun m=>oU m (Oc i)⟩⟩
 have j:=qm i;have a2:=hs.2 _ _ i;refine Zs ?_;intro ag bu cb;refine sS [Dk q,Dl ⟨⟨Z4⟩⟩,Dl ⟨⟨F⟩⟩] ?_;intro ah bv bf;refine zG ?_;refine sC (Ob _ _ _ j.dm Z) ?_;rintro _ ai V⟨w,u,A,y,rfl,G⟩ cm cc;refine sT #[Dk w,Y u A y,Dk false,Y none 0 0] ?_;refine sA ?_;intro aj bw cd;refine sS [Dk w,Y u A y,Dk false,Y none 0 0] ?_;intro ak bx bg;refine zG ?_;cases q
 .refine zG ?_;by_cases q21:F=[]
  .refine qh true R6 (by simp[q21]) ?_;refine zG ?_;refine sS [Dk w,Y u A y,Dk false,Y none 0 0] ?_;intro al bz bh;refine zq ?_;exact⟨_,_,_,_,_,_,_,_,_,rfl,(G.t zt).as (by rw[(tj i q21).2.1,←z12];rfl),(GH _ _).as (tj i q21).2.2.symm,⟨fun _=>(tj i q21).1,fun _=>rfl⟩⟩
  refine qh false R6 (by simp[q21]) ?_;refine zG ?_;refine sC (Ob _ _ _ j.dd Z) ?_;rintro _ am b6⟨L,J,S,N,rfl,P⟩ cn ce;refine zG ?_;refine sS (b:=3*V+2) (off:=2) [Dk w,Y u A y,Dk L,Y J S N] ?_;intro an c0 bi;refine zG ?_;refine sC (gcdX _ (g.x zx) (G.t zt) (P.t zt) (iD j.dm Z) (iD j.dd Z)) ?_;rintro _ ao b7⟨a5,a3,b3,a9,rfl,a0⟩ co cf;refine sC (qd _ a0) ?_;rintro _ ap b8⟨a6,rfl,W⟩ cp cg;rcases K3 W with⟨rfl,o⟩|⟨rfl,o⟩
  .refine zG ?_;refine sT #[Dk false,Y none 0 0,Dk false,Y none 0 0] ?_;refine sS [Dk false,Y none 0 0,Dk false,Y none 0 0] ?_;intro aq c1 bj;refine zq ?_;exact⟨_,_,_,_,_,_,_,_,_,rfl,(GH _ _).as AE,(GH _ _).as AE,⟨fun m=>(by cases m),fun m=>oU m (pB i q21 gZ)⟩⟩
  refine zG ?_;refine sS [Dk w,Y u A y,Dk L,Y J S N] ?_;intro ar c2 bk;refine zq ?_;exact⟨_,_,_,_,_,_,_,_,_,rfl,(G.t zt).as (by rw[(rJ i q21 gZ).2.1,←z12];rfl),(P.t zt).as (rJ i q21 gZ).2.2.symm,⟨fun _=>(rJ i q21 gZ).1,fun _=>rfl⟩⟩
 refine zG ?_;refine sC (negX _ (G.t zt)) ?_;rintro _ au b9⟨C,B,H,D,rfl,I⟩ cq ch;refine zG ?_;refine sS [Dk C,Y B H D,Dk false,Y none 0 0] ?_;intro av c3 bl;refine zG ?_;by_cases q31:F=[]
 .refine qh true R6 (by simp[q31]) ?_;refine zG ?_;refine sS [Dk C,Y B H D,Dk false,Y none 0 0] ?_;intro aw c4 bm;refine zq ?_;exact⟨_,_,_,_,_,_,_,_,_,rfl,(I.t zt).as (by rw[(tj i q31).2.1,←z12];rfl),(GH _ _).as (tj i q31).2.2.symm,⟨fun _=>(tj i q31).1,fun _=>rfl⟩⟩
 refine qh false R6 (by simp[q31]) ?_;refine zG ?_;refine sC (Ob _ _ _ j.dd Z) ?_;rintro _ ax ba⟨M,K,T,Z1,rfl,R⟩ cr ci;refine zG ?_;refine sS (b:=3*V+2) (off:=2) [Dk C,Y B H D,Dk M,Y K T Z1] ?_;intro ay c5 bn;refine zG ?_;refine sC (gcdX _ (g.x zx) (I.t zt) (R.t zt) (by rw[F3];exact(iD j.dm Z)) (iD j.dd Z)) ?_;rintro _ az bb⟨a7,a4,b4,aa,rfl,a1⟩ cs cj;refine sC (qd _ a1) ?_;rintro _ b0 bc⟨a8,rfl,Z3⟩ ct ck;rcases K3 Z3 with⟨rfl,p⟩|⟨rfl,p⟩
 .refine zG ?_;refine sT #[Dk false,Y none 0 0,Dk false,Y none 0 0] ?_;refine sS [Dk false,Y none 0 0,Dk false,Y none 0 0] ?_;intro b1 c6 bo;refine zq ?_;exact⟨_,_,_,_,_,_,_,_,_,rfl,(GH _ _).as AF,(GH _ _).as AF,⟨fun m=>(by cases m),fun m=>oU m (pB i q31 jx)⟩⟩
 refine zG ?_;refine sS [Dk C,Y B H D,Dk M,Y K T Z1] ?_;intro b2 c7 bp;refine zq ?_;exact⟨_,_,_,_,_,_,_,_,_,rfl,(I.t zt).as (by rw[(rJ i q31 jx).2.1,←z12];rfl),(R.t zt).as (rJ i q31 jx).2.2.symm,⟨fun _=>(rJ i q31 jx).1,fun _=>rfl⟩⟩
theorem WI(k:Nat)(g:GG h n)(m:O s<500):CX (KO (k+9)) 125 [Dl ⟨⟨s⟩⟩] h n fun v i j=>∃b a l c d e f g ok,v=.tuple #[.agg #[Dk b,Y a l c,Dk d,Y e f g],Dk ok]∧IW i j b a l c (numOf s).num∧IW i j d e f g (denZ (numOf s))∧(ok=true↔xC s):=Qu k g (.of m)
def bdOk(s:List UInt8):Prop:=s=[]∨xC s
def pairOk(lo hi:List UInt8):Prop:=bdOk lo∧bdOk hi∧(lo=[]∨hi=[]∨numOf lo≤numOf hi)
end
section
variable {h h':HF}{len n n':Nat}
structure StayO {D:Type}(P:List Value→D→HF→Nat→Prop):Prop where
 go:∀c d h h' n b cs e,P c d h n→h b=some (.row cs e)→cs.all nu=true→Only b h h'→P c d h' n
theorem ratP.stayO:StayO ratP:=⟨fun _ _ _ _ _ _ _ _ ⟨b,a,l,k,d,e,f,g,q,i,j⟩ o p c=>⟨b,a,l,k,d,e,f,g,q,i.only o p c,j.only o p c⟩⟩
theorem numP.stayO:StayO numP:=⟨fun _ _ _ _ _ _ _ _ ⟨b,a,l,k,d,e,f,g,q,i,j⟩ o p c=>⟨b,a,l,k,d,e,f,g,q,i.only o p c,j.only o p c⟩⟩
structure Fil {D:Type}(P:List Value→D→HF→Nat→Prop)(h:HF)(n B:Nat)(cs:List Value)(e:TypeId)(S:List D)(j:Nat):Prop where
 row:h B=some (.row cs e)
 len:O cs=O S*4
 nus:cs.all nu=true
 rcs:Rec 4 (fun c d=>P c d h n) (cs.take (j*4)) (S.take j)
theorem ma{c:List Value}{o:Nat}(h:o+O c≤O cs):(zv cs o c).take (o+O c)=cs.take o++c∧O (zv cs o c)=O cs:=by
 unfold zv;constructor
 .rw[←DN,Fk Bx,DK Bx]
 simp only[Do,DW,Ea];omega
theorem WJ{c:List Value}{o:Nat}(d:cs.all nu=true)(f:c.all nu=true):(zv cs o c).all nu=true:=by
 unfold zv;rw[Fy]at*
 intro x b;simp only[Ec]at b;rcases b with b|b|b
 .exact d x (EB b)
 .exact f x b
 exact d x (FB b)
section
variable {P:List Value→D→HF→Nat→Prop}
theorem Fil.ext(g:Stay P){S:List D}(f:Fil P h n B cs e S j)(x:KN n h h')(i:n≤n')(b:B<3*n):Fil P h' n' B cs e S j:=
 ⟨(x B b).trans f.row,f.len,f.nus,f.rcs.mono fun c d l=>g.go c d _ _ _ _ l x i⟩
theorem Fil.step(l:StayO P){c:List Value}{S:List D}{d:D}(f:Fil P h n B cs e S j)(o:S[j]?=some d)(g:O c=4)(u:c.all nu=true)(hp:P c d h n):Fil P (upd h B (some (.row (zv cs (j*4) c) e))) n B (zv cs (j*4) c) e S (j+1):=by
 have y:=(Du.1 o).1;have i:j*4+O c≤O cs:=by rw[f.len,g];omega
 obtain⟨q,w⟩:=ma i;have p:Only B h (upd h B (some (.row (zv cs (j*4) c) e))):=fun b s=>zg s;refine⟨ze _ _ _,w.trans f.len,WJ f.nus u,?_⟩;rw[g]at q;rw[Fb,q,xY o];exact(f.rcs.mono fun c d hp=>l.go c d _ _ _ _ _ _ hp f.row f.nus p).snoc g (l.go c d _ _ _ _ _ _ hp f.row f.nus p)
theorem Fil.start{z:List Value}{S:List D}(c:h B=some (.row (K1 m z) e))(d:O z=4)(hu:z.all nu=true)(b:m=O S):Fil P h n B (K1 m z) e S 0:=by
 refine⟨c,by rw[Wm,d,b],?_,by rw[EI,Fe,Fe];exact .nil⟩;clear c b;induction m with
 |zero=>rfl
 |succ m ih=>rw[K1,J2,hu,ih];rfl
theorem Fil.rs{S:List D}(f:Fil P h n B cs e S (O S))(c:B<3*n):RS 4 P h n (Y (some ⟨B,0,none⟩) (O S) (O S)) S:=by
 have d:=f.len;have b:=f.rcs;rw[DO,←d,DO]at b;exact⟨cs,.at_ c f.row rfl Dh Z ta,b⟩
end
def Od(lo:Nat)(h:HF)(n:Nat)(v:Value)(l:List Rat):Prop:=QS h n v l∧∀ad len cap,v=Y (some ad) len cap→3*lo≤ad.block∧gro ad.block=false
theorem WK(k:Nat)(g:GG h n){S:List (List UInt8)}(I:Sl h n 1 (Y a len cap) (strs S))(hl:∀s∈S,O s<500)(u:O S<1000000):
  CX (KO (k+10)) 201 [Y a len cap] h n fun v h' n'=>∃a' l' c' F,v=.tuple #[Y a' l' c',Dk F]∧(F=true↔∀s∈S,xC s)∧(F=true→Od n h' n' (Y a' l' c') (S.map numOf)):=by
 refine zl (fn:=Tryz.f201) R4 ?_;have e1:=wo I;subst e1;refine Zu ?_;refine xP R9 Z<|Zl ?_;generalize hh:upd h (3*n+2) _=h1;have a0:∃cs,Fil ratP h1 (n+1) (3*n+2) cs 139 (S.map numOf) 0:=⟨_,.start kz rfl rfl (by rw[DC])⟩;have a2:KN n h h1:=by rw[←hh];exact C4
 refine zK (α:=Nat) (fun z=>[(4,Y (some ⟨3*n+2,0,none⟩) (O S) (O S)),(12,Y a (O S) cap),(13,U .i64 (O S:Int)),(14,U .i64 (z:Int))])
  (fun z h' n' w'=>w'=[]∧n+1≤n'∧KN n h h'∧(∃cs,Fil ratP h' n' (3*n+2) cs 139 (S.map numOf) z)∧z≤O S∧∀s∈S.take z,xC s) (fun z=>O S-z)
  0 V4 ⟨rfl,Dh,a2,a0,Di,fun s I=>oU I cA⟩ Ag ?_
 rintro z t h2 J _⟨rfl,a3,q,⟨cs,V⟩,hz,i⟩;refine zN ?_;by_cases hze:z=O S
 .refine Zm ?_;rw[hze,DO]at i;have N:=V;rw[hze,←DC (f:=numOf)]at N;have Z0:=N.rs (show 3*n+2<3*J by omega);rw[DC]at Z0;exact retX [Y (some ⟨3*n+2,0,none⟩) (O S) (O S),Dk true] R3 (show n≤J by omega) q ⟨_,_,_,_,rfl,⟨fun _=>i,fun _=>rfl⟩,fun _=>⟨Z0,fun ad l c e=>by cases e;exact⟨bR,yv n⟩⟩⟩
 obtain⟨s,p⟩:∃s,S[z]?=some s:=⟨S[z]'Z,Dm Z⟩;have y:s∈S:=Dq p;refine ZD ?_;refine ya (f:=fun s=>Dl ⟨⟨s⟩⟩) (j:=z) (dv:=s) R7 (I.ext q (show n≤J by omega)) R2 p (fun _=>rfl) R4 fun _=>?_;refine ZG ?_;refine ed R5 (WI k (g.ext q (show n≤J by omega)) (hl s y)) ?_;rintro _ h3 K⟨b,G,l,c,d,e,f,H,F,rfl,i3,j3,Z1⟩ Z3 T;repeat refine zR ?_
 refine wO [Dk false,Y none 0 0,Dk false,Y none 0 0] R6 ?_;intro h4 L M;refine nO [Dk b,Y G l c,Dk d,Y e f H] R5 L R3 zb rfl eL ?_;intro Z4 p5 C;have o:=(V.ext ratP.stay T Z3 Z).ext ratP.stay M zs Z;have x5:KN K h4 Z4:=fun b u=>C b Z;have i5:=(i3.ext M zs).only L rfl C;have j5:=(j3.ext M zs).only L rfl C;have w:Fil ratP Z4 (K+1) (3*n+2) cs 139 (S.map numOf) z:=⟨(C _ Z).trans o.row,o.len,o.nus,o.rcs.mono fun c d hp=>ratP.stayO.go c d _ _ _ _ _ _ hp L rfl C⟩;have A:KN n h Z4:=fun b u=>(x5 b Z).trans ((M b Z).trans ((T b Z).trans (q b u)));refine Zb ?_;cases F with
 |false=>
  refine Zo ?_;exact retX [Y none 0 0,Dk false] R3 (show n≤K+1 by omega) A ⟨_,_,_,_,rfl,⟨fun h=>oU h cA,fun h=>Z1.2 (h s y)⟩,fun h=>oU h cA⟩
 |true=>
 refine Ze ?_;refine Zp ?_;refine zO (v:=.agg #[Dk b,Y G l c,Dk d,Y e f H]) R5 (zF R2 p5 rfl zb rfl)<|Oa (aq:=some ⟨3*n+2,0,none⟩) (j:=z) R9 Z ?_;refine yr (b:=3*n+2) (off:=z*4) (cs:=[Dk b,Y G l c,Dk d,Y e f H]) ⟨rfl,rfl,rfl,rfl,A7,rfl,rfl,rfl⟩ w.row (by rw[w.len,DC];omega) eL ?_;have W:=w.step ratP.stayO (j:=z) (c:=[Dk b,Y G l c,Dk d,Y e f H]) (by rw[DB,p];rfl) rfl rfl ⟨_,_,_,_,_,_,_,_,rfl,i5,j5⟩;refine Zc ?_;refine goOn (z+1) As V4 ⟨rfl,by show n+1≤K+1;omega,fun b u=>(zg Z).trans (A b u),⟨_,W⟩,AO,?_⟩;intro s' R;rw[xY p]at R;rcases Ec.1 R with h'|h'
 .exact i s' h'
 rw[Dx.1 h'];exact Z1.1 rfl
theorem Oe(k:Nat){S:List (List UInt8)}(J:Sl h n 1 (Y a len cap) (strs S))(hl:∀s∈S,O s<500)(p:O S<1000000):
  CX (KO (k+7)) 16 [Y a len cap] h n fun v h' n'=>∃a' l' c' F,v=.tuple #[Y a' l' c',Dk F]∧(F=true↔∀s∈S,xC s)∧(F=true→NS h' n' (Y a' l' c') (S.map numOf)):=by
 refine zl (fn:=Tryz.f16) R4 ?_;have e1:=wo J;subst e1;refine Zu ?_;refine xP R9 Z<|Zl ?_;generalize hh:upd h (3*n+2) _=h1;have a2:∃cs,Fil numP h1 (n+1) (3*n+2) cs 51 (S.map numOf) 0:=⟨_,.start kz rfl rfl (by rw[DC])⟩;have a3:KN n h h1:=by rw[←hh];exact C4
 refine zK (α:=Nat) (fun z=>[(0,Y a (O S) cap),(4,Y (some ⟨3*n+2,0,none⟩) (O S) (O S)),(5,U .i64 (z:Int))])
  (fun z h' n' w'=>w'=[]∧n+1≤n'∧KN n h h'∧(∃cs,Fil numP h' n' (3*n+2) cs 51 (S.map numOf) z)∧z≤O S∧∀s∈S.take z,xC s) (fun z=>O S-z)
  0 V3 ⟨rfl,Dh,a3,a2,Di,fun s J=>oU J cA⟩ Ag ?_
 rintro z t h2 V _⟨rfl,a4,A,⟨cs,W⟩,hz,g⟩;refine zN ?_;by_cases hze:z=O S
 .refine Zm ?_;rw[hze,DO]at g;have N:=W;rw[hze,←DC (f:=numOf)]at N;have I:=N.rs (show 3*n+2<3*V by omega);rw[DC]at I;exact retX [Y (some ⟨3*n+2,0,none⟩) (O S) (O S),Dk true] R3 (show n≤V by omega) A ⟨_,_,_,_,rfl,⟨fun _=>g,fun _=>rfl⟩,fun _=>I⟩
 obtain⟨s,o⟩:∃s,S[z]?=some s:=⟨S[z]'Z,Dm Z⟩;have w:s∈S:=Dq o;refine ZC ?_;refine ya (f:=fun s=>Dl ⟨⟨s⟩⟩) (j:=z) (dv:=s) R7 (J.ext A (show n≤V by omega)) R2 o (fun _=>rfl) R4 fun _=>?_;refine ed R5 (Qm k _ _ s (by have:=hl s w;omega)) ?_;rintro _ h3 K⟨b,G,l,c,d,e,f,H,F,q,rfl,i3,j3,Z1,Z0⟩ a0 T;repeat refine zR ?_
 refine wO [Dk false,Y none 0 0,Dk false,Y none 0 0] R6 ?_;intro h4 L M;refine nO [Dk b,Y G l c,Dk d,Y e f H] R5 L R3 zb rfl eL ?_;intro Z4 p5 C;have i:=(W.ext numP.stay T a0 Z).ext numP.stay M zs Z;have x5:KN K h4 Z4:=fun b p=>C b Z;have i5:=(i3.ext M zs).only L rfl C;have j5:=(j3.ext M zs).only L rfl C;have u:Fil numP Z4 (K+1) (3*n+2) cs 51 (S.map numOf) z:=⟨(C _ Z).trans i.row,i.len,i.nus,i.rcs.mono fun c d hp=>numP.stayO.go c d _ _ _ _ _ _ hp L rfl C⟩;have y:KN n h Z4:=fun b p=>(x5 b Z).trans ((M b Z).trans ((T b Z).trans (A b p)));refine Zb ?_;cases F with
 |false=>
  refine Zo ?_;exact retX [Y none 0 0,Dk false] R3 (show n≤K+1 by omega) y ⟨_,_,_,_,rfl,⟨fun h=>oU h cA,fun h=>Z0 (h s w)⟩,fun h=>oU h cA⟩
 |true=>
 have I:=rL (Z1 rfl);subst I;refine Ze ?_;refine Zp ?_;refine zO (v:=.agg #[Dk b,Y G l c,Dk d,Y e f H]) R5 (zF R2 p5 rfl zb rfl)<|Oa (aq:=some ⟨3*n+2,0,none⟩) (j:=z) R9 Z ?_;refine yr (b:=3*n+2) (off:=z*4) (cs:=[Dk b,Y G l c,Dk d,Y e f H]) ⟨rfl,rfl,rfl,rfl,A7,rfl,rfl,rfl⟩ u.row (by rw[u.len,DC];omega) eL ?_;have Z3:=u.step numP.stayO (j:=z) (c:=[Dk b,Y G l c,Dk d,Y e f H]) (by rw[DB,o];rfl) rfl rfl ⟨_,_,_,_,_,_,_,_,rfl,i5,j5⟩;refine Zc ?_;refine goOn (z+1) As V3 ⟨rfl,by show n+1≤K+1;omega,fun b p=>(zg Z).trans (y b p),⟨_,Z3⟩,AO,?_⟩;intro s' R;rw[xY o]at R;rcases Ec.1 R with h'|h'
 .exact g s' h'
 rw[Dx.1 h'];exact⟨_,Z1 rfl⟩
end
def qn(a:Nat→Nat→Rat)(k:Nat):Nat→Nat→Rat:=fun i j=>if k<i∧k<j then a i j-a i k/a k k*a k j else a i j
def psdA(n:Nat):Nat→Nat→(Nat→Nat→Rat)→Prop
 |0,_,_=>True
 |m+1,k,a=>0≤a k k∧(a k k=0→∀i,k<i→i<n→a i k=0)∧psdA n m (k+1) (qn a k)
theorem kJ{a:Nat→Nat→Rat}(h:a k k=0):qn a k=a:=by
 funext i j;unfold qn;split
 .rw[h,FI,ab1,Gg,IE,Gk,Rat.neg_zero,Rat.add_zero]
 rfl
def TabR(n:Nat)(T:Nat→Nat→Int)(bf:Int)(s:Nat→Rat)(a:Nat→Nat→Rat)(k:Nat):Prop:=∀i j,k≤i→i<n→k≤j→j<n→(T i j:Rat)=bf*s i*a i j
theorem uQ{x:Int}:((x:Rat)=0)↔x=0:=by
 constructor
 .intro h;have:(x:Rat)=((0:Int):Rat):=h;exact Rat.intCast_inj.1 this
 rintro rfl;rfl
theorem ry{T:Nat→Nat→Int}{s:Nat→Rat}{a:Nat→Nat→Rat}(h:TabR n T bf s a k)(o:0<bf)(m:∀i,0<s i)(d:k≤i)(f:i<n)(g:k≤j)(l:j<n):T i j=0↔a i j=0:=by
 have e:=h i j d f g l;have c:(bf:Rat)≠0:=fun e=>by have:=uQ.1 e;omega
 have b:=m i;rw[←uQ,e];constructor
 .intro h;rcases J4.1 h with h|h
  .rcases J4.1 h with h|h
   .exact oU h c
   rw[h]at b;exact oU b zd
  exact h
 intro h;rw[h,Gg]
def yR(T:Nat→Nat→Int)(k:Nat)(bf:Int):Nat→Nat→Int:=fun i j=>if k<i then(T k k*T i j-T i k*T k j).tdiv bf else T i j
theorem WL{T:Nat→Nat→Int}{s:Nat→Rat}{a:Nat→Nat→Rat}(h:TabR n T bf s a k)(I:0<bf)(f:k<n)(hp:T k k≠0)(G:∀i j,k<i→i<n→k<j→j<n→bf∣T k k*T i j-T i k*T k j):TabR n (yR T k bf) (T k k) s (qn a k) (k+1):=by
 intro i j C m D o;have d:k<i:=C;have g:k<j:=D;unfold yR qn;rw[De d,De ⟨d,g⟩];obtain⟨q,w⟩:=G i j d m g o;have H:(bf:Rat)≠0:=fun e=>by have:=uQ.1 e;omega
 have p:=h k k Dh f Dh f;have y:=h i j Z m Z o;have A:=h i k Z m Dh f;have B:=h k j Dh f Z o;have v:(T k k:Rat)≠0:=fun e=>hp (uQ.1 e);have F:a k k≠0:=fun e=>v (by rw[p,e,Gg]);rw[w,Hu _ Z];have l:((T k k:Rat)*T i j-T i k*T k j)=bf*q:=by
  have:=congrArg (fun x:Int=>(x:Rat)) w;simpa [Rat.intCast_sub,FO]using this
 rw[y,A,B]at l;have u:a i k/a k k*a k k=a i k:=Rat.div_mul_cancel F;generalize a i k/a k k=c at u⊢;generalize (T k k:Rat)=t at*
 generalize (q:Rat)=q at*
 generalize (bf:Rat)=b at*
 have:b*q=b*(t*s i*(a i j-c*a k j)):=by
  rw[←l,p,←u]
  grind
 grind
inductive LdS (n:Nat) (T0:Nat→Nat→Int):Nat→(Nat→Nat→Int)→Int→Prop
 |zero:LdS n T0 0 T0 1
 |skip {k T bf} (h:LdS n T0 k T bf) (h0:∀i,k≤i→i<n→T i k=0):LdS n T0 (k+1) T bf
 |clear {k T bf} (h:LdS n T0 k T bf) (hp:T k k≠0) (hk:k<n):LdS n T0 (k+1) (yR T k bf) (T k k)
def det3(T:Nat→Nat→Int):Int:=T 0 0*(T 1 1*T 2 2-T 1 2*T 2 1)-T 0 1*(T 1 0*T 2 2-T 1 2*T 2 0)+T 0 2*(T 1 0*T 2 1-T 1 1*T 2 0)
theorem Qv(T:Nat→Nat→Int):(T 0 0*T 1 1-T 1 0*T 0 1)*(T 0 0*T 2 2-T 2 0*T 0 2)-(T 0 0*T 2 1-T 2 0*T 0 1)*(T 0 0*T 1 2-T 1 0*T 0 2)=T 0 0*det3 T:=by unfold det3;grind
theorem we{T:Nat→Nat→Int}(h:k<i):yR T k 1 i j=T k k*T i j-T i k*T k j:=by
 unfold yR;rw[De h,GZ]
theorem LdS.dvd{a T:Nat→Nat→Int}(l:n≤3)(h:LdS n a k T bf):∀i j,k<i→i<n→k<j→j<n→bf∣T k k*T i j-T i k*T k j:=by
 intro i j d e f g;cases h with
 |zero=>exact ae2 _
 |skip h _=>
  cases h with
  |zero=>exact ae2 _
  |skip=>omega
  |clear=>omega
 |clear h hp hk=>
  cases h with
  |zero=>
   have b:i=2:=Z;have c:j=2:=Z;subst b c;show a 0 0∣yR a 0 1 1 1*yR a 0 1 2 2-yR a 0 1 2 1*yR a 0 1 1 2;rw[we Z,we Z,we Z,we Z,Qv];exact Int.dvd_mul_right _ _
  |skip=>omega
  |clear=>omega
def bndT(M:Nat):Nat→Nat
 |0=>M
 |1=>2*(M*M)
 |_=>6*(M*(M*M))
theorem pf{a b c d:Int}(f:a.natAbs≤M)(g:b.natAbs≤M)(l:c.natAbs≤M)(m:d.natAbs≤M):(a*b-c*d).natAbs≤2*(M*M):=by
 have e:=Int.natAbs_sub_le (a*b) (c*d);rw[Fl,Fl]at e;have o:=Es f g;have p:=Es l m;omega
theorem pT{a b:Int}(c:a.natAbs≤M)(d:b.natAbs≤N):(a*b).natAbs≤M*N:=by
 rw[Fl];exact Es c d
theorem WM{T:Nat→Nat→Int}(h:∀i j,i<3→j<3→(T i j).natAbs≤M):(det3 T).natAbs≤6*(M*(M*M)):=by
 have a:=pT (h 0 0 Z Z) (pf (h 1 1 Z Z) (h 2 2 Z Z) (h 1 2 Z Z) (h 2 1 Z Z));have b:=pT (h 0 1 Z Z) (pf (h 1 0 Z Z) (h 2 2 Z Z) (h 1 2 Z Z) (h 2 0 Z Z));have c:=pT (h 0 2 Z Z) (pf (h 1 0 Z Z) (h 2 1 Z Z) (h 1 1 Z Z) (h 2 0 Z Z));unfold det3;generalize T 0 0*_=x at*
 generalize T 0 1*_=y at*
 generalize T 0 2*_=z at*
 have e:M*(2*(M*M))=2*(M*(M*M)):=by rw[ER]
 rw[e]at a b c;omega
theorem WN{T:Nat→Nat→Int}(h:k<i):yR T k bf i j=(T k k*T i j-T i k*T k j).tdiv bf:=by
 unfold yR;rw[De h]
theorem lQ{T:Nat→Nat→Int}(h:i≤k):yR T k bf i j=T i j:=by
 unfold yR;rw[CT Z]
theorem lU(h:1≤M):M≤bndT M 1∧bndT M 1≤bndT M 2∧M≤bndT M 2:=by
 have b:M*1≤M*M:=DT M h;have a:M*M*1≤M*M*M:=DT (M*M) h;rw[DG M M M]at a;show M≤2*(M*M)∧2*(M*M)≤6*(M*(M*M))∧M≤6*(M*(M*M));omega
theorem WO{T:Nat→Nat→Int}(b:k<n)(e:1≤M)(a:∀i j,i<n→j<n→(T i j).natAbs≤M):∀i j,i<n→j<n→(yR T k 1 i j).natAbs≤bndT M 1:=by
 intro i j c d;by_cases h:k<i
 .rw[we h];exact pf (a _ _ b b) (a _ _ c d) (a _ _ c b) (a _ _ b d)
 rw[lQ Z];exact Ed (a _ _ c d) (lU e).1
theorem LdS.bound{a T:Nat→Nat→Int}(v:n≤3)(e:1≤M)(d:∀i j,i<n→j<n→(a i j).natAbs≤M)(h:LdS n a k T bf)(q:k<n):(∀i j,i<n→j<n→(T i j).natAbs≤bndT M k)∧bf.natAbs≤bndT M 1∧(k≤1→bf.natAbs≤M):=by
 obtain⟨g,l,u⟩:=lU e;have m:(1:Int).natAbs≤bndT M 1:=Ed e g;have f:∀k,k<n→∀i j,i<n→j<n→(yR a k 1 i j).natAbs≤bndT M 1:=fun k q=>WO q e d;cases h with
 |zero=>exact⟨d,m,fun _=>e⟩
 |skip h _=>
  cases h with
  |zero=>exact⟨fun i j b c=>Ed (d i j b c) g,m,fun _=>e⟩
  |skip h _=>
   cases h with
   |zero=>exact⟨fun i j b c=>Ed (d i j b c) u,m,fun _=>e⟩
   |skip=>omega
   |clear=>omega
  |clear h hp hk0=>
   cases h with
   |zero=>exact⟨fun i j b c=>Ed (f 0 hk0 i j b c) l,Ed (d 0 0 hk0 hk0) g,fun h=>Z⟩
   |skip=>omega
   |clear=>omega
 |clear h hp hk0=>
  cases h with
  |zero=>exact⟨f 0 hk0,Ed (d 0 0 hk0 hk0) g,fun _=>d 0 0 hk0 hk0⟩
  |skip h _=>
   cases h with
   |zero=>exact⟨fun i j b c=>Ed (f 1 hk0 i j b c) l,Ed (d 1 1 hk0 hk0) g,fun h=>Z⟩
   |skip=>omega
   |clear=>omega
  |clear h hp0 hk1=>
   cases h with
   |zero=>
    refine⟨fun i j b c=>?_,f 0 hk1 1 1 hk0 hk0,fun h=>Z⟩;by_cases hi1:i≤1
    .rw[lQ hi1];exact Ed (f 0 hk1 i j b c) l
    have o:i=2:=Z;subst o;have s:∀j,yR (yR a 0 1) 1 (a 0 0) 2 j=(yR a 0 1 1 1*yR a 0 1 2 j-yR a 0 1 2 1*yR a 0 1 1 j).tdiv (a 0 0):=fun j=>WN Z;rw[s];have p:j=0∨j=1∨j=2:=Z;rcases p with rfl|rfl|rfl
    .rw[we (T:=a) (i:=2) (j:=0) Z,we (T:=a) (i:=1) (j:=0) Z];rw[Jg (a 2 0),JU,Jg (a 1 0),JU,JV,JV,JU,Kr];exact Hf _
    .rw[Jg (yR a 0 1 2 1),JU,Kr];exact Hf _
    rw[we Z,we Z,we Z,we Z,Qv,Hu _ hp0];exact WM fun i j b c=>d i j Z Z
   |skip=>omega
   |clear=>omega
structure LdI (n:Nat)(T0:Nat→Nat→Int)(s:Nat→Rat)(a0:Nat→Nat→Rat)(k:Nat)(T:Nat→Nat→Int)(bf:Int)(a:Nat→Nat→Rat):Prop where
 tab:TabR n T bf s a k
 ls:LdS n T0 k T bf
 pos:0<bf
 eq:psdA n n 0 a0↔psdA n (n-k) k a
section
variable {n k:Nat}{T:Nat→Nat→Int}{s:Nat→Rat}{a:Nat→Nat→Rat}{bf:Int}
theorem LdI.start(h:TabR n T0 1 s a0 0):LdI n T0 s a0 0 T0 1 a0:=⟨h,.zero,by decide,Hi⟩
theorem LdI.done(h:LdI n T0 s a0 k T bf a)(b:k=n):psdA n n 0 a0:=by
 rw[h.eq,b,Ee];trivial
theorem LdI.unf(h:LdI n T0 s a0 k T bf a)(b:k<n):psdA n n 0 a0↔(0≤a k k∧(a k k=0→∀i,k<i→i<n→a i k=0)∧psdA n (n-(k+1)) (k+1) (qn a k)):=by
 rw[h.eq,show n-k=(n-(k+1))+1 by omega];exact Hi
theorem LdI.neg(h:LdI n T0 s a0 k T bf a)(b:k<n)(c:a k k<0):¬psdA n n 0 a0:=by
 rw[h.unf b];exact fun h=>Rat.not_lt.2 h.1 c
theorem LdI.found(h:LdI n T0 s a0 k T bf a)(f:∀i,0<s i)(c:k<n)(l:a k k=0)(e:k<i)(b:i<n)(g:T i k≠0):¬psdA n n 0 a0:=by
 rw[h.unf c];exact fun d=>g ((ry h.tab h.pos f Z b Dh c).2 (d.2.1 l i e b))
theorem LdI.skip(h:LdI n T0 s a0 k T bf a)(g:∀i,0<s i)(c:k<n)(f:a k k=0)(l:∀i,k<i→i<n→T i k=0):LdI n T0 s a0 (k+1) T bf a:=by
 refine⟨fun i j b e q o=>h.tab i j Z e Z o,h.ls.skip fun i b e=>?_,h.pos,?_⟩
 .rcases Nat.lt_or_eq_of_le b with b|rfl
  .exact l i b e
  exact(ry h.tab h.pos g Dh c Dh c).2 f
 rw[h.unf c,kJ f];constructor
 .exact fun h=>h.2.2
 exact fun m=>⟨by rw[f];exact Rat.le_refl,fun _ i p d=>(ry h.tab h.pos g Z d Dh c).1 (l i p d),m⟩
theorem LdI.pivot(h:LdI n T0 s a0 k T bf a)(d:∀i,0<s i)(b:k<n)(hp:0<a k k):0<T k k:=by
 have e:=h.tab k k Dh b Dh b;have c:(0:Rat)<bf:=He.2 h.pos;have:(0:Rat)<T k k:=by rw[e];exact Ke (Ke c (d k)) hp
 exact He.1 this
theorem LdI.step(f:n≤3)(h:LdI n T0 s a0 k T bf a)(g:∀i,0<s i)(b:k<n)(hp:0<a k k):LdI n T0 s a0 (k+1) (yR T k bf) (T k k) (qn a k):=by
 have d:=h.pivot g b hp;refine⟨WL h.tab h.pos b Z (h.ls.dvd f),h.ls.clear Z b,d,?_⟩;rw[h.unf b];constructor
 .exact fun h=>h.2.2
 exact fun c=>⟨Rat.le_of_lt hp,fun e=>oU hp (by rw[e];decide),c⟩
theorem LdI.value(h:LdI n T0 s a0 k T bf a){D:Int}(o:0<D)(m:∀i,s i=(D:Rat))(b:k≤i)(c:i<n)(d:k≤j)(f:j<n):a i j=(T i j:Rat)/((bf*D:Int):Rat):=by
 have e:=h.tab i j b c d f;rw[m i]at e;have g:(bf:Rat)≠0:=fun e=>by have:=uQ.1 e;have:=h.pos;omega
 have l:(D:Rat)≠0:=fun e=>by have:=uQ.1 e;omega
 rw[e,FO,FI,Rat.mul_comm _ (a i j),Rat.mul_assoc,Rat.mul_inv_cancel _ (fun e=>(J4.1 e).elim g l),Rat.mul_one]
end
noncomputable def ctxR(k n nt l:Nat):CtxF:={E:=KT,C:=KO k,L:=LL,round:=some l,n0:=n,nt:=nt}
def YF(C:CalF)(l:Nat)(args:List Value)(h:HF)(n:Nat)(P:HF→Nat→List Nat→Prop):Prop:=∃h' n' w,C.yl l args h n=some (Dk true,h',n',w)∧P h' n' w
def RndE(l:Nat)(B:BF)(B':BF)(P:HF→Nat→List Nat→Prop):Ex→SV→Prop:=fun e s=>e=.normal∧s.h l=some B∧P (upd s.h l (some B')) s.n (l::s.w)
def RndA(X:CtxF)(l:Nat)(B0 B B':BF)(body:Code)(P:HF→Nat→List Nat→Prop):Ex→SV→Prop:=fun e s=>e=.normal∧s.h l=some B0∧EC X body ⟨s.t,upd s.h l (some B),s.n,l::s.w⟩ (RndE l B B' P)
theorem WP{h:HF}{n d:Nat}{τ g:TF}{a:List Tmp}{P:HF→Nat→List Nat→Prop}(u:h l=some (.loop true none τ nt a assign body d))(s:Eh (O args) (O a)=true)(v:oh nt a args τ=some g)
  (y:EC (ctxR k n nt l) assign ⟨g,h,n,[]⟩ (RndA (ctxR k n nt l) l (.loop true none τ nt a assign body d) (.loop false none τ nt a assign body d) (.loop true none τ nt a assign body d) body P)):YF (KO (k+1)) l args h n P:=by
 obtain⟨e,B,b,rfl,j,A,C,f,rfl,p,q⟩:=y;refine⟨_,_,_,?_,q⟩;show gp KT (KO k) LL l args h n=_;unfold gp;rw[u];simp only[s,v];unfold ctxR at b f;rw[b];simp only[j];rw[f];simp only[p]
theorem WQ{X:CtxF}{g:Operand}{q:FuncId}{first cap:Array Value}{u:Array Tmp}{t:TF}{h:HF}{n:Nat}{w:List Nat}{Q:Ex→SV→Prop}(J:X.round=none)(I:KM t g=.func (.func q) first cap)
  (H:CF X.C q (first.toList++([.func (.yield (3*(n+1)+2)) #[] #[]]++cap.toList)) (upd (upd h (3*n+2) (some .dfr)) (3*(n+1)+2) (some (.loop true none t X.nt u.toList assign body (3*n+2)))) (n+2)
   fun _ a s A=>(∃y b e f j p,a (3*(n+1)+2)=some (.loop true none y b e f j p))∧a (3*n+2)=some .dfr∧Q .normal ⟨t,upd (upd a (3*(n+1)+2) none) (3*n+2) none,s,addW X.n0 A w⟩):EC X (.rangeFunc g u assign body) ⟨t,h,n,w⟩ Q:=by
 obtain⟨v,a,s,A,B,⟨y,b,e,f,j,p,D⟩,F,G⟩:=H;refine⟨_,_,?_,G⟩;unfold xQ gt;simp only[I,J];rw[show n+1+1=n+2 from rfl,B];simp only[D,F,MO]
section
variable {h:HF}{n:Nat}{d:Tmp}
theorem WR(P:HF→Nat→List Nat→Prop)(s:zh ops t o=true)(g:o.dst=some d)(p:zu X.nt (some d)=true)(f:KS o.op=3)(j:effF X.E o.op (KM t) h n=some (.round l args))(a:YF X.C l args h n P)
  (k:∀h' n' w',P h' n' w'→EO X ops r ⟨upd t d (Dk true),h',n',addW X.n0 w' w⟩ Q):EO X ops (o::r) ⟨t,h,n,w⟩ Q:=by
 obtain⟨e,u,v,b,q⟩:=a;have:=k e u v q;unfold EO at this⊢;rw[seqF,s];simp only[Lv,f,ng,j,b,wp,g,p];exact this
theorem WS{q:List Nat}{f j:List (Nat×Nat)}{g:List (Nat×HF×List Nat)}(P:HF→Nat→List Nat→Prop)(J:zh ops t o=true)(F:o.dst=some d)(H:zu X.nt (some d)=true)(D:KS o.op=3)(G:effF X.E o.op (KM t) h n=some (.round l args))(s:xF m g=true)(u:xW m f=true)(e:YF X.C l args h n P)
  (k:∀b a W,P b a W→yd m W j=true∧n≤a∧ED X ops r q (i+1) ⟨⟨upd t d (Dk true),b,a,addW X.n0 W w⟩,f,j,(i,h,W)::g⟩ Q):ED X ops (o::r) (m::q) i ⟨⟨t,h,n,w⟩,f,j,g⟩ Q:=by
 obtain⟨b,a,W,p,I⟩:=e;obtain⟨v,y,K,A,B⟩:=k b a W I;refine⟨K,?_,B⟩;unfold z9;simp only[J];unfold qx;simp only[D,s,u,EF,ng,G,p,wp,F,H,v,Dv y];exact A
end
structure YS (C:CalF)(l:Nat)(W:Nat→Prop)(args:Nat→List Value)(K:Nat)(I:Nat→HF→Nat→Prop):Prop where
 step:∀k h n,k<K→I k h n→YF C l (args k) h n fun h' n' w=>I (k+1) h' n'∧n≤n'∧(∀c,c<3*n→¬W c→h' c=h c)∧∀c∈w,W c∨3*n≤c
theorem wG:∀(l w:List Nat),∀c∈addW n0 l w,(c∈l∧c<3*n0)∨c∈w:=by
 intro l;induction l with
 |nil=>intro w c e;exact Or.inr e
 |cons b l ih=>
  intro w c e;unfold addW at e;cases hb:DX (3*n0) b with
  |true=>
   simp only[hb]at e;rcases ih w c e with⟨a,f⟩|a
   .exact al1 ⟨Fm _ a,f⟩
   exact Or.inr a
  |false=>
   simp only[hb]at e;have g:b<3*n0:=by
    rcases EG b (3*n0)with h|h
    .exact h
    rw[Dv h]at hb;cases hb
   rcases ih (b::w) c e with⟨a,f⟩|a
   .exact al1 ⟨Fm _ a,f⟩
   rcases DR.1 a with rfl|a
   .exact al1 ⟨Fj ..,g⟩
   exact Or.inr a
theorem vH:∀(l w:List Nat),∀c∈w,c∈addW n0 l w:=by
 intro l;induction l with
 |nil=>intro w c a;exact a
 |cons b l ih=>
  intro w c a;unfold addW;cases hb:DX (3*n0) b with
  |true=>exact ih w c a
  |false=>exact ih (b::w) c (Fm _ a)
theorem ub(a:c<3*n0):∀{l w:List Nat},c∈l→c∈addW n0 l w:=by
 intro l;induction l with
 |nil=>intro w h;exact oU h Ds
 |cons b l ih=>
  intro w h;unfold addW;cases hb:DX (3*n0) b with
  |true=>
   rcases DR.1 h with rfl|h
   .have:=D5 hb;omega
   exact ih h
  |false=>
   rcases DR.1 h with rfl|h
   .exact vH l _ _ (Fj ..)
   exact ih h
section
variable {off:Nat}{x:Operand}
def tabL{α:Type}(N:Nat)(T:Nat→Nat→α):List α:=(List.range (N*N)).map fun m=>T (m/N) (m%N)
theorem yF{T:Nat→Nat→α}:O (tabL N T)=N*N:=by
 unfold tabL;rw[DC,List.length_range]
theorem ow{i:Nat}(a:i<N)(c:j<N):i*N+j<N*N:=by
 have h:=Dw N (show i+1≤N from a);rw[DE,EM]at h;omega
theorem iu{i:Nat}(a:j<N):(i*N+j)/N=i∧(i*N+j)%N=j:=
 ⟨by rw[EY,Nat.add_mul_div_right _ _ Z,Nat.div_eq_of_lt a,D7],by rw[EY,Nat.add_mul_mod_self_right,Dz a]⟩
theorem rz{i:Nat}{T:Nat→Nat→α}(c:i<N)(a:j<N):(tabL N T)[i*N+j]?=some (T i j):=by
 unfold tabL;rw[DB,Et (ow c a)];show some (T ((i*N+j)/N) ((i*N+j)%N))=_;rw[(iu a).1,(iu a).2]
theorem jw{m:Nat}{T:Nat→Nat→α}(a:m<N*N):(tabL N T)[m]?=some (T (m/N) (m%N)):=by
 unfold tabL;rw[DB,Et a];rfl
theorem uY{T Z4:Nat→Nat→α}(h:∀i j,i<N→j<N→T i j=Z4 i j):tabL N T=tabL N Z4:=by
 refine Fh fun m=>?_;by_cases hm:m<N*N
 .rw[jw hm,jw hm,h _ _ (Ho hm) (EA _ (GI fun e=>by subst e;omega))]
 rw[DS (by rw[yF];omega),DS (by rw[yF];omega)]
def updT{α:Type}(T:Nat→Nat→α)(i j:Nat)(x:α):Nat→Nat→α:=fun a b=>if a=i∧b=j then x else T a b
theorem nj{i:Nat}{T:Nat→Nat→α}{x:α}(_hi:i<N)(g:j<N):(tabL N T).set (i*N+j) x=tabL N (updT T i j x):=by
 refine Fh fun m=>?_;by_cases hm:m<N*N
 .rw[List.getElem?_set,yF];by_cases e:i*N+j=m
  .subst e;rw[De rfl,De hm,rz _hi g];unfold updT;rw[De ⟨rfl,rfl⟩]
  rw[CT e,jw hm,jw hm];unfold updT;rw[CT];rintro⟨c,f⟩;have a:=EP m N;rw[c,f,Dt]at a;exact e a
 rw[DS (by rw[EU,yF];omega),DS (by rw[yF];omega)]
structure KP {D:Type}(sz:Nat)(P:List Value→D→HF→Nat→Prop):Prop where
 t:∀{c d h n h' n'},P c d h n→Tr n h n' h'→P c d h' n'
 c:∀{c d h n},P c d h n→O c=sz∧c.all nu=true∧ones c=true
def OR{D:Type}(sz:Nat)(P:List Value→D→HF→Nat→Prop)(h:HF)(n b:Nat)(ds:List D):Prop:=b<3*n∧∃C e,h b=some (.row C e)∧C.all nu=true∧Rec sz (fun c d=>P c d h n) C ds
theorem Rec.set2{D:Type}{sz:Nat}{P:List Value→D→Prop}{ds:List D}(r:Rec sz P cs ds){c:List Value}{d:D}(f:O c=sz)(hp:P c d):∀{j:Nat},j<O ds→Rec sz P (zv cs (j*sz) c) (ds.set j d):=by
 induction r with
 |nil=>intro j a;cases a
 | @cons c1 cs d1 ds hl hp1 hr ih=>
  intro j a;cases j with
  |zero=>
   have e:zv (c1++cs) (0*sz) c=c++cs:=by
    unfold zv;rw[EI,Fe,El,D7,f,←hl,List.drop_left]
   rw[e];exact .cons f hp hr
  |succ j=>
   have e:zv (c1++cs) ((j+1)*sz) c=c1++zv cs (j*sz) c:=by
    have g:(j+1)*sz=O c1+j*sz:=by rw[Fb,hl,EY]
    unfold zv;rw[g,List.take_append,DK Z,Fa,DN,HO,JL,Ga Z,El,Fa]
   rw[e];exact .cons hl hp1 (ih (by simpa using a))
theorem cW{c:List Value}{o:Nat}(h:cs.all nu=true)(f:c.all nu=true):(zv cs o c).all nu=true:=by
 rw[Fy]at*
 intro x a;unfold zv at a;rcases Ec.1 a with a|a
 .exact h x (EB a)
 rcases Ec.1 a with a|a
 .exact f x a
 exact h x (FB a)
section
variable {P:List Value→D→HF→Nat→Prop}{h h':HF}{n n':Nat}{ds:List D}
theorem OR.go(o:OR sz P h n b ds)(l:KP sz P)(t:Tr n h n' h')(e:h' b=h b):OR sz P h' n' b ds:=by
 obtain⟨p,C,a,c,f,g⟩:=o;exact⟨BN,C,a,e.trans c,f,g.mono fun _ _ r=>l.t r t⟩
theorem OR.ext(o:OR sz P h n b ds)(g:KP sz P)(x:KN n h h')(f:n≤n'):OR sz P h' n' b ds:=o.go g ⟨f,fun c a=>.inl (x c a)⟩ (x b o.1)
theorem OR.xx(o:OR sz P h n b ds)(a:KP sz P)(t:Tx n h n' h'):OR sz P h' n' b ds:=o.ext a t.2 t.1
theorem OR.as{a:List D}(o:OR sz P h n b ds)(e:ds=a):OR sz P h n b a:=e▸o
theorem OR.get{d:D}(o:OR sz P h n b ds)(q:ds[j]?=some d)(s:off=j*sz):∃c,P c d h n∧O c=sz∧At h b off c:=by
 obtain⟨A,C,u,l,y,p⟩:=o;obtain⟨c,a,f,g,v⟩:=p.get q;subst s;exact⟨c,f,a,⟨_,C,l,rfl,Z,by rw[a];exact g⟩⟩
theorem OR.set{d:D}{c C:List Value}(o:OR sz P h n b ds)(a:KP sz P)(l:h b=some (.row C e))(B:j<O ds)(r:P c d h n)(v:h' b=some (.row (zv C (j*sz) c) e))(F:Only b h h'):OR sz P h' n b (ds.set j d)∧Lm b h h':=by
 obtain⟨A,G,H,f,g,y⟩:=o;rw[l]at f;cases f;have p:Lm b h h':=⟨F,_,_,l,g⟩;have t:Tr n h n h':=Tr.s p (Tr.refl _ _);obtain⟨q,u,_⟩:=a.c r;exact⟨⟨A,_,_,v,cW g u,(y.mono fun _ _ r=>a.t r t).set2 q (a.t r t) B⟩,p⟩
theorem OR.sl(o:OR sz P h n b ds){len:Nat}(l:len=O ds)(g:len≤cap):RS sz P h n (Y (some ⟨b,0,none⟩) len cap) ds:=by
 obtain⟨f,C,p,c,q,a⟩:=o;have:=a.len;subst l;exact⟨C,.at_ f c rfl g Z ta,a⟩
theorem OR.fill{L:Nat}{z:List Value}{d:D}(l:b<3*n)(a:h b=some (.row (K1 L z) e))(g:KP sz P)(f:P z d h n):OR sz P h n b (Dp L d):=by
 refine⟨l,_,_,a,?_,?_⟩
 .clear a;induction L with
  |zero=>rfl
  |succ L ih=>show List.all (z++K1 L z) nu=true;rw[J2,ih,(g.c f).2.1];rfl
 clear a;induction L with
 |zero=>exact .nil
 |succ L ih=>exact .cons (g.c f).1 f ih
end
def MX(h:HF)(b:Nat)(e:TypeId):Prop:=∃C,h b=some (.row C e)
def intP(c:List Value)(z:Int)(h:HF)(n:Nat):Prop:=∃b a l k,c=[Dk b,Y a l k]∧IW h n b a l k z
theorem intP.kp:KP 2 intP:=⟨fun⟨b,a,l,k,e,i⟩ t=>⟨b,a,l,k,e,i.t t⟩,fun⟨b,a,l,k,e,i⟩=>by subst e;exact R3⟩
theorem ratP.kp:KP 4 ratP:=⟨fun⟨b,a,l,k,d,e,f,g,c,i,j⟩ t=>⟨b,a,l,k,d,e,f,g,c,i.t t,j.t t⟩,fun⟨b,a,l,k,d,e,f,g,c,i,j⟩=>by subst c;exact R3⟩
theorem numP.kp:KP 4 numP:=⟨fun⟨b,a,l,k,d,e,f,g,c,i,j⟩ t=>⟨b,a,l,k,d,e,f,g,c,i.t t,j.t t⟩,fun⟨b,a,l,k,d,e,f,g,c,i,j⟩=>by subst c;exact R3⟩
abbrev OZ(h:HF)(n b:Nat)(zs:List Int):Prop:=OR 2 intP h n b zs
theorem OR.el{h:HF}{n b i:Nat}{T:Nat→Nat→Int}(o:OZ h n b (tabL N T))(q:i<N)(s:j<N):∃g f p l,At h b (i*N*2+j*2) [Dk g,Y f p l]∧IW h n g f p l (T i j):=by
 obtain⟨c,⟨g,f,p,l,rfl,u⟩,_,a⟩:=o.get (rz q s) (off:=i*N*2+j*2) (by rw[DE]);exact⟨g,f,p,l,a,u⟩
section
variable {h:HF}{n:Nat}{ld:List (Nat×Nat)}{d:Tmp}
theorem MY{a:Operand}{b sz:Nat}{c:List Value}(c':List Value)(f:h b=some (.row c e))(k:∀h',h' b=some (.row c' e)→Lm b h h'→EO X ops r ⟨t,h',n,addW n0 [b] w⟩ Q)(l:zh ops t o=true:=by exact rfl)(hd:o.dst=none:=by exact rfl)(ho:o.op=.store ty a x:=by exact rfl)(hi:X.E.inf ty=some (sz,bt,z):=by exact rfl)(ha:KM t a=.pointer (some ⟨b,off,none⟩):=by exact rfl)(hu:c.all nu=true:=by exact rfl)(hx:zr (KM t x)=cs:=by exact rfl)(hs:cs.length=sz:=by exact rfl)(h1:ones cs=true:=by exact rfl)(hl:off+sz≤c.length:=by exact zb)(hsp:zv c off cs=c':=by exact rfl)(hX:X.n0=n0:=by exact rfl):EO X ops (o::r) ⟨t,h,n,w⟩ Q:=by
 subst hsp hx;rw[pg l (by rw[hd];rfl) (by rw[ho];rfl) (by rw[ho];exact wx hi ha hs h1 f hl),hd,hX];exact k _ (ze _ _ _) ⟨fun c g=>zg g,_,_,f,hu⟩
theorem Mm{a:Operand}{b sz:Nat}{c:List Value}(c':List Value)(f:h b=some (.row c e))(k:∀h',h' b=some (.row c' e)→Lm b h h'→ED X ops r ms (i+1) ⟨⟨t,h',n,addW n0 [b] w⟩,al,ld,(i,h,[b])::ef⟩ Q)(l:zh ops t o=true:=by exact rfl)(hd:o.dst=none:=by exact rfl)(ho:o.op=.store ty a x:=by exact rfl)(hi:X.E.inf ty=some (sz,bt,z):=by exact rfl)(ha:KM t a=.pointer (some ⟨b,off,none⟩):=by exact rfl)(hu:c.all nu=true:=by exact rfl)(hx:zr (KM t x)=cs:=by exact rfl)(hs:cs.length=sz:=by exact rfl)(h1:ones cs=true:=by exact rfl)(hl:off+sz≤c.length:=by exact zb)(hsp:zv c off cs=c':=by exact rfl)(hX:X.n0=n0:=by exact rfl)(g1:xF m ef=true:=by exact rfl)(g2:xW m al=true:=by exact rfl)(g3:yd m [b] ld=true:=by exact rfl):ED X ops (o::r) (m::ms) i ⟨⟨t,h,n,w⟩,al,ld,ef⟩ Q:=by
 subst hsp hx;refine mZ l (by rw[hd];rfl) (by rw[ho];rfl) (by rw[ho];exact wx hi ha hs h1 f hl) g1 g2 g3 (Nat.le_refl _) ?_;rw[hd,hX];exact k _ (ze _ _ _) ⟨fun c g=>zg g,_,_,f,hu⟩
theorem dZ{D:Type}{sz:Nat}{P:List Value→D→HF→Nat→Prop}{a:Operand}{b:Nat}{zs:List D}{q:D}(c:List Value)(y:OR sz P h n b zs)(v:KP sz P)(p:j<zs.length)(g:off=j*sz)(u:P c q h n)(k:∀h',OR sz P h' n b (zs.set j q)→Lm b h h'→(∀e,MX h b e→MX h' b e)→ED X ops r ms (i+1) ⟨⟨t,h',n,addW n0 [b] w⟩,al,ld,(i,h,[b])::ef⟩ Q)(I:zh ops t o=true:=by exact rfl)(hd:o.dst=none:=by exact rfl)(ho:o.op=.store ty a x:=by exact rfl)(hi:X.E.inf ty=some (sz,bt,z):=by exact rfl)(ha:KM t a=.pointer (some ⟨b,off,none⟩):=by exact rfl)(hx:zr (KM t x)=c:=by exact rfl)(h1:xF m ef=true:=by exact rfl)(f:xW m al=true:=by exact rfl)(h3:yd m [b] ld=true:=by exact rfl)(hX:X.n0=n0:=by exact rfl):ED X ops (o::r) (m::ms) i ⟨⟨t,h,n,w⟩,al,ld,ef⟩ Q:=by
 have A:=y;obtain⟨R,C,e,l,S,J⟩:=y;have H:=J.len;obtain⟨B,M,F⟩:=v.c u;have K:j*sz+sz≤zs.length*sz:=by
  have:=Nat.mul_le_mul_right sz (show j+1≤zs.length from p);rw[Nat.add_mul,Nat.one_mul]at this;exact this
 subst g;refine mZ I (by rw[hd];rfl) (by rw[ho];rfl) (by rw[ho];exact wx hi ha (by rw[hx];exact B) (by rw[hx];exact F) l Z) h1 f h3 (Nat.le_refl _) ?_;rw[hd,hx,hX];have s:=A.set (h':=upd h b (some (.row (zv C (j*sz) c) e))) v l p u (ze _ _ _) (fun c G=>zg G);exact k _ s.1 s.2 fun Z1⟨L,f⟩=>⟨_,by rw[l]at f;cases f;exact ze _ _ _⟩
end
end
section
variable {h' h0:HF}{len:Nat}{T:List Nat}{sT:TypeId}{x:Operand}
def BkOf(v:Value)(b:Nat):Prop:=∃o l c,v=Y (some ⟨b,o,none⟩) l c
def GroU(h:HF)(n:Nat)(v:Value)(T:List Nat):Prop:=Gro h 0 n 164 1 v (O T) (u64s T)
structure AU (h0:HF)(n0:Nat)(v0:Value)(h:HF)(n:Nat)(w:List Nat)(v:Value)(T:List Nat):Prop where
 hn:n0≤n
 keep:Keep v0 n0 h0 h
 hw:∀b∈w,BkOf v0 b
 g:GroU h n v T
 or:v=v0∨yh n0 v
 wd:KQ T
theorem AU.refl(g:GroU h0 n0 v0 T)(a:KQ T):AU h0 n0 v0 h0 n0 [] v0 T:=⟨Dh,fun _ _ _=>rfl,fun b c=>oU c Ds,g,al1 rfl,a⟩
theorem AU.trans{s:HF}{p u:Nat}{A w2:List Nat}{v1 v2:Value}{B q:List Nat}(a:AU h0 n0 v0 h1 p A v1 B)(b:AU h1 p v1 s u w2 v2 q):AU h0 n0 v0 s u (addW n0 w2 A) v2 q:=by
 have D:=a.hn;refine⟨Ed a.hn b.hn,fun k m i=>(b.keep k Z fun o l c e=>?_).trans (a.keep k m i),fun k m=>?_,b.g,?_,b.wd⟩
 .rcases a.or with h|h
  .exact i o l c (h▸e)
  rw[e]at h;have h:3*n0≤k:=h;omega
 .rcases xc.1 m with h|⟨h,C⟩
  .exact a.hw k h
  obtain⟨o,l,c,e⟩:=b.hw k h;rcases a.or with f|f
  .exact⟨o,l,c,f▸e⟩
  rw[e]at f;have f:3*n0≤k:=f;omega
 rcases b.or with h|h
 .rw[h];exact a.or
 right;cases v2 with
 |slice ad l c=>
  cases ad with
  |none=>trivial
  |some ad=>have h:3*p≤ad.block:=h;show 3*n0≤ad.block;omega
 |_=>trivial
theorem AU.sl{h:HF}{n:Nat}{w:List Nat}{u:Value}{c:List Value}(a:AU h0 n0 v0 h n w v T)(s:Sl h0 n0 1 u c)(p:∀b,BkOf v0 b→La b u):Sl h n 1 u c:=
 s.keep (fun f l cap i=>by
  have m:=s.below;subst i;refine a.keep f.block m fun o q g e=>?_;have:=p f.block ⟨o,q,g,e⟩;exact this rfl) a.hn
theorem AU.off{h:HF}{n:Nat}{w:List Nat}{u:Value}{c:List Value}(a:AU h0 n0 v0 h n w v T)(s:Sl h0 n0 1 u c)(g:∀b,BkOf v0 b→La b u):∀b,BkOf v b→La b u:=by
 rintro b⟨o,l,k,rfl⟩;rcases a.or with e|f
 .exact g b ⟨o,l,k,e.symm⟩
 have f:3*n0≤b:=f;exact s.below.off f
theorem GroU.row{h:HF}{n:Nat}(g:GroU h n v T)(h0:O T≠0):∃b,v=Y (some ⟨b,0,none⟩) (O T) (O T)∧gro b=true∧b<3*n∧h b=some (.row (u64s T) 164):=by
 obtain⟨b,h1,a,_,c,f,_⟩:=Gro.inv2 g h0;exact⟨b,h1,a,c,f⟩
theorem AU.row{w:List Nat}(a:gro b=true)(i:b<3*n0)(u:ExtT n0 b h0 h')(s:∀c∈w,c=b)(q:h' b=some (.row (u64s L) 164))(p:O L=O T)(g:KQ L):AU h0 n0 (Y (some ⟨b,0,none⟩) (O T) (O T)) h' n0 w (Y (some ⟨b,0,none⟩) (O T) (O T)) L:=by
 refine⟨Dh,fun k m f=>u k m fun e=>f 0 (O T) (O T) (by rw[e]),fun c l=>⟨0,O T,O T,by rw[s c l]⟩,?_,.inl rfl,g⟩;rw[←p];exact .at_ a Z i q (by rw[zQ,Ek]) (wR _)
section
variable {h:HF}{n:Nat}{d:Tmp}
theorem Qw{s:Operand}(a:AU h0 n0 v0 h n w (KM t s) T)(l:X.n0=n0∧zh ops t o=true∧o.dst=some d∧zu X.nt (some d)=true∧o.op=.call {callee:=.builtin .append,args:=#[s,x],argTypes:=#[sT,xT]}∧(match X.E.und xT with|some (.int _)=>false|none=>false|_=>true)=true∧X.E.und sT=some (.slice 164)∧X.E.inf 164=some (1,8,z)∧O (zr z)=1)(u:argS h 1 (KM t x) 1 (u64s [0]))(i:O T<1000000000)
  (k:∀B h' w',AU h0 n0 v0 h' (n+1) w' B (T++[0])→EO X ops r ⟨upd t d B,h',n+1,w'⟩ Q):EO X ops (o::r) ⟨t,h,n,w⟩ Q:=by
 obtain⟨l,H,hd,hn,p,C,q,m,A⟩:=l;obtain⟨B,h',W,c,D,_,F,I,G⟩:=uk (lo:=0) q m A ⟨Dh,Z⟩ a.g u Dh Z (by rw[zQ];rfl) (wR _) Di;refine yX ⟨H,hd,hn,p,C⟩ c ?_;rw[l];refine k _ _ _ (a.trans ⟨Z,F,?_,?_,.inr G,?_⟩)
 .intro b i;have f:Gro h 0 n 164 1 (KM t s) (O T) (u64s T):=a.g;have hv:∃v,v=KM t s:=⟨_,rfl⟩;obtain⟨v,hv⟩:=hv;rw[←hv]at f c⊢;generalize hTl:O T=tl at f;generalize hTc:u64s T=tc at f;cases f with
  |nil=>
   have e:=append_nil (n:=n) q m A Dh Z u Dh Z;rw[e]at c;injection c with c
   injection c with _ _ _ c
   rw[←c]at i;exact oU i Ds
  |at_ f hlo hb2 hr hl p=>
   have e:=rS (n:=n) q m A Dh Z u Dh Z f hr hl (wI p (wR _)) (by rw[zQ];rfl);rw[e]at c;injection c with c
   injection c with _ _ _ c
   rw[←c]at i;rw[Dx.1 i];exact⟨_,_,_,rfl⟩
 .unfold GroU;rw[Do,show u64s (T++[0])=u64s T++u64s [0]from by unfold u64s;rw[EN]];exact D
 exact KQ.snoc a.wd zd
theorem WT{c:List Value}{i:Operand}{f:Oper}{a:Tmp}{s:Nat}(m:zh ops t o=true∧o.dst=some a∧zu X.nt (some a)=true∧o.op=.indexAddr ty x i∧X.E.und ty=some (.slice e)∧X.E.inf e=some (1,bt,z)∧KM t x=Y (some ⟨b,0,none⟩) len cap∧KM t i=U ik ji∧ji=(j:Int))(B:j<len∧j<O c)(D:h b=some (.row c e3))
  (C:∀p,zh ops (upd t a p) f=true)(g:f.dst=none)(l:f.op=.store e2 (.tmp a) y)(u:X.E.inf e2=some (1,s,z2))(q:∀p,zr (KM (upd t a p) y)=[v])(h1:ones [v]=true)
  (k:∀p,EO X ops r ⟨upd t a p,upd h b (some (.row (c.set j v) e3)),n,addW X.n0 [b] w⟩ Q):EO X ops (o::f::r) ⟨t,h,n,w⟩ Q:=by
 obtain⟨m,F,J,K,M,H,N,I,A⟩:=m;subst A;refine wn ⟨m,F,J,K,M,H,N,I⟩ Z ?_;have G:=wx (E:=X.E) (t:=upd t a (Dn (some ⟨b,0+(j:Int).toNat*1,none⟩))) (h:=h) (n:=n) (a:=.tmp a) (x:=y) (b:=b) (off:=0+(j:Int).toNat*1) u (ze _ _ _) A3 (by rw[q];exact h1) D (by rw[Ez];omega);rw[pg (C _) pl (by rw[l];rfl) (by rw[l];exact G),g];rw[q,Ez,Ek,D7,splice_one _ _ _ B.2];exact k _
end
end
theorem AU.ext{h0:HF}{n0:Nat}{i:Value}{h h':HF}{n f:Nat}{w:List Nat}{v:Value}{T:List Nat}(a:AU h0 n0 i h n w v T)(x:KN n h h')(c:n≤f):AU h0 n0 i h' f w v T:=
 ⟨Ed a.hn c,fun b j e=>(x b (by have:=a.hn;omega)).trans (a.keep b j e),a.hw,Gro.ext a.g x c,a.or,a.wd⟩
theorem WU{B V c Z4 x s c' d P:Nat}(e:V+c*P=Z4)(b:s+B*c'=d+c)(f:x+d*P=V+s*P):x+c'*(P*B)=Z4:=by
 have a:(s+B*c')*P=(d+c)*P:=by rw[b]
 rw[DE,DE]at a;rw[show c'*(P*B)=B*c'*P from by rw[Dt P B,←DG,Dt c' B]];omega
theorem WX{P Z0 S X L:List Nat}{w c:Nat}(a:O L=O Z0)(b:wv L+c*18446744073709551616^O Z0=wv Z0+wv X*w):wv (P++(L++S))+c*18446744073709551616^(O P+O Z0)=wv (P++(Z0++S))+wv X*(18446744073709551616^O P*w):=by
 rw[un,un,un P,un Z0,a,EH];generalize 18446744073709551616^O Z0=B at*
 generalize 18446744073709551616^O P=C at*
 have e:=congrArg (C* ·) b;simp only[D4]at e⊢;rw[show c*(C*B)=C*(c*B)from ER _ _ _,show wv X*(C*w)=C*(wv X*w)from ER _ _ _];omega
section
variable {h:HF}{n:Nat}{d:Tmp}
theorem Qx{e:TypeId}(cs:List Value){l c:Nat}(a:Za X ops t o d (KS o.op=2∧KX X.E o.op (KM t)=some ⟨cs,e,false,some (l,c)⟩))
  (k:∀h',h' (3*n+2)=some (.row cs e)→KN n h h'→EO X ops r ⟨upd t d (Y (some ⟨3*n+2,0,none⟩) l c),h',n+1,w⟩ Q):EO X ops (o::r) ⟨t,h,n,w⟩ Q:=by obtain⟨a,f,i,b,g⟩:=a;exact ud ⟨a,f,i,b,g⟩ (k _ (ze _ _ _) (KN.upd Z))
end
theorem pe(k:Nat){h:HF}{n:Nat}{B:Value}{T X Z3:List Nat}{aX aY:Option Addr}{lX cX lY cY:Nat}(g:GroU h n B T)(hT:KQ T)(hX:Sl h n 1 (Y aX lX cX) (u64s X))(hY:Sl h n 1 (Y aY lY cY) (u64s Z3))(wX:KQ X)(wY:KQ Z3)(oX:∀b,BkOf B b→La b (Y aX lX cX))(oY:∀b,BkOf B b→La b (Y aY lY cY))(hb:O T<1000000∧O X<1000000∧O Z3<1000000)(ao:O X<40∨O Z3<40):
  CF (KO (k+3)) 245 [B,Y aX lX cX,Y aY lY cY] h n fun v D K w=>∃T',AU h n B D K w v T'∧wv T'=wv T+wv X*wv Z3∧O T'≤max (O T) (O X+O Z3)+40:=by
 refine zl (fn:=Tryz.f245) R4 ?_;have e1:=hX.lenW;have e2:=hY.lenW;subst e1 e2;refine Zc ?_;refine zM ?_;refine st_I (ik:=.i64) (a:=(O X:Int)) R5<|zM ?_;refine st_I (ik:=.i64) (a:=(O Z3:Int)) R5<|ql R6 ?_;simp only[zX,yi,zm,yj];refine yp (α:=(Option Addr×Nat×List Nat)×(Option Addr×Nat×List Nat)) (fun z=>[(0,B),(1,Y z.1.1 (O z.1.2.2) z.1.2.1),(2,Y z.2.1 (O z.2.2.2) z.2.2.1)]) (fun z D K w=>h=D∧n=K∧w=[]∧Sl h n 1 (Y z.1.1 (O z.1.2.2) z.1.2.1) (u64s z.1.2.2)∧Sl h n 1 (Y z.2.1 (O z.2.2.2) z.2.2.1) (u64s z.2.2.2)∧KQ z.1.2.2∧KQ z.2.2.2∧(∀b,BkOf B b→La b (Y z.1.1 (O z.1.2.2) z.1.2.1))∧(∀b,BkOf B b→La b (Y z.2.1 (O z.2.2.2) z.2.2.1))∧O z.2.2.2<40∧O z.1.2.2<1000000∧wv z.1.2.2*wv z.2.2.2=wv X*wv Z3∧O z.1.2.2+O z.2.2.2=O X+O Z3) ?_ ?_
 .by_cases hlt:O X<O Z3
  .rw[zc gV];refine Zc ?_;exact zC ((aY,cY,Z3),(aX,cX,X)) V3 ⟨rfl,rfl,rfl,hY,hX,wY,wX,oY,oX,by show O X<40;omega,by show O Z3<_;omega,Dt _ _,EY _ _⟩
  rw[za gP];refine zN ?_;exact zC ((aX,cX,X),(aY,cY,Z3)) V3 ⟨rfl,rfl,rfl,hX,hY,wX,wY,oX,oY,by show O Z3<40;omega,by show O X<_;omega,rfl,rfl⟩
 rintro⟨⟨a,c,A⟩,⟨a',c',C⟩⟩ t _ _ _ ⟨rfl,rfl,rfl,hA,hC,wA,wC,oA,oC,an,ap,N,R⟩;simp only at hA hC wA wC oA oC an ap N R;rw[←N,←R];rw[←R]at*
 have b2:=hb.1;refine Zd ?_;refine st_I (ik:=.i64) (a:=(O C:Int)) R5<|Zk ?_;refine zK (α:=Value×List Nat) (fun z=>[(0,z.1),(1,Y a (O A) c),(2,Y a' (O C) c')]) (fun z D K w=>AU h n B D K w z.1 z.2∧wv z.2=wv T∧O z.2≤max (O T) (O A+O C)) (fun z=>O A+O C-O z.2) (B,T) V3 ⟨.refl g hT,rfl,Nat.le_max_left _ _⟩ (by show O A+O C-O T<LL;unfold LL;omega) ?_;rintro⟨v1,p⟩ t h1 n1 w1 ⟨m,q,W⟩;simp only at m q W;obtain⟨ac,rfl,_⟩:=JM m.g;refine Zd ?_;refine st_I (ik:=.i64) (a:=(O p:Int)) R5<|zM ?_;refine st_I (ik:=.i64) (a:=(O A:Int)) R5<|zM ?_;refine st_I (ik:=.i64) (a:=(O C:Int)) R5 ?_;by_cases hlt:O p<O A+O C
 .refine ZD ?_;refine Qx [U .u64 0] (l:=1) (c:=1) R5 ?_;intro h2 p2 x2;refine Qw (m.ext x2 zs) R9 (yG p2 R2) Z ?_;intro v3 h3 w3 a3;refine zA (v:=v3) R5<|zN ?_;refine goOn (v3,p++[0]) (by show _-O (p++[0])<_-O p;rw[Do,Dy];omega) V3 ⟨a3,?_,?_⟩
  .simp only;rw[xq,Fp,Ej,q]
  exact Cq
 refine Zy ?_;refine st_I (ik:=.i64) (a:=(O C:Int)) R5<|Zb ?_;refine zK (α:=Value×List Nat×Nat) (fun z=>[(0,z.1),(1,Y a (O A) c),(36,Y a' (O C) c'),(37,U .i64 (O C:Int)),(38,U .i64 (z.2.2:Int))]) (fun z D K w=>AU h n B D K w z.1 z.2.1∧wv z.2.1=wv T+wv A*wv (C.take z.2.2)∧O A+O C≤O z.2.1∧O z.2.1≤max (O T) (O A+O C)+z.2.2∧z.2.2≤O C) (fun z=>O C-z.2.2) (Y ac (O p) (O p),p,0) V5 ⟨m,by simp[wv,dv]at q⊢;exact q,by show _≤O p;omega,W,Di⟩ A1 ?_;rintro⟨v1,p,i⟩ t h1 n1 w1 ⟨m,q,ax,W,hi⟩;simp only at m q ax W hi;refine zN ?_;by_cases hiC:i=O C
 .subst hiC;rw[DO]at q;obtain⟨ac,rfl,_⟩:=JM m.g;refine Zm ?_;exact retH _ ⟨rfl,(zj rfl),rfl⟩ ⟨p,m,q,Z⟩
 obtain⟨y,hy⟩:∃x,C[i]?=some x:=⟨C[i]'Z,Dm Z⟩;have b0:=wC.get hy;obtain⟨b,rfl,a7,V,Z1⟩:=GroU.row m.g Z;obtain⟨P,Z0,S,G,hP,hZ⟩:∃P Z0 S,p=P++(Z0++S)∧O P=i∧O Z0=O A:=⟨p.take i,(p.drop i).take (O A),(p.drop i).drop (O A),by rw[Ep,Ep],q0,sP⟩;have ad:=m.sl hA oA;have ae:=m.sl hC oC;have ab:=m.off hA oA b ⟨_,_,_,rfl⟩;refine Zr ?_;refine ya (f:=fun d:Nat=>U .u64 (d:Int)) (j:=i) R7 ae R2 hy (fun _=>rfl) R4 fun _=>?_;refine Zj ?_;refine u7 i (i+O A) R9 rfl rfl Z ?_;rw[show 0+i*1=O P from Z,show i+O A-i=O Z0 from Z];repeat refine zR ?_
 have ai:=jo k (h:=h1) (n:=n1) (b:=b) (cZ:=O p-i) (P:=P) (Z0:=Z0) (S:=S) V (by rw[←G];exact Z1) Z (fun d H=>m.wd d (by rw[G];simp[H])) ad wA ab hZ Z b0;refine zk _ R5 ai ?_;rintro _ h2 n2 w2⟨L,cc,rfl,aw,⟨al,rfl,am,ak⟩,af,a8,ag⟩;have a0:O (P++(L++S))=O p:=by rw[G];simp[a8]
 have a2:=m.trans (AU.row a7 V am al ak a0 (KQ.append (fun d H=>m.wd d (by rw[G];simp[H])) (KQ.append af (fun d H=>m.wd d (by rw[G];simp[H])))));have M:=WX (S:=S) (P:=P) a8 ag;rw[←G,hP,hZ,q]at M;generalize hT2:P++(L++S)=T2 at a2 M a0;have M:wv T2+cc*18446744073709551616^(i+O A)=wv T+wv A*wv (C.take (i+1)):=by
  rw[zV hy,D4,M];omega
 refine Zz ?_;refine st_I (ik:=.i64) (a:=(O A:Int)) R5<|Zb ?_;rw[←a0];refine zK (α:=Value×List Nat×Nat×Nat) (fun z=>[(0,z.1),(1,Y a (O A) c),(9,U .u64 (z.2.2.1:Int)),(10,U .i64 (z.2.2.2:Int)),(36,Y a' (O C) c'),(37,U .i64 (O C:Int)),(38,U .i64 (i:Int))]) (fun z D K w=>AU h n B D K w z.1 z.2.1∧wv z.2.1+z.2.2.1*18446744073709551616^z.2.2.2=wv T+wv A*wv (C.take (i+1))∧O A+O C≤O z.2.1∧(O z.2.1≤max (O T) (O A+O C)+i∨(O z.2.1≤max (O T) (O A+O C)+i+1∧z.2.2.1=0))∧z.2.2.1<18446744073709551616∧z.2.2.2≤O z.2.1) (fun z=>(O z.2.1-z.2.2.2)+(if z.2.2.1=0 then 0 else 1)) (Y (some ⟨b,0,none⟩) (O T2) (O T2),T2,cc,i+O A) ⟨rfl,rfl,rfl,by show U .i64 _=U .i64 _;rfl,rfl,rfl,rfl,Df⟩ ⟨by rw[a0];exact a2,M,by show _≤O T2;omega,.inl (by show O T2≤_;omega),aw,by show i+O A≤O T2;omega⟩ (by show(O T2-(i+O A))+_<LL;unfold LL;split<;>omega) ?_;rintro⟨v3,u,c3,e⟩ t h3 n3 w3 ⟨a3,Z4,aa,aj,au,aq⟩;simp only at a3 Z4 aa aj au aq;refine zN ?_;by_cases hc0:c3=0
 .subst hc0;rw[EI,Ej]at Z4;refine Zm ?_;refine goOn (v3,u,i+1) (by show O C-(i+1)<O C-i;omega) V5 ⟨a3,Z4,aa,by show O u≤_+(i+1);omega,by show i+1≤_;omega⟩
 have aj:O u≤max (O T) (O A+O C)+i:=Z;refine Zq ?_;obtain⟨b1,rfl,_⟩:=JM a3.g;refine Zi ?_;refine st_I (ik:=.i64) (a:=(O u:Int)) R5<|jC R6 ?_;simp only[zX,yi,zm,yj];refine yp (α:=Value×List Nat) (fun z=>[(0,z.1),(1,Y a (O A) c),(9,U .u64 (c3:Int)),(10,U .i64 (e:Int)),(36,Y a' (O C) c'),(37,U .i64 (O C:Int)),(38,U .i64 (i:Int))]) (fun z D K w=>AU h n B D K w z.1 z.2∧wv z.2=wv u∧e<O z.2∧O A+O C≤O z.2∧(O z.2=O u∨(O z.2=O u+1∧e=O u∧z.2[e]?=some 0))) ?_ ?_
 .by_cases hat:e=O u
  .rw[zc gV];refine Zd ?_;refine Qx [U .u64 0] (l:=1) (c:=1) R5 ?_;intro h4 p4 x4;refine Qw (a3.ext x4 zs) R9 (yG p4 R2) Z ?_;intro v5 h5 w5 a5;refine zA (v:=v5) R5<|zN ?_;refine zC (v5,u++[0]) V7 ⟨a5,?_,?_,?_,.inr ⟨?_,hat,?_⟩⟩
   .simp only;rw[xq,Fp,Ej]
   .exact Cq
   .exact Cq
   .simp only;rw[Do,Dy]
   simp only;rw[hat,DL Dh,Ee];rfl
  rw[za gP];refine zN ?_;exact zC (_,u) V7 ⟨a3,rfl,by show e<O u;omega,aa,.inl rfl⟩
 rintro⟨v4,F⟩ t h4 n4 w4 ⟨a4,ah,a9,ay,J⟩;simp only at a4 ah a9 ay J;rw[←ah]at Z4;obtain⟨b,rfl,a7,V,Z1⟩:=GroU.row a4.g Z;obtain⟨d,H⟩:∃x,F[e]?=some x:=⟨F[e]'Z,Dm Z⟩;have b3:=a4.wd.get H;refine Zg ?_;refine ya (f:=fun d:Nat=>U .u64 (d:Int)) (j:=e) R7 (Gro.sl a4.g) R2 H (fun _=>rfl) R4 fun _=>?_;repeat refine zR ?_
 refine uF (x:=d) (y:=c3) (c:=0) R5 zd ?_;obtain⟨s,hs⟩:∃x,x=(d+c3+0)%18446744073709551616:=⟨_,rfl⟩;obtain⟨c5,av⟩:∃x,x=(d+c3+0)/18446744073709551616:=⟨_,rfl⟩;rw[←hs,←av];repeat refine zR ?_
 refine WT (j:=e) (v:=U .u64 (s:Int)) R9 ⟨a9,by rw[zQ];exact a9⟩ Z1 (fun _=>rfl) rfl rfl rfl (fun _=>rfl) rfl fun _=>?_;rw[yA];refine Zl ?_;have a6:O (F.set e s)=O F:=EU;have a5:=a4.trans (AU.row (h':=upd h4 b (some (.row (u64s (F.set e s)) 164))) (w:=[b]) (L:=F.set e s) a7 V (fun k hk az=>zg az) (fun c hc=>Dx.1 hc) (ze _ _ _) a6 (KQ.set a4.wd Z));refine goOn (_,F.set e s,c5,e+1) ?_ V7 ⟨a5,?_,?_,?_,?_,?_⟩
 .show(O (F.set e s)-(e+1))+(if c5=0 then 0 else 1)<(O u-e)+(if c3=0 then 0 else 1);rw[a6,CT hc0];rcases J with J|⟨J,ar,I⟩
  .split<;>omega
  rw[H]at I;injection I with I
  rw[De Z];omega
 .simp only;rw[DI];exact WU Z4 Z (oJ s H)
 .show _≤O (F.set e s);omega
 .show(F.set e s).length≤_∨_;rw[a6];rcases J with J|⟨J,ar,I⟩
  .exact .inl Z
  rw[H]at I;injection I with I
  exact .inr ⟨Z,by show c5=0;omega⟩
 .show c5<_;omega
 show e+1≤O (F.set e s);omega
section
variable {l2 len n n':Nat}{h h' h0:HF}{T:List Nat}
def SumO(lo:Nat)(h:HF)(n bS:Nat)(z:Int)(m:Nat):Prop:=∃vP vN P N e,3*lo≤bS∧bS<3*n∧gro bS=false∧h bS=some (.row [vP,vN] e)∧Gro h lo n 164 1 vP (O P) (u64s P)∧Gro h lo n 164 1 vN (O N) (u64s N)∧KQ P∧KQ N∧(∀b,BkOf vP b→¬BkOf vN b)∧z=(wv P:Int)-wv N∧O P≤m∧O N≤m
theorem SumO.ext{z:Int}(s:SumO lo h n bS z m)(x:KN n h h')(a:n≤n'):SumO lo h' n' bS z m:=by
 obtain⟨o,l,P,N,e,b,c,d,f,g,i,j⟩:=s;exact⟨o,l,P,N,e,b,Z,d,(x _ c).trans f,g.ext x a,i.ext x a,j⟩
theorem SumO.start(a:3*lo≤bS)(c:bS<3*n)(d:gro bS=false)(f:h bS=some (.row [Y none 0 0,Y none 0 0] e)):SumO lo h n bS 0 0:=
 ⟨_,_,[],[],e,a,c,d,f,.nil,.nil,IB,IB,fun b⟨_,_,_,h⟩=>Aq,rfl,Dh,Dh⟩
theorem AU.gro(a:AU h0 n0 v0 h n w v T)(f:lo≤n0)(hv:∀b,BkOf v0 b→3*lo≤b):Gro h lo n 164 1 v (O T) (u64s T):=by
 have g:Gro h 0 n 164 1 v (O T) (u64s T):=a.g;have d:=a.or;generalize (O T)=tl at g;generalize u64s T=tc at g;cases g with
 |nil=>exact .nil
 | @at_ b _ _ hg _ hb hr hl ho2=>
  refine .at_ hg ?_ hb hr hl ho2;rcases d with e|c
  .exact hv _ ⟨_,_,_,e.symm⟩
  have c:3*n0≤b:=c;omega
theorem Gro.bk{C:List Value}(g:Gro h lo n e 1 v len C):∀b,BkOf v b→3*lo≤b∧b<3*n∧gro b=true:=by
 rintro b⟨o,l,c,e⟩;cases g with
 |nil=>cases e
 |at_ hg hlo hb hr hl ho=>cases e;exact⟨hlo,hb,hg⟩
theorem Gro.weak{C:List Value}(g:Gro h lo n e 1 v len C):Gro h 0 n e 1 v len C:=by
 cases g with
 |nil=>exact .nil
 |at_ hg hlo hb hr hl ho=>exact .at_ hg Z hb hr hl ho
theorem Gro.beside{u:Value}{C:List Value}(g:Gro h0 lo n0 e 1 u len C)(d:Keep v n0 h0 h)(a:∀b,BkOf u b→¬BkOf v b)(f:n0≤n):Gro h lo n e 1 u len C:=by
 cases g with
 |nil=>exact .nil
 |at_ hg hlo hb hr hl ho=>exact .at_ hg hlo Z ((d _ hb fun o l c e=>a _ ⟨_,_,_,rfl⟩ ⟨o,l,c,e⟩).trans hr) hl ho
theorem SumO.mono{z:Int}(s:SumO lo h n bS z m)(B:m≤m'):SumO lo h n bS z m':=by
 obtain⟨u,q,P,N,e,b,c,d,f,g,i,j,l,o,a,y,A⟩:=s;exact⟨u,q,P,N,e,b,c,d,f,g,i,j,l,o,a,Z,Z⟩
theorem Gro.off{C:List Value}{x:Option BF}(g:Gro h lo n e 1 v len C)(a:gro bS=false):Gro (upd h bS x) lo n e 1 v len C:=by
 cases g with
 |nil=>exact .nil
 |at_ hg hlo hbn hr hl ho=>exact .at_ hg hlo hbn ((zg fun e=>by rw[e,a]at hg;cases hg).trans hr) hl ho
theorem WY{x y:Int}(h:(decide (x<0)==decide (y<0))=true):(p:Int)-n+x*y=((p+x.natAbs*y.natAbs:Nat):Int)-n:=by
 have e:x*y=((x.natAbs*y.natAbs:Nat):Int):=by
  rw[E0];by_cases hx:x<0
  .have a:y<0:=by
    rw[kA hx]at h;exact of_decide_eq_true AJ
   rw[show(x.natAbs:Int)= -x by omega,show(y.natAbs:Int)= -y by omega,Int.neg_mul_neg]
  have a:¬y<0:=by
   rw[aA hx]at h;exact of_decide_eq_false AJ
  rw[show(x.natAbs:Int)=x by omega,show(y.natAbs:Int)=y by omega]
 rw[e];omega
theorem WZ{x y:Int}(h:¬(decide (x<0)==decide (y<0))=true):(p:Int)-n+x*y=(p:Int)-((n+x.natAbs*y.natAbs:Nat):Int):=by
 have e:x*y= -((x.natAbs*y.natAbs:Nat):Int):=by
  rw[E0];by_cases hx:x<0
  .have a:¬y<0:=fun a=>h (by rw[kA hx,kA a];rfl);rw[show(x.natAbs:Int)= -x by omega,show(y.natAbs:Int)=y by omega,Kd,Hl]
  have a:y<0:=by
   refine DU fun a=>h (by rw[aA hx,aA a];rfl)
  rw[show(x.natAbs:Int)=x by omega,show(y.natAbs:Int)= -y by omega,Int.mul_neg,Hl]
 rw[e];omega
theorem qG(k:Nat){z:Int}{b1 b2:Bool}{x y:Int}(hs:SumO lo h n bS z m)(a3:lo≤n)(ix:IW h lo b1 a1 l1 c1 x)(iy:IW h lo b2 a2 l2 c2 y)(sx:l1<40)(sy:l2<40)(hm:m≤1000):
  CF (KO (k+4)) 229 [Dn (some ⟨bS,0,none⟩),.agg #[Dk b1,Y a1 l1 c1],.agg #[Dk b2,Y a2 l2 c2]] h n fun _ h' n' w=>SumO lo h' n' bS (z+x*y) (m+130)∧n≤n'∧KN lo h h'∧(x*y=0∨bS∈w)∧∀c∈w,3*lo≤c:=by
 obtain⟨rfl,X,sX,nX,vX⟩:=ix;obtain⟨rfl,Z3,sY,nY,vY⟩:=iy;have eX:=sX.lenW;have eY:=sY.lenW;subst eX eY;refine ph (fn:=au1) R4 ?_;have V:x*y=0→SumO lo h n bS (z+x*y) (m+130):=fun e=>by rw[e,al2];exact hs.mono Z
 refine zN ?_;refine rY [Dk (decide (x<0)),Y a1 (O X) c1] R5 ?_;intro h5 p5 x5;refine rY [Dk (decide (y<0)),Y a2 (O Z3) c2] R5 ?_;intro h6 p6 x6;have q5:=(x6 (3*n+2) Z).trans p5;have q:KN n h h6:=x5.trans x6 (DM n);have J:∀(t:TF),x*y=0→(rV .ret=true∧∃vs,resF KT ⟨t,h6,n+1+1,[]⟩ (au1).results.toList=some vs∧(SumO lo h6 (n+1+1) bS (z+x*y) (m+130)∧n≤n+1+1∧KN lo h h6∧(x*y=0∨bS∈([]:List Nat))∧∀c∈([]:List Nat),3*lo≤c)∧(True→SumO lo h n bS (z+x*y) (m+130)∧n≤n∧KN lo h h∧(x*y=0∨bS∈([]:List Nat))∧∀c∈([]:List Nat),3*lo≤c)):=fun t e=>
  ⟨rfl,[],rfl,⟨(V e).ext q Z,Z,q.mono a3,.inl e,fun c Z1=>oU Z1 Ds⟩,fun _=>⟨V e,Dh,FU _ _,.inl e,fun c Z1=>oU Z1 Ds⟩⟩
 refine Zd ?_;refine zi R6 q5 R2<|zM ?_;by_cases hX0:O X=0
 .have hx:x=0:=by rw[DA.1 hX0]at vX;have:wv []=0:=rfl;omega
  refine Zq ?_;exact J _ (by rw[hx,Int.zero_mul])
 repeat refine zR ?_
 refine zi R6 p6 R2<|zM ?_;by_cases hY0:O Z3=0
 .have hy:y=0:=by rw[DA.1 hY0]at vY;have:wv []=0:=rfl;omega
  refine Zq ?_;exact J _ (by rw[hy,JV])
 refine Zy ?_;refine zi R6 q5 R2<|zM ?_;refine zi R6 p6 R2<|st_B (a:= !(decide (x<0)==decide (y<0))) R5 ?_;obtain⟨vP,Z0,P,N,e,h1,h2,H,h4,F,D,wP,wN,hd,hz,lP,lN⟩:=hs;have q6:=(q bS h2).trans h4;have a5:=sX.ext (q.mono a3) (show lo≤n+1+1 by omega);have a6:=sY.ext (q.mono a3) (show lo≤n+1+1 by omega);have G:∀{v:Value} {len:Nat} {C:List Value} {e:TypeId} (_:Gro h lo n e 1 v len C) (a:Option Addr) (l c:Nat) {cs:List Value} (_:Sl h lo 1 (Y a l c) cs),∀b,BkOf v b→La b (Y a l c):=fun g a l c _ s b M=>s.below.off (g.bk b M).1;refine zN ?_;by_cases hsg:(decide (x<0)==decide (y<0))=true
 .rw[za (by show Dk _=_;rw[hsg];rfl)];refine zn [0,0,2,6,14,0,32,0,128,510,1023,2047,4095] rfl<|dr_P R5<|dr_P R5<|dr_P R5<|dr_P R5<|zS R6 (zL rfl q6 R2) R2<|dr_P R5<|zS R6 (zL rfl q5 R2) R2<|dr_P R5<|zS R6 (zL rfl p6 R2) R2<|yy _ R7 (pe k (F.weak.ext q Z) wP a5 a6 nX.1 nY.1 (G F a1 (O X) c1 sX) (G F a2 (O Z3) c2 sY) Z Z) ?_;rintro v7 h7 Z4 w7⟨d,f,e7,l7⟩;obtain⟨j,rfl,_⟩:=JM f.g;have I:=f.hn;refine⟨rfl,I,?_⟩;have q7:h7 bS=some (.row [vP,Z0] e):=(f.keep bS Z fun o l c i=>by
   have:=(F.bk bS ⟨o,l,c,i⟩).2.2;rw[H]at this;cases this).trans q6
  refine dr_P R5<|dr_P R5<|mZ (W:=[bS]) rfl rfl rfl (wx (h:=h7) (n:=Z4) rfl rfl rfl rfl q7 zb) rfl rfl rfl Dh ?_;rw[uO];refine zN ?_;have g7:=f.gro (lo:=lo) Z fun b M=>(F.bk b M).1;have g8:=g7.off H (x:=some (.row [Y j (O d) (O d),Z0] e));have a0:=((D.ext q Z).beside (n:=Z4) f.keep (fun b A B=>hd b B A) I).off H (x:=some (.row [Y j (O d) (O d),Z0] e));have u:bS∈addW n [bS] (addW n w7 []):=ub h2 (Dx.2 rfl);refine⟨rfl,[],rfl,⟨⟨_,Z0,d,N,e,h1,Z,H,ze _ _ _,g8,a0,f.wd,wN,?_,?_,Z,Z⟩,by show n≤Z4;omega,fun b M=>?_,.inr u,fun c Z1=>?_⟩,fun S=>?_⟩
  .intro b A B;have q1:=D.bk b B;have a4:Y j (O d) (O d)=vP∨yh (n+1+1) (Y j (O d) (O d)):=f.or;rcases a4 with i|R
   .exact hd b (i▸A) B
   obtain⟨o,l,c,i⟩:=A;exact LA
  .rw[e7,vX,vY,hz];exact WY hsg
  .refine(zg Z).trans ((f.keep b Z fun o l c i=>?_).trans (q b Z));have:=(F.bk b ⟨o,l,c,i⟩).1;omega
  .rcases wG _ _ c Z1 with⟨K,_⟩|K
   .rw[Dx.1 K];exact h1
   rcases wG _ _ c K with⟨L,_⟩|L
   .exact(F.bk c (f.hw c L)).1
   exact oU L Ds
  exact LC
 rw[zc (by show Dk _=_;rw[IC.2 hsg];rfl)];refine zn [0,0,2,6,14,0,32,0,128,510,1023,2047,4095] rfl<|dr_P R5<|dr_P R5<|dr_P R5<|dr_P R5<|zS R6 (zL rfl q6 R2) R2<|dr_P R5<|zS R6 (zL rfl q5 R2) R2<|dr_P R5<|zS R6 (zL rfl p6 R2) R2<|yy _ R7 (pe k (D.weak.ext q Z) wN a5 a6 nX.1 nY.1 (G D a1 (O X) c1 sX) (G D a2 (O Z3) c2 sY) Z Z) ?_;rintro v7 h7 Z4 w7⟨d,f,e7,l7⟩;obtain⟨j,rfl,_⟩:=JM f.g;have I:=f.hn;refine⟨rfl,I,?_⟩;have q7:h7 bS=some (.row [vP,Z0] e):=(f.keep bS Z fun o l c i=>by
  have:=(D.bk bS ⟨o,l,c,i⟩).2.2;rw[H]at this;cases this).trans q6
 refine dr_P R5<|dr_P R5<|mZ (W:=[bS]) rfl rfl rfl (wx (h:=h7) (n:=Z4) rfl rfl rfl rfl q7 zb) rfl rfl rfl Dh ?_;rw[uO];refine zN ?_;have g7:=f.gro (lo:=lo) Z fun b M=>(D.bk b M).1;have g8:=g7.off H (x:=some (.row [vP,Y j (O d) (O d)] e));have a0:=((F.ext q Z).beside (n:=Z4) f.keep (hd) I).off H (x:=some (.row [vP,Y j (O d) (O d)] e));have u:bS∈addW n [bS] (addW n w7 []):=ub h2 (Dx.2 rfl);refine⟨rfl,[],rfl,⟨⟨vP,_,P,d,e,h1,Z,H,ze _ _ _,a0,g8,wP,f.wd,?_,?_,Z,Z⟩,by show n≤Z4;omega,fun b M=>?_,.inr u,fun c Z1=>?_⟩,fun S=>?_⟩
 .intro b A B;have q1:=F.bk b A;have a4:Y j (O d) (O d)=Z0∨yh (n+1+1) (Y j (O d) (O d)):=f.or;rcases a4 with i|R
  .exact hd b A (i▸B)
  obtain⟨o,l,c,i⟩:=B;exact LA
 .rw[e7,vX,vY,hz];exact WZ hsg
 .refine(zg Z).trans ((f.keep b Z fun o l c i=>?_).trans (q b Z));have:=(D.bk b ⟨o,l,c,i⟩).1;omega
 .rcases wG _ _ c Z1 with⟨K,_⟩|K
  .rw[Dx.1 K];exact h1
  rcases wG _ _ c K with⟨L,_⟩|L
  .exact(D.bk c (f.hw c L)).1
  exact oU L Ds
 exact LC
end
section
variable {l2 n:Nat}{h:HF}
theorem W0(k:Nat)(h:HF)(n:Nat)(b:Bool)(a:Option Addr)(l c:Nat):CF (KO (k+2)) 153 [.agg #[Dk b,Y a l c]] h n fun v g j w=>v=.agg #[Dk (!b&&decide (0<l)),Y a l c]∧n≤j∧w=[]∧KN n h g:=by
 refine zl (fn:=Tryz.f153) R4<|zN ?_;refine rY [Dk b,Y a l c] R5 ?_;intro A p y;refine wO [Dk false,Y none 0 0] R6 ?_;intro i q e;have d:=(e (3*n+2) Z).trans p;refine Zd ?_;refine zi R6 d R2<|st_B (a:= !b) R5<|zM ?_;refine zi R6 d R2<|zk _ R5 (qN k i (n+1+1) (!b) a l c) ?_;rintro _ B D _⟨rfl,rfl,rfl,f⟩;have u:=(f (3*(n+1)+2) Z).trans q;refine nO [Dk (!b&&decide (0<l)),Y a l c] R5 u R3 zb rfl eL ?_;intro C s o;refine zN ?_;exact xu R5 s rfl ⟨rfl,by show n≤n+1+1+1;omega,rfl,KN.st ((y.trans e (DM n)).trans f Z) o Z⟩
theorem md(k:Nat){z:Int}{d j:Bool}{x y:Int}(p:SumO lo h n bS z m)(f:lo≤n)(u:IW h lo d a1 l1 c1 x)(P:IW h lo j a2 l2 c2 y)(V:l1<40)(W:l2<40)(N:m≤1000):
  CF (KO (k+5)) 230 [Dn (some ⟨bS,0,none⟩),.agg #[Dk d,Y a1 l1 c1],.agg #[Dk j,Y a2 l2 c2]] h n fun _ A G w=>SumO lo A G bS (z-x*y) (m+130)∧n≤G∧KN lo h A∧(x*y=0∨bS∈w)∧∀c∈w,3*lo≤c:=by
 have s:x=0↔l1=0:=by rw[u.2.zero];omega
 have v:=u.1;have Z1:∀{i:HF} (_:KN lo h i),IW i lo (!d&&decide (0<l1)) a1 l1 c1 (-x):=fun Z3=>⟨by
  rw[v];by_cases a:l1=0
  .rw[a,s.2 a];rfl
  .have:x≠0:=fun e=>a (s.1 e);rw[kA (show 0<l1 by omega),Bool.and_true];by_cases hx:x<0
   .rw[kA hx,aA (show ¬ -x<0 by omega)];rfl
   .rw[aA hx,kA (show -x<0 by omega)];rfl,by rw[F3];exact u.2.ext Z3 Dh⟩
 clear v s;refine ph (fn:=Tryz.f230) R4 ?_;refine zN ?_;refine rY [Dk d,Y a1 l1 c1] R5 ?_;intro h5 S Z0;refine rY [Dk j,Y a2 l2 c2] R5 ?_;intro B T K;have Z4:=(K (3*n+2) Z).trans S;have J:KN n h B:=Z0.trans K (DM n);refine zN ?_;refine zn [0,0,2,0,15] rfl ?_;refine dr_P R5 ?_;refine zS R6 (zF R2 Z4 rfl zb rfl) R2 ?_;refine yy _ R7 (W0 (k+2) B (n+1+1) d a1 l1 c1) ?_;rintro _ M n7 _⟨rfl,y7,rfl,x7⟩;refine⟨rfl,y7,?_⟩;have b:KN n h M:=J.trans x7 Z;refine zS R6 (zF R2 T rfl zb rfl) R2 ?_;refine yy _ R7 (qG k (p.ext b Z) Z (Z1 (b.mono f)) (P.ext (b.mono f) Dh) V W N) ?_;rintro v8 h8 R I⟨H,y8,x8,C,F⟩;refine⟨rfl,y8,?_⟩;rw[uO];have L:z+ -x*y=z-x*y:=by rw[Kd,Int.sub_eq_add_neg]
 rw[L]at H;have D:bS<3*n:=by
  obtain⟨_,_,_,_,_,_,i,_⟩:=p;exact i
 have g:x*y=0∨bS∈addW n I []:=by
  rcases C with a|a
  .left;rw[Kd]at a;omega
  exact .inr (ub D a)
 refine⟨rfl,[],rfl,⟨H,by show n≤R;omega,(b.mono f).trans x8 Dh,g,fun c o=>?_⟩,fun q=>?_⟩
 .rcases wG _ _ c o with⟨l,_⟩|l
  .exact F c l
  exact oU l Ds
 have q:addW n I []=[]:=q;rw[q]at g;have a:x*y=0:=g.resolve_right Ds;exact⟨by rw[a,Int.sub_zero];exact p.mono Z,Dh,FU _ _,.inl a,fun c o=>oU o Ds⟩
end
theorem lI(k:Nat){h:HF}{n:Nat}{p q:Option Addr}{Z1 s P u:Nat}{A C:List Nat}(B:Sl h n 1 (Y p Z1 s) (u64s A))(i:Sl h n 1 (Y q P u) (u64s C))(R:NW A)(S:NW C)(G:O A<100000000)(H:wv C≤wv A):
  CF (KO (k+2)) 246 [Y p Z1 s,Y q P u] h n fun v V n' w=>∃L,ResW n h v V n' w L∧wv L=wv A-wv C:=by
 refine zl (fn:=Tryz.f246) R4 ?_;have T:=B.lenW;have Z4:=i.lenW;subst T Z4;have o:O C≤O A:=by
  rcases EG (O A) (O C) with j|j
  .have:=R.len_lt S j;omega
  exact j
 refine Zc ?_;refine zM ?_;refine st_I (ik:=.i64) (a:=(O A:Int)) R5<|xP (len:=O A) (cap:=O A) R9 Z ?_;rw[show zr (U .u64 0)=[U .u64 0]from rfl,wK];generalize hh:upd h (3*n+2) _=h1;have d:∃e,h1 (3*n+2)=some (.row (u64s (Dp (O A) 0)) e):=⟨_,kz⟩;obtain⟨e,d⟩:=d;have f:KN n h h1:=by rw[←hh];exact C4
 refine Zz ?_;refine jD (m:=O A) (cs:=u64s A) R7 (uW (B.ext f (DM n))) Dh d (by rw[zQ,zQ,DV];omega) (wR _) bR ?_;rw[Ga (by rw[zQ,zQ,DV];omega),DZ];generalize hh:upd h1 (3*n+2) _=h2;have I:h2 (3*n+2)=some (.row (u64s A) e):=by rw[←hh,ze]
 have g:KN n h h2:=fun b G=>by rw[←hh,zg Z];exact f b G
 refine Zz ?_;refine zk _ R5 (kw k (n:=n+1) (cX:=O A) Z I Dh R.1 (i.ext g (DM n)) S.1 (i.below.off Z) o Z H) ?_;rintro _ W n3 w3⟨L,⟨M,rfl,N,J⟩,D,F,a0⟩;try simp only[rU]
 rw[zZ (w:=[]) fun y hy=>by rw[M y hy];show 3*n≤3*n+2;omega];refine ZG ?_;have K:=xR k (h:=W) (n:=n+1) (a:=some ⟨3*n+2,0,none⟩) (len:=O A) (cap:=O A) (l:=L) Z (fun _ e=>by injection e with e;rw[←e]) (wf Z J F);refine zk _ R5 K ?_;rintro _ _ _ _⟨rfl,rfl,rfl,rfl,Z0⟩;refine Zb ?_;obtain⟨t1,t2⟩:=wB D;exact retH _ ⟨rfl,(zj rfl),rfl⟩ ⟨_,⟨rfl,DM n,fun c Z3=>(N c Z Z).trans (g c Z3),Z0,t1⟩,by rw[t2];omega⟩
section
variable {len n:Nat}{h:HF}
theorem Gro.form{C:List Value}(g:Gro h lo n e 1 v len C):∃a,v=Y a len len∧(∀b,a=some b→b.spot=none):=by
 cases g with
 |nil=>exact⟨none,rfl,fun b h=>by cases h⟩
 |at_ hg hlo hb hr hl ho=>exact⟨_,rfl,fun b h=>by injection h with h;rw[←h]⟩
theorem W1(k:Nat){z:Int}(T:SumO lo h n bS z m)(hm:m≤10000):CX (KO (k+4)) 231 [Dn (some ⟨bS,0,none⟩)] h n (IV z):=by
 obtain⟨vP,vN,P,N,e,h1,K,h3,M,C,B,wP,wN,hd,hz,lP,lN⟩:=T;obtain⟨aP,rfl,Z0⟩:=C.form;obtain⟨aN,rfl,Z3⟩:=B.form;refine zl (fn:=Tryz.f231) R4<|zN ?_;refine wO [Dk false,Y none 0 0] R6 ?_;intro h5 F o;have G:=(o bS K).trans M;have W:=C.sl.ext o (DM n);have V:=B.sl.ext o (DM n);obtain⟨w,I⟩:=wB wP;obtain⟨u,H⟩:=wB wN;have tP:=yV P;have tN:=yV N;refine zN ?_;refine zn [0,1,3,7,15,0,32,96,224,511,1023,2047] rfl<|dr_P R5<|dr_P R5<|dr_P R5<|zS R6 (zL rfl G R2) R2<|yy _ R7 (xR (k+2) (l:=P) Z Z0 W) ?_;rintro _ _ _ _⟨rfl,rfl,rfl,rfl,zP⟩;refine⟨rfl,Dh,?_⟩;refine dr_P R5<|dr_P R5<|dr_P R5<|zS R6 (zL rfl G R2) R2<|yy _ R7 (xR (k+2) (l:=N) Z Z3 V) ?_;rintro _ _ _ _⟨rfl,rfl,rfl,rfl,zNg⟩;refine⟨rfl,Dh,?_⟩;refine dr_S R4 rfl<|dr_S R4 rfl ?_;rw[uO];refine Zp ?_;refine ye _ R5 (uA k zP zNg w u Z) ?_;rintro _ rfl;rw[I,H];by_cases hle:wv N≤wv P
 .have S:0≤cmpZ (wv P) (wv N):=by unfold cmpZ;split<;>(try split)<;>omega
  refine ZC ?_;refine zk _ R5 (lI (k+1) zP zNg w u Z Z) ?_;rintro v6 q a _⟨L,⟨rfl,y6,p,d,s⟩,A⟩;obtain⟨f,c,g,rfl,_⟩:=d.len;refine zk _ R5 (qN (k+2) q a false f c g) ?_;rintro _ Z1 Z4 _⟨rfl,rfl,rfl,b⟩;have j:=(b (3*n+2) Z).trans ((p (3*n+2) Z).trans F);refine nO [Dk false,Y f c g] R5 j R3 zb rfl eL ?_;intro R y i;refine zN ?_;refine xu R5 y rfl ⟨rfl,by show n≤a+1;omega,KN.st ((o.trans p (DM n)).trans b Z) i Z,_,_,_,_,rfl,?_,?_⟩
  .rw[aA Z]
  exact CA
 have S:cmpZ (wv P) (wv N)<0:=by unfold cmpZ;split<;>(try split)<;>omega
 refine Ze ?_;refine Zp ?_;refine zk _ R5 (lI (k+1) zNg zP u w Z Z) ?_;rintro v6 q a _⟨L,⟨rfl,y6,p,d,s⟩,A⟩;obtain⟨f,c,g,rfl,_⟩:=d.len;refine zk _ R5 (qN (k+2) q a true f c g) ?_;rintro _ Z1 Z4 _⟨rfl,rfl,rfl,b⟩;have D:0<c:=by
  have:=d.lenW;subst this;refine GI fun J=>?_;rw[DA.1 J]at A;have:wv []=0:=rfl;omega
 rw[kA D];have j:=(b (3*n+2) Z).trans ((p (3*n+2) Z).trans F);refine nO [Dk true,Y f c g] R5 j R3 zb rfl eL ?_;intro R y i;refine zN ?_;refine xu R5 y rfl ⟨rfl,by show n≤a+1;omega,KN.st ((o.trans p (DM n)).trans b Z) i Z,_,_,_,_,rfl,?_,?_⟩
 .rw[kA Z]
 exact CA
end
section
variable {c n:Nat}{h:HF}{bf:Int}
theorem LH(h:N≤3):N*N≤9:=Es h h
theorem kK(d:i<N):i*N+N≤N*N:=by
 have h:=Dw N (show i+1≤N from d);rw[DE,EM]at h;exact h
theorem rowX(k:Nat){q:Value}(u:h bt=some (.row [U .i64 (N:Int),Y (some ⟨be,0,none⟩) (N*N) (N*N),q] e))(o:i<N)(g:N≤3):CX (KO (k+1)) 204 [Dn (some ⟨bt,0,none⟩),U .i64 (i:Int)] h n fun v _ _=>v=Y (some ⟨be,i*N*2,none⟩) N (N*N-i*N):=by
 have s:=LH g;have hr:=kK o;have d:(i:Int)*(N:Int)=((i*N:Nat):Int):=(E0 i N).symm;have f:((i:Int)+1)*(N:Int)=((i*N+N:Nat):Int):=by rw[Int.add_mul,Int.one_mul,d,Int.natCast_add]
 refine zl (fn:=Tryz.f204) R4<|zG ?_;rw[yH rfl];refine zG ?_;refine st_mul rfl rfl rfl rfl rfl rfl (by rw[d];omega) ?_;refine zG ?_;refine st_mul rfl rfl rfl rfl rfl rfl (by rw[f];omega) ?_;refine u7 (i*N) (i*N+N) R9 d f ⟨Z,Z,Z⟩ ?_;rw[Fa];refine zq ?_;show Y (some ⟨be,0+i*N*2,none⟩) N (N*N-i*N)=_;rw[D7]
def rowU(T:Nat→Nat→Int)(i p:Nat)(bf:Int)(j:Nat):Nat→Nat→Int:=fun a b=>if a=i∧b<j then(T p p*T i b-T i p*T p b).tdiv bf else T a b
theorem gm{T:Nat→Nat→Int}:rowU T i p bf 0=T:=by
 funext a b;unfold rowU;rw[CT Z]
theorem no{T:Nat→Nat→Int}{a:Nat}(h:a≠i∨j≤b):rowU T i p bf j a b=T a b:=by
 unfold rowU;rw[CT Z]
theorem mB{T:Nat→Nat→Int}:updT (rowU T i p bf j) i j ((T p p*T i j-T i p*T p j).tdiv bf)=rowU T i p bf (j+1):=by
 funext a b;unfold updT rowU;by_cases h:a=i∧b=j
 .rw[De h,De Z,h.2]
 rw[CT h];by_cases h2:a=i∧b<j
 .rw[De h2,De Z]
 rw[CT h2,CT Z]
theorem qR{T:Nat→Nat→Int}(h:T i j=0)(h':T i p=0∨T p j=0):rowU T i p bf j=rowU T i p bf (j+1):=by
 rw[←mB,h,JV];have e:(0-T i p*T p j).tdiv bf=0:=by
  rcases h' with h'|h'<;>rw[h']<;>simp
 rw[e];funext a b;unfold updT;split
 .rename_i h2;rw[h2.1,h2.2,no (.inr Dh),h]
 rfl
theorem WW.l39(i:WW h n a l c m)(g:m<BW):l<40:=by
 obtain⟨L,d,f,rfl⟩:=i;have:=f.len39 g;have:=d.lenW;omega
theorem W2(k:Nat){vS:Value}{T:Nat→Nat→Int}{sb:Bool}{ab:Option Addr}{lb cb:Nat}(hT:h bt=some (.row [U .i64 (N:Int),Y (some ⟨be,0,none⟩) (N*N) (N*N),vS] e))(bb:bt<3*n∧bt≠be)(o:OZ h n be (tabL N T))(ib:IW h n sb ab lb cb bf)(ao:bf≠0)(an:bf.natAbs<BW)(hi:i<N)(hp:p<N)(ap:p≠i)(hN:N≤3)
  (hb:∀a c,a<N→c<N→(T a c).natAbs<BW)(hx:∀j,j<N→(T p p*T i j-T i p*T p j).natAbs<BW):
  CF (KO (k+9)) 207 [Dn (some ⟨bt,0,none⟩),U .i64 (i:Int),U .i64 (p:Int),U .i64 (p:Int),.agg #[Dk sb,Y ab lb cb]] h n fun _ Z0 n' w=>n≤n'∧ExtB n [be] h Z0∧OZ Z0 n' be (tabL N (rowU T i p bf N))∧(∀c∈w,c=be):=by
 have h9:=LH hN;have a3:=o.1;obtain⟨am,bx⟩:=bb;refine ph (fn:=Tryz.f207) R4<|zG ?_;refine sB [Dk sb,Y ab lb cb] ?_;intro h1 p1 x1;refine zG ?_;refine sC (rowX _ ((x1 bt am).trans hT) hi hN) ?_;rintro _ h2 n2 rfl y2 x2;refine zG ?_;refine sC (rowX _ ((x2 bt Z).trans ((x1 bt am).trans hT)) hp hN) ?_;rintro _ h3 n3 rfl y3 x3;refine zG ?_;obtain⟨M,L,l4,Z1,t4,i4⟩:=o.el hi hp;refine sI rfl hp ?_;refine sL t4 a3 0 ?_;refine sA ?_;intro h5 p5 x5;refine sS [Dk M,Y L l4 Z1] ?_;intro h6 p6 o6;refine zG ?_;refine sF (α:=Nat) (fun z=>[(3,U .i64 (p:Int)),(9,Dn (some ⟨3*n+2,0,none⟩)),(10,Y (some ⟨be,i*N*2,none⟩) N (N*N-i*N)),(11,Y (some ⟨be,p*N*2,none⟩) N (N*N-p*N)),(12,Dn (some ⟨3*n3+2,0,none⟩)),(26,Y (some ⟨be,i*N*2,none⟩) N (N*N-i*N)),(27,U .i64 (N:Int)),(28,U .i64 (z:Int))]) (fun z Z0 n' w'=>n3+1≤n'∧ExtB (n3+1) [be] h6 Z0∧Tr (n3+1) h6 n' Z0∧OZ Z0 n' be (tabL N (rowU T i p bf z))∧z≤N∧(∀c∈w',c=be)∧(w'=[]→tabL N (rowU T i p bf z)=tabL N T)) (fun z=>N-z) 0 ⟨Dh,IT _ _ _,Tr.refl _ _,(o.xx intP.kp zx).as (by rw[gm]),Di,fun c hc=>oU hc Ds,fun _=>by rw[gm]⟩ ?_;rintro j t h7 n7 J⟨y7,Y7,A,v,hj,C,a5⟩;have y7:n3+1≤n7:=y7;have v:OZ h7 n7 be (tabL N (rowU T i p bf j)):=v;have hj:j≤N:=hj;have A:Tr (n3+1) h6 n7 h7:=A;have j4:IW h7 n7 M L l4 Z1 (T i p):=(i4.x zx:IW h6 (n3+1) M L l4 Z1 (T i p)).t A;have jb:IW h7 n7 sb ab lb cb bf:=(ib.x zx:IW h6 (n3+1) sb ab lb cb bf).t A;refine zG ?_;by_cases q8:(j:Int)<(N:Int)
 .have d:j<N:=Z;have y:=v.1;have aw:rowU T i p bf j i j=T i j:=no (.inr Dh);have ax:rowU T i p bf j p j=T p j:=no (.inl ap);have ay:rowU T i p bf j p p=T p p:=no (.inl ap);obtain⟨b8,a8,l8,c8,t8,i8⟩:=v.el hi d;obtain⟨b9,a9,l9,c9,t9,i9⟩:=v.el hp d;obtain⟨Z4,S,l10,V,aq,a6⟩:=v.el hp hp;rw[aw]at i8;rw[ax]at i9;rw[ay]at a6;refine zG ?_;refine sI rfl d ?_;refine sL t8 y 0 ?_;refine sA ?_;intro bu c1 c3;refine zG ?_;refine sS [Dk b8,Y a8 l8 c8] ?_;intro bv c2 c0;refine zG ?_;refine sC (xv _ (i8.x zx)) ?_;rintro _ W f⟨bq,rfl,ar⟩ ca c5;rcases K3 ar with⟨rfl,I⟩|⟨rfl,I⟩
  .refine Zs ?_;intro q ae u;have ah:SumO f q (f+1) (3*f+2) 0 0:=SumO.start Z Z (yv f) ae;have D:IW q f Z4 S l10 V (T p p):=(a6.x zx:IW W f Z4 S l10 V (T p p)).ext u Dh;have G:IW q f b8 a8 l8 c8 (T i j):=(i8.x zx:IW W f b8 a8 l8 c8 (T i j)).ext u Dh;have F:IW q f M L l4 Z1 (T i p):=(j4.x zx:IW W f M L l4 Z1 (T i p)).ext u Dh;have H:IW q f b9 a9 l9 c9 (T p j):=(i9.x zx:IW W f b9 a9 l9 c9 (T p j)).ext u Dh;exact BY
  refine zG ?_;refine sC (xv _ (j4.x zx)) ?_;rintro _ bw bz⟨br,rfl,au⟩ cc c6;rcases K3 au with⟨rfl,af⟩|⟨rfl,af⟩
  .refine zG ?_;refine sI rfl d ?_;refine sL t9 y 0 ?_;refine sC (xv _ (i9.x zx)) ?_;rintro _ Z3 g⟨bs,rfl,av⟩ cd c7;rcases K3 av with⟨rfl,ag⟩|⟨rfl,ag⟩
   .refine Zs ?_;intro q ae u;have ah:SumO g q (g+1) (3*g+2) 0 0:=SumO.start Z Z (yv g) ae;have D:IW q g Z4 S l10 V (T p p):=(a6.x zx:IW Z3 g Z4 S l10 V (T p p)).ext u Dh;have G:IW q g b8 a8 l8 c8 (T i j):=(i8.x zx:IW Z3 g b8 a8 l8 c8 (T i j)).ext u Dh;have F:IW q g M L l4 Z1 (T i p):=(j4.x zx:IW Z3 g M L l4 Z1 (T i p)).ext u Dh;have H:IW q g b9 a9 l9 c9 (T p j):=(i9.x zx:IW Z3 g b9 a9 l9 c9 (T p j)).ext u Dh;exact BY
   refine zG ?_;exact sK (j+1) ⟨Z,zy,A.trans zt,(v.xx intP.kp zx).as (by rw[qR I (.inr ag)]),vT,C,fun s=>by rw[←qR I (.inr ag)];exact a5 s⟩
  refine zG ?_;exact sK (j+1) ⟨Z,zy,A.trans zt,(v.xx intP.kp zx).as (by rw[qR I (.inl af)]),vT,C,fun s=>by rw[←qR I (.inl af)];exact a5 s⟩
 refine zG ?_;have d:j=N:=Z;subst d;exact⟨rfl,[],rfl,⟨Z,zy,v,C⟩,fun s=>⟨Dh,IT _ _ _,o.as (a5 s).symm,fun c hc=>oU hc Ds⟩⟩
end
def pOps(E:Env):List Oper→List Nat→Nat→List Nat→Bool
 |[],_,_,_=>true
 |o::r,m::ms,i,es=>match o.op with
  | .store _ _ _=>es.all (fun j=>m.testBit j)&&pOps E r ms (i+1) (i::es)
  |_=>(Mj E o.op&& !(Eh (KS o.op) 1))&&pOps E r ms (i+1) es
 |_::_,[],_,_=>false
theorem W3{m:Nat}:∀{a:List (Nat×HF×List Nat)},(∀y∈a,m.testBit y.1=true)→xF m a=true:=by
 intro a;induction a with
 |nil=>intro _;rfl
 |cons y a ih=>
  intro h;obtain⟨j,g⟩:=y;unfold xF;rw[h (j,g) cA];exact ih fun z b=>h z (by simp[b])
theorem W5{X:CtxF}{ops:List Oper}:∀(l:List Oper) (ms:List Nat) (i:Nat) (s:SV) (f:List (Nat×HF×List Nat)) (es:List Nat),(∀y∈f,y.1∈es)→pOps X.E l ms i es=true→z9 X ops l ms i ⟨s,[],[],f⟩=seqF X ops l s:=by
 intro l;induction l with
 |nil=>intro ms i s f es _ _;simp[z9,seqF]
 |cons o l ih=>
  intro ms i s f es e b;cases ms with
  |nil=>simp[pOps]at b
  |cons m ms=>
   unfold pOps at b;unfold z9 seqF;simp only;split at b
   .rename_i ty a x g;rw[Ew]at b;cases hw:zh ops s.t o with
    |false=>
     simp only;congr 1;funext s1;exact ih ms (i+1) s1 f (i::es) (fun y j=>Fm _ (e y j)) b.2
    |true=>
     simp only;have p:KS o.op=3:=by rw[g];rfl
     unfold qx Lv;have u:xF m f=true:=W3 fun y j=>Fy.1 b.1 _ (e y j);simp only[p,u,xW,EF];unfold ng;have A:effF X.E o.op (KM s.t) s.h s.n=sj X.E ty (KM s.t a) (KM s.t x) s.h s.n:=by rw[g];rfl
     rw[A];cases he:sj X.E ty (KM s.t a) (KM s.t x) s.h s.n with
     |none=>rfl
     |some r=>
      obtain⟨v,F,G,W,rfl⟩:=iW he;have B:=PD he;subst B;simp only;have w:yd m W []=true:=rfl;unfold wp;split
      .simp only[w,Dv Dh,EF];refine ih ms (i+1) _ _ (i::es) (fun y j=>?_) b.2;rcases DR.1 j with rfl|j
       .exact C1
       exact Fm _ (e y j)
      rfl
   rw[Ew,Ew]at b;cases hw:zh ops s.t o with
   |false=>
    simp only;congr 1;funext s1;exact ih ms (i+1) s1 f es e b.2
   |true=>
    simp only;unfold qx Lv;rcases NU b.1.1 with D|⟨t,d,x,k,g,q⟩
    .cases p:KS o.op with
     |zero=>
      simp only[p];cases yJ X.E o.op (KM s.t)with
      |none=>rfl
      |some v=>
       simp only;congr 1;funext s1;exact ih ms (i+1) s1 f es e b.2
     |succ c=>
      cases c with
      |zero=>rw[p]at b;simp at b
      |succ c=>omega
    have p:KS o.op=4:=by rw[g];rfl
    have C:KX X.E o.op (KM s.t)=none:=by rw[g];exact qC q _
    simp only[p,C];cases hpu:yJ X.E o.op (KM s.t)with
    |none=>
     rw[g];simp only[uX q]
    |some v=>
     rw[g];simp only[uX q];congr 1;funext s1;exact ih ms (i+1) s1 f es e b.2
theorem ke{X:CtxF}{d:Nat}{ops:Array Oper}{s:SV}{Q:Ex→SV→Prop}(b:pOps X.E ops.toList (wu ops.toList []) 0 []=true):EC X (.region d ops true) s Q↔EO X ops.toList ops.toList s (Q .normal):=by
 unfold EC EO;rw[xQ];have a:z9 X ops.toList ops.toList (wu ops.toList []) 0 ⟨s,[],[],[]⟩=seqF X ops.toList ops.toList s:=W5 _ _ _ _ _ _ (fun y c=>oU c Ds) b;rw[a];cases h:seqF X ops.toList ops.toList s with
 |none=>simp
 |some r=>simp only[uU];simp
section
variable {x:Operand}
def xt:List UInt8:=[48,48,48,49,48,50,48,51,48,52,48,53,48,54,48,55,48,56,48,57,49,48,49,49,49,50,49,51,49,52,49,53,49,54,49,55,49,56,49,57,50,48,50,49,50,50,50,51,50,52,50,53,50,54,50,55,50,56,50,57,51,48,51,49,51,50,51,51,51,52,51,53,51,54,51,55,51,56,51,57,52,48,52,49,52,50,52,51,52,52,52,53,52,54,52,55,52,56,52,57,53,48,53,49,53,50,53,51,53,52,53,53,53,54,53,55,53,56,53,57,54,48,54,49,54,50,54,51,54,52,54,53,54,54,54,55,54,56,54,57,55,48,55,49,55,50,55,51,55,52,55,53,55,54,55,55,55,56,55,57,56,48,56,49,56,50,56,51,56,52,56,53,56,54,56,55,56,56,56,57,57,48,57,49,57,50,57,51,57,52,57,53,57,54,57,55,57,56,57,57]
theorem vx(m:Nat)(b:m<100):∃b1 b2,xt[m*2]?=some b1∧xt[m*2+1]?=some b2∧b1.toNat=48+m/10∧b2.toNat=48+m%10∧(xt.drop (m*2)).take 2=[b1,b2]:=by
 have h:∀i:Fin 100,(match xt[i.val*2]?,xt[i.val*2+1]? with|some b1,some b2=>decide (b1.toNat=48+i.val/10∧b2.toNat=48+i.val%10∧(xt.drop (i.val*2)).take 2=[b1,b2])|_,_=>false)=true:=by decide+kernel
 have:=h ⟨m,b⟩;simp only at this;split at this
 .rename_i b1 b2 h1 h2;have a:=of_decide_eq_true this;exact⟨b1,b2,h1,h2,a.1,a.2.1,a.2.2⟩
 cases this
section
variable {h:HF}{n:Nat}{d:Tmp}
theorem iX{i l:Operand}(a:Za X ops t o d (o.op=.slice ty x (some i) (some l) none∧X.E.und ty=some .string∧KM t x=Dl ⟨⟨s⟩⟩∧KM t i=U ik (j:Int)∧KM t l=U ik' (m:Int)))(A:j≤m∧m≤O s)
  (k:EO X ops r ⟨upd t d (Dl ⟨⟨(s.drop j).take (m-j)⟩⟩),h,n,w⟩ Q):EO X ops (o::r) ⟨t,h,n,w⟩ Q:=by
 obtain⟨a,f,q,b,u,v,g,p⟩:=a;refine zA ⟨a,f,q,(by rw[b];rfl),?_⟩ k;rw[b];show yY X.E ty (KM t x) (some (KM t i)) (some (KM t l))=_;rw[v,g,p];have c:(0:Int)≤(j:Int)∧(j:Int)≤(m:Int):=Z;have e:(0:Int)≤(m:Int)∧(m:Int)≤(O s:Int):=Z;simp only[yY,u,Ld,De c,De e,Ez]
end
section
variable {h:HF}{n:Nat}{d:Tmp}
theorem W7{a s:Nat}(l:zh ops t o=true)(f:o.dst=some d)(g:zu X.nt (some d)=true)(b:o.op=.binOp .shr ty x y ty')(p:KM t x=U .i64 (a:Int))(q:KM t y=U ik (s:Int))(u:s≤64)
  (k:EO X ops r ⟨upd t d (U .i64 ((a/2^s:Nat):Int)),h,n,w⟩ Q):EO X ops (o::r) ⟨t,h,n,w⟩ Q:=by
 refine zA ⟨l,f,g,(by rw[b];rfl),?_⟩ k;rw[b];show binE X.E .shr ty (KM t x) (KM t y)=_;rw[p,q];have c:¬(s:Int)<0:=Z;have e:min (s:Int).toNat (Ft .i64)=s:=by simp[Ft];omega
 exact B8
end
theorem W9(h:i<10):decT i=[EV (48+i)]:=by
 have a:(EV (48+i)).toNat=48+i:=tO h;by_cases h0:i=0
 .subst h0;rfl
 have:=pK (d:=[EV (48+i)]) (fun b c=>by rw[Dx.1 c,a];omega) cA (by
  intro e;injection e with e
  have:=congrArg an5 e;rw[a]at this;have f:(48:UInt8).toNat=48:=rfl;omega)
 rw[←this];congr 1;show i=10*0+((EV (48+i)).toNat-48);rw[a];omega
theorem Xa{a c:UInt8}(q:10≤i∧i<100)(l:a.toNat=48+i/10)(p:c.toNat=48+i%10):decT i=[a,c]:=by
 have:=pK (d:=[a,c]) (fun b f=>by
  simp only[DR,Ds,or_false]at f;rcases f with rfl|rfl<;>omega) cA (by
  intro e;injection e with e
  have:=congrArg an5 e;have g:(48:UInt8).toNat=48:=rfl;omega)
 rw[←this];congr 1;show i=10*(10*0+(a.toNat-48))+(c.toNat-48);omega
def Of:List UInt8:=[48,49,50,51,52,53,54,55,56,57,97,98,99,100,101,102,103,104,105,106,107,108,109,110,111,112,113,114,115,116,117,118,119,120,121,122]
theorem Xb(m:Nat)(a:m<10):(Of.drop m).take 1=[EV (48+m)]:=by
 have h:∀i:Fin 10,(Of.drop i.val).take 1=[EV (48+i.val)]:=by decide+kernel
 exact h ⟨m,a⟩
theorem jG(k:Nat)(h:HF)(n:Nat)(g:i<100):VF (KO (k+1)) 187 [U .i64 (i:Int)] h n fun v=>v=Dl ⟨⟨decT i⟩⟩:=by
 refine zB (fn:=Tryz.f187) R4<|Zc ?_;by_cases h10:i<10
 .refine ZC ?_;refine zR ?_;refine iX (s:=Of) (j:=i) (m:=i+1) R8 ⟨Z,by show i+1≤36;omega⟩ ?_;rw[show i+1-i=1 by omega,Xb i h10,←W9 h10];refine Zn ?_;exact B4
 refine Zk ?_;obtain⟨l,p,_,_,c,e,f⟩:=vx i g;refine zM ?_;refine st_mul (a:=(i:Int)) (b:=2) rfl rfl rfl rfl rfl rfl Z ?_;refine zM ?_;refine st_mul (a:=(i:Int)) (b:=2) rfl rfl rfl rfl rfl rfl Z ?_;refine zR ?_;refine iX (s:=xt) (j:=i*2) (m:=i*2+2) R8 ⟨Z,by show i*2+2≤200;omega⟩ ?_;rw[show i*2+2-i*2=2 by omega,f,←Xa Z c e];refine Zn ?_;exact B4
theorem Qy(k:Nat)(h:HF)(n:Nat)(b:Bool):VF (KO (k+1)) 219 [Dk b] h n fun v=>v=U .i64 (if b then 1 else 0):=by
 refine zB (fn:=Tryz.f219) R4<|Zx ?_;cases b
 .rw[za rfl];refine Zc ?_;exact B4
 rw[zc rfl];refine Zc ?_;exact B4
theorem Xc(k:Nat)(h:HF)(n:Nat)(c:m≤64):VF (KO (k+1)) 217 [U .i64 (m:Int)] h n fun v=>v=U .i64 ((m*78913/262144:Nat):Int):=by
 refine zB (fn:=Tryz.f217) R4<|Zd ?_;refine Zd ?_;refine st_mul (a:=(m:Int)) (b:=78913) rfl rfl rfl rfl rfl rfl Z ?_;refine W7 (a:=m*78913) (s:=18) rfl rfl rfl rfl rfl rfl Z<|Zn ?_;exact B4
theorem Xd(a:m<20):GK.p10[0+(m:Int).toNat*1]?=some (U .u64 ((10^m:Nat):Int)):=by
 rw[show 0+(m:Int).toNat*1=m from Z];have h:∀i:Fin 20,(match GK.p10[i.val]? with|some (U .u64 x)=>decide (x=((10^i.val:Nat):Int))|_=>false)=true:=by decide+kernel
 have:=h ⟨m,a⟩;simp only at this;split at this
 .rename_i x hx;rw[hx,of_decide_eq_true this]
 cases this
theorem Xe(a:m≤64):m*78913/262144<20∧2^m≤10^(m*78913/262144+1)∧10^(m*78913/262144)≤5*2^m:=by
 have h:∀i:Fin 65,decide (i.val*78913/262144<20∧2^i.val≤10^(i.val*78913/262144+1)∧10^(i.val*78913/262144)≤5*2^i.val)=true:=by decide+kernel
 exact of_decide_eq_true (h ⟨m,Z⟩)
theorem uJ(k:Nat){h:HF}(B:GK.G h)(n:Nat){x:Nat}(D:x<18446744073709551616)(h0:x≠0):VF (KO (k+2)) 188 [U .u64 (x:Int)] h n fun v=>∃m:Nat,v=U .i64 (m:Int)∧1≤m∧m≤20∧x<10^m∧10^(m-1)≤x:=by
 refine zB (fn:=Tryz.f188) R4<|Zc ?_;refine zM ?_;refine ye _ R5 (aQ k _ _ D) ?_;rintro _⟨m,rfl,e,f,g⟩;refine ye _ R5 (Xc k _ _ e) ?_;rintro _ rfl;obtain⟨c,u,A⟩:=Xe e;have F:=g h0;generalize m*78913/262144=q at c u A⊢;refine Zw ?_;refine Zi ?_;refine eC R8 ⟨Int.natCast_nonneg _,Int.ofNat_lt.2 c⟩ ?_;refine zi R6 B.2.1 (v:=U .u64 ((10^q:Nat):Int)) ⟨rfl,(Xd c)⟩ ?_;by_cases hge:10^q≤x
 .refine kE R6 (ab4.2 hge)<|ye _ R5 (Qy (k+1) _ _ true) ?_;rintro _ rfl;refine td (a:=(q:Int)) (b:=1) R6 Z<|Zn ?_;exact retF _ rfl (zj rfl) R2 ⟨q+1,rfl,Z,Z,DY f u,hge⟩
 refine gb R6 (fun C=>hge (ab4.1 C)) ?_;refine ye _ R5 (Qy (k+1) _ _ false) ?_;rintro _ rfl;refine td (a:=(q:Int)) (b:=0) R6 Z ?_;rw[al2];refine Zn ?_;have l:1≤q:=by
  rcases Nat.eq_zero_or_pos q with h|h
  .subst h;rw[FD]at hge;omega
  exact h
 refine retF _ rfl (zj rfl) R2 ⟨q,rfl,l,Z,Z,?_⟩;obtain⟨p,rfl⟩:∃p,q=p+1:=⟨q-1,Z⟩;rw[DI]at A;show 10^p≤x;omega
end
section
variable {h h0:HF}{n:Nat}
def Dg(c:List Value)(o L Z4 i:Nat):Prop:=∀j,i≤j→j<L→c[o+j]?=some (U .u8 ((48+Z4/10^(L-1-j)%10:Nat):Int))
structure FbI (h0:HF)(B:Nat)(e:TypeId)(o L Z4:Nat)(c0:List Value)(h:HF)(w:List Nat)(c:List Value)(i:Nat):Prop where
 w1:∀b∈w,b=B
 w2:w=[]→h=h0
 oth:Only B h0 h
 row:h B=some (.row c e)
 len:O c=O c0
 dg:Dg c o L Z4 i
 out:∀k,(k<o∨o+L≤k)→c[k]?=c0[k]?
theorem FbI.put{o L:Nat}{c:List Value}{v:Nat}(f:FbI h0 B e o L Z4 c0 h w c i)(q:i=m+1)(p:i≤L)(s:o+L≤O c0)(hv:v=48+Z4/10^(L-i)%10):FbI h0 B e o L Z4 c0 (upd h B (some (.row (c.set (o+m) (U .u8 (v:Int))) e))) (B::w) (c.set (o+m) (U .u8 (v:Int))) m:=by
 refine⟨fun b a=>?_,fun h=>Aq,fun b a=>(zg a).trans (f.oth b a),ze _ _ _,by rw[EU,f.len],fun j l d=>?_,fun k g=>?_⟩
 .rcases DR.1 a with h|h
  .exact h
  exact f.w1 b h
 .by_cases e2:j=m
  .subst e2;rw[List.getElem?_set_self (by rw[f.len];omega),hv,show L-1-j=L-i by omega]
  rw[Kf Z];exact f.dg j Z d
 rw[Kf Z];exact f.out k g
def Xf(h:HF)(n B:Nat)(e:TypeId)(o L Z4:Nat)(c0:List Value)(h':HF)(n':Nat)(w:List Nat):Prop:=n'=n∧(∀b∈w,b=B)∧∃c,FbI h B e o L Z4 c0 h' w c 0
theorem iA(k:Nat){o L:Nat}(hB:B<3*n)(a0:h B=some (.row c0 e))(D:o+L≤O c0)(hL:1≤L∧L≤20)(hU:Z4<10^L)(a3:Z4<18446744073709551616):
  CF (KO (k+1)) 189 [Y (some ⟨B,o,none⟩) L cap,U .u64 (Z4:Int)] h n fun _ K N w=>Xf h n B e o L Z4 c0 K N w:=by
 refine ph (fn:=Tryz.f189) R4 ?_;have f0:FbI h B e o L Z4 c0 h [] c0 L:=⟨fun b hb=>oU hb Ds,fun _=>rfl,fun _ _=>rfl,a0,rfl,fun j M h2=>oU M Z,fun _ _=>rfl⟩;refine Zc ?_;refine zK (α:=Nat×Nat×List Value) (fun z=>[(0,Y (some ⟨B,o,none⟩) L cap),(1,U .u64 (z.2.1:Int)),(4,U .i64 (z.1:Int))])
  (fun z K N w=>n=N∧FbI h B e o L Z4 c0 K w z.2.2 z.1∧z.1≤L∧z.2.1=Z4/10^(L-z.1)) (fun z=>z.1) (L,Z4,c0) V3 ⟨rfl,f0,Dh,by show Z4=Z4/10^(L-L);rw[Ee,FD,HY]⟩ (by show L<LL;unfold LL;omega) ?_
 rintro⟨i,u,c⟩ t M _ w ⟨rfl,d,G,g⟩;dsimp only at d G g;have C:∀q,Z4/10^(L-i+q)=u/10^q:=fun q=>by rw[g,Gb,←EH]
 have a7:u<18446744073709551616:=by rw[g];exact DP (FL _ _) a3
 have f:u<10^i:=by
  rw[g];refine Ho ?_;rw[←EH,show L-i+i=L by omega];exact hU
 refine zN ?_;by_cases h8:8≤i
 .refine ZD ?_;refine vg (a:=u) (b:=100000000) R6 Z<|po (c:=u%100000000) R7 Z<|Zw ?_;refine xO (a:=u) (b:=100000000) R6 ⟨Z,Z⟩ ?_;refine Zn ?_;generalize hus:u%100000000=us;refine zM ?_;refine wg (a:=us) (b:=10000) R6 ⟨Z,Z⟩ ?_;refine zM ?_;refine vh (a:=us) (b:=10000) R6 Z<|Zi ?_;refine zN ?_;generalize hlo:us%10000=lo;generalize hhi:us/10000=hg;have a4:lo%100=u%100:=Z;refine zM ?_;refine wg (a:=lo) (b:=100) R6 ⟨Z,Z⟩ ?_;refine xA (a:=lo/100) (b:=2) R6 Z<|zM ?_;refine vh (a:=lo) (b:=100) R6 Z<|xA (a:=lo%100) (b:=2) R6 Z<|Zi ?_;refine Zd ?_;refine wg (a:=hg) (b:=100) R6 ⟨Z,Z⟩ ?_;refine xA (a:=hg/100) (b:=2) R6 Z<|zM ?_;refine vh (a:=hg) (b:=100) R6 Z<|xA (a:=hg%100) (b:=2) R6 Z<|Zi ?_;refine zN ?_;generalize hm1:lo%100=m1;generalize hm2:lo/100=m2;generalize hm3:hg%100=m3;generalize hm4:hg/100=m4;have I:m1%10=u%10∧m1/10=u/10%10:=Z;have T:m2%10=u/100%10∧m2/10=u/1000%10:=Z;have k2:m3%10=u/10000%10∧m3/10=u/100000%10:=Z;have k3:m4%10=u/1000000%10∧m4/10=u/10000000%10:=Z;have l1:m1<100∧m2<100∧m3<100∧m4<100:=Z;rw[ke rfl];obtain⟨Z1,P,l,p,y,A,_⟩:=vx (m1) Z;refine ZA ?_;refine ZA ?_;refine zM ?_;refine xn (a:=m1*2) (b:=1) R6 Z<|yC (s:=xt) (j:=m1*2+1) R8 p ?_;rw[A];refine zM ?_;refine yC (s:=xt) (j:=m1*2) R8 l ?_;rw[y];refine yW (j:=i-1) R8 Z ⟨Z,BE⟩ d.row mo (fun _=>rfl) R3 (fun _=>rfl) rfl fun _=>?_;have F:=d.put (m:=i-1) (v:=48+(m1)%10) Z Z D (by rw[←g,I.1]);refine yW (j:=i-2) R8 Z ⟨Z,by rw[F.len];omega⟩ F.row mo (fun _=>rfl) R3 (fun _=>rfl) rfl fun _=>?_;have H:=F.put (m:=i-2) (v:=48+(m1)/10) Z Z D AN;refine zN ?_;rw[ke rfl];obtain⟨Z1,P,l,p,y,A,_⟩:=vx (m2) Z;refine ZA ?_;refine ZA ?_;refine zM ?_;refine xn (a:=m2*2) (b:=1) R6 Z<|yC (s:=xt) (j:=m2*2+1) R8 p ?_;rw[A];refine zM ?_;refine yC (s:=xt) (j:=m2*2) R8 l ?_;rw[y];refine yW (j:=i-3) R8 Z ⟨Z,by rw[H.len];omega⟩ H.row mo (fun _=>rfl) R3 (fun _=>rfl) rfl fun _=>?_;have J:=H.put (m:=i-3) (v:=48+(m2)%10) Z Z D (by rw[show L-(i-2)=L-i+2 by omega,C 2,T.1]);refine yW (j:=i-4) R8 Z ⟨Z,by rw[J.len];omega⟩ J.row mo (fun _=>rfl) R3 (fun _=>rfl) rfl fun _=>?_;have R:=J.put (m:=i-4) (v:=48+(m2)/10) Z Z D (by rw[show L-(i-3)=L-i+3 by omega,C 3,T.2]);refine zN ?_;rw[ke rfl];obtain⟨Z1,P,l,p,y,A,_⟩:=vx (m3) Z;refine ZA ?_;refine ZA ?_;refine zM ?_;refine xn (a:=m3*2) (b:=1) R6 Z<|yC (s:=xt) (j:=m3*2+1) R8 p ?_;rw[A];refine zM ?_;refine yC (s:=xt) (j:=m3*2) R8 l ?_;rw[y];refine yW (j:=i-5) R8 Z ⟨Z,by rw[R.len];omega⟩ R.row mo (fun _=>rfl) R3 (fun _=>rfl) rfl fun _=>?_;have W:=R.put (m:=i-5) (v:=48+(m3)%10) Z Z D (by rw[show L-(i-4)=L-i+4 by omega,C 4,k2.1]);refine yW (j:=i-6) R8 Z ⟨Z,by rw[W.len];omega⟩ W.row mo (fun _=>rfl) R3 (fun _=>rfl) rfl fun _=>?_;have Z3:=W.put (m:=i-6) (v:=48+(m3)/10) Z Z D (by rw[show L-(i-5)=L-i+5 by omega,C 5,k2.2]);refine zN ?_;rw[ke rfl];obtain⟨Z1,P,l,p,y,A,_⟩:=vx (m4) Z;refine ZA ?_;refine ZA ?_;refine zM ?_;refine xn (a:=m4*2) (b:=1) R6 Z<|yC (s:=xt) (j:=m4*2+1) R8 p ?_;rw[A];refine zM ?_;refine yC (s:=xt) (j:=m4*2) R8 l ?_;rw[y];refine yW (j:=i-7) R8 Z ⟨Z,by rw[Z3.len];omega⟩ Z3.row mo (fun _=>rfl) R3 (fun _=>rfl) rfl fun _=>?_;have Z0:=Z3.put (m:=i-7) (v:=48+(m4)%10) Z Z D (by rw[show L-(i-6)=L-i+6 by omega,C 6,k3.1]);refine yW (j:=i-8) R8 Z ⟨Z,by rw[Z0.len];omega⟩ Z0.row mo (fun _=>rfl) R3 (fun _=>rfl) rfl fun _=>?_;have f9:=Z0.put (m:=i-8) (v:=48+(m4)/10) Z Z D (by rw[show L-(i-7)=L-i+7 by omega,C 7,k3.2]);refine Zc ?_;exact goOn (i-8,u/100000000,_) (by show i-8<i;omega) ⟨rfl,rfl,by show U .i64 _=U .i64 _;congr 1;show(i:Int)-8=((i-8:Nat):Int);omega,Df⟩ ⟨rfl,f9,by show i-8≤L;omega,by show u/100000000=Z4/10^(L-(i-8));rw[show L-(i-8)=L-i+8 by omega,C 8]⟩
 refine Zk ?_;have a6:u<100000000:=DY f (DJ zd (show i≤8 by omega));refine zM ?_;refine po (c:=u) R7 Z<|Zw ?_;refine eD R6<|zN ?_;refine yp (α:=Nat×Nat×List Value) (fun z=>[(0,Y (some ⟨B,o,none⟩) L cap),(4,U .i64 (z.1:Int)),(12,U .u32 (z.2.1:Int))]) (fun z K N w=>n=N∧FbI h B e o L Z4 c0 K w z.2.2 z.1∧z.1≤L∧z.2.1=Z4/10^(L-z.1)∧z.2.1<10^z.1∧z.1<4) ?_ ?_
 .by_cases h4:4≤i
  .rw[kA (show(i:Int)≥4 by omega)];rw[zc rfl];refine Zd ?_;refine vh (a:=u) (b:=10000) R6 Z<|Zw ?_;refine wg (a:=u) (b:=10000) R6 ⟨Z,Z⟩ ?_;refine Zn ?_;generalize hlo:u%10000=lo;refine zM ?_;refine wg (a:=lo) (b:=100) R6 ⟨Z,Z⟩ ?_;refine xA (a:=lo/100) (b:=2) R6 Z<|zM ?_;refine vh (a:=lo) (b:=100) R6 Z<|xA (a:=lo%100) (b:=2) R6 Z<|Zi ?_;refine zN ?_;generalize hm1:lo%100=m1;generalize hm2:lo/100=m2;have I:m1%10=u%10∧m1/10=u/10%10:=Z;have T:m2%10=u/100%10∧m2/10=u/1000%10:=Z;have l1:m1<100∧m2<100:=Z;rw[ke rfl];obtain⟨Z1,P,l,p,y,A,_⟩:=vx (m1) Z;refine ZA ?_;refine ZA ?_;refine zM ?_;refine xn (a:=m1*2) (b:=1) R6 Z<|yC (s:=xt) (j:=m1*2+1) R8 p ?_;rw[A];refine zM ?_;refine yC (s:=xt) (j:=m1*2) R8 l ?_;rw[y];refine yW (j:=i-1) R8 Z ⟨Z,BE⟩ d.row mo (fun _=>rfl) R3 (fun _=>rfl) rfl fun _=>?_;have F:=d.put (m:=i-1) (v:=48+(m1)%10) Z Z D (by rw[←g,I.1]);refine yW (j:=i-2) R8 Z ⟨Z,by rw[F.len];omega⟩ F.row mo (fun _=>rfl) R3 (fun _=>rfl) rfl fun _=>?_;have H:=F.put (m:=i-2) (v:=48+(m1)/10) Z Z D AN;refine zN ?_;rw[ke rfl];obtain⟨Z1,P,l,p,y,A,_⟩:=vx (m2) Z;refine ZA ?_;refine ZA ?_;refine zM ?_;refine xn (a:=m2*2) (b:=1) R6 Z<|yC (s:=xt) (j:=m2*2+1) R8 p ?_;rw[A];refine zM ?_;refine yC (s:=xt) (j:=m2*2) R8 l ?_;rw[y];refine yW (j:=i-3) R8 Z ⟨Z,by rw[H.len];omega⟩ H.row mo (fun _=>rfl) R3 (fun _=>rfl) rfl fun _=>?_;have J:=H.put (m:=i-3) (v:=48+(m2)%10) Z Z D (by rw[show L-(i-2)=L-i+2 by omega,C 2,T.1]);refine yW (j:=i-4) R8 Z ⟨Z,by rw[J.len];omega⟩ J.row mo (fun _=>rfl) R3 (fun _=>rfl) rfl fun _=>?_;have R:=J.put (m:=i-4) (v:=48+(m2)/10) Z Z D (by rw[show L-(i-3)=L-i+3 by omega,C 3,T.2]);refine Zc ?_;refine zC (i-4,u/10000,_) ⟨rfl,by show U .i64 _=U .i64 _;congr 1;show(i:Int)-4=((i-4:Nat):Int);omega,rfl,Df⟩ ⟨rfl,R,by show i-4≤L;omega,by show u/10000=Z4/10^(L-(i-4));rw[show L-(i-4)=L-i+4 by omega,C 4],?_,by show i-4<4;omega⟩;show u/10000<10^(i-4);refine Ho ?_;rw[show(10000:Nat)=10^4 from rfl,←EH,show 4+(i-4)=i by omega];exact f
  rw[aA (show ¬(i:Int)≥4 by omega)];rw[za rfl];try refine zN ?_
  exact zC (i,u,c) V3 ⟨rfl,d,G,g,f,by show i<4;omega⟩
 rintro⟨i,u,c⟩ t M _ w ⟨rfl,d,G,g,f,S⟩;dsimp only at d G g f S;have C:∀q,Z4/10^(L-i+q)=u/10^q:=fun q=>by rw[g,Gb,←EH]
 have a5:u<10000:=DY f (DJ zd (show i≤4 by omega));refine Zd ?_;refine eD R6<|zN ?_;refine yp (α:=Nat×Nat×List Value) (fun z=>[(0,Y (some ⟨B,o,none⟩) L cap),(4,U .i64 (z.1:Int)),(12,U .u32 (z.2.1:Int))]) (fun z K N w=>n=N∧FbI h B e o L Z4 c0 K w z.2.2 z.1∧z.1≤L∧z.2.1=Z4/10^(L-z.1)∧z.2.1<10^z.1∧z.1<2) ?_ ?_
 .by_cases h2:2≤i
  .rw[kA (show(i:Int)≥2 by omega)];rw[zc rfl];refine Zd ?_;refine vh (a:=u) (b:=100) R6 Z<|xA (a:=u%100) (b:=2) R6 Z<|Zw ?_;refine wg (a:=u) (b:=100) R6 ⟨Z,Z⟩ ?_;refine Zn ?_;generalize hm1:u%100=m1;have I:m1%10=u%10∧m1/10=u/10%10:=Z;have l1:m1<100:=Z;rw[ke rfl];obtain⟨Z1,P,l,p,y,A,_⟩:=vx (m1) Z;refine ZA ?_;refine ZA ?_;refine zM ?_;refine xn (a:=m1*2) (b:=1) R6 Z<|yC (s:=xt) (j:=m1*2+1) R8 p ?_;rw[A];refine zM ?_;refine yC (s:=xt) (j:=m1*2) R8 l ?_;rw[y];refine yW (j:=i-1) R8 Z ⟨Z,BE⟩ d.row mo (fun _=>rfl) R3 (fun _=>rfl) rfl fun _=>?_;have F:=d.put (m:=i-1) (v:=48+(m1)%10) Z Z D (by rw[←g,I.1]);refine yW (j:=i-2) R8 Z ⟨Z,by rw[F.len];omega⟩ F.row mo (fun _=>rfl) R3 (fun _=>rfl) rfl fun _=>?_;have H:=F.put (m:=i-2) (v:=48+(m1)/10) Z Z D AN;refine Zc ?_;refine zC (i-2,u/100,_) ⟨rfl,by show U .i64 _=U .i64 _;congr 1;show(i:Int)-2=((i-2:Nat):Int);omega,rfl,Df⟩ ⟨rfl,H,by show i-2≤L;omega,by show u/100=Z4/10^(L-(i-2));rw[show L-(i-2)=L-i+2 by omega,C 2],?_,by show i-2<2;omega⟩;show u/100<10^(i-2);refine Ho ?_;rw[show(100:Nat)=10^2 from rfl,←EH,show 2+(i-2)=i by omega];exact f
  rw[aA (show ¬(i:Int)≥2 by omega)];rw[za rfl];try refine zN ?_
  exact zC (i,u,c) V3 ⟨rfl,d,G,g,f,by show i<2;omega⟩
 rintro⟨i,u,c⟩ t M _ w ⟨rfl,d,G,g,f,V⟩;dsimp only at d G g f V;refine zN ?_;by_cases h0:i=0
 .subst h0;refine Ze ?_;try refine zN ?_
  refine⟨rfl,[],rfl,⟨rfl,d.w1,c,d⟩,fun hw=>?_⟩;subst hw;have:=d.w2 rfl;subst this;exact⟨rfl,d.w1,c,d⟩
 have a2:i=1:=Z;subst a2;have a1:u<10:=f;refine ZC ?_;refine xn (a:=48) (b:=u) R6 Z<|pp (a:=48+u) R7 ?_;rw[Dz (show 48+u<256 by omega)];refine yW (j:=0) R8 rfl ⟨Z,BE⟩ d.row mo (fun _=>rfl) R3 (fun _=>rfl) rfl fun _=>?_;have F:=d.put (m:=0) (v:=48+u) rfl G D (by rw[←g,Dz a1]);refine zN ?_;exact⟨rfl,[],rfl,⟨rfl,F.w1,_,F⟩,fun hw=>(by cases hw)⟩
end
section
variable {h0:HF}{len:Nat}{x:Operand}
theorem Qz:∀(L Z4:Nat),1≤L→Z4<10^L→10^(L-1)≤Z4→O (decD Z4)=L∧∀j,j<L→(decD Z4)[j]?=some (Z4/10^(L-1-j)%10):=by
 intro L;induction L with
 |zero=>intro Z4 h;omega
 |succ L ih=>
  intro Z4 _ f g;have p:0<10^L:=Er zd;rw[FR]at g;have a:=wE (V:=Z4) Z;by_cases hL:L=0
  .subst hL;have e:Z4/10=0:=by rw[Nat.pow_one]at f;omega
   rw[e,yZ]at a;rw[a];refine⟨rfl,fun j m=>?_⟩;have:j=0:=Z;subst this;rw[show 0+1-1-0=0 by omega,FD,HY];rfl
  obtain⟨c,l⟩:=ih (Z4/10) Z (by rw[DI]at f;omega) (by
   obtain⟨q,rfl⟩:∃q,L=q+1:=⟨L-1,Z⟩;rw[DI]at g;rw[FR];omega)
  rw[a];refine⟨by rw[Do,c];rfl,fun j m=>?_⟩;by_cases h3:j<L
  .rw[En Z,l j h3,Gb,Dt 10,←DI,show(L-1-j).succ=L+1-1-j by omega]
  have:j=L:=Z;subst this;rw[DL Z,c,Ee,FR,Ee,FD,HY];rfl
theorem FbI.cells{o L:Nat}{h:HF}{w:List Nat}{c:List Value}(f:FbI h0 B e o L Z4 c0 h w c 0)(s:o+L≤O c0)(m:1≤L)(g:Z4<10^L)(l:10^(L-1)≤Z4):(c.drop o).take L=KY (decB Z4):=by
 obtain⟨p,a⟩:=Qz L Z4 m g l;have q:=f.len;refine Fh fun j=>?_;by_cases hj:j<L
 .rw[Eu hj,List.getElem?_drop,f.dg j Di hj];unfold KY decB;rw[DB,DB,a j hj];rfl
 rw[DS sP,DS (by rw[pi];unfold decB;rw[DC];omega)]
section
variable {h:HF}{n:Nat}{d:Tmp}
theorem ml{lo:Operand}(a:Za X ops t o d (o.op=.slice ty x (some lo) (some hi) none∧X.E.und ty=some (.array len e)∧X.E.inf e=some (sz,bt,z)∧KM t x=Dn (some ⟨b,0,none⟩)∧KM t lo=U ik (i:Int)∧KM t hi=U ik' ji))(g:ji=(j:Int))(u:gro b=false)(D:i≤j∧j≤len∧i<len)
  (k:EO X ops r ⟨upd t d (Y (some ⟨b,0+i*sz,none⟩) (j-i) (len-i)),h,n,w⟩ Q):EO X ops (o::r) ⟨t,h,n,w⟩ Q:=by
 obtain⟨a,v,y,m,A,f,C,l,c⟩:=a;subst g;refine zA ⟨a,v,y,(by rw[m];rfl),?_⟩ k;rw[m];show yY X.E ty (KM t x) (some (KM t lo)) (some (KM t hi))=_;rw[C,l,c];have p:(0:Int)≤(i:Int)∧(i:Int)≤(j:Int):=Z;have q:(0:Int)≤(j:Int)∧(j:Int)≤(len:Int):=Z;have s:Eh len i=false:=by
  cases he:Eh len i with
  |false=>rfl
  |true=>have:=Eb he;omega
 simp only[yY,A,f,Ld,De p,De q,Ez,u,Jp,ab5,offA,s,ws]
theorem rE(a:Za X ops t o d (o.op=.slice ty x none (some hi) none∧X.E.und ty=some (.array len e)∧X.E.inf e=some (sz,bt,z)∧KM t x=Dn (some ⟨b,0,none⟩)∧KM t hi=U ik' ji))(g:ji=(j:Int))(q:gro b=false)(A:j≤len∧0<len)
  (k:EO X ops r ⟨upd t d (Y (some ⟨b,0,none⟩) j len),h,n,w⟩ Q):EO X ops (o::r) ⟨t,h,n,w⟩ Q:=by
 obtain⟨a,s,u,l,v,f,y,c⟩:=a;subst g;refine zA ⟨a,s,u,(by rw[l];rfl),?_⟩ k;rw[l];show yY X.E ty (KM t x) none (some (KM t hi))=_;rw[y,c];have m:(0:Int)≤(j:Int)∧(j:Int)≤(len:Int):=Z;have p:Eh len 0=false:=by
  cases he:Eh len 0 with
  |false=>rfl
  |true=>have:=Eb he;omega
 simp only[yY,v,f,Ld,De m,Ez,q,Jp,ab5,offA,p,ws,EI,Gv]
end
def intT(x:Int):List UInt8:=(if x<0 then[45]else[])++decT x.natAbs
theorem QA(h:Z4≠0):(decB Z4).map EV=decT Z4:=by unfold decT;rw[CT h]
theorem bH(d:Nat)(l:List Nat):KY (d::l)=U .u8 (d:Int)::KY l:=rfl
theorem uj{h:HF}{o L:Nat}{c:List Value}(g:h b=some (.row c e))(f:(c.drop o).take L=cl)(l:o+L≤O c)(a:L≤cap):argS h 1 (Y (some ⟨b,o,none⟩) L cap) L cl:=
 uW (n:=b+1) (.at_ Z g rfl a Z (by rw[Ek];exact f))
theorem Xg(k:Nat){h:HF}(F:GK.G h){n:Nat}(K:20≤n){x:Int}(P: -9223372036854775808≤x∧x<9223372036854775808):VF (KO (k+3)) 151 [U .i64 x,U .i64 10] h n fun v=>v=Dl ⟨⟨intT x⟩⟩:=by
 refine zB (fn:=Tryz.f151) R4<|Zc ?_;refine Zq ?_;by_cases hsm:0≤x∧x<100
 .obtain⟨i,rfl⟩:∃i:Nat,x=(i:Int):=⟨x.natAbs,Z⟩;refine ZD ?_;refine ye _ R5 (jG (k+1) _ _ Z) ?_;rintro _ rfl;refine Zn ?_;refine retF _ rfl (zj rfl) R2 ?_;show Dl _=_;unfold intT;rw[CT Z];rfl
 obtain⟨m,J⟩:∃m,m=x.natAbs:=⟨_,rfl⟩;have l:m≠0:=Z;by_cases hneg:x<0
 .refine Zk ?_;refine wO (Dp 24 (U .u8 0)) R6 ?_;intro u C D;refine Zd ?_;refine vk (ik:=.u64) (a:=((18446744073709551616-m:Nat):Int)) R6 ?_ ?_
  .show some (U .u64 (D8 .u64 x))=_;rw[show x= -(m:Int)from Z,su m Z]
  refine zM ?_;refine Zc ?_;rw[zc rfl];refine Zd ?_;refine zA (v:=U .u64 (m:Int)) ⟨rfl,rfl,rfl,rfl,?_⟩ ?_
  .show some (U .u64 (D8 .u64 (0-((18446744073709551616-m:Nat):Int))))=_;rw[tC _ Z];congr 3;omega
  refine Zw ?_;refine ye _ R5 (uJ k (uB F D K) _ Z l) ?_;rintro _⟨L,rfl,p,H,g,q⟩;refine Zw ?_;refine td (a:=1) (b:=(L:Int)) R6 Z<|ml (i:=1) (j:=1+L) R9 Z (yv n) Z ?_;rw[show 1+L-1=L by omega];refine zM ?_;refine zk _ R5 (iA (k+1) (h:=u) (n:=n+1) (B:=3*n+2) (o:=1) (L:=L) (Z4:=m) Z C oc Z g Z) ?_;rintro v M _ W⟨rfl,y,c,f⟩;rw[zZ fun b A=>by rw[y b A];show 3*n≤_;omega];have s:O c=24:=by rw[f.len,DV]
  refine Zc ?_;rw[zc rfl];refine zN ?_;refine eC R8 (j:=0) Z<|nO (b:=3*n+2) (off:=0) (c.set 0 (U .u8 45)) R5 f.row R3 (by rw[s];omega) (splice_one c 0 _ Z) eL ?_;intro Z1 N R;refine Zd ?_;refine td (a:=1) (b:=(L:Int)) R6 Z<|rE (j:=1+L) R8 Z (yv n) Z ?_;have I:((c.set 0 (U .u8 45)).drop 0).take (1+L)=KY (45::decB m):=by
   rw[bH,←f.cells oc p g q,EE];cases c with
   |nil=>simp at s
   |cons c1 c2=>rw[G3,EY,List.take_succ_cons,List.drop_succ_cons,EE];rfl
  refine pn R5 (rx (B:=45::decB m) R3 (uj N I (by rw[EU];omega) Z)) ?_;refine Zn ?_;refine retF _ rfl (zj rfl) R2 ?_;show Dl _=_;unfold intT;rw[De hneg,←J,←QA l];rfl
 refine Zk ?_;refine wO (Dp 24 (U .u8 0)) R6 ?_;intro u C D;refine Zd ?_;refine vk (ik:=.u64) (a:=(m:Int)) R6 ?_ ?_
 .show some (U .u64 (D8 .u64 x))=_;rw[show x=(m:Int)from Z,wz,Dz Z]
 refine zM ?_;refine Zc ?_;rw[za rfl];refine Zd ?_;refine ye _ R5 (uJ k (uB F D K) _ Z l) ?_;rintro _⟨L,rfl,p,H,g,q⟩;refine Zw ?_;refine td (a:=1) (b:=(L:Int)) R6 Z<|ml (i:=1) (j:=1+L) R9 Z (yv n) Z ?_;rw[show 1+L-1=L by omega];refine zM ?_;refine zk _ R5 (iA (k+1) (h:=u) (n:=n+1) (B:=3*n+2) (o:=1) (L:=L) (Z4:=m) Z C oc Z g Z) ?_;rintro v M _ W⟨rfl,y,c,f⟩;rw[zZ fun b A=>by rw[y b A];show 3*n≤_;omega];have s:O c=24:=by rw[f.len,DV]
 refine Zc ?_;rw[za rfl];refine Zd ?_;refine td (a:=1) (b:=(L:Int)) R6 Z<|ml (i:=1) (j:=1+L) R9 Z (yv n) Z ?_;rw[show 1+L-1=L by omega];refine pn R5 (rx (B:=decB m) R3 (uj f.row (f.cells oc p g q) Z Z)) ?_;refine Zn ?_;refine retF _ rfl (zj rfl) R2 ?_;show Dl _=_;unfold intT;rw[CT hneg,←J,←QA l];rfl
theorem kY(k:Nat){h:HF}(a:GK.G h){n:Nat}(c:20≤n){x:Int}(f: -9223372036854775808≤x∧x<9223372036854775808):VF (KO (k+4)) 123 [U .i64 x,U .i64 10] h n fun v=>v=Dl ⟨⟨intT x⟩⟩:=by
 refine zB (fn:=Tryz.f123) R4<|Zd ?_;refine Zp ?_;refine ye _ R5 (Xg k a c f) ?_;rintro _ rfl;refine Zn ?_;exact B4
theorem dX(k:Nat){h:HF}(a:GK.G h){n:Nat}(c:20≤n){x:Int}(f: -9223372036854775808≤x∧x<9223372036854775808):VF (KO (k+5)) 132 [U .i64 x] h n fun v=>v=Dl ⟨⟨intT x⟩⟩:=by
 refine zB (fn:=Tryz.f132) R4<|Zd ?_;refine Zd ?_;refine ye _ R5 (kY k a c f) ?_;rintro _ rfl;refine Zn ?_;exact B4
end
section
variable {h':HF}{c n':Nat}
structure SideD where
 A:List Rat
 lo:List UInt8
 hi:List UInt8
theorem Gro.same{lo n len:Nat}{h:HF}{C:List Value}(g:Gro h lo n e sz v len C)(f:∀b,3*lo≤b→b<3*n→gro b=true→h' b=h b):Gro h' lo n e sz v len C:=by
 cases g with
 |nil=>exact .nil
 |at_ hg hlo hb hr hl ho=>exact .at_ hg hlo hb ((f _ hlo hb hg).trans hr) hl ho
section
variable {h:HF}{n:Nat}{d:Tmp}
theorem qH(cs:List Value)(f:Za X ops t o d (KS o.op=2∧KX X.E o.op (KM t)=some ⟨cs,e,false,some (l,c)⟩))
  (k:∀h',h' (3*n+2)=some (.row cs e)→KN n h h'→EO X ops r ⟨upd t d (Y (some ⟨3*n+2,0,none⟩) l c),h',n+1,w⟩ Q):EO X ops (o::r) ⟨t,h,n,w⟩ Q:=by obtain⟨f,i,p,g,m⟩:=f;exact ud ⟨f,i,p,g,m⟩ (k _ (ze _ _ _) (KN.upd Z))
end
end
section
variable {h h':HF}{n n':Nat}
structure RowD where
 A:List (List UInt8)
 lo:List UInt8
 hi:List UInt8
structure LPD where
 obj:List (List UInt8)
 rows:List RowD
 lower:List (List UInt8)
 upper:List (List UInt8)
structure VLP (p:LPD):Prop where
 n1:1≤O p.obj
 n2:O p.obj≤64
 ll:O p.lower=O p.obj
 lu:O p.upper=O p.obj
 lr:O p.rows≤64
 ob:∀s∈p.obj,xC s
 bd:∀(j:Nat) lo hi,p.lower[j]?=some lo→p.upper[j]?=some hi→pairOk lo hi
 rw:∀r∈p.rows,pairOk r.lo r.hi∧(∀s∈r.A,xC s)∧O r.A=O p.obj
def LR(a:Nat)(s:List UInt8):Prop:=O s<500∧Sz a (numOf s)
structure LPB (a:Nat)(p:LPD):Prop where
 ob:∀s∈p.obj,LR a s
 lw:∀s∈p.lower,LR a s
 up:∀s∈p.upper,LR a s
 rl:∀r∈p.rows,LR a r.lo∧LR a r.hi∧O r.A<1000000∧∀s∈r.A,LR a s
 n1:O p.obj<1000000
 n2:O p.rows<1000000
 n3:O p.lower<1000000
 n4:O p.upper<1000000
theorem Keep.blk{len:Nat}{C:List Value}(k:Keep v n h h')(g:Gro h lo n e sz v len C)(d:gro b=false)(f:b<3*n):h' b=h b:=by
 refine k b f fun o l c e=>?_;cases g with
 |nil=>cases e
 |at_ hg hlo hb2 hr f ho=>cases e;rw[hg]at d;cases d
end
section
variable {c len n' u:Nat}{sT:TypeId}{T:List Nat}{h' h0:HF}{x:Operand}
def decN(V:Nat):List Nat:=if V=0 then[48]else decB V
theorem lz(V:Nat):decT V=(decN V).map EV:=by
 unfold decT decN;split<;>rfl
theorem Xh:∀V,∀d∈decD V,d<10:=by
 intro V;induction V using Hb with
 |_ V ih=>
  intro d f;by_cases h0:V=0
  .subst h0;rw[yZ]at f;exact oU f Ds
  rw[wE h0]at f;rcases Ec.1 f with h|h
  .exact ih (V/10) Z d h
  rw[Dx.1 h];omega
theorem Xi(V:Nat):∀d∈decN V,d<256:=by
 intro d f;unfold decN at f;split at f
 .rw[Dx.1 f];decide
 obtain⟨q,g,rfl⟩:=EX.1 f;have:=Xh V q g;show 48+q<256;omega
theorem cv(V:Nat):decN V≠[]:=by
 unfold decN;split
 .simp
 rename_i h;intro e;unfold decB at e;rw[wE h]at e;simp at e
theorem Xj{l:List Nat}(h:∀d∈l,d<256):(l.map EV).map (fun b:UInt8=>U .u8 (b.toNat:Int))=KY l:=by
 induction l with
 |nil=>rfl
 |cons d l ih=>
  rw[GJ,GJ,ih fun x f=>h x (by simp[f]),bH];have:=h d cA;rw[show(EV d).toNat=d from by rw[UInt8.toNat_ofNat'];omega]
theorem QB{h:HF}:argS h 1 (Dl ⟨⟨decT V⟩⟩) (O (decN V)) (KY (decN V)):=by
 refine⟨?_,?_⟩
 .show some (O (decT V))=_;rw[lz,DC]
 show some (((decT V).take (O (decN V))).map fun b:UInt8=>U .u8 (b.toNat:Int))=_;rw[lz,DK (by rw[DC];exact Nat.le_refl _),Xj (Xi V)]
theorem QC{L:Nat}(g:1≤L)(h1:Z4<10^L)(f:10^(L-1)≤Z4):O (decB Z4)=L:=by
 unfold decB;rw[DC];exact(Qz L Z4 g h1 f).1
def Mz(v:Value)(b:Nat):Prop:=∃o l c,v=Y (some ⟨b,o,none⟩) l c
def GroT(h:HF)(n:Nat)(v:Value)(T:List Nat):Prop:=Gro h 0 n 5 1 v (O T) (KY T)
theorem lZ{h:HF}{n:Nat}{x:Value}{new:List Nat}(hu:E.und sT=some (.slice e))(F:e=5)(q:E.inf e=some (1,bytes,z))(D:O (zr z)=1)(h1:1≤bytes)(p:GroT h n v T)(C:argS h 1 x m (KY new))(A:1≤m)(y:O new=m)(f:(O T+m)*bytes≤1099511627776):
  ∃v' h' W,yP E h n sT v x=some (.val v' h' (n+1) W)∧GroT h' (n+1) v' (T++new)∧Keep v n h h'∧(∀b∈W,Mz v b)∧yh n v':=by
 subst F;unfold GroT at*
 have g:O (KY new)=m*1:=by rw[pi,y,Ek]
 have i:O T+m=O (T++new):=by rw[Do,y]
 have j:KY T++KY new=KY (T++new):=by unfold KY;rw[EN]
 generalize hT:O T=tl at p f i;generalize hc:KY T=cc at p j;cases p with
 |nil=>
  refine⟨_,_,_,append_nil hu q D Dh h1 C A (by rw[D7]at f;exact f),?_,fun b f _=>zg Z,fun b f=>oU f Ds,A2⟩;rw[←j,←i,D7,El];exact .at_ (pF n) Z Z (ze _ _ _) g (qV _)
 | @at_ b len _ hg2 hlo hb2 hr hl2 ho2=>
  refine⟨_,_,_,rS hu q D Dh h1 C A f hg2 hr hl2 (wI ho2 (qV _)) g,?_,fun k s B=>?_,fun k s=>?_,A2⟩
  .rw[←j,←i];exact .at_ (pF n) Z Z (ze _ _ _) (by rw[Do,hl2,g];omega) (wI ho2 (qV _))
  .rw[zg Z,zg (fun e=>B 0 tl tl (by rw[e]))]
  rw[Dx.1 s];exact⟨_,_,_,rfl⟩
structure AS (h0:HF)(n0:Nat)(v0:Value)(h:HF)(n:Nat)(w:List Nat)(v:Value)(T:List Nat):Prop where
 hn:n0≤n
 keep:Keep v0 n0 h0 h
 hw:∀b∈w,Mz v0 b
 g:GroT h n v T
 or:v=v0∨yh n0 v
theorem AS.refl(g:GroT h0 n0 v0 T):AS h0 n0 v0 h0 n0 [] v0 T:=⟨Dh,fun _ _ _=>rfl,fun b f=>oU f Ds,g,al1 rfl⟩
theorem AS.ext{h:HF}{n:Nat}{w:List Nat}(a:AS h0 n0 v0 h n w v T)(x:KN n h h')(f:n≤n'):AS h0 n0 v0 h' n' w v T:=
 ⟨Ed a.hn f,fun b j i=>(x b (by have:=a.hn;omega)).trans (a.keep b j i),a.hw,a.g.ext x f,a.or⟩
theorem AS.only{h:HF}{n:Nat}{w:List Nat}(a:AS h0 n0 v0 h n w v T)(o:Only b h h')(p:3*n0≤b)(j:gro b=false):AS h0 n0 v0 h' n w v T:=
 ⟨a.hn,fun k f i=>(o k Z).trans (a.keep k f i),a.hw,a.g.same fun k _ _ f=>o k fun e=>(by rw[e,j]at f;cases f),a.or⟩
theorem Gro.blk{n o:Nat}{h:HF}{C:List Value}(g:Gro h lo n e sz v len C)(hv:v=Y (some ⟨b,o,none⟩) l c):gro b=true∧b<3*n:=by
 cases g with
 |nil=>cases hv
 |at_ hg hlo hb hr hl ho=>cases hv;exact⟨hg,hb⟩
theorem AS.trans{q:HF}{s y:Nat}{A w2:List Nat}{v1 v2:Value}{B p:List Nat}(a:AS h0 n0 v0 h1 s A v1 B)(b:AS h1 s v1 q y w2 v2 p):AS h0 n0 v0 q y (addW n0 w2 A) v2 p:=by
 have C:=a.hn;refine⟨Ed a.hn b.hn,fun k j i=>(b.keep k Z fun o l c e=>?_).trans (a.keep k j i),fun k j=>?_,b.g,?_⟩
 .rcases a.or with h|h
  .exact i o l c (h▸e)
  rw[e]at h;have h:3*n0≤k:=h;omega
 .rcases xc.1 j with h|⟨h,D⟩
  .exact a.hw k h
  obtain⟨o,l,c,e⟩:=b.hw k h;rcases a.or with f|f
  .exact⟨o,l,c,f▸e⟩
  rw[e]at f;have f:3*n0≤k:=f;omega
 rcases b.or with h|h
 .rw[h];exact a.or
 exact .inr (h.mono C)
section
variable {h:HF}{n:Nat}{d:Tmp}
theorem mn{s:Operand}{new:List Nat}(i:Za X ops t o d (o.op=.call {callee:=.builtin .append,args:=#[s,x],argTypes:=#[sT,xT]}∧(match X.E.und xT with|some (.int _)=>false|none=>false|_=>true)=true∧X.E.und sT=some (.slice e)∧e=5∧X.E.inf e=some (1,bytes,z)∧O (zr z)=1))(h1:1≤bytes)(J:KM t s=v)(L:argS h 1 (KM t x) m (KY new))(H:1≤m)(G:O new=m)(C:(O T+m)*bytes≤1099511627776)(a:AS h0 X.n0 v0 h n w v T)
  (k:∀f h' w',AS h0 X.n0 v0 h' (n+1) w' f (T++new)→Keep v n h h'→EO X ops r ⟨upd t d f,h',n+1,w'⟩ Q):EO X ops (o::r) ⟨t,h,n,w⟩ Q:=by
 obtain⟨i,hd,hn,I,p,K,D,F,M⟩:=i;obtain⟨f,h',W,q,y,j,A,B⟩:=lZ K D F M h1 a.g L H G C;refine yX ⟨i,hd,hn,I,p⟩ (by rw[J];exact q) ?_;have b:AS h n v h' (n+1) W f (T++new):=⟨DM _,j,A,y,.inr B⟩;exact k f h' _ (a.trans b) j
end
theorem GroT.shape{h:HF}{n:Nat}(g:GroT h n v T):∃a,v=Y a (O T) (O T):=by
 obtain⟨a,e,_⟩:=JM g;exact⟨a,e⟩
theorem GroT.keepB{h:HF}{n:Nat}(g:GroT h n v T)(k:Keep v n h h')(f:gro b=false)(i:b<3*n):h' b=h b:=k.blk g f i
theorem Xk(k:Nat){h:HF}(K:GK.G h){n:Nat}(Z1:20≤n)(hu:u<18446744073709551616)(g:GroT h n (Y a (O T) (O T)) T)(hT:O T<1000000000):CF (KO (k+3)) 191 [Y a (O T) (O T),U .u64 (u:Int),U .i64 10] h n fun v h' n' w=>AS h n (Y a (O T) (O T)) h' n' w v (T++decN u):=by
 refine zl (fn:=au2) R4 ?_;have D:=AS.refl g;have a4:O (decN u)≤20:=by
  unfold decN;split
  .decide
  unfold decB;rw[DC];exact wJ 20 u Z
 refine Zd ?_;refine Zc ?_;rw[zc rfl];refine zN ?_;by_cases hsm:u<100
 .refine ZC ?_;refine vj (a:=(u:Int)) R7 Z<|ye _ R5 (jG (k+1) _ _ hsm) ?_;rintro _ rfl;refine mn R9 zb rfl (QB (V:=u)) (by have:=cv u;cases hh:decN u with|nil=>exact oU hh this|cons _ _=>simp) rfl Z D ?_;intro R h' S F _;obtain⟨C,rfl⟩:=F.g.shape;refine Zn ?_;exact retH [Y C _ _] R3 F
 have A:u≠0:=Z;refine Zk ?_;refine wO (Dp 24 (U .u8 0)) R6 ?_;intro h1 P I;refine Zd ?_;refine ye _ R5 (uJ k (uB K I Z1) _ hu A) ?_;rintro _⟨L,rfl,i,Z3,p,q⟩;refine Zw ?_;refine rE (j:=L) R8 rfl (yv n) Z<|zM ?_;refine zk _ R5 (iA (k+1) (h:=h1) (n:=n+1) (B:=3*n+2) (o:=0) (L:=L) (Z4:=u) Z P oc Z p Z) ?_;rintro v h2 _ W⟨rfl,M,c,f⟩;rw[zZ fun b N=>by rw[M b N];show 3*n≤_;omega];have Z0:O c=24:=by rw[f.len,DV]
 have J:=(D.ext I zs).only f.oth Z (yv n);have s:=f.cells oc i p q;have y:decN u=decB u:=by unfold decN;rw[CT A]
 rw[←y]at s;refine Zp ?_;refine rE (j:=L) R8 rfl (yv n) Z<|mn R9 zb rfl (uj f.row s Z Z) i (by rw[y];exact QC i p q) Z J ?_;intro R h' S H _;obtain⟨C,rfl⟩:=H.g.shape;refine Zn ?_;exact retH [Y C _ _] R3 H
theorem cN(k:Nat){h:HF}(p:GK.G h){n:Nat}(s:20≤n)(hu:u<18446744073709551616)(g:GroT h n (Y a (O T) (O T)) T)(q:O T<1000000000):CF (KO (k+4)) 198 [Y a (O T) (O T),U .u64 (u:Int),U .i64 10] h n fun v h' n' w=>AS h n (Y a (O T) (O T)) h' n' w v (T++decN u):=by
 refine zl (fn:=au3) R4<|Zd ?_;refine Zd ?_;refine Zi ?_;refine zk _ R5 (Xk k p s hu g q) ?_;intro v h1 y A f;obtain⟨i,rfl⟩:=f.g.shape;have j:=(AS.refl g).trans f;refine Zn ?_;exact retH [Y i _ _] R3 j
end
section
variable {len u:Nat}{T:List Nat}
section
variable {h:HF}{n:Nat}{sT:TypeId}{x:Value}
theorem rR{c:List Value}(hu:E.und sT=some (.slice e)∧E.inf e=some (1,bytes,z)∧O (zr z)=1)(p:1≤bytes)(C:argS h 1 x m new)(q:(len+m)*bytes≤1099511627776)(w:O new=m∧1≤m)(hc:len+m≤cap)(A:h b=some (.row c e'))(F:len+m≤O c)(y:ones new=true):
  yP E h n sT (Y (some ⟨b,0,none⟩) len cap) x=some (.val (Y (some ⟨b,0,none⟩) (len+m) cap) (upd h b (some (.row (zv c len new) e'))) n [b]):=by
 obtain⟨hu,s,D⟩:=hu;obtain⟨d,a⟩:=C;have f:DX ((len+m)*bytes) 1099511627776=true:=Dv q;have g:Eh (O (zr z)) 1=true:=by rw[D];exact Ct
 have i:DX 1 1=true:=rfl;have j:DX 1 bytes=true:=Dv p;have l:DX (len+m) cap=true:=Dv hc;have o:vJ h ((⟨b,0,none⟩:Addr).add (len*1)) new=some (upd h b (some (.row (zv c len new) e'))):=by
  rw[ws,D7,Ek,ug A Z y]
 obtain⟨v,r,rfl⟩:∃v r,new=v::r:=by
  cases new with
  |nil=>simp at w;omega
  |cons v r=>exact⟨v,r,rfl⟩
 simp only[yP,hu,s,d,a,f,g,i,j,l,EF,uM,o]
end
def BufT(T:List Nat)(h:HF)(n B cap:Nat)(e:TypeId)(c0:List Value)(N:List Nat)(v:Value)(h':HF)(n':Nat)(w:List Nat):Prop:=
 v=Y (some ⟨B,0,none⟩) (O (T++N)) cap∧n≤n'∧(∀b∈w,b=B)∧(∀b,b<3*n→b≠B→h' b=h b)∧∃c,h' B=some (.row c e)∧O c=O c0∧c.take (O (T++N))=KY (T++N)
theorem uD{N:List Nat}{c:List Value}(d:c.take (O T)=KY T)(a:O T+O N≤O c):(zv c (O T) (KY N)).take (O (T++N))=KY (T++N)∧(zv c (O T) (KY N)).length=O c:=by
 have h:=ma (c:=KY N) (cs:=c) (o:=O T) (by rw[pi];exact a);rw[pi,d]at h;rw[Do];exact⟨h.1.trans (by simp[KY]),h.2⟩
theorem qF(k:Nat){h:HF}(S:GK.G h){n:Nat}(Z0:20≤n){e:TypeId}(K:c0.take (O T)=KY T)(F:B<3*n)(p:h B=some (.row c0 e))(a1:cap=O c0∧O T+20≤cap∧cap<1000000)(hu:u<18446744073709551616):
  CF (KO (k+3)) 191 [Y (some ⟨B,0,none⟩) (O T) cap,U .u64 (u:Int),U .i64 10] h n fun v Z1 n' w=>BufT T h n B cap e c0 (decN u) v Z1 n' w:=by
 refine zl (fn:=au2) R4 ?_;have a3:O (decN u)≤20:=by
  unfold decN;split
  .decide
  unfold decB;rw[DC];exact wJ 20 u Z
 have M:1≤O (decN u):=by
  have:=cv u;cases hh:decN u with
  |nil=>exact oU hh this
  |cons _ _=>simp
 refine Zd ?_;refine Zc ?_;rw[zc rfl];refine zN ?_;by_cases hsm:u<100
 .refine ZC ?_;refine vj (a:=(u:Int)) R7 Z<|ye _ R5 (jG (k+1) _ _ hsm) ?_;rintro _ rfl;refine yX R5 (rR R3 zb (QB (V:=u)) Z ⟨pi _,M⟩ Z p Z (qV _)) ?_;rw[rT (by show B<3*n;exact F)];refine Zn ?_;obtain⟨H,I⟩:=uD (N:=decN u) K Z;refine retH [Y (some ⟨B,0,none⟩) (O T+O (decN u)) cap] R3 ⟨ra,Dh,fun b d=>Dx.1 d,fun b _ l=>zg l,_,ze _ _ _,I,H⟩
 have D:u≠0:=Z;refine Zk ?_;refine wO (Dp 24 (U .u8 0)) R6 ?_;intro P p1 J;refine Zd ?_;refine ye _ R5 (uJ k (uB S J Z0) _ hu D) ?_;rintro _⟨L,rfl,g,a0,i,y⟩;refine Zw ?_;refine rE (j:=L) R8 rfl (yv n) Z<|zM ?_;refine zk _ R5 (iA (k+1) (h:=P) (n:=n+1) (B:=3*n+2) (o:=0) (L:=L) (Z4:=u) Z p1 oc Z i Z) ?_;rintro v R _ W⟨rfl,Z3,c,f⟩;rw[zZ fun b d=>by rw[Z3 b d];show 3*n≤_;omega];have a2:O c=24:=by rw[f.len,DV]
 have A:=f.cells oc g i y;have C:decN u=decB u:=by unfold decN;rw[CT D]
 rw[←C]at A;have s:O (decN u)=L:=by rw[C];exact QC g i y
 have q:R B=some (.row c0 e):=(f.oth B Z).trans ((J B F).trans p);refine Zp ?_;refine rE (j:=L) R8 rfl (yv n) Z<|yX R5 (rR R3 zb (uj f.row A Z Z) Z ⟨by rw[pi,s],g⟩ Z q Z (qV _)) ?_;rw[rT (by show B<3*n;exact F)];refine Zn ?_;obtain⟨H,I⟩:=uD (N:=decN u) K Z;refine retH [Y (some ⟨B,0,none⟩) (O T+L) cap] R3 ⟨by rw[Do,s];rfl,AD,fun b d=>Dx.1 d,fun b d l=>(zg l).trans ((f.oth b Z).trans (J b d)),_,ze _ _ _,I,H⟩
def BufP(h:HF)(n B cap:Nat)(e:TypeId)(c0:List Value)(u:Nat)(v:Value)(h':HF)(n':Nat)(w:List Nat):Prop:=
 v=Y (some ⟨B,0,none⟩) (O (decN u)) cap∧n≤n'∧(∀b∈w,b=B)∧(∀b,b<3*n→b≠B→h' b=h b)∧∃c,h' B=some (.row c e)∧O c=O c0∧c.take (O (decN u))=KY (decN u)
theorem fN(k:Nat){h:HF}(y:GK.G h){n:Nat}(C:20≤n){e:TypeId}(s:B<3*n)(d:h B=some (.row c0 e))(a:cap=O c0∧20≤cap)(f:cap<1000000)(hu:u<18446744073709551616):
  CF (KO (k+4)) 198 [Y (some ⟨B,0,none⟩) 0 cap,U .u64 (u:Int),U .i64 10] h n fun v q D w=>BufP h n B cap e c0 u v q D w:=by
 refine zl (fn:=au3) R4<|Zd ?_;refine Zd ?_;refine Zi ?_;refine zk _ R5 (qF (T:=[]) k y C rfl s d ⟨a.1,by simpa using a.2,f⟩ hu) ?_;rintro v F H I⟨rfl,g,i,j,c,l,o,p⟩;refine Zn ?_;refine retH [Y (some ⟨B,0,none⟩) (O (decN u)) cap] R3 ⟨rfl,g,fun b A=>?_,j,c,l,o,p⟩;rcases xc.1 A with h|⟨h,_⟩
 .exact oU h Ds
 exact i b h
end
def padD:Nat→Nat→List Nat
 |0,_=>[]
 |k+1,c=>padD k (c/10)++[c%10]
theorem Xl:∀(k c Q:Nat),c<10^k→Q≠0→decD (c+10^k*Q)=decD Q++padD k c:=by
 intro k;induction k with
 |zero=>
  intro c Q a b;have:c=0:=by rw[FD]at a;omega
  subst this;rw[FD,EM,D7,padD,DZ]
 |succ k ih=>
  intro c Q a b;rw[DI]at a;have d:(c+10^(k+1)*Q)/10=c/10+10^k*Q:=by
   rw[DI,Gi,Dt _ 10];omega
  have e:(c+10^(k+1)*Q)%10=c%10:=by
   rw[DI,Gi,Dt _ 10];omega
  have f:0<10^(k+1)*Q:=Fw (Er zd) Z;rw[wE Z,d,e,ih (c/10) Q Z b,padD,DN]
theorem Xm:∀(k c:Nat),c<10^k→padD k c=Dp (k-O (decD c)) 0++decD c:=by
 intro k;induction k with
 |zero=>
  intro c a;have:c=0:=by rw[FD]at a;omega
  subst this;rw[padD,yZ];rfl
 |succ k ih=>
  intro c a;rw[DI]at a;rw[padD,ih (c/10) Z];by_cases h0:c=0
  .subst h0;rw[yZ];show Dp (k-0) 0++[]++[0]=Dp (k+1-0) 0++[];rw[DZ,DZ,Gv,Gv,←GP]
  have b:=wE h0;rw[b,Do,DN];congr 2;show k-O (decD (c/10))=k+1-(O (decD (c/10))+1);omega
theorem cw{c Q B:Nat}(l:10^19=B)(a:c<B)(d:Q≠0):decN (c+B*Q)=decN Q++(Dp (19-O (decN c)) 48++decN c):=by
 subst l;have b:0<10^19*Q:=Fw (Er zd) Z;generalize hk:(19:Nat)=kk at a b⊢;have m:=Xl kk c Q a d;have j:=Xm kk c a;have e:decN (c+10^kk*Q)=decB (c+10^kk*Q):=by
  unfold decN;rw[CT Z]
 have i:decN Q=decB Q:=by unfold decN;rw[CT d]
 rw[e,i];unfold decB;rw[m,j,EN,EN,List.map_replicate];congr 1;by_cases h0:c=0
 .subst h0;have f:decN 0=[48]:=rfl;rw[f,yZ];show Dp (kk-0) (48+0)++[]=Dp (kk-1) 48++[48];rw[←GP,DZ,←hk]
 have g:decN c=decB c:=by unfold decN;rw[CT h0]
 rw[g];unfold decB;rw[DC]
theorem Xn{c Q:Nat}(b:c<10000000000000000000)(a:Q≠0):decN (c+10000000000000000000*Q)=decN Q++(Dp (19-O (decN c)) 48++decN c):=cw zd b a
theorem Xo{c:Nat}(a:c<10000000000000000000):O (decN c)≤19:=by
 unfold decN;split
 .decide
 unfold decB;rw[DC];exact wJ 19 c (DY a zd)
section
variable {c len n':Nat}{sT:TypeId}{T:List Nat}{h' h0:HF}{x:Operand}
theorem Gro.inv{h:HF}{n:Nat}{c:List Value}(g:Gro h lo n e 1 v len c)(f:len≠0):∃b,v=Y (some ⟨b,0,none⟩) len len∧3*lo≤b∧b<3*n∧h b=some (.row c e)∧gro b=true:=by
 cases g with
 |nil=>exact oU rfl f
 |at_ hg hlo hb hr f ho=>exact⟨_,rfl,hlo,hb,hr,hg⟩
def CB:Nat:=10000000000000000000
theorem Xp{d:Nat}(f:KQ L)(g:O L≤30)(A:wv L=d+CB^O C*V)(h0:V≠0):O C≤30:=by
 apply DU;intro D;have p:CB^31≤CB^O C:=DJ zd Z;have q:=Nat.le_mul_of_pos_right (CB^O C) (GI h0);have s:=um f;have u:18446744073709551616^O L≤18446744073709551616^30:=DJ zd g;have y:18446744073709551616^30≤CB^31:=by decide+kernel
 omega
structure TxI (n0:Nat)(v0:Value)(hL:HF)(nL B:Nat)(eB:TypeId)(h:HF)(n:Nat)(w:List Nat)(a:Option Addr)(T:List Nat):Prop where
 hn:nL≤n
 g:GroT h n (Y a (O T) (O T)) T
 or:Y a (O T) (O T)=v0∨yh nL (Y a (O T) (O T))
 hw:∀b∈w,Mz v0 b
 fr:∀b,b<3*nL→b≠B→¬Mz v0 b→h b=hL b
 buf:∃c,h B=some (.row c eB)∧O c=20
theorem TxI.ext{p:HF}{f:Nat}{h:HF}{n:Nat}{w:List Nat}(t:TxI n0 v0 p f B eB h n w a T)(x:KN n h h')(A:n≤n')(G:B<3*f):TxI n0 v0 p f B eB h' n' w a T:=by
 have F:=t.hn;obtain⟨c,s,u⟩:=t.buf;exact⟨Z,t.g.ext x A,t.or,t.hw,fun b y q D=>(x b Z).trans (t.fr b y q D),c,(x B Z).trans s,u⟩
theorem TxI.bufs{s:HF}{q:Nat}{h:HF}{n:Nat}{w:List Nat}{c:List Nat}(t:TxI n0 v0 s q B eB h n w a T)(G:n≤n')(K:B<3*q)(y:gro B=false)(A:∀b,b<3*n→b≠B→h' b=h b)(H:h' B=some (.row cs eB))(F:O cs=20):TxI n0 v0 s q B eB h' n' w a T:=by
 have J:=t.hn;refine⟨Z,?_,t.or,t.hw,fun b p f I=>(A b Z f).trans (t.fr b p f I),cs,H,F⟩;have D:GroT h' n (Y a (O T) (O T)) T:=t.g.same fun b _ p u=>A b p fun e=>by rw[e,y]at u;cases u
 exact D.ext (FU n h') G
section
variable {h:HF}{n:Nat}{d:Tmp}
theorem QD{s:Operand}{I:HF}{y:Nat}{m:Nat}{new:List Nat}(H:Za X ops t o d (o.op=.call {callee:=.builtin .append,args:=#[s,x],argTypes:=#[sT,xT]}∧(match X.E.und xT with|some (.int _)=>false|none=>false|_=>true)=true∧X.E.und sT=some (.slice e)∧e=5∧X.E.inf e=some (1,bytes,z)∧O (zr z)=1))(P:1≤bytes)(hs:KM t s=Y a (O T) (O T))(hx:argS h 1 (KM t x) m (KY new))(hm:1≤m)(hl:O new=m)(u:(O T+m)*bytes≤1099511627776)(p:TxI X.n0 v0 I y B eB h n w a T)(hB:B<3*y)(J:gro B=false)(h0:X.n0≤y)
  (k:∀D h' w',TxI X.n0 v0 I y B eB h' (n+1) w' D (T++new)→h' B=h B→EO X ops r ⟨upd t d (Y D (O (T++new)) (O (T++new))),h',n+1,w'⟩ Q):EO X ops (o::r) ⟨t,h,n,w⟩ Q:=by
 obtain⟨H,hd,hn,ho,Z1,hu,Z0,hi,hz⟩:=H;obtain⟨v',h',W,R,G,f,Z4,Z3⟩:=lZ hu Z0 hi hz P p.g hx hm hl u;obtain⟨D,rfl⟩:=G.shape;have K:=p.hn;have N:∀b,b<3*y→¬Mz v0 b→∀o l c,Y a (O T) (O T)≠Y (some ⟨b,o,none⟩) l c:=fun b u hv o l c q=>by
  rcases p.or with A|A
  .exact hv ⟨o,l,c,A▸q⟩
  rw[q]at A;have A:3*y≤b:=A;omega
 have F:h' B=h B:=f B Z fun o l c q=>by have:=(p.g.blk q).1;rw[J]at this;cases this
 refine yX ⟨H,hd,hn,ho,Z1⟩ (by rw[hs];exact R) (k D h' _ ⟨Z,G,.inr (Z3.mono K),fun b u=>?_,fun b u M hv=>(f b Z (N b u hv)).trans (p.fr b u M hv),?_⟩ F)
 .rcases xc.1 u with h|⟨h,G⟩
  .exact p.hw b h
  obtain⟨o,l,c,q⟩:=Z4 b h;rcases p.or with f|f
  .exact⟨o,l,c,f▸q⟩
  rw[q]at f;have f:3*y≤b:=f;omega
 obtain⟨c,q1,q2⟩:=p.buf;exact⟨c,F.trans q1,q2⟩
end
theorem TxI.as{f:HF}{q:Nat}{h:HF}{n:Nat}{w:List Nat}(t:TxI n0 v0 f q B eB h n w a T)(x:KN n0 h0 f)(s:n0≤q)(y:3*n0≤B):AS h0 n0 v0 h n w (Y a (O T) (O T)) T:=by
 refine⟨by have:=t.hn;omega,fun b u p=>(t.fr b Z Z fun⟨o,l,c,e⟩=>p o l c e).trans (x b u),t.hw,t.g,?_⟩;rcases t.or with h|h
 .exact .inl h
 exact .inr (h.mono s)
theorem G_fr{h:HF}(s:GK.G h)(f:∀b,b<60→gro b=false→h' b=h b):GK.G h':=by
 obtain⟨g,p,q⟩:=s;exact⟨(f _ Z rfl).trans g,(f _ Z rfl).trans p,(f _ Z rfl).trans q⟩
theorem Xq{h:HF}{s:Nat}(p:h b=some (.row (u64s S) e))(f:S[j]?=some s):At h b (0+j*1) [U .u64 (s:Int)]:=by
 have g:=(Du.1 f).1;refine⟨_,_,p,rfl,by show 0+j*1+1≤_;rw[zQ];omega,?_⟩;show((u64s S).drop (0+j*1)).take 1=_;rw[D7,Ek,qK,Fs g,(Du.1 f).2];rfl
def js(C:List Nat)(m:Nat):List Nat:=if m=O C then[]else decN (dv CB (C.drop m))
theorem Xr{m:Nat}(h:C[m]?=some c):dv CB (C.drop m)=c+CB*dv CB (C.drop (m+1)):=by
 have f:=(Du.1 h).1;rw[Fs f,(Du.1 h).2];rfl
theorem Xs{g:List Nat}{f:Nat}(p:C=g++[f])(h0:f≠0){m:Nat}(q:m<O C):dv CB (C.drop m)≠0:=by
 rw[p,List.drop_append_of_le_length (by rw[p,Do]at q;simp at q;omega),wy];show _+CB^_*(f+CB*0)≠0;have:0<CB^O (g.drop m)*(f+CB*0):=Fw (Er zd) Z;omega
theorem Xt{p:List Nat}{f m:Nat}(q:C=p++[f])(h0:f≠0)(g:C[m]?=some c)(s:c<CB):js C m=js C (m+1)++(Dp ((if m+1=O C then(decN c).length else 19)-O (decN c)) 48++decN c):=by
 have u:=(Du.1 g).1;unfold js;rw[CT Z,Xr g];by_cases he:m+1=O C
 .rw[De he,De he,he,Fo,Ee];show decN (c+CB*0)=_;rw[Fp,Ej];rfl
 rw[CT he,CT he];exact Xn s (Xs q h0 Z)
section
variable {h:HF}{n:Nat}{ld:List (Nat×Nat)}{d:Tmp}
theorem Xu(f:Za X ops t o d (o.op=.slice ty x none (some hi) none∧X.E.und ty=some (.array len e)∧X.E.inf e=some (sz,bt,z)∧KM t x=Dn (some ⟨b,0,none⟩)∧KM t hi=U ik' ji∧ji=(j:Int)))(A:gro b=false)(I:j≤len∧0<len)
  (k:ED X ops r ms (i+1) ⟨⟨upd t d (Y (some ⟨b,0,none⟩) j len),h,n,w⟩,al,ld,ef⟩ Q):ED X ops (o::r) (m::ms) i ⟨⟨t,h,n,w⟩,al,ld,ef⟩ Q:=by
 obtain⟨f,D,F,s,G,p,H,g,q⟩:=f;subst q;refine yQ f D F (by rw[s];rfl) ?_ k;rw[s];show yY X.E ty (KM t x) none (some (KM t hi))=_;rw[H,g];have u:(0:Int)≤(j:Int)∧(j:Int)≤(len:Int):=Z;have y:Eh len 0=false:=by
  cases he:Eh len 0 with
  |false=>rfl
  |true=>have:=Eb he;omega
 simp only[yY,G,p,Ld,De u,Ez,A,Jp,ab5,offA,y,ws,EI,Gv]
end
theorem Xv{q:List Nat}{r:Nat}(f:wv L=dv CB C+CB^O C*wv W)(g:wv W=CB*wv q+r):wv L=dv CB (C++[r])+CB^(O C+1)*wv q:=by
 rw[f,g,wy,DI];show _=dv CB C+CB^O C*(r+CB*0)+_;rw[Fp,Ej,D4,DG,HO,EY (CB^O C*r)]
theorem fO(k:Nat){h:HF}(hG:GK.G h){n:Nat}(hn:20≤n)(g:GroT h n (Y a (O T) (O T)) T)(hT:O T<100000000)(hs:Sl h n 1 (Y ax lx cx) (u64s L))(nL:NW L)(hl:O L≤30)(h0:L≠[]):
  CF (KO (k+5)) 225 [Y a (O T) (O T),Y ax lx cx,U .i64 0] h n fun v h' n' w=>AS h n (Y a (O T) (O T)) h' n' w v (T++decN (wv L)):=by
 refine zl (fn:=Tryz.f225) R4 ?_;have b4:=hs.lenW;subst b4;have af:O L≠0:=fun e=>h0 (DA.1 e);refine Zd ?_;refine Zd ?_;refine zk _ R5 (vt (k+3) hs Z) ?_;rintro vw h1 P _⟨rfl,c6,bp,bl,ak⟩;obtain⟨A,rfl,c2,bc,bk,c3⟩:=(ak h0).inv af;refine Zw ?_;refine zN ?_;refine zK (α:=List Nat×List Nat×List Nat×Option Addr) (fun z=>[(0,Y a (O T) (O T)),(2,U .i64 0),(7,Y (some ⟨A,0,none⟩) (O z.1) (O L)),(8,Y z.2.2.2 (O z.2.2.1) (O z.2.2.1))])
  (fun z h' n' w=>w=[]∧P≤n'∧KN n h h'∧h' A=some (.row (u64s (z.1++z.2.1)) 164)∧O z.1+O z.2.1=O L∧NW z.1∧Gro h' P n' 164 1 (Y z.2.2.2 (O z.2.2.1) (O z.2.2.1)) (O z.2.2.1) (u64s z.2.2.1)∧(∀c∈z.2.2.1,c<CB)∧wv L=dv CB z.2.2.1+CB^O z.2.2.1*wv z.1∧(wv z.1=0→∃C' c,z.2.2.1=C'++[c]∧c≠0)∧O z.2.2.1≤31) (fun z=>32-O z.2.2.1)
  (L,[],[],none) V4 ⟨rfl,Dh,bp,by rw[DZ];exact bk,rfl,nL,.nil,fun c hc=>oU hc Ds,by show wv L=0+CB^0*wv L;rw[FD];omega,fun e=>oU (nL.zero.1 e) h0,by show 0≤31;omega⟩ (by show 32-0<LL;unfold LL;omega) ?_
 rintro⟨W,R,C,a8⟩ t h2 p _ ⟨rfl,c7,av,ac,an,nW,a2,hC,hV,K,a3⟩;dsimp only at ac an nW a2 hC hV K a3;refine zN ?_;by_cases hW0:W=[]
 .subst hW0;have b9:wv L=dv CB C:=by rw[hV];show _+_*0=_;omega
  obtain⟨C',cl,ag,b0⟩:=K rfl;have b5:O C≠0:=by rw[ag,Do];simp
  refine Zk ?_;refine wO (Dp 20 (U .u8 0)) R6 ?_;intro H pL xL;refine Zd ?_;refine Zc ?_;obtain⟨eB,pL⟩:∃e,H (3*p+2)=some (.row (Dp 20 (U .u8 0)) e):=⟨_,pL⟩;have ad:KN n h H:=av.trans xL Z;have gC:Gro H P (p+1) 164 1 (Y a8 (O C) (O C)) (O C) (u64s C):=a2.ext xL zs;obtain⟨b8,Z0,bx,aw,ay,a4⟩:=gC.inv b5;injection Z0 with Z0
  subst Z0;have gT:GroT H (p+1) (Y a (O T) (O T)) T:=g.ext ad Z;have br:TxI n (Y a (O T) (O T)) H (p+1) (3*p+2) eB H (p+1) [] a T:=⟨Dh,gT,.inl rfl,fun b I=>oU I Ds,fun _ _ _ _=>rfl,Dp 20 (U .u8 0),pL,DV⟩;have ar:∀b,Mz (Y a (O T) (O T)) b→gro b=true∧b<3*n:=fun b⟨o,l,c,e⟩=>g.blk e;refine zK (α:=Nat×Option Addr×List Nat) (fun z=>[(0,Y z.2.1 (O z.2.2) (O z.2.2)),(2,U .i64 0),(8,Y (some ⟨b8,0,none⟩) (O C) (O C)),(11,Dn (some ⟨3*p+2,0,none⟩)),(12,Dk (decide (z.1=O C))),(13,U .i64 ((z.1:Int)-1))])
   (fun z h' n' w=>TxI n (Y a (O T) (O T)) H (p+1) (3*p+2) eB h' n' w z.2.1 z.2.2∧z.1≤O C∧z.2.2=T++js C z.1∧O z.2.2≤O T+19*(O C-z.1)) (fun z=>z.1)
   (O C,a,T) ⟨rfl,rfl,rfl,rfl,by show Dk true=Dk (decide (O C=O C));rw[kA rfl],rfl,Df⟩ ⟨br,Dh,by show T=T++js C (O C);unfold js;rw[De rfl,DZ],Nat.le_add_right _ _⟩ (by show O C<LL;unfold LL;omega) ?_
  rintro⟨m,a1,u⟩ t F n3 w3 ⟨Z4,hm,a0,ah⟩;dsimp only at Z4 hm a0 ah;have c8:=Z4.hn;refine zN ?_;cases m with
  |zero=>
   have hf:decide (0=O C)=false:=aA Z;rw[hf];refine Zy ?_;refine zN ?_;rw[za rfl];refine Zd ?_;refine Zn ?_;have:=Z4.as ad Z Z;rw[show T++decN (wv L)=u by rw[a0,b9];unfold js;rw[CT Z,EE]];exact retH [Y a1 _ _] R3 this
  |succ m=>
   obtain⟨c,hc⟩:∃c,C[m]?=some c:=⟨C[m]'Z,Dm Z⟩;have a6:c<CB:=hC c (Dq hc);have az:c<18446744073709551616:=ID a6 zd;have bv:=Xo a6;have b6:1≤O (decN c):=by
    have:=cv c;cases hh:decN c with
    |nil=>exact oU hh this
    |cons _ _=>simp
   have bj:F b8=some (.row (u64s C) 164):=(Z4.fr b8 aw (fun e=>by rw[e,yv]at a4;cases a4) (fun hv=>by have:=(ar _ hv).2;omega)).trans ay;have bb:=Xq bj hc;have b7:GK.G F:=G_fr (uB hG ad hn) fun b I hg=>Z4.fr b Z Z fun hv=>by have:=(ar _ hv).1;rw[hg]at this;cases this
   obtain⟨cb,be,a9⟩:=Z4.buf;refine Zq ?_;refine zn [0,0,0,6,14,31,63] rfl<|Xu (j:=0) R9 (yv p) Z<|zE ?_;refine zE ?_;refine Qt rfl rfl rfl rfl rfl rfl (aq:=some ⟨b8,0,none⟩) rfl (j:=m) aD rfl Z ?_;refine zS (v:=U .u64 (c:Int)) R6 (bb.ld1 0 rfl rfl) R2<|yy _ R7 (fN k b7 Z Z be ⟨a9.symm,Z⟩ Z az) ?_;rintro v4 h4 n4 W4⟨rfl,ao,ba,bh,c4,ap,bg,bf⟩;refine⟨sJ rfl,ao,?_⟩;rw[zZ fun b I=>by rw[ba b I];show 3*n≤_;omega];refine zE ?_;refine zN ?_;have bs:=Z4.bufs (c:=[]) ao Z (yv _) bh ap (by rw[bg,a9]);obtain⟨S,hS⟩:∃S,S=if m+1=O C then(decN c).length else 19:=⟨_,rfl⟩
   have c0:O (decN c)≤S∧S≤19:=by rw[hS];split<;>omega
   refine Zw ?_;refine zN ?_;refine oQ [(0,Y a1 (O u) (O u)),(2,U .i64 0),(8,Y (some ⟨b8,0,none⟩) (O C) (O C)),(11,Dn (some ⟨3*p+2,0,none⟩)),(12,Dk (decide (m+1=O C))),(13,U .i64 (((m+1:Nat):Int)-1)),(14,Y (some ⟨3*p+2,0,none⟩) (O (decN c)) 20),(15,U .i64 (S:Int))] (fun h' n' w'=>h4=h'∧n4=n'∧w3=w') ?_ ?_
   .by_cases hf:m+1=O C
    .rw[zc (by show Dk (decide (m+1=O C))=_;rw[kA hf])];refine Zd ?_;refine ZE ?_;refine st_mul (a:=19) (b:=((m+1:Nat):Int)-1) rfl rfl rfl rfl rfl rfl Z ?_;refine rZ (a:=0) (b:=19*(((m+1:Nat):Int)-1)) R6 Z<|st_I (ik:=.i64) (a:=(S:Int)) ⟨rfl,rfl,rfl,rfl,?_⟩ ?_
     .show some (U .i64 (if((O (decN c):Nat):Int)<0-19*(((m+1:Nat):Int)-1)then 0-19*(((m+1:Nat):Int)-1)else((O (decN c):Nat):Int)))=_;rw[CT Z,hS,De hf]
     refine Zn ?_;exact vG V8 R3
    rw[za (by show Dk (decide (m+1=O C))=_;rw[aA hf])];refine zN ?_;exact vG ⟨rfl,rfl,rfl,rfl,rfl,rfl,rfl,by show U .i64 19=U .i64 (S:Int);rw[hS,CT hf];rfl,Df⟩ R3
   rintro t _ _ _⟨rfl,rfl,rfl⟩;refine Zd ?_;refine Zi ?_;refine rZ (a:=(S:Int)) (b:=((O (decN c):Nat):Int)) R6 Z ?_;obtain⟨N,hN⟩:∃N,N=S-O (decN c):=⟨_,rfl⟩;rw[show(S:Int)-((O (decN c):Nat):Int)=(N:Int)by omega];refine Zn ?_;refine zK (α:=Nat×Option Addr×List Nat) (fun z=>[(0,Y z.2.1 (O z.2.2) (O z.2.2)),(2,U .i64 0),(8,Y (some ⟨b8,0,none⟩) (O C) (O C)),(11,Dn (some ⟨3*p+2,0,none⟩)),(12,Dk (decide (m+1=O C))),(13,U .i64 (((m+1:Nat):Int)-1)),(14,Y (some ⟨3*p+2,0,none⟩) (O (decN c)) 20),(70,U .i64 (N:Int)),(71,U .i64 (z.1:Int))])
    (fun z h' n' w=>TxI n (Y a (O T) (O T)) H (p+1) (3*p+2) eB h' n' w z.2.1 z.2.2∧h' (3*p+2)=h4 (3*p+2)∧z.1≤N∧z.2.2=u++Dp z.1 48) (fun z=>N-z.1)
    (0,a1,u) V9 ⟨bs,rfl,Di,by show u=u++[];rw[DZ]⟩ Bq ?_
   rintro⟨s,a5,M⟩ t h5 n5 w5 ⟨Z3,ai,aa,Z1⟩;dsimp only at Z3 aa Z1;have c5:O M=O u+s:=by rw[Z1,Do,DV]
   have c9:=Z3.hn;refine zN ?_;by_cases hlt:s<N
   .refine ZD ?_;refine qH [U .u8 48] (l:=1) (c:=1) R5 ?_;intro h6 p6 x6;refine QD (m:=1) (new:=[48]) R9 zb rfl (yG p6 R2) Dh rfl Z (Z3.ext x6 zs Z) Z (yv _) (by show n≤p+1;omega) ?_;intro a7 h7 w7 ae aj;refine Zn ?_;refine zR ?_;refine Zn ?_;exact goOn (s+1,a7,M++[48]) (by show N-(s+1)<N-s;omega) V9 ⟨ae,aj.trans ((x6 _ Z).trans ai),by show s+1≤N;omega,by show M++[48]=u++Dp (s+1) 48;rw[Z1,DN,←GP]⟩
   have bd:s=N:=Z;refine Ze ?_;refine Zp ?_;refine QD (m:=O (decN c)) (new:=decN c) R9 zb rfl (uj (ai.trans ap) (by rw[EE];exact bf) Z Z) b6 rfl Z Z3 Z (yv _) (by show n≤p+1;omega) ?_;intro a7 h7 w7 ae aj;refine Zw ?_;refine Zd ?_;refine rZ (a:=((m+1:Nat):Int)-1) (b:=1) R6 Z<|Zn ?_;refine goOn (m,a7,M++decN c) (by show m<m+1;omega) ⟨rfl,rfl,rfl,rfl,by show Dk false=Dk (decide (m=O C));rw[aA Z],aD,Df⟩ ⟨ae,by show m≤O C;omega,?_,?_⟩
   .show M++decN c=T++js C m;rw[Xt ag b0 hc a6,Z1,a0,bd,hN,hS];simp only[DN]
   show(M++decN c).length≤O T+19*(O C-m);rw[Do];omega
 have c1:O W≠0:=fun e=>hW0 (DA.1 e);have b3:wv W≠0:=fun e=>hW0 (nW.zero.1 e);have bu:=Xp nL.1 hl hV b3;refine ZD ?_;refine Zc ?_;refine zK (α:=Nat×List Nat×Nat) (fun x=>[(0,Y a (O T) (O T)),(2,U .i64 0),(7,Y (some ⟨A,0,none⟩) (O W) (O L)),(8,Y a8 (O C) (O C)),(9,U .u64 (x.2.2:Int)),(10,U .i64 ((x.1:Int)-1))])
  (fun x h' n' w=>w=[]∧p=n'∧Only A h2 h'∧h' A=some (.row (u64s (W.take x.1++(x.2.1++R))) 164)∧x.1+O x.2.1=O W∧KQ x.2.1∧x.2.2<CB∧wv (W.drop x.1)=CB*wv x.2.1+x.2.2) (fun x=>x.1)
  (O W,[],0) V6 ⟨rfl,rfl,fun _ _=>rfl,by rw[DO,El];exact ac,rfl,IB,by show 0<CB;decide,by rw[Fo];rfl⟩ (by show O W<LL;unfold LL;omega) ?_
 rintro⟨j,q,r⟩ t F _ _ ⟨rfl,rfl,ab,D,am,hq,hr,J⟩;dsimp only at D am hq hr J;have bq:KN n h F:=av.st ab Z;refine zN ?_;cases j with
 |succ j=>
  obtain⟨x,hx⟩:∃x,W[j]?=some x:=⟨W[j]'Z,Dm Z⟩;have au:=nW.1.get hx;have bm:Sl F p 1 (Y (some ⟨A,0,none⟩) (O W) (O L)) (u64s (W.take (j+1)++q)):=.at_ Z D rfl Z AP (by
   rw[EE,Ek,qJ,←DN,Fk eN,DK eN])
  have b2:(W.take (j+1)++q)[j]?=some x:=by rw[En eN,Eu Z,hx]
  refine Zr ?_;refine ya (f:=fun d:Nat=>U .u64 (d:Int)) (j:=j) R7 bm ⟨rfl,Z⟩ b2 (fun _=>rfl) R4 fun _=>?_;refine ye _ R5 (nG (k+1) F p (y:=CB) hr au zd) ?_;rintro _ rfl;repeat refine zR ?_
  refine xG (j:=j) (v:=U .u64 (((r*18446744073709551616+x)/CB:Nat):Int)) R8 Z ⟨Z,AP⟩ D (by show 3*n≤A;omega) (fun _=>rfl) R3 (fun _=>rfl) rfl fun _=>?_;rw[yA,List.set_append_left _ _ eN,JC,hx,Option.toList_some,List.set_append_right _ _ q0,DW,Ev Z,Ee,G3,DN,List.singleton_append];refine Zl ?_;obtain⟨g1,g2⟩:=nQ (V:=wv (W.drop (j+1))) (Vq:=wv q) (r:=r) (a:=x) (d:=CB) zd J;refine goOn (j,(r*18446744073709551616+x)/CB::q,(r*18446744073709551616+x)%CB) AZ ⟨rfl,rfl,rfl,rfl,rfl,aD,Df⟩ ⟨rfl,rfl,fun b I=>(zg I).trans (ab b I),(ze _ _ _).trans (by rw[Gp]),by show j+O (_::q)=_;simp;omega,?_,EA _ zd,?_⟩
  .intro y hy;rcases DR.1 hy with rfl|hy
   .exact PN hr au
   exact hq y hy
  show wv (W.drop j)=CB*wv (_::q)+_;rw[fZ hx,←g2];have:=EP (x+18446744073709551616*wv (W.drop (j+1))) CB;rw[g1]at this;exact this.symm
 |zero=>
  rw[Fe,El]at D;rw[EE]at J;have ca:O q=O W:=Z;refine Zy ?_;have bn:Sl F p 1 (Y (some ⟨A,0,none⟩) (O W) (O L)) (u64s q):=.at_ Z D rfl Z AP (by
   rw[EE,Ek,qJ,Fk Z,DK Z])
  refine zk _ R5 (xR (k+3) (l:=q) Z (fun _ e=>by injection e with e;rw[←e]) bn) ?_;rintro _ F p _⟨rfl,rfl,rfl,rfl,bz⟩;refine zM ?_;refine Zp ?_;refine qH [U .u64 (r:Int)] (l:=1) (c:=1) R5 ?_;intro h4 p4 x4;have b1:Gro h4 P (p+1) 164 1 (Y a8 (O C) (O C)) (O C) (u64s C):=(a2.same fun b I _ _=>ab b Z).ext x4 zs;refine kG (lo:=P) (m:=1) R8 ⟨D5 rfl,D5 rfl⟩ b1 (yG p4 R2) Dh Z rfl rfl ⟨by show n≤_;omega,Z⟩ ?_;intro v5 h5 g5 x5 k5;obtain⟨a5,rfl,_⟩:=g5.shape;have bi:h5 A=_:=(x5 A bc).trans ((x4 A Z).trans D);refine Zn ?_;have bo:=Xv (C:=C) (r:=r) hV J;refine goOn (z0 q,q.drop (O (z0 q))++R,C++[r],a5) (by show 32-O (C++[r])<32-O C;rw[Do];show 32-(O C+1)<_;omega) ⟨rfl,rfl,rfl,by show Y a5 _ _=Y a5 _ _;rw[Do];rfl,Df⟩ ⟨rfl,by show P≤p+1+1;omega,?_,?_,?_,NW.trim hq,?_,?_,?_,?_,?_⟩
  .exact fun b I=>(x5 b Z).trans ((x4 b Z).trans (bq b I))
  .refine bi.trans ?_;show some (BF.row (u64s (q++R)) _)=some (BF.row (u64s (z0 q++(q.drop (O (z0 q))++R))) _);rw[←DN]
   conv=>rhs;rw[←ru q,DW,Ev (yV q),Ep]
  .show(z0 q).length+(q.drop (O (z0 q))++R).length=O L;have:=yV q;exact gN
  .show Gro h5 P (p+1+1) _ 1 (Y a5 (O (C++[r])) (O (C++[r]))) (O (C++[r])) (u64s (C++[r]));rw[uq,Do];exact g5
  .intro c hc;rcases Ec.1 hc with h|h
   .exact hC c h
   rw[Dx.1 h];exact hr
  .show wv L=dv CB (C++[r])+CB^O (C++[r])*wv (z0 q);rw[show wv (z0 q)=wv q from ni _ _,Do];exact bo
  .intro e;dsimp only at e;rw[show wv (z0 q)=wv q from ni _ _]at e;rw[e,Fp,D7]at J;exact⟨C,r,rfl,Z⟩
  show(C++[r]).length≤31;rw[Do];show (O C)+1≤31;omega
end
section
variable {h h':HF}{c n n':Nat}{T:List Nat}
theorem cU(k:Nat)(p:GK.G h)(u:20≤n)(g:GroT h n (Y a (O T) (O T)) T)(q:O T<100000000){j:Option Addr}{o:Nat}(e:Sl h n 1 (Y ax lx cx) (u64s L))(y:NW L)(s:O L≤30)(h0:L≠[]):
  CF (KO (k+6)) 199 [Y a (O T) (O T),Y ax lx cx,U .i64 0,Y j 1 o] h n fun v h' n' w=>AS h n (Y a (O T) (O T)) h' n' w v (T++decN (wv L)):=by
 refine zl (fn:=Tryz.f199) R4 ?_;have d:=e.lenW;subst d;refine Zd ?_;refine Zc ?_;refine ZD ?_;refine Zi ?_;refine zk _ R5 (fO k p u g q e y s h0) ?_;intro v A B C b;obtain⟨f,rfl⟩:=b.g.shape;have i:=(AS.refl g).trans b;refine Zn ?_;exact retH [Y f _ _] R3 i
theorem ka(k:Nat)(C:GK.G h)(D:20≤n)(g:GroT h n (Y a (O T) (O T)) T)(J:O T<100000000)(s:Sl h n 1 (Y ax lx cx) (u64s L))(F:NW L)(K:O L≤30):
  CF (KO (k+7)) 160 [Y a (O T) (O T),Y ax lx cx] h n fun v h' n' w=>AS h n (Y a (O T) (O T)) h' n' w v (T++decN (wv L)):=by
 refine zl (fn:=Tryz.f160) R4 ?_;have A:=s.lenW;subst A;refine Zd ?_;refine zN ?_;by_cases h0:L=[]
 .subst h0;refine ZD ?_;refine qH [U .u8 48] (l:=1) (c:=1) R5 ?_;intro p H y;refine mn (m:=1) (new:=[48]) R9 zb rfl (yG H R2) Dh rfl Z ((AS.refl g).ext y zs) ?_;intro S h' Z4 b _;obtain⟨o,rfl⟩:=b.g.shape;refine Zn ?_;exact retH [Y o _ _] R3 b
 have I:O L≠0:=fun e=>h0 (DA.1 e);refine Zk ?_;by_cases p:O L=1
 .obtain⟨w,rfl⟩:=List.length_eq_one_iff.1 p;have u:w<18446744073709551616:=F.1 w cA;refine ZC ?_;refine ya (f:=fun d:Nat=>U .u64 (d:Int)) (j:=0) (dv:=w) R7 s R2 rfl (fun _=>rfl) R4 fun _=>?_;refine zk _ R5 (cN (k+2) C D u g Z) ?_;intro v p Z1 V b;obtain⟨o,rfl⟩:=b.g.shape;have q:=(AS.refl g).trans b;refine Zn ?_;rw[pV];exact retH [Y o _ _] R3 q
 refine Zk ?_;refine qH [U .u64 10000000000000000000] (l:=1) (c:=1) R5 ?_;intro p H y;refine qH [Y (some ⟨3*n+2,0,none⟩) 1 1] (l:=1) (c:=1) R5 ?_;intro B R M;refine Zn ?_;have i:KN n h B:=y.trans M Z;refine zK (α:=Nat) (fun _=>[(0,Y a (O T) (O T)),(1,Y ax (O L) cx),(5,Y (some ⟨3*(n+1)+2,0,none⟩) 1 1)]) (fun _ h' n' w=>B=h'∧n+1+1=n'∧w=[]) (fun z=>z) 0 V3 R3 (by show 0<LL;unfold LL;omega) ?_;rintro _ t _ _ _⟨rfl,rfl,rfl⟩;refine Zc ?_;rw[za rfl];refine Zd ?_;refine Zi ?_;refine zk _ R5 (cU k (uB C i D) (n:=n+1+1) Z (g.ext i Z) J (s.ext i Z) F K h0) ?_;intro v N P W b;obtain⟨o,rfl⟩:=b.g.shape;have q:=((AS.refl g).ext i Z).trans b;refine Zn ?_;exact retH [Y o _ _] R3 q
def intN(x:Int):List Nat:=(if x<0 then[45]else[])++decN x.natAbs
theorem Og(x:Int):(intN x).map EV=intT x:=by
 unfold intN intT;rw[EN,←lz];congr 1;split<;>rfl
theorem IW.few{b:Bool}{x:Int}(i:IW h n b a l c x)(j:x.natAbs<2^m)(g:m≤1920):∃L,Sl h n 1 (Y a l c) (u64s L)∧NW L∧O L≤30∧wv L=x.natAbs:=by
 obtain⟨_,L,f,d,e⟩:=i;refine⟨L,f,d,d.len_le (k:=30) ?_,e⟩;rw[e];refine DY j (Ed (DJ zd g) ?_);decide+kernel
theorem Xw{o:Nat}(j:m≠0)(i:O L=m)(h:((KY T).drop o).take m=u64s L):False:=by
 obtain⟨d,b,rfl⟩:∃d b,L=d::b:=by
  cases L with
  |nil=>exact oU i.symm j
  |cons d b=>exact⟨d,b,rfl⟩
 have f:U .u64 (d:Int)∈((KY T).drop o).take m:=by rw[h];exact C1
 have g:=FB (EB f);obtain⟨q,_,e⟩:=EX.1 g;cases e
theorem Sl.kept{u:Value}(s:Sl h n 1 v (u64s L))(k:Keep u n h h')(g:GroT h n u T)(f:n≤n'):Sl h' n' 1 v (u64s L):=by
 generalize hL:u64s L=cl at s;cases s with
 |nil ha=>exact .nil (uK ha f)
 | @at_ b off len cap x cs c2 hb hx hc hcap hl he=>
  by_cases h0:len=0
  .subst h0;have:cl=[]:=by rw[←he];simp
   exact C7
  refine .at_ Z ((k b hb fun o l c e=>?_).trans hx) hc hcap hl he;unfold GroT at g;generalize (O T)=tl at g;generalize hT:KY T=tc at g;cases g with
  |nil=>cases e
  |at_ hg hlo hb2 hr hl2 ho=>
   cases e;rw[hr]at hx;cases hx;injection hc with hc
   subst hc;have d:O L=len*1:=by
    have:=congrArg O he;rw[←hL,zQ,DW,Ea]at this;omega
   rw[←hT,←hL]at he;exact Xw Z d he
theorem lW(k:Nat)(H:GK.G h)(K:20≤n)(g:GroT h n (Y a (O T) (O T)) T)(hT:O T<10000000){b:Bool}{x:Int}(i:IW h n b ax lx cx x)(W:x.natAbs<2^m)(V:m≤1920):
  CF (KO (k+8)) 134 [.agg #[Dk b,Y ax lx cx],Y a (O T) (O T)] h n fun v h' n' w=>AS h n (Y a (O T) (O T)) h' n' w v (T++intN x):=by
 refine zl (fn:=Tryz.f134) R4<|zN ?_;refine rY [Dk b,Y ax lx cx] R5 ?_;intro h1 y e;have Z3:=i.ext e zs;obtain⟨L,M,Z1,J,o⟩:=Z3.few W V;have q:=(AS.refl g).ext e zs;refine Zw ?_;refine zO (v:=Dk b) R5 (zL rfl y R2)<|zN ?_;cases b
 .have p:=i.ge;rw[za rfl];refine Zp ?_;refine zO (v:=Y ax lx cx) R5 (zL rfl y R2)<|zk _ R5 (ka k (uB H e K) (n:=n+1) Z q.g Z M Z1 J) ?_;intro v j n3 w3 d;obtain⟨A,rfl⟩:=d.g.shape;have B:=q.trans d;rw[o]at B;refine Zn ?_;rw[show intN x=decN x.natAbs by unfold intN;rw[CT Z];rfl];exact retH [Y A _ _] R3 (by rw[o];exact B)
 have p:=i.lt;rw[zc rfl];refine Zd ?_;refine qH [U .u8 45] (l:=1) (c:=1) R5 ?_;intro F Z0 f;have P:F (3*n+2)=_:=(f _ Z).trans y;refine mn (m:=1) (new:=[45]) R9 zb rfl (yG Z0 R2) Dh rfl Z (q.ext f zs) ?_;intro v' j w3 d u;obtain⟨A,rfl⟩:=d.g.shape;have s:GroT F (n+1+1) (Y a (O T) (O T)) T:=(g.ext e zs).ext f zs;have R:j (3*n+2)=_:=(s.keepB u (yv n) Z).trans P;have I:GK.G j:=G_fr (uB H (e.trans f zs) K) fun b hb Z4=>s.keepB u Z4 Z;have N:Sl j (n+1+1+1) 1 (Y ax lx cx) (u64s L):=(M.ext f zs).kept u s zs;refine zM ?_;refine Zp ?_;refine zO (v:=Y ax lx cx) R5 (zL rfl R R2)<|zk _ R5 (ka k I (n:=n+1+1+1) Z d.g (by rw[Do];simp;omega) N Z1 J) ?_;intro v h4 n4 w4 C;obtain⟨S,rfl⟩:=C.g.shape;have D:=d.trans C;rw[o]at D;refine Zn ?_;rw[show T++intN x=T++[45]++decN x.natAbs by unfold intN;rw[De p,DN]];exact retH [Y S _ _] R3 (by rw[o];exact D)
end
section
variable {h h0:HF}{c n:Nat}{T:List Nat}
theorem GroT.text(g:GroT h n (Y a (O T) (O T)) T):argS h 1 (Y a (O T) (O T)) (O T) (KY T):=uW (Gro.sl g)
theorem GroT.nil(h:HF)(n:Nat):GroT h n (Y none (O ([]:List Nat)) (O ([]:List Nat))) []:=Gro.nil
theorem Xx:∀(m V:Nat),V<2^m→O (decD V)≤m:=by
 intro m;induction m with
 |zero=>(intro V h;have:V=0:=by simpa using h);subst this;simp[decD]
 |succ m ih=>
  intro V h;by_cases h0:V=0
  .subst h0;simp[decD]
  rw[decD];simp only[h0,if_false,↓reduceDIte,↓reduceIte,D3,Do,Dy,GB];have:=ih (V/10) (by rw[DI]at h;omega);omega
theorem Xy{x:Int}(h:x.natAbs<2^m):O (intN x)≤m+2:=by
 have b:O (decN x.natAbs)≤m+1:=by
  unfold decN;split
  .simp
  have:=Xx m _ h;simp only[decB,DC,List.length_reverse];omega
 unfold intN;rw[Do];split<;>simp<;>omega
theorem AS.w_nil(a:AS h0 n0 (Y none l c) h n w v T):w=[]:=by
 cases w with
 |nil=>rfl
 |cons b w=>
  obtain⟨o,l,c,e⟩:=a.hw b Fj;cases e
theorem Xz(k:Nat)(o:GK.G h)(s:20≤n){b:Bool}{x:Int}(i:IW h n b ax lx cx x)(u:x.natAbs<2^m)(p:m≤1920):
  VF (KO (k+9)) 133 [.agg #[Dk b,Y ax lx cx]] h n fun v=>v=Dl ⟨⟨intT x⟩⟩:=by
 refine zB (fn:=Tryz.f133) R4<|zN ?_;refine rY [Dk b,Y ax lx cx] R5 ?_;intro j A f;have y:=i.ext f zs;refine Zn ?_;refine zO (v:=.agg #[Dk b,Y ax lx cx]) R5 (zF R2 A rfl zb rfl)<|zk _ R5 (lW k (uB o f s) (n:=n+1) Z (GroT.nil j (n+1)) (by show 0<10000000;omega) y u p) ?_;intro v D F H d;obtain⟨C,rfl⟩:=d.g.shape;have e:=d.w_nil;subst e;refine pn R5 (rx (B:=[]++intN x) R3 d.g.text)<|Zn ?_;refine retF _ rfl (zj rfl) R2 ?_;show Dl _=_;rw[El,Og]
theorem iU{w:Nat}(b:w≤9223372036854775808)(h0:0<w):D8 .i64 ((18446744073709551616-w:Nat):Int)= -(w:Int):=by
 simp only[D8,IntKind.signed,Ft];simp;omega
theorem XA(k:Nat){b:Bool}{x:Int}(i:IW h n b ax lx cx x):
  VF (KO (k+1)) 131 [.agg #[Dk b,Y ax lx cx]] h n fun v=>∃y ok,v=.tuple #[U .i64 y,Dk ok]∧(ok=true→y=x∧ -9223372036854775808≤x∧x<9223372036854775808):=by
 refine zB (fn:=Tryz.f131) R4 ?_;obtain⟨B,L,D,I,G⟩:=i;have C:=D.lenW;subst C;refine zN ?_;refine rY [Dk b,Y ax (O L) cx] R5 ?_;intro u p J;have F:=D.ext J zs;refine Zi ?_;refine Zd ?_;refine zO (v:=Y ax (O L) cx) R5 (zL rfl p R2) ?_;by_cases h0:L=[]
 .subst h0;have s:x=0:=by
   have:x.natAbs=0:=G.symm.trans rfl;omega
  refine Zo ?_;exact retF [U .i64 0,Dk true] rfl (xH rfl (xH rfl oi)) R2 ⟨_,_,rfl,fun _=>⟨s.symm,Z,Z⟩⟩
 have K:O L≠0:=fun e=>h0 (DA.1 e);obtain⟨w,o,rfl⟩:∃w o,L=w::o:=by
  cases L with
  |nil=>exact oU rfl h0
  |cons w o=>exact⟨w,o,rfl⟩
 have A:w<18446744073709551616:=I.1 w cA;refine Zy ?_;refine zO (v:=Y ax (O (w::o)) cx) R5 (zL rfl p R2) ?_;refine ya (f:=fun d:Nat=>U .u64 (d:Int)) (j:=0) (dv:=w) R7 F R2 rfl (fun _=>rfl) R4 fun _=>?_;refine Zw ?_;refine zO (v:=Y ax (O (w::o)) cx) R5 (zL rfl p R2) ?_;by_cases u:o=[]
 .subst u;rw[pV]at G;have H:w≠0:=I.last (l:=[]);refine zM ?_;refine kD R6 (by show ¬(((1:Nat):Int)>1);omega) ?_;refine Zn ?_;rw[za rfl];refine Zd ?_;refine zO (v:=Dk b) R5 (zL rfl p R2) ?_;cases b
  .have s:0≤x:=Kt.1 (of_decide_eq_false B.symm);refine Zy ?_;refine zO (v:=Dk false) R5 (zL rfl p R2) ?_;by_cases hlt:w≤9223372036854775807
   .refine ZE ?_;refine oa R6 Z<|Zi ?_;refine zN ?_;rw[zc rfl];refine Zd ?_;refine vj (a:=(w:Int)) R7 Z<|Zi ?_;refine zN ?_;exact retF [U .i64 (w:Int),Dk true] rfl (xH rfl (xH rfl oi)) R2 ⟨_,_,rfl,fun _=>⟨Z,Z,Z⟩⟩
   refine ZE ?_;refine mh R6 Z<|Zi ?_;refine zN ?_;rw[za rfl];refine Zd ?_;exact Cc
  have s:x<0:=of_decide_eq_true B.symm;by_cases hlt:w≤9223372036854775808
  .refine Zi ?_;refine oa R6 Z<|Zi ?_;refine zN ?_;rw[zc rfl];refine Zd ?_;refine zA (v:=U .u64 ((18446744073709551616-w:Nat):Int)) ⟨rfl,rfl,rfl,rfl,(Px A H)⟩ ?_;refine vk (ik:=.i64) (a:= -(w:Int)) R6 (by show some (U .i64 (D8 .i64 _))=_;rw[iU hlt Z]) ?_;refine Zi ?_;refine zN ?_;exact retF [U .i64 (-(w:Int)),Dk true] rfl (xH rfl (xH rfl oi)) R2 ⟨_,_,rfl,fun _=>⟨Z,Z,Z⟩⟩
  refine Zi ?_;refine mh R6 Z<|Zi ?_;refine zN ?_;rw[za rfl];refine Zd ?_;refine zO (v:=Dk true) R5 (zL rfl p R2)<|Zy ?_;exact Cc
 have M:2≤O (w::o):=by
  cases o with
  |nil=>exact oU rfl u
  |cons _ _=>simp
 refine zM ?_;refine mj R6 Z<|Zn ?_;rw[zc rfl];refine Zd ?_;exact Cc
theorem pt(h:denZ q=0):ratT q=intT q.num:=by
 unfold ratT intT;rw[De (yN.1 h),DZ]
theorem gq(h:¬denZ q=0):ratT q=(intN q.num++[47]++intN (denZ q)).map EV:=by
 rw[EN,EN,Og,Og,wV h];unfold ratT intT;rw[CT (mt yN.2 h),CT (show ¬((q.den:Nat):Int)<0 by omega)];simp only[DN,DQ];rfl
theorem sE(k:Nat)(hG:GK.G h)(hn:20≤n){b d:Bool}{e:Option Addr}{f:Nat}(i:IW h n b a l c q.num)(j:IW h n d e f g (denZ q))(J:Sz m q)(R:m≤1920):
  VF (KO (k+10)) 89 [.agg #[Dk b,Y a l c,Dk d,Y e f g]] h n fun v=>v=Dl ⟨⟨ratT q⟩⟩:=by
 refine zB (fn:=Tryz.f89) R4<|zN ?_;refine rY [Dk b,Y a l c,Dk d,Y e f g] R5 ?_;intro Z1 D K;have S:=i.ext K zs;have j1:=j.ext K zs;have u:=uB hG K hn;refine Zw ?_;refine zO (v:=.agg #[Dk d,Y e f g]) R5 (zF R2 D rfl zb rfl)<|ye _ R5 (aU (k+8) j1) ?_;rintro _⟨z,rfl,s⟩;refine zN ?_;cases z
 .have s:¬denZ q=0:=fun e=>by cases s.2 e
  rw[za rfl];refine Zd ?_;refine zO (v:=.agg #[Dk b,Y a l c]) R5 (zF R2 D rfl zb rfl)<|zk _ R5 (lW (k+1) u (n:=n+1) Z (GroT.nil Z1 (n+1)) (by show 0<10000000;omega) S J.1 R) ?_;intro v h2 C w2 A;obtain⟨a',rfl⟩:=A.g.shape;have a1:=A.w_nil;subst a1;have V:KN (n+1) Z1 h2:=fun b p=>A.keep b p fun o l c e=>by cases e
  have ad:=A.hn;refine qH [U .u8 47] (l:=1) (c:=1) R5 ?_;intro I p3 L;have H:GroT I (C+1) _ _:=A.g.ext L zs;have ac:O (intN q.num)≤1922:=Ed (Xy J.1) Z;have hA:AS h (Lf (k+9) n 0).n0 (Y none 0 0) I (C+1) [] _ ([]++intN q.num):=⟨by show n≤C+1;omega,fun b p _=>(L b (by have p:b<3*n:=p;omega)).trans ((V b (by have p:b<3*n:=p;omega)).trans (K b p)),fun b p=>oU p Ds,H,by rcases A.or with h|h;exact .inl h;exact .inr (h.mono (DM n))⟩;refine mn (m:=1) (new:=[47]) R9 zb rfl (yG p3 R2) Dh rfl A8 hA ?_;intro v' P w4 F Z4;obtain⟨a5,rfl⟩:=F.g.shape;have a3:=F.w_nil;subst a3;have p4:P (3*n+2)=_:=(H.keepB Z4 (yv n) Z).trans ((L _ Z).trans ((V _ Z).trans D));have M:KN (n+1) Z1 I:=V.trans L Z;have W:GK.G I:=uB u M Z;have Z3:GK.G P:=G_fr W fun b p hg=>H.keepB Z4 hg Z;obtain⟨ej,Lj,Z0,ab,a0⟩:=j1.ext M (show n+1≤C+1 by omega);have j4:IW P (C+1+1) d e f g (denZ q):=⟨ej,Lj,Z0.kept Z4 H zs,ab,a0⟩;refine Zw ?_;refine zO (v:=.agg #[Dk d,Y e f g]) R5 (zF R2 p4 rfl zb rfl)<|zM ?_;refine zk _ R5 (lW (k+1) Z3 (n:=C+1+1) Z F.g BL j4 (by rw[wV s,DQ];exact J.2) R) ?_;intro v h5 n5 w5 N;obtain⟨a7,rfl⟩:=N.g.shape;have a8:addW (Lf (k+9) n 0).n0 w5 []=[]:=(F.trans N).w_nil;refine pn R5 (rx (B:=[]++intN q.num++[47]++intN (denZ q)) R3 N.g.text)<|Zn ?_;refine retF _ rfl (zj rfl) ⟨rfl,a8⟩ ?_;show Dl _=_;rw[El,gq s]
 have s:denZ q=0:=s.1 rfl;rw[zc rfl];refine Zd ?_;refine zO (v:=.agg #[Dk b,Y a l c]) R5 (zF R2 D rfl zb rfl)<|ye _ R5 (XA (k+8) S) ?_;rintro _⟨y,ok,rfl,hy⟩;refine Zi ?_;refine Zi ?_;refine Zw ?_;refine zN ?_;cases ok
 .rw[za rfl];refine Zd ?_;refine zO (v:=.agg #[Dk b,Y a l c]) R5 (zF R2 D rfl zb rfl)<|ye _ R5 (Xz k u (n:=n+1) Z S J.1 R) ?_;exact CN
 obtain⟨rfl,a9,aa⟩:=hy rfl;rw[zc rfl];refine Zd ?_;refine ye _ R5 (dX (k+4) u (n:=n+1) Z ⟨a9,aa⟩) ?_;exact CN
end
theorem kO{i j:Nat}(h:i≤j):10^i≤10^j:=DJ zd h
theorem fC(k:Nat)(h:HF)(n:Nat)(s:List UInt8)(f:AllD s)(q:O s≤9):VF (KO (k+1)) 146 [Dl ⟨⟨s⟩⟩] h n fun v=>v=U .i64 ((dval s:Nat):Int):=by
 refine zB (fn:=Tryz.f146) R4<|Zx ?_;refine zM ?_;refine st_I (ik:=.i64) (a:=(O s:Int)) R5<|Zb ?_;refine zK (α:=Nat) (fun m=>[(0,Dl ⟨⟨s⟩⟩),(3,U .i64 ((dval (s.take m):Nat):Int)),(6,U .i64 (O s:Int)),(7,U .i64 (m:Int))]) (fun m g o w=>h=g∧n=o∧w=[]∧m≤O s) (fun m=>O s-m) 0 V4 ⟨rfl,rfl,rfl,Di⟩ (by show O s-0<LL;unfold LL;omega) ?_;rintro m t _ _ _⟨rfl,rfl,rfl,u⟩;refine zN ?_;by_cases hml:m=O s
 .refine Zm ?_;exact retF _ rfl (zj rfl) R2 (by rw[hml,DO];rfl)
 obtain⟨b,d⟩:∃b,s[m]?=some b:=⟨s[m]'Z,Dm Z⟩;have p:=f b (Dq d);have e:dval (s.take m)<10^m:=by
  have:=vK (s:=s.take m) fun b d=>f b (EB d);exact B9
 have l:=kO (i:=m) (j:=8) Z;rw[show(10:Nat)^8=100000000 from rfl]at l;have c:dval (s.take (m+1))=10*dval (s.take m)+(b.toNat-48):=by rw[pk d,re]
 generalize dval (s.take m)=V at e c;refine Zo ?_;refine zM ?_;refine st_mul (a:=10) (b:=(V:Int)) rfl rfl rfl rfl rfl rfl Z ?_;refine Zi ?_;refine yC (j:=m) R8 d<|mg (a:=b.toNat) (b:=48) R6 Z<|vk (ik:=.i64) (a:=((b.toNat-48:Nat):Int)) R6 An ?_;refine td (a:=10*(V:Int)) (b:=((b.toNat-48:Nat):Int)) R6 Z<|Zl ?_;exact goOn (m+1) (by show O s-(m+1)<O s-m;omega) ⟨rfl,by show U .i64 _=U .i64 _;rw[c];congr 1,rfl,rfl,Df⟩ ⟨rfl,rfl,rfl,by show m+1≤_;omega⟩
theorem QE(k:Nat)(h:HF)(n:Nat)(a b:Nat)(f:b<9223372036854775808):VF (KO (k+1)) 122 [U .i64 (a:Int),U .i64 (b:Int)] h n fun v=>v=U .i64 ((DH a b:Nat):Int):=by
 refine zB (fn:=Tryz.f122) R4<|Zc ?_;refine zK (α:=Nat×Nat) (fun z=>[(0,U .i64 (z.1:Int)),(1,U .i64 (z.2:Int))]) (fun z e g w=>h=e∧n=g∧w=[]∧z.2<9223372036854775808∧DH z.1 z.2=DH a b) (fun z=>z.2) (a,b) V2 ⟨rfl,rfl,rfl,f,rfl⟩ (by show b<LL;unfold LL;omega) ?_;rintro⟨x,y⟩ t _ _ _ ⟨rfl,rfl,rfl,d,c⟩;simp only at d c;refine zN ?_;by_cases hy0:y=0
 .subst hy0;refine Zm ?_;exact retF _ rfl (zj rfl) R2 (by rw[←c,Nat.gcd_zero_right];rfl)
 refine Zq ?_;rw[yH rfl];refine ZE ?_;refine bO (a:=(x:Int)) (b:=(y:Int)) R6 Z ?_;rw[show(x:Int).tmod (y:Int)=((x%y:Nat):Int)from rfl];refine Zb ?_;exact goOn (y,x%y) (EA _ Z) V2 ⟨rfl,rfl,rfl,ID (EA _ Z) d,by show DH y (x%y)=_;rw[←c,FJ x y,Nat.gcd_rec y x,FJ]⟩
def XB(s:List UInt8)(v:Value):Prop:=∃(x y:Int) (ok:Bool),v=.tuple #[.agg #[U .i64 x,U .i64 y],Dk ok]∧(ok=true→∃q:Rat,ratT q=s∧x=q.num∧y=(q.den:Int)∧q.num.natAbs<1000000000∧q.den<1000000000)
def Oh(s:List UInt8):Prop:=O s≤20∧(K2 s).1.length≤9∧(K2 s).2.1.length≤9∧(K2 s).2.2=true∧((K2 s).2.1=[]∨DH (dval (K2 s).1) (dval (K2 s).2.1)=1)
def ShR2(s:List UInt8)(v:Value):Prop:=∃(x y:Int) (ok:Bool),v=.tuple #[.agg #[U .i64 x,U .i64 y],Dk ok]∧(ok=true→∃q:Rat,ratT q=s∧x=q.num∧y=(q.den:Int)∧q.num.natAbs<1000000000∧q.den<1000000000)∧(Oh s→ok=true)
theorem fk{s:List UInt8}(h:AllD s)(a:O s≤9):dval s<1000000000:=DY (vK h) (Ed (kO a) zd)
theorem jK(k:Nat)(h:HF)(n:Nat)(s:List UInt8)(T:O s<1000000):VX (KO (k+5)) 114 [Dl ⟨⟨s⟩⟩] h n (ShR2 s):=by
 refine zl (fn:=Tryz.f114) R4<|zN ?_;refine z6 R5<|Zb ?_;generalize hh:upd h (3*n+2) _=h1;have c:∃e,h1 (3*n+2)=some (.row [U .i64 0,U .i64 0] e):=⟨_,kS⟩;obtain⟨y,c⟩:=c;have j:KN n h h1:=fun b i=>by rw[←hh,zg Z]
 refine zM ?_;refine st_I (ik:=.i64) (a:=(O s:Int)) R5 ?_;by_cases hl20:20<O s
 .refine Zq ?_;refine zA (v:=.agg #[U .i64 0,U .i64 0]) R5<|zw [U .i64 0,U .i64 0] R7 rfl c rfl bR ?_;refine Zb ?_;exact xy (Dk false) R6 (ze _ _ _) rfl Z (fun b i=>(zg Z).trans (j b i)) ⟨_,_,false,rfl,(fun h=>by cases h),fun h=>by have:=h.1;omega⟩
 refine Zy ?_;refine zk _ R5 (jE k h1 (n+1) s T) ?_;rintro _ J d _⟨rfl,V,G,rfl⟩;replace c:=(G (3*n+2) Z).trans c;replace j:KN n h J:=fun b i=>(G b Z).trans (j b i);have l:(K2 s).2.2=true→Frm s (K2 s).1 (K2 s).2.1:=fun e=>qm (by rw[←e]);have m:Oh s→(K2 s).1.length≤9∧(K2 s).2.1.length≤9∧(K2 s).2.2=true∧((K2 s).2.1=[]∨DH (dval (K2 s).1) (dval (K2 s).2.1)=1):=fun h=>h.2;generalize (K2 s).1=M at l m⊢;generalize (K2 s).2.1=D at l m⊢;generalize (K2 s).2.2=ok at l m⊢;generalize hmi:zI s=mi;repeat refine zR ?_
 refine z6 R5<|zw [Dk mi,Dl ⟨⟨M⟩⟩,Dl ⟨⟨D⟩⟩] R7 rfl (ze _ _ _) rfl (by show 3*n≤3*d+2;omega) ?_;rw[yI];generalize hh:upd J (3*d+2) _=h2;replace c:h2 (3*n+2)=some (.row [U .i64 0,U .i64 0] y):=by rw[←hh,zg Z];exact c
 have f:∃e,h2 (3*d+2)=some (.row [Dk mi,Dl ⟨⟨M⟩⟩,Dl ⟨⟨D⟩⟩] e):=⟨_,kz⟩;obtain⟨L,f⟩:=f;replace j:KN n h h2:=fun b i=>by rw[←hh,zg Z,j b i]
 repeat refine zR ?_
 simp only[zX,yi,zm,yj];refine yp (α:=Bool) (fun z=>[(2,Dn (some ⟨3*n+2,0,none⟩)),(4,Dn (some ⟨3*d+2,0,none⟩)),(29,Dk z)]) (fun z u N w=>h2=u∧N=d+1∧w=[]∧(z=false→ok=true∧O M≤9∧O D≤9)∧(z=true→¬Oh s)) ?_ ?_
 .refine zN ?_;cases ok with
  |false=>
   refine Zb ?_;exact zC true V3 ⟨rfl,rfl,rfl,(fun h=>by cases h),(fun _ h=>by cases (m h).2.2.1)⟩
  |true=>
  repeat refine zR ?_
  refine zi R6 f (v:=Dl ⟨⟨M⟩⟩) R2 ?_;refine st_I (ik:=.i64) (a:=(O M:Int)) R5 ?_;by_cases C:9<O M
  .refine Zb ?_;exact zC true V3 ⟨rfl,rfl,rfl,(fun h=>by cases h),(fun _ h=>by have:=(m h).1;omega)⟩
  repeat refine zR ?_
  refine zi R6 f (v:=Dl ⟨⟨D⟩⟩) R2 ?_;refine st_I (ik:=.i64) (a:=(O D:Int)) R5 ?_;by_cases B:9<O D
  .refine Zb ?_;exact zC true V3 ⟨rfl,rfl,rfl,(fun h=>by cases h),(fun _ h=>by have:=(m h).2.1;omega)⟩
  refine Zb ?_;exact zC false V3 ⟨rfl,rfl,rfl,(fun _=>⟨by first|rfl|trivial,Z,Z⟩),fun h=>by cases h⟩
 rintro z t _ _ _⟨rfl,rfl,rfl,H,R⟩;cases z with
 |true=>
  rw[zc rfl];refine zN ?_;refine zA (v:=.agg #[U .i64 0,U .i64 0]) R5<|zw [U .i64 0,U .i64 0] R7 rfl c rfl bR ?_;refine Zb ?_;exact xy (Dk false) R6 (ze _ _ _) rfl Z (fun b i=>(zg Z).trans (j b i)) ⟨_,_,false,rfl,(fun h=>by cases h),fun h=>oU h (R rfl)⟩
 |false=>
 refine ZF ?_;obtain⟨rfl,C,B⟩:=H rfl;have F:=l rfl;have Z4:=fk F.dm C;have Z1:=fk F.dd B;repeat refine zR ?_
 refine zi R6 f (v:=Dl ⟨⟨M⟩⟩) R2 ?_;refine ye _ R5 (fC (k+3) h2 (d+1) M F.dm C) ?_;rintro _ rfl;refine zA (v:=.agg #[U .i64 ((dval M:Nat):Int),U .i64 1]) R5<|z6 R5<|zw [U .i64 ((dval M:Nat):Int),U .i64 1] R7 rfl (ze _ _ _) rfl Bu ?_;rw[yI];generalize hh:upd h2 (3*(d+1)+2) _=h3;replace c:h3 (3*n+2)=some (.row [U .i64 0,U .i64 0] y):=by rw[←hh,zg Z];exact c
 replace f:h3 (3*d+2)=some (.row [Dk mi,Dl ⟨⟨M⟩⟩,Dl ⟨⟨D⟩⟩] L):=by rw[←hh,zg Z];exact f
 have g:∃e,h3 (3*(d+1)+2)=some (.row [U .i64 ((dval M:Nat):Int),U .i64 1] e):=⟨_,kz⟩;obtain⟨A,g⟩:=g;replace j:KN n h h3:=fun b i=>by rw[←hh,zg Z,j b i]
 refine Zg ?_;refine zi R6 f (v:=Dl ⟨⟨D⟩⟩) R2 ?_;refine WA (!(D==[])) rfl rfl rfl rfl rfl rfl rfl ?_;simp only[zX,yi,zm,yj];refine yp (α:=Nat) (fun _=>[(2,Dn (some ⟨3*n+2,0,none⟩)),(4,Dn (some ⟨3*d+2,0,none⟩)),(6,Dn (some ⟨3*(d+1)+2,0,none⟩))]) (fun z u N w=>w=[]∧N=d+1+1∧KN n h u∧u (3*n+2)=some (.row [U .i64 0,U .i64 0] y)∧u (3*d+2)=some (.row [Dk mi,Dl ⟨⟨M⟩⟩,Dl ⟨⟨D⟩⟩] L)∧(∃e,u (3*(d+1)+2)=some (.row [U .i64 ((dval M:Nat):Int),U .i64 (z:Int)] e))∧z=(if D=[]then 1 else dval D)∧(D=[]∨DH (dval M) (dval D)=1)) ?_ ?_
 .by_cases hD:D=[]
  .rw[za (by show Dk _=_;rw[hD];rfl)];refine zN ?_;exact zC 1 V3 ⟨rfl,rfl,j,c,f,⟨A,g⟩,by rw[De hD],.inl hD⟩
  rw[zc (by show Dk _=_;rw[show(D==[])=false from by simpa using hD];rfl)];refine Zg ?_;refine zi R6 f (v:=Dl ⟨⟨D⟩⟩) R2 ?_;refine ye _ R5 (fC (k+3) h3 (d+1+1) D F.dd B) ?_;rintro _ rfl;repeat refine zR ?_
  refine yr (cs:=[U .i64 ((dval D:Nat):Int)]) R8 g zb Bu ?_;generalize hh:upd h3 (3*(d+1)+2) _=h4;replace c:h4 (3*n+2)=some (.row [U .i64 0,U .i64 0] y):=by rw[←hh,zg Z];exact c
  replace f:h4 (3*d+2)=some (.row [Dk mi,Dl ⟨⟨M⟩⟩,Dl ⟨⟨D⟩⟩] L):=by rw[←hh,zg Z];exact f
  replace g:h4 (3*(d+1)+2)=some (.row [U .i64 ((dval M:Nat):Int),U .i64 ((dval D:Nat):Int)] A):=by rw[←hh,ze];rfl
  replace j:KN n h h4:=fun b i=>by rw[←hh,zg Z,j b i]
  refine Zg ?_;refine zi R6 g (v:=U .i64 ((dval M:Nat):Int)) R2 ?_;repeat refine zR ?_
  refine zi R6 g (v:=U .i64 ((dval D:Nat):Int)) R2<|ye _ R5 (QE (k+3) h4 (d+1+1) (dval M) (dval D) Z) ?_;rintro _ rfl;by_cases I:DH (dval M) (dval D)=1
  .refine Zk ?_;exact zC (dval D) V3 ⟨rfl,rfl,j,c,f,⟨A,g⟩,by rw[CT hD],.inr I⟩
  refine Zq ?_;refine zA (v:=.agg #[U .i64 0,U .i64 0]) R5<|zw [U .i64 0,U .i64 0] R7 rfl c rfl bR ?_;refine Zb ?_;exact xy (Dk false) R6 (ze _ _ _) rfl Z (fun b i=>(zg Z).trans (j b i)) ⟨_,_,false,rfl,(fun h=>by cases h),fun h=>by
   rcases(m h).2.2.2 with h|h
   .exact(hD h).elim
   .exact(I h).elim⟩
 rintro z t S W _⟨rfl,rfl,j,c,f,⟨A,g⟩,H,I⟩;obtain⟨q,P,o,p⟩:=F.rat I;rw[←H]at p;rw[hmi]at o;have K:z<1000000000:=by
  rw[H];split
  .decide
  exact Z1
 refine Zg ?_;refine zi R6 f (v:=Dk mi) R2<|zN ?_;cases mi with
 |true=>
  rw[zc rfl];refine Zg ?_;refine zi R6 g (v:=U .i64 ((dval M:Nat):Int)) R2<|st_I (ik:=.i64) (a:= -((dval M:Nat):Int)) ⟨rfl,rfl,rfl,rfl,(by show some (U .i64 (D8 .i64 _))=_;rw[xI Z,Int.zero_sub])⟩ ?_;repeat refine zR ?_
  refine yr (cs:=[U .i64 (-((dval M:Nat):Int))]) R8 g zb Bu ?_;generalize hh:upd S (3*(d+1)+2) _=h6;replace c:h6 (3*n+2)=some (.row [U .i64 0,U .i64 0] y):=by rw[←hh,zg Z];exact c
  replace g:h6 (3*(d+1)+2)=some (.row [U .i64 (-((dval M:Nat):Int)),U .i64 (z:Int)] A):=by rw[←hh,ze];rfl
  replace j:KN n h h6:=fun b i=>by rw[←hh,zg Z,j b i]
  refine zN ?_;refine zO (v:=.agg #[U .i64 (-((dval M:Nat):Int)),U .i64 (z:Int)]) R5 (zF R2 g rfl zb rfl)<|zw [U .i64 (-((dval M:Nat):Int)),U .i64 (z:Int)] R7 rfl c rfl bR ?_;refine Zb ?_;refine xy (Dk true) R6 (ze _ _ _) rfl Z (fun b i=>(zg Z).trans (j b i)) ⟨_,_,true,rfl,(fun _=>⟨q,P,?_,by rw[p],?_,by rw[p];exact K⟩),fun _=>rfl⟩
  .rw[o];rfl
  rw[o];simp only[if_true];omega
 |false=>
  refine ZF ?_;refine zO (v:=.agg #[U .i64 ((dval M:Nat):Int),U .i64 (z:Int)]) R5 (zF R2 g rfl zb rfl)<|zw [U .i64 ((dval M:Nat):Int),U .i64 (z:Int)] R7 rfl c rfl bR ?_;refine Zb ?_;refine xy (Dk true) R6 (ze _ _ _) rfl Z (fun b i=>(zg Z).trans (j b i)) ⟨_,_,true,rfl,(fun _=>⟨q,P,?_,by rw[p],?_,by rw[p];exact K⟩),fun _=>rfl⟩
  .rw[o];rfl
  rw[o];simp only[FE,if_false];omega
theorem oj(k:Nat)(h:HF)(n:Nat)(s:List UInt8)(f:O s<1000000):VX (KO (k+5)) 114 [Dl ⟨⟨s⟩⟩] h n (XB s):=by
 refine yD (jK k h n s f) ?_;rintro v i j w⟨a,b,c,x,y,g,e,d,_⟩;exact⟨a,b,c,x,y,g,e,d⟩
section
variable {x:Operand}{D:Nat}{T:List Nat}
section
variable {h:HF}{n:Nat}{d:Tmp}
theorem QF{a b c:Int}(j:Za X ops t o d (o.op=.binOp .quo ty x y ty'∧KM t x=U .i64 a∧KM t y=U .i64 b))(i:b≠0)(g:a.tdiv b=c)(f: -9223372036854775808≤c∧c<9223372036854775808)
  (k:EO X ops r ⟨upd t d (U .i64 c),h,n,w⟩ Q):EO X ops (o::r) ⟨t,h,n,w⟩ Q:=by
 refine ZJ j ?_ k;have:ikEq .i64 .i64=true:=rfl;simp only[binE,isSh,this,intE,CT i,g,xI f]
theorem XC{a:Int}(i:zh ops t o=true)(c:o.dst=some d)(f:zu X.nt (some d)=true)(b:o.op=.unOp .neg ty x)(j:KM t x=U .i64 a)(g: -9223372036854775808≤ -a∧ -a<9223372036854775808)
  (k:EO X ops r ⟨upd t d (U .i64 (-a)),h,n,w⟩ Q):EO X ops (o::r) ⟨t,h,n,w⟩ Q:=by
 refine zA ⟨i,c,f,(by rw[b];rfl),?_⟩ k;rw[b];show M8 .neg (KM t x)=_;rw[j];show some (U .i64 (D8 .i64 (0-a)))=_;rw[show 0-a= -a by omega,xI g]
end
theorem XD(k:Nat){h:HF}(M:GK.G h){n:Nat}(Z0:20≤n)(P:c0.take (O T)=KY T)(L:60≤B∧B<3*n)(s:h B=some (.row c0 e))(f:cap=O c0∧O T+21≤cap∧cap<1000000){x:Int}(hx: -9223372036854775808≤x∧x<9223372036854775808):
  CF (KO (k+4)) 152 [Y (some ⟨B,0,none⟩) (O T) cap,U .i64 x,U .i64 10] h n fun v V n' w=>BufT T h n B cap e c0 (intN x) v V n' w:=by
 refine zl (fn:=Tryz.f152) R4 ?_;obtain⟨m,R⟩:∃m,m=x.natAbs:=⟨_,rfl⟩;refine Zd ?_;refine zN ?_;by_cases hneg:x<0
 .have i:intN x=[45]++decN m:=by unfold intN;rw[De hneg,R]
  refine zM ?_;refine vk (ik:=.u64) (a:=((18446744073709551616-m:Nat):Int)) R6 ?_ ?_
  .show some (U .u64 (D8 .u64 x))=_;rw[show x= -(m:Int)from Z,su m Z]
  refine zM ?_;refine Zc ?_;rw[zc rfl];refine Zd ?_;refine qH [U .u8 45] (l:=1) (c:=1) R5 ?_;intro W p1 K;have F:=(K B L.2).trans s;refine yX R5 (rR (m:=1) R3 zb (yG p1 R2) Z ⟨rfl,Dh⟩ Z F Z rfl) ?_;rw[rT (by show B<3*n;exact L.2)];rw[show (O T)+1=O (T++[45]) from by rw[Do];rfl];obtain⟨t1,Z4⟩:=uD (N:=[45]) P (by show O T+1≤_;omega);have Z1:GK.G (upd W B (some (.row (zv c0 (O T) [U .u8 45]) e))):=G_fr M fun b g _=>(zg Z).trans (K b Z);refine Zw ?_;refine zA (v:=U .u64 (m:Int)) ⟨rfl,rfl,rfl,rfl,?_⟩ ?_
  .show some (U .u64 (D8 .u64 (0-((18446744073709551616-m:Nat):Int))))=_;rw[tC _ Z];congr 3;omega
  refine Zw ?_;refine Zi ?_;refine zk _ R5 (qF k Z1 (n:=n+1) Z (T:=T++[45]) (B:=B) (cap:=cap) (u:=m) t1 Z (ze _ _ _) ⟨by rw[Z4];exact f.1,by rw[Do];simp;omega,f.2.2⟩ Z) ?_;rintro v Z3 S w3⟨rfl,H,C,p,J,q,j,A⟩;refine Zn ?_;refine retH [Y (some ⟨B,0,none⟩) (O (T++[45]++decN m)) cap] R3 ⟨by rw[i,←DN];rfl,by show n≤S;omega,fun b g=>?_,fun b g I=>(p b Z I).trans ((zg I).trans (K b g)),J,q,j.trans Z4,by rw[i,←DN];exact A⟩;rcases xc.1 g with h|⟨h,_⟩
  .exact Dx.1 h
  exact C b h
 have i:intN x=decN m:=by unfold intN;rw[CT hneg,R];rfl
 obtain rfl:x=(m:Int):=Z;refine zM ?_;refine yO (c:=m) R7 Z<|zM ?_;refine Zc ?_;rw[za rfl];refine Zd ?_;refine Zi ?_;refine zk _ R5 (qF k M Z0 (T:=T) (B:=B) (cap:=cap) (u:=m) P Z s ⟨f.1,Z,f.2.2⟩ Z) ?_;rintro v Z3 S w3⟨rfl,H,C,p,J,q,j,A⟩;refine Zn ?_;refine retH [Y (some ⟨B,0,none⟩) (O (T++decN m)) cap] R3 ⟨by rw[i];rfl,H,fun b g=>?_,p,J,q,j,by rw[i];exact A⟩;rcases xc.1 g with h|⟨h,_⟩
 .exact oU h Ds
 exact C b h
theorem kb(k:Nat){h:HF}(u:GK.G h){n:Nat}(F:20≤n)(A:c0.take (O T)=KY T)(s:60≤B∧B<3*n)(a:h B=some (.row c0 e))(c:cap=O c0∧O T+21≤cap∧cap<1000000){x:Int}(H: -9223372036854775808≤x∧x<9223372036854775808):
  CF (KO (k+5)) 124 [Y (some ⟨B,0,none⟩) (O T) cap,U .i64 x,U .i64 10] h n fun v q I w=>BufT T h n B cap e c0 (intN x) v q I w:=by
 refine zl (fn:=Tryz.f124) R4<|Zd ?_;refine Zd ?_;refine Zi ?_;refine zk _ R5 (XD k u F A s a c H) ?_;rintro v J K L⟨rfl,g,m,i,p,j,f,l⟩;refine Zn ?_;refine retH [Y (some ⟨B,0,none⟩) (O (T++intN x)) cap] R3 ⟨rfl,g,fun b C=>?_,i,p,j,f,l⟩;rcases xc.1 C with h|⟨h,_⟩
 .exact oU h Ds
 exact m b h
theorem oK(N:Int)(a:0<D):(Ef N D).num=N.tdiv ((DH N.natAbs D:Nat):Int)∧((Ef N D).den:Int)=(D:Int).tdiv ((DH N.natAbs D:Nat):Int):=by
 have b:0<DH N.natAbs D:=EK _ a;rw[Rat.divInt_ofNat,←IF Z,Ia];simp only;refine⟨?_,?_⟩
 .rw[GS];exact Gj.2 (FW _ _)
 rfl
theorem kV{x:Int}(b: -9223372036854775808≤x∧x<9223372036854775808):O (intN x)≤21:=by
 have a:O (decN x.natAbs)≤20:=by
  unfold decN;split
  .decide
  unfold decB;rw[DC];exact wJ 20 _ Z
 unfold intN;rw[Do];split<;>simp<;>omega
theorem dY(k:Nat){h:HF}(A:GK.G h){n:Nat}(I:20≤n){N:Int}(hN: -9000000000000000000≤N∧N≤9000000000000000000)(u:0<D∧D≤9000000000000000000):VF (KO (k+6)) 86 [U .i64 N,U .i64 (D:Int)] h n fun v=>v=Dl ⟨⟨ratT (Ef N D)⟩⟩:=by
 refine zB (fn:=Tryz.f86) R4 ?_;obtain⟨g,i⟩:=oK N u.1;have hg:0<DH N.natAbs D:=EK _ u.1;have a0:DH N.natAbs D≤D:=Nat.le_of_dvd u.1 (F0 _ _);generalize Ef N D=q at g i⊢;have a6:(q.den:Int)≤D∧(0:Int)<q.den:=by
  refine⟨?_,by have:=q.den_pos;omega⟩;rw[i];exact ab4.2 (FL _ _)
 have a7: -9000000000000000000≤q.num∧q.num≤9000000000000000000:=by
  have h1:q.num.natAbs≤N.natAbs:=by rw[g,HL];exact CK
  omega
 refine Zd ?_;refine Zc ?_;rw[za rfl,zX,zm,yj];refine yp (α:=Unit) (fun _=>[(0,U .i64 q.num),(1,U .i64 (q.den:Int))]) (fun _ h' n' w=>h=h'∧n'=n∧w=[]) ?_ ?_
 .refine zN ?_;by_cases hD1:D=1
  .subst hD1;rw[JB]at g i;refine Zk ?_;exact zC () ⟨by rw[g];simp;rfl,by rw[i];rfl,Df⟩ R3
  refine ZC ?_;refine XC rfl rfl rfl rfl rfl Z<|st_I (ik:=.i64) (a:=(N.natAbs:Int)) ⟨rfl,rfl,rfl,rfl,?_⟩ ?_
  .show some (U .i64 (if N< -N then -N else N))=_;congr 2;split<;>omega
  refine zM ?_;refine ye _ R5 (QE (k+4) _ _ N.natAbs D Z) ?_;rintro _ rfl;refine Zn ?_;rw[yH rfl];refine Zi ?_;refine QF (c:=q.num) R6 Z g.symm Z<|Zi ?_;refine QF (c:=(q.den:Int)) R6 Z i.symm Z<|Zi ?_;refine zN ?_;exact zC () V2 R3
 rintro _ t _ n _⟨rfl,rfl,rfl⟩;refine zN ?_;by_cases hq1:q.den=1
 .refine ZD ?_;refine ye _ R5 (kY (k+1) A I (x:=q.num) Z) ?_;rintro _ rfl;refine Zn ?_;exact retF _ rfl (zj rfl) R2 (by rw[pt (yN.2 hq1)];rfl)
 have Z4:¬denZ q=0:=mt yN.1 hq1;refine Zk ?_;refine wO (Dp 48 (U .u8 0)) R6 ?_;intro h1 p1 W;have C:=uB A W I;have a1:O (intN q.num)≤21:=kV Z;refine zN ?_;refine rE (j:=0) R8 rfl (yv n) Z<|zM ?_;refine zk _ R5 (kb k C (n:=n+1) Z (T:=[]) (B:=3*n+2) (cap:=48) rfl Z p1 ⟨by rw[DV],by show 0+21≤48;omega,Z⟩ (x:=q.num) Z) ?_;rintro v h2 n2 w2⟨rfl,a3,R,J,Z0,K,p,Z1⟩;rw[zZ fun b f=>by rw[R b f];show 3*n≤_;omega];rw[DV]at p;refine Zw ?_;refine qH [U .u8 47] (l:=1) (c:=1) R5 ?_;intro h3 p3 Z3;have L:=(Z3 (3*n+2) Z).trans K;refine yX R5 (rR (m:=1) R3 zb (yG p3 R2) A8 ⟨rfl,Dh⟩ (by rw[El];omega) L (by rw[El];omega) rfl) ?_;rw[zZ fun b f=>by rw[Dx.1 f];show 3*n≤_;omega];rw[show(([]:List Nat)++intN q.num).length+1=O (([]:List Nat)++intN q.num++[47]) from by simp];obtain⟨t1,V⟩:=uD (N:=[47]) Z1 (by show([]++intN q.num).length+1≤_;rw[El];omega);generalize hh4:upd h3 (3*n+2) _=h4;have F:GK.G h4:=by
  rw[←hh4];exact G_fr A fun b f _=>(zg Z).trans ((Z3 b Z).trans ((J b Z Z).trans (W b Z)))
 have s:∃e,h4 (3*n+2)=some (.row (zv Z0 (O ([]++intN q.num)) [U .u8 47]) e):=⟨_,by rw[←hh4];exact ze _ _ _⟩;obtain⟨e4,s⟩:=s;have a2:O (intN (q.den:Int))≤21:=kV Z;refine zM ?_;refine Zp ?_;refine zk _ R5 (kb k F (n:=n2+1) Z (T:=[]++intN q.num++[47]) (B:=3*n+2) (cap:=48) t1 Z s ⟨by rw[V,p],BL,Z⟩ (x:=(q.den:Int)) Z) ?_;rintro v h5 n5 w5⟨rfl,a4,S,a5,c5,M,H,P⟩;rw[zZ fun b f=>by rw[S b f];show 3*n≤_;omega];refine pn R5 (rx (B:=[]++intN q.num++[47]++intN (q.den:Int)) R3 (uj M (by rw[EE];exact P) (by rw[H,V,p];simp only[Do,El,Dy];omega) (by simp only[Do,El,Dy];omega))) ?_;refine Zn ?_;refine retF _ rfl (zj rfl) R2 ?_;show Dl _=_;rw[El,gq Z4,wV Z4]
end
section
variable {h:HF}{n:Nat}
theorem mS{x y:Int}(a:0<y):(Ef x y).num=x.tdiv ((DH x.natAbs y.natAbs:Nat):Int)∧((Ef x y).den:Int)=y.tdiv ((DH x.natAbs y.natAbs:Nat):Int):=by
 obtain⟨d,rfl⟩:∃d:Nat,y=(d:Int):=⟨y.toNat,Z⟩;exact oK x Z
theorem Oi{x y:Int}:Ef x y=Ef (-x) (-y):=by rw[Rat.neg_divInt_neg]
theorem fd{x y:Int}(a:y<0):(Ef x y).num=(-x).tdiv ((DH (-x).natAbs (-y).natAbs:Nat):Int)∧((Ef x y).den:Int)=(-y).tdiv ((DH (-x).natAbs (-y).natAbs:Nat):Int):=by
 rw[Oi];exact mS Z
theorem qe{x y:Int}(b:0<y)(a:((DH x.natAbs y.natAbs:Nat):Int)=1):(Ef x y).num=x∧((Ef x y).den:Int)=y:=by
 have h:=mS (x:=x) b;rw[a,GZ,GZ]at h;exact h
theorem oH{x y:Int}(b:y<0)(a:((DH (-x).natAbs (-y).natAbs:Nat):Int)=1):(Ef x y).num= -x∧((Ef x y).den:Int)= -y:=by
 rw[Oi];exact qe Z a
theorem Oj{x y:Int}(a:y=1):(Ef x y).num=x∧denZ (Ef x y)=0:=by
 have h:=qe (x:=x) (y:=y) Z (by rw[a];simp);exact⟨h.1,yN.2 (by have:=h.2;omega)⟩
theorem QG{x y:Int}(a: -y=1):(Ef x y).num= -x∧denZ (Ef x y)=0:=by
 rw[Oi];exact Oj a
theorem fa(k:Nat){x:Int}{y:Int}(g:GG h n)(f:IW h n sx ax lx cx x)(b:IW h n sy ay ly cy y)(hx:x.natAbs<BW)(hy:y.natAbs<BW)(c:y≠0):CX (KO (k+10)) 203 [.agg #[Dk sx,Y ax lx cx],.agg #[Dk sy,Y ay ly cy]] h n (QV (Ef x y)):=by
 have d6:(-x).natAbs<BW:=by rw[F3];exact hx
 have aw:(-y).natAbs<BW:=by rw[F3];exact hy
 have d4:((DH (-x).natAbs (-y).natAbs:Nat):Int).natAbs<BW:=dP aw Z;have d5:((DH x.natAbs y.natAbs:Nat):Int).natAbs<BW:=dP hy c;have bq:((DH (-x).natAbs (-y).natAbs:Nat):Int)≠0:=dM Z;have br:((DH x.natAbs y.natAbs:Nat):Int)≠0:=dM c;refine zl (fn:=Tryz.f203) R4<|zG ?_;refine sB [Dk sx,Y ax lx cx] ?_;intro bz e7 es;refine sB [Dk sy,Y ay ly cy] ?_;intro c0 e8 et;refine sA ?_;intro c1 e9 eu;refine zG ?_;refine sC (xv _ (b.t zt)) ?_;rintro _ c2 d7⟨bs,rfl,v⟩ fj ev;rcases K3 v with⟨rfl,u⟩|⟨rfl,u⟩
 .refine zG ?_;refine sC (xv _ (f.t zt)) ?_;rintro _ c3 d8⟨bt,rfl,w⟩ fk ew;rcases K3 w with⟨rfl,s⟩|⟨rfl,s⟩
  .refine zG ?_;refine sC (N4 _ (b.t zt)) ?_;rintro _ c4 d9⟨er,rfl,a⟩ fl ey;rcases a with⟨rfl,a⟩|⟨rfl,a⟩|⟨rfl,a⟩
   .refine zG ?_;refine zn [0,1,0,7,15,31] rfl<|zH ?_;refine dC (negX _ (f.t zt)) ?_;rintro _ c5 da⟨j,i,p,l,rfl,d⟩ fm ez;refine zH ?_;refine dC (negX _ (b.t zt)) ?_;rintro _ c6 db⟨R,F,bb,a3,rfl,e⟩ fo f0;refine dS [Dk j,Y i p l] ?_;intro c7 ea dr;refine dS [Dk R,Y F bb a3] ?_;intro c8 eb ds;refine zG ?_;refine sC (qd _ (e.t zt)) ?_;rintro _ c9 dc⟨bu,rfl,A⟩ fp f1;rcases K3 A with⟨rfl,bm⟩|⟨rfl,bm⟩
    .refine zG ?_;refine sC (gcdX _ (g.t zt) (d.t zt) (e.t zt) KU KU) ?_;rintro _ ca dd⟨S,G,bc,a4,rfl,m⟩ fq f2;refine sA ?_;intro cb ec f3;refine sS [Dk S,Y G bc a4] ?_;intro cc ed dt;refine zG ?_;refine sC (qd _ (m.t zt)) ?_;rintro _ cd de⟨bv,rfl,B⟩ fr f4;rcases K3 B with⟨rfl,bn⟩|⟨rfl,bn⟩
     .refine zG ?_;refine zn [0,0,3,0,0,31,63,127] rfl<|zH ?_;refine dC (quoX _ (d.t zt) (m.t zt) KU KU LM) ?_;rintro _ ce df⟨T,H,bd,a5,rfl,az⟩ fs f5;refine zH ?_;refine dC (quoX _ (e.t zt) (m.t zt) KU KU LM) ?_;rintro _ cf dg⟨Z4,I,be,a6,rfl,b0⟩ ft f6;refine dS [Dk T,Y H bd a5] ?_;intro cg ee du;refine dS [Dk Z4,Y I be a6] ?_;intro ch ef dv;refine zG ?_;refine sC (uS _ (az.t zt) (b0.t zt) (q:=Ef x y) nn ns) ?_;rintro _ ci dh⟨V,J,bf,a7,ae,ai,am,aq,rfl,b1,b7⟩ fu f7;refine sS [Dk V,Y J bf a7,Dk ae,Y ai am aq] ?_;intro cj eg dw;refine zq ?_;exact⟨_,_,_,_,_,_,_,_,rfl,(b1.t zt),(b7.t zt)⟩
     refine zG ?_;refine sC (uS _ (d.t zt) (e.t zt) (q:=Ef x y) nn ns) ?_;rintro _ ck di⟨W,K,bg,a8,af,aj,an,ar,rfl,b2,b8⟩ fv f8;refine sS [Dk W,Y K bg a8,Dk af,Y aj an ar] ?_;intro cl eh dy;refine zq ?_;exact⟨_,_,_,_,_,_,_,_,rfl,(b2.t zt),(b8.t zt)⟩
    refine zG ?_;refine sT #[Dk j,Y i p l,Dk false,Y none 0 0] ?_;refine sS [Dk j,Y i p l,Dk false,Y none 0 0] ?_;intro cm ei dz;refine zq ?_;exact⟨_,_,_,_,_,_,_,_,rfl,(d.t zt).as (Bj),(GH _ _).as (Bk)⟩
   .exact oU a c
   refine zG ?_;refine sC (qd _ (b.t zt)) ?_;rintro _ cn dj⟨bw,rfl,C⟩ fw f9;rcases K3 C with⟨rfl,bo⟩|⟨rfl,bo⟩
   .refine zG ?_;refine sC (gcdX _ (g.t zt) (f.t zt) (b.t zt) KU KU) ?_;rintro _ co dk⟨Z3,L,bh,a9,rfl,o⟩ fy fb;refine sA ?_;intro cp ej fc;refine sS [Dk Z3,Y L bh a9] ?_;intro cq ek e0;refine zG ?_;refine sC (qd _ (o.t zt)) ?_;rintro _ cr dl⟨bx,rfl,D⟩ fz fe;rcases K3 D with⟨rfl,bp⟩|⟨rfl,bp⟩
    .refine zG ?_;refine zn [0,0,3,0,0,31,63,127] rfl<|zH ?_;refine dC (quoX _ (f.t zt) (o.t zt) KU KU LM) ?_;rintro _ cs dm⟨Z0,M,bi,aa,rfl,b3⟩ g0 ff;refine zH ?_;refine dC (quoX _ (b.t zt) (o.t zt) KU KU LM) ?_;rintro _ ct dn⟨a0,N,bj,ab,rfl,b4⟩ g1 fg;refine dS [Dk Z0,Y M bi aa] ?_;intro cu el e1;refine dS [Dk a0,Y N bj ab] ?_;intro cv em e2;refine zG ?_;refine sC (uS _ (b3.t zt) (b4.t zt) (q:=Ef x y) nn ns) ?_;rintro _ cw dp⟨a1,Z1,bk,ac,ag,ak,ao,au,rfl,b5,b9⟩ g2 fh;refine sS [Dk a1,Y Z1 bk ac,Dk ag,Y ak ao au] ?_;intro cz en e3;refine zq ?_;exact⟨_,_,_,_,_,_,_,_,rfl,(b5.t zt),(b9.t zt)⟩
    refine zG ?_;refine sC (uS _ (f.t zt) (b.t zt) (q:=Ef x y) nn ns) ?_;rintro _ d0 dq⟨a2,P,bl,ad,ah,al,ap,av,rfl,b6,ba⟩ g3 fi;refine sS [Dk a2,Y P bl ad,Dk ah,Y al ap av] ?_;intro d1 eo e4;refine zq ?_;exact⟨_,_,_,_,_,_,_,_,rfl,(b6.t zt),(ba.t zt)⟩
   refine zG ?_;refine sT #[Dk sx,Y ax lx cx,Dk false,Y none 0 0] ?_;refine sS [Dk sx,Y ax lx cx,Dk false,Y none 0 0] ?_;intro d2 ep e5;refine zq ?_;exact⟨_,_,_,_,_,_,_,_,rfl,(f.t zt).as (Bj),(GH _ _).as (Bk)⟩
  refine zG ?_;refine sT #[Dk false,Y none 0 0,Dk false,Y none 0 0] ?_;refine sS [Dk false,Y none 0 0,Dk false,Y none 0 0] ?_;intro d3 eq e6;refine zq ?_;exact⟨_,_,_,_,_,_,_,_,rfl,(GH _ _).as (by rw[s,af1];rfl),(GH _ _).as (by rw[s,af1];rfl)⟩
 exact oU u c
theorem XE(k:Nat){x:Rat}{y:Int}(o:IW h n sx ax lx cx x.num)(q:IW h n dx ex fx gx (denZ x))(p:IW h n sy ay ly cy y)(hx:x.num.natAbs<BW)(M:(denZ x).natAbs<BW)(hy:y.natAbs<BW):CX (KO (k+9)) 228 [.agg #[Dk sx,Y ax lx cx,Dk dx,Y ex fx gx],.agg #[Dk sy,Y ay ly cy]] h n (IV (x.num*y.tdiv (x.den:Int))):=by
 refine zl (fn:=Tryz.f228) R4<|zG ?_;refine sB [Dk sx,Y ax lx cx,Dk dx,Y ex fx gx] ?_;intro C V a1;refine sB [Dk sy,Y ay ly cy] ?_;intro D W a2;refine sA ?_;intro F Z3 a3;refine zG ?_;refine sC (xv _ (q.t zt)) ?_;rintro _ G Z1⟨w,rfl,b⟩ a8 a4;rcases K3 b with⟨rfl,a⟩|⟨rfl,a⟩
 .refine zG ?_;refine zn [0,1,0,0,8,28,63,127] rfl<|zH ?_;refine dC (quoX _ (p.t zt) (q.t zt) KU KU LM) ?_;rintro _ H P⟨A,v,N,B,rfl,j⟩ a9 a5;refine dC (mulX _ (o.t zt) j KU KU) ?_;rintro _ I R⟨e,c,s,g,rfl,l⟩ aa a6;refine dS [Dk e,Y c s g] ?_;intro J Z0 T;refine zq ?_;exact⟨_,_,_,_,rfl,(l.t zt).as (by rw[wV a])⟩
 refine zG ?_;refine sC (mulX _ (o.t zt) (p.t zt) KU KU) ?_;rintro _ K S⟨f,d,u,i,rfl,m⟩ ab a7;refine sS [Dk f,Y d u i] ?_;intro L a0 Z4;refine zq ?_;exact⟨_,_,_,_,rfl,(m.t zt).as (by rw[show(x.den:Int)=1 from by have:=yN.1 a;omega,GZ])⟩
end
section
variable {n:Nat}{h:HF}
theorem Ok{x:Rat}(h:x.num<0):(x⁻¹).num= -((x.den:Int))∧((x⁻¹).den:Int)= -x.num:=by
 rw[an6,ae3,HV h,CT Z];omega
theorem Ol{x:Rat}(h:0<x.num):(x⁻¹).num=(x.den:Int)∧((x⁻¹).den:Int)=x.num:=by
 rw[an6,ae3,GX h,CT Z];omega
theorem QH{x:Rat}(h:x.num=0):x⁻¹ =0:=by rw[FM.1 h,ab1]
theorem Sz.inv{x:Rat}(h:Sz m x):Sz m x⁻¹ :=by
 have c:=x.den_pos;refine⟨?_,?_⟩
 .rcases Iy x.num 0 with a|a|a
  .rw[(Ok a).1,F3,DQ];exact h.2
  .rw[QH a];exact DP Di h.2
  rw[(Ol a).1,DQ];exact h.2
 rw[ae3];split
 .exact DP c h.2
 exact h.1
theorem invQ(k:Nat){x:Rat}(c:IW h n sx ax lx cx x.num)(J:IW h n dx ex fx gx (denZ x)):CX (KO (k+4)) 206 [.agg #[Dk sx,Y ax lx cx,Dk dx,Y ex fx gx]] h n (QV x⁻¹):=by
 refine zl (fn:=Tryz.f206) R4<|zG ?_;refine sB [Dk sx,Y ax lx cx,Dk dx,Y ex fx gx] ?_;intro a0 aq b0;refine sA ?_;intro a1 ar b1;refine zG ?_;refine sC (N4 _ (c.t zt)) ?_;rintro _ a2 ag⟨az,rfl,a⟩ b9 b2;rcases a with⟨rfl,a⟩|⟨rfl,a⟩|⟨rfl,a⟩
 .refine zG ?_;refine zn [0,1,3,0,8,31,63,127] rfl<|zH ?_;refine dC (denQ _ (c.t zt) (J.t zt)) ?_;rintro _ a3 ah⟨R,M,ac,V,rfl,A⟩ ba b3;refine dC (negX _ A) ?_;rintro _ a4 ai⟨S,N,ad,W,rfl,B⟩ bb b4;refine zH ?_;refine dC (negX _ (c.t zt)) ?_;rintro _ a5 aj⟨T,Z1,ae,Z3,rfl,C⟩ bc b5;refine dC (uS _ (B.t zt) C (q:=x⁻¹) (Ok a).1 (Ok a).2) ?_;rintro _ a6 ak⟨f,d,K,i,l,p,u,w,rfl,D,H⟩ bd b6;refine dS [Dk f,Y d K i,Dk l,Y p u w] ?_;intro a7 au an;refine zq ?_;exact⟨_,_,_,_,_,_,_,_,rfl,(D.t zt),(H.t zt)⟩
 .refine zG ?_;refine sT #[Dk false,Y none 0 0,Dk false,Y none 0 0] ?_;refine sS [Dk false,Y none 0 0,Dk false,Y none 0 0] ?_;intro a8 av ao;refine zq ?_;exact(show x⁻¹ =0 from QH a)▸QV.zero _ _
 refine zG ?_;refine zn [0,1,0,4,15,31] rfl<|zH ?_;refine dC (denQ _ (c.t zt) (J.t zt)) ?_;rintro _ a9 al⟨Z4,P,af,Z0,rfl,F⟩ be b7;refine zH ?_;refine dC (uS _ F (c.t zt) (q:=x⁻¹) (Ol a).1 (Ol a).2) ?_;rintro _ aa am⟨g,e,L,j,o,s,v,y,rfl,G,I⟩ bf b8;refine dS [Dk g,Y e L j,Dk o,Y s v y] ?_;intro ab aw ap;refine zq ?_;exact⟨_,_,_,_,_,_,_,_,rfl,(G.t zt),(I.t zt)⟩
theorem divQ(k:Nat){x:Rat}{y:Rat}(g:GG h n)(A:IW h n sx ax lx cx x.num)(C:IW h n dx ex fx gx (denZ x))(B:IW h n sy ay ly cy y.num)(D:IW h n dy ey fy gy (denZ y)){a:Nat}(hx:Sz a x)(w:Sz b y)(o:a+b≤2496):CX (KO (k+11)) 169 [.agg #[Dk sx,Y ax lx cx,Dk dx,Y ex fx gx],.agg #[Dk sy,Y ay ly cy,Dk dy,Y ey fy gy]] h n (QV (x/y)):=by
 refine zl (fn:=Tryz.f169) R4<|zG ?_;refine sB [Dk sx,Y ax lx cx,Dk dx,Y ex fx gx] ?_;intro M Z3 a2;refine sB [Dk sy,Y ay ly cy,Dk dy,Y ey fy gy] ?_;intro N Z0 a3;refine sA ?_;intro Z1 a0 a4;refine zG ?_;refine zn [0,0,2,7,15] rfl<|zH ?_;refine dC (invQ _ (B.t zt) (D.t zt)) ?_;rintro _ P Z4⟨G,F,T,H,I,J,K,L,rfl,p,s⟩ a7 a5;refine dC (mulQ _ (g.t zt) (A.t zt) (C.t zt) p s hx w.inv o) ?_;rintro _ R V⟨d,c,v,e,f,i,j,l,rfl,q,u⟩ a8 a6;refine dS [Dk d,Y c v e,Dk f,Y i j l] ?_;intro S a1 W;refine zq ?_;exact⟨_,_,_,_,_,_,_,_,rfl,(q.t zt).as (by rw[FI]),(u.t zt).as (by rw[FI])⟩
end
section
variable {h:HF}{n:Nat}
theorem XF(a b:Nat):a*(b/DH a b)=((ab6 a b:Nat):Int).natAbs:=by
 rw[DQ,ab6,Nat.mul_div_assoc _ (F0 a b)]
theorem lcmX(k:Nat){x:Int}{y:Int}(g:GG h n)(b:IW h n sx ax lx cx x)(a:IW h n sy ay ly cy y)(hx:x.natAbs<BW)(hy:y.natAbs<BW):CX (KO (k+8)) 244 [.agg #[Dk sx,Y ax lx cx],.agg #[Dk sy,Y ay ly cy]] h n (IV ((ab6 x.natAbs y.natAbs:Nat):Int)):=by
 refine zl (fn:=Tryz.f244) R4<|zG ?_;refine sB [Dk sx,Y ax lx cx] ?_;intro A Z4 a1;refine sB [Dk sy,Y ay ly cy] ?_;intro B V a2;refine sA ?_;intro C W a3;refine zG ?_;by_cases q14:(lx:Int)=0
 .refine zG ?_;refine sT #[Dk false,Y none 0 0] ?_;refine sS [Dk false,Y none 0 0] ?_;intro D Z3 R;refine zq ?_;exact⟨_,_,_,_,rfl,(GH _ _).as Az⟩
 refine zG ?_;by_cases q16:(ly:Int)=0
 .refine zG ?_;refine sT #[Dk false,Y none 0 0] ?_;refine sS [Dk false,Y none 0 0] ?_;intro F Z0 S;refine zq ?_;exact⟨_,_,_,_,rfl,(GH _ _).as Az⟩
 refine zG ?_;have f:y.natAbs≠0:=fun e=>q16 (by have:=a.2.zero;omega);refine zn [0,1,0,4,0,16,60,127,255,511,511,1023,4095] rfl<|zH ?_;refine dC (P7 _ (g.t zt) (b.t zt).2 (a.t zt).2 Lu) ?_;rintro _ G N⟨o,L,q,rfl,j⟩ a7 a4;refine dC (P6 _ (a.t zt).2 j ⟨hy,DP (ac6 _ (GI f)) hy⟩ (by have:=EK x.natAbs (GI f);omega)) ?_;rintro _ H Z1⟨p,M,s,u,v,w,rfl,l,K⟩ a8 a5;refine zJ ?_;refine sC (MR _ (b.t zt).2 l ⟨hx,DP (FL _ _) hy⟩) ?_;rintro _ I P⟨c,i,d,rfl,m⟩ a9 a6;refine sT #[Dk false,Y c i d] ?_;refine sS [Dk false,Y c i d] ?_;intro J a0 T;refine zq ?_;exact⟨_,_,_,_,rfl,Be,(m.t zt).as (XF _ _)⟩
end
end Go.Proofs.YtfajmfoofmienaaGreatDoor
