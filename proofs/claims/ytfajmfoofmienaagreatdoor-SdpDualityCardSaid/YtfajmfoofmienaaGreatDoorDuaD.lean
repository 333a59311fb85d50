import Derived.Test.YtfajmfoofmienaaGreatDoorDuaC
open Bool renaming and_eq_true→AT,and_self→A4,eq_false_iff→Es,false_eq_true→AJ
open Classical renaming byContradiction→An
open Go.IntKind renaming bits→By,wrap→Ao
open Go.Value renaming bool→kz,int→jy,pointer→kS,slice→jx,string→kF
open Iff renaming rfl→Db
open Int renaming mul_comm→F1,mul_tdiv_cancel_left→Dh,mul_zero→Ft,natAbs_eq_zero→B6,natAbs_mul→AX,natAbs_natCast→sa,natAbs_neg→AR,natAbs_tdiv→DG,natCast_mul→A6,natCast_nonneg→Dx,neg_mul→EX,neg_neg→EU,not_lt→FB,ofNat_dvd_left→BZ,ofNat_le→Hg,one_dvd→HC,sub_self→F5,tdiv_one→CN,tmod_lt_of_pos→GX,toNat_natCast→AP,zero_add→F9,zero_tdiv→GF
open List renaming all_append→DK,all_eq_true→Bt,append_assoc→Aq,append_nil→A3,drop_append→FX,drop_drop→Cz,drop_eq_nil_of_le→Ca,drop_left'→CY,drop_take→Fw,drop_zero→AQ,ext_getElem?→Bn,getElem?_append_left→AZ,getElem?_append_right→AE,getElem?_eq_getElem→k4,getElem?_eq_none→Ad,getElem?_eq_some_iff→oc,getElem?_map→sr,getElem?_range→AL,getElem?_set_ne→Gv,length→gP,length_append→nn,length_cons→Au,length_drop→Ak,length_eq_zero_iff→xd,length_map→oo,length_nil→DE,length_replicate→Ah,length_set→AY,length_singleton→xl,length_take→Af,map_append→Bl,map_cons→Cy,mem_append→Al,mem_cons→sP,mem_cons_of_mem→AV,mem_cons_self→As,mem_map→Ay,mem_of_getElem?→ns,mem_of_mem_drop→Bx,mem_of_mem_take→AW,mem_range→Cf,mem_singleton→nP,nil_append→AN,not_mem_nil→nN,range→AC,replicate→pl,take_append_drop→Bf,take_length→Ax,take_of_length_le→Aa,take_take→DP,take_zero→Bj
open List.Pairwise renaming nil→G7
open Nat renaming add_comm→BT,add_mul→AH,add_sub_cancel→Cv,add_sub_cancel_left→Bi,add_zero→BC,beq→AG,ble→Ai,ble_eq_true_of_le→sn,div_div_eq_div_mul→Cm,div_le_self→Bk,div_lt_of_lt_mul→Dc,div_one→DR,dvd_trans→GH,eq_of_beq_eq_true→Aw,gcd→sN,gcd_comm→B8,gcd_dvd_left→BB,gcd_dvd_right→BS,gcd_pos_of_pos_right→A5,lcm→G4,le_of_dvd→Dd,le_succ→ux,le_trans→Ap,lt_of_le_of_lt→Ae,lt_of_lt_of_le→tv,lt_or_ge→Ci,min_eq_left→Be,mod_eq_of_lt→Ag,mod_lt→Bo,mul_add→A1,mul_assoc→Az,mul_comm→vT,mul_le_mul→AD,mul_le_mul_left→A9,mul_le_mul_right→Ab,mul_left_comm→BP,mul_one→AO,mul_zero→Ep,one_mul→Bs,pos_of_ne_zero→Cw,pow_add→Bq,pow_le_pow_right→Ac,pow_succ→Ar,pow_zero→CL,sub_self→A7,succ_mul→BN,zero_add→AA,zero_le→Du,zero_mul→BE
open Option renaming isSome_none→GW
open Or renaming inl→HX
open Rat renaming den_inv→Ht,divInt→Av,divInt_eq_div→Bm,div_def→Bv,intCast_mul→A8,intCast_natCast→Bc,intCast_pos→C2,mul_assoc→AM,mul_comm→BO,mul_inv_cancel→CT,mul_one→DW,mul_pos→Gt,natCast_mul→Cs,neg_den→EY,neg_num→Em,normalize_eq_mkRat→Ev,sub_eq_add_neg→B5,zero_divInt→HK
open UInt8 renaming ofNat→Bh,toNat_inj→C0
set_option maxHeartbeats 8000000
set_option linter.unusedVariables false
set_option linter.unusedSimpArgs false
namespace Go.Proofs.YtfajmfoofmienaaGreatDoor
open Go Go.GL
variable {w ms W V:List Nat}{cap m j b sz i n0 cx lx bt lo l B cy ly bytes N fx gx L D U fy gy bS p lo' nt id n1 bv bu vc hh l1 m' be K:Nat}{X:CtxF}{t:TF}{e ty ty' xT e2 e3:TypeId}{r:List Oper}{Q:SV→Prop}{o:Oper}{v z v0 x10 x4 x5 x6 x7 x8 x9 sv qv z2:Value}{a ax ay ex aq ey a1 a2:Option Addr}{cs c0 cl new:List Value}{ik ik':IntKind}{sx sy dx dy:Bool}{y x0 hi:Operand}{al:List (Nat×Nat)}{ef:List (Nat×HF×List Nat)}{s:List UInt8}{q:Rat}{assign body:Code}{h1:HF}{ji:Int}{S:List (List UInt8)}{ops:Array Oper}{fn:Func}{T0:Nat→Nat→Int}{a0:Nat→Nat→Rat}{α:Type}{E:Env}
variable {k n n':Nat}{c args:List Value}{x1 x2 x3:Value}{h0 h h':HF}{bf:Int}
section
variable {h:HF}{d n:Nat}
theorem addU (k:Nat){x:Int}{y:Int}(c:UI h n sx ax lx cx x)(e:UI h n sy ay ly cy y)(hx:x.natAbs<BX)(a:y.natAbs<BX):CX (cal (k+3)) 75 [.agg #[kz sx,jx ax lx cx],.agg #[kz sy,jx ay ly cy]] h n (UIV (x+y)):=by
 refine zu (fn:=Tryz.f75) R4 ?_;refine zG ?_;refine sB [kz sx,jx ax lx cx] ?_;intro aw cq d5;refine sB [kz sy,jx ay ly cy] ?_;intro az cr d6;refine sA ?_;intro b0 cs d7;refine zG ?_;cases sx
 ·refine zG ?_;cases sy
  ·refine zG ?_;refine zm [0,1,0,4,0,16,60,127,255] rfl ?_;refine zH ?_;refine dC (zq4 _ (c.t zt).2 (e.t zt).2 (by first|exact ⟨hx,a⟩|exact ⟨a,hx⟩)) ?_;rintro _ b1 c0 ⟨ae,br,am,rfl,O⟩ dr d8;refine dC (tC _ O false) ?_;rintro _ b2 c1 ⟨u,i,a6,G,rfl,P⟩ ds d9;refine dS [kz u,jx i a6 G] ?_;intro b3 ct ci;refine zq ?_;exact ⟨_,_,_,_,rfl,(P.t zt).as (by have:=c.ge;have:=e.ge;unfold sgZ;(try simp only [if_true,if_false,AJ]);omega)⟩
  refine zG ?_;refine sC (zqu _ (c.t zt).2 (e.t zt).2 (by first|exact ⟨hx,a⟩|exact ⟨a,hx⟩)) ?_;rintro _ b4 c2 ⟨d3,rfl,f⟩ dt da;rcases f with ⟨rfl,f⟩|⟨rfl,f⟩|⟨rfl,f⟩
  ·refine zG ?_;refine zm [0,1,0,4,0,16,60,127,255] rfl ?_;refine zH ?_;refine dC (zba _ (e.t zt).2 (c.t zt).2 (by first|exact ⟨hx,a⟩|exact ⟨a,hx⟩) zo) ?_;rintro _ b5 c3 ⟨af,bs,an,rfl,R⟩ du db;refine dC (tC _ R true) ?_;rintro _ b6 c4 ⟨v,j,a7,H,rfl,S⟩ dv dc;refine dS [kz v,jx j a7 H] ?_;intro b7 cu cj;refine zq ?_;exact ⟨_,_,_,_,rfl,(S.t zt).as (by have:=c.ge;have:=e.lt;unfold sgZ;(try simp only [if_true,if_false,AJ]);omega)⟩
  ·refine zG ?_;refine zm [0,1,0,4,0,16,60,127,255] rfl ?_;refine zH ?_;refine dC (zba _ (c.t zt).2 (e.t zt).2 (by first|exact ⟨hx,a⟩|exact ⟨a,hx⟩) zo) ?_;rintro _ b8 c5 ⟨ag,bt,ao,rfl,T⟩ dw dd;refine dC (tC _ T false) ?_;rintro _ b9 c6 ⟨w,l,a8,I,rfl,U⟩ dz de;refine dS [kz w,jx l a8 I] ?_;intro ba cv ck;refine zq ?_;exact ⟨_,_,_,_,rfl,(U.t zt).as (by have:=c.ge;have:=e.lt;unfold sgZ;(try simp only [if_true,if_false,AJ]);omega)⟩
  refine zG ?_;refine zm [0,1,0,4,0,16,60,127,255] rfl ?_;refine zH ?_;refine dC (zba _ (c.t zt).2 (e.t zt).2 (by first|exact ⟨hx,a⟩|exact ⟨a,hx⟩) zo) ?_;rintro _ bb c7 ⟨ah,bu,ap,rfl,V⟩ e0 df;refine dC (tC _ V false) ?_;rintro _ bc c8 ⟨A,m,a9,J,rfl,W⟩ e1 dg;refine dS [kz A,jx m a9 J] ?_;intro bd cw cl;refine zq ?_;exact ⟨_,_,_,_,rfl,(W.t zt).as (by have:=c.ge;have:=e.lt;unfold sgZ;(try simp only [if_true,if_false,AJ]);omega)⟩
 refine zG ?_;cases sy
 ·refine zG ?_;refine sC (zqu _ (c.t zt).2 (e.t zt).2 (by first|exact ⟨hx,a⟩|exact ⟨a,hx⟩)) ?_;rintro _ be c9 ⟨d4,rfl,g⟩ e2 dh;rcases g with ⟨rfl,g⟩|⟨rfl,g⟩|⟨rfl,g⟩
  ·refine zG ?_;refine zm [0,1,0,4,0,16,60,127,255] rfl ?_;refine zH ?_;refine dC (zba _ (e.t zt).2 (c.t zt).2 (by first|exact ⟨hx,a⟩|exact ⟨a,hx⟩) zo) ?_;rintro _ bf ca ⟨ai,bv,aq,rfl,Y⟩ e3 di;refine dC (tC _ Y false) ?_;rintro _ bg cb ⟨B,o,aa,K,rfl,Z⟩ e4 dj;refine dS [kz B,jx o aa K] ?_;intro bh cz cm;refine zq ?_;exact ⟨_,_,_,_,rfl,(Z.t zt).as (by have:=c.lt;have:=e.ge;unfold sgZ;(try simp only [if_true,if_false,AJ]);omega)⟩
  ·refine zG ?_;refine zm [0,1,0,4,0,16,60,127,255] rfl ?_;refine zH ?_;refine dC (zba _ (c.t zt).2 (e.t zt).2 (by first|exact ⟨hx,a⟩|exact ⟨a,hx⟩) zo) ?_;rintro _ bi cc ⟨aj,bw,ar,rfl,a0⟩ e5 dk;refine dC (tC _ a0 true) ?_;rintro _ bj cd ⟨C,p,ab,L,rfl,a1⟩ e6 dl;refine dS [kz C,jx p ab L] ?_;intro bk d0 cn;refine zq ?_;exact ⟨_,_,_,_,rfl,(a1.t zt).as (by have:=c.lt;have:=e.ge;unfold sgZ;(try simp only [if_true,if_false,AJ]);omega)⟩
  refine zG ?_;refine zm [0,1,0,4,0,16,60,127,255] rfl ?_;refine zH ?_;refine dC (zba _ (c.t zt).2 (e.t zt).2 (by first|exact ⟨hx,a⟩|exact ⟨a,hx⟩) zo) ?_;rintro _ bl ce ⟨ak,bx,au,rfl,a2⟩ e7 dm;refine dC (tC _ a2 true) ?_;rintro _ bm cf ⟨D,q,ac,M,rfl,a3⟩ e8 dn;refine dS [kz D,jx q ac M] ?_;intro bn d1 co;refine zq ?_;exact ⟨_,_,_,_,rfl,(a3.t zt).as (by have:=c.lt;have:=e.ge;unfold sgZ;(try simp only [if_true,if_false,AJ]);omega)⟩
 refine zG ?_;refine zm [0,1,0,4,0,16,60,127,255] rfl ?_;refine zH ?_;refine dC (zq4 _ (c.t zt).2 (e.t zt).2 (by first|exact ⟨hx,a⟩|exact ⟨a,hx⟩)) ?_;rintro _ bo cg ⟨al,bz,av,rfl,a4⟩ e9 dp;refine dC (tC _ a4 true) ?_;rintro _ bp ch ⟨F,s,ad,N,rfl,a5⟩ ea dq;refine dS [kz F,jx s ad N] ?_;intro bq d2 cp;refine zq ?_;exact ⟨_,_,_,_,rfl,(a5.t zt).as (by have:=c.lt;have:=e.lt;unfold sgZ;(try simp only [if_true,if_false,AJ]);omega)⟩
theorem mulU (k:Nat){x:Int}{y:Int}(c:UI h n sx ax lx cx x)(e:UI h n sy ay ly cy y)(hx:x.natAbs<BX)(a:y.natAbs<BX):CX (cal (k+3)) 70 [.agg #[kz sx,jx ax lx cx],.agg #[kz sy,jx ay ly cy]] h n (UIV (x*y)):=by
 refine zu (fn:=Tryz.f70) R4 ?_;refine zG ?_;refine sB [kz sx,jx ax lx cx] ?_;intro V ar b2;refine sB [kz sy,jx ay ly cy] ?_;intro W au b3;refine sA ?_;intro Y av b4;refine zG ?_;refine zm [0,1,0,4,15,0,32,0,128,480,1023,2047] rfl ?_;refine zH ?_;cases sx
 ·refine zH ?_;cases sy
  ·refine zH ?_;refine dC (zis _ (c.t zt).2 (e.t zt).2 (by first|exact ⟨hx,a⟩|exact ⟨a,hx⟩)) ?_;rintro _ Z af ⟨M,ab,R,rfl,w⟩ bd b5;refine dC (tC _ w false) ?_;rintro _ a0 ag ⟨l,f,I,q,rfl,A⟩ be b6;refine dS [kz l,jx f I q] ?_;intro a1 aw an;refine zq ?_;exact ⟨_,_,_,_,rfl,(A.t zt).as (by have:=c.ge;have:=e.ge;exact tI (by simp<;>omega))⟩
  refine zH ?_;refine dC (zis _ (c.t zt).2 (e.t zt).2 (by first|exact ⟨hx,a⟩|exact ⟨a,hx⟩)) ?_;rintro _ a2 ah ⟨N,ac,S,rfl,B⟩ bf b7;refine dC (tC _ B true) ?_;rintro _ a3 ai ⟨m,g,J,s,rfl,C⟩ bg b8;refine dS [kz m,jx g J s] ?_;intro a4 az ao;refine zq ?_;exact ⟨_,_,_,_,rfl,(C.t zt).as (by have:=c.ge;have:=e.lt;exact tI (by simp<;>omega))⟩
 refine zH ?_;cases sy
 ·refine zH ?_;refine dC (zis _ (c.t zt).2 (e.t zt).2 (by first|exact ⟨hx,a⟩|exact ⟨a,hx⟩)) ?_;rintro _ a5 aj ⟨O,ad,T,rfl,D⟩ bh b9;refine dC (tC _ D true) ?_;rintro _ a6 ak ⟨o,i,K,u,rfl,F⟩ bi ba;refine dS [kz o,jx i K u] ?_;intro a7 b0 ap;refine zq ?_;exact ⟨_,_,_,_,rfl,(F.t zt).as (by have:=c.lt;have:=e.ge;exact tI (by simp<;>omega))⟩
 refine zH ?_;refine dC (zis _ (c.t zt).2 (e.t zt).2 (by first|exact ⟨hx,a⟩|exact ⟨a,hx⟩)) ?_;rintro _ a8 al ⟨P,ae,U,rfl,G⟩ bj bb;refine dC (tC _ G false) ?_;rintro _ a9 am ⟨p,j,L,v,rfl,H⟩ bk bc;refine dS [kz p,jx j L v] ?_;intro aa b1 aq;refine zq ?_;exact ⟨_,_,_,_,rfl,(H.t zt).as (by have:=c.lt;have:=e.lt;exact tI (by simp<;>omega))⟩
theorem denU (k:Nat){x:Rat}(H:UI h n sx ax lx cx x.num)(a:UI h n dx ex fx gx (denZ x)):CX (cal (k+3)) 72 [.agg #[kz sx,jx ax lx cx,kz dx,jx ex fx gx]] h n (UIV (x.den:Int)):=by
 refine zu (fn:=Tryz.f72) R4 ?_;refine zG ?_;refine sB [kz sx,jx ax lx cx,kz dx,jx ex fx gx] ?_;intro l w C;refine sA ?_;intro m y D;refine zG ?_;by_cases q13:(fx:Int)=0
 ·refine zG ?_;refine sC (zfh _ _ _) ?_;rintro _ o s ⟨f,c,j,g,rfl,i⟩ G F;refine sS [kz f,jx c j g] ?_;intro p A u;refine zq ?_;exact ⟨_,_,_,_,rfl,(i.t zt).as (by rw [yz.1 (B6.1 (a.2.zero.1 zo))];rfl)⟩
 refine zG ?_;refine sS [kz dx,jx ex fx gx] ?_;intro q B v;refine zq ?_;exact ⟨_,_,_,_,rfl,(a.t zt).as (wk (fun e=>q13 (by have:=a.2.zero;rw [e] at this;simp at this;omega)))⟩
theorem kN (x y:Rat):Av (x.num*(y.den:Int)+y.num*(x.den:Int)) ((x.den:Int)*(y.den:Int))=x+y:=by
 rw [Rat.add_def,Ev,←A6];rfl
theorem kM (x y:Rat):Av (x.num*y.num) ((x.den:Int)*(y.den:Int))=x*y:=by
 rw [Rat.mul_def,Ev,←A6];rfl
theorem zaf (x y:Rat):(x.den:Int)*(y.den:Int)≠0:=Int.mul_ne_zero (by have:=x.den_pos;omega) (by have:=y.den_pos;omega)
theorem zgg {x:Rat}{c:Nat}(h:x.den<2^c):(denZ x).natAbs<2^c:=by
 unfold denZ;split
 ·exact Nat.two_pow_pos c
 exact h
theorem zks (k:Nat){x:Rat}{y:Rat}(e:UI h n sx ax lx cx x.num)(g:UI h n dx ex fx gx (denZ x))(f:UI h n sy ay ly cy y.num)(i:UI h n dy ey fy gy (denZ y)){a c:Nat}(hx:x.num.natAbs<2^a∧x.den<2^c)(p:y.num.natAbs<2^b∧y.den<2^d)(h1:a+d+1≤3840)(h2:b+c+1≤3840)(h3:c+d≤32):CX (cal (k+6)) 32 [.agg #[kz sx,jx ax lx cx,kz dx,jx ex fx gx],.agg #[kz sy,jx ay ly cy,kz dy,jx ey fy gy]] h n (NQ (x+y)):=by
 obtain ⟨M,K⟩:x.num.natAbs<2^a∧(denZ x).natAbs<2^c:=⟨hx.1,zgg hx.2⟩;obtain ⟨P,N⟩:y.num.natAbs<2^b∧(denZ y).natAbs<2^d:=⟨p.1,zgg p.2⟩;have ah:=uZ M zo;have af:=uZ K zo;have ak:=uZ P zo;have ai:=uZ N zo;have cr:=x.den_pos;have cs:=y.den_pos;have L:((x.den:Int)).natAbs<2^c:=hx.2;have O:((y.den:Int)).natAbs<2^d:=p.2;have ag:=uZ L zo;have aj:=uZ O zo;refine zu (fn:=Tryz.f32) R4 ?_;refine zG ?_;refine sB [kz sx,jx ax lx cx,kz dx,jx ex fx gx] ?_;intro c2 e0 e6;refine sB [kz sy,jx ay ly cy,kz dy,jx ey fy gy] ?_;intro c3 e1 e7;refine sA ?_;intro c4 e2 e8;refine zG ?_;by_cases q14:(fx:Int)=0
 ·refine zG ?_;by_cases q15:(fy:Int)=0
  ·refine zG ?_;refine sC (addU _ (e.t zt) (f.t zt) szU szU) ?_;rintro _ c5 db ⟨l,j,o,m,rfl,R⟩ es e9;refine sT #[kz l,jx j o m,kz false,jx none 0 0] ?_;refine sS [kz l,jx j o m,kz false,jx none 0 0] ?_;intro c6 e3 dv;refine zq ?_;exact ⟨_,_,_,_,_,_,_,_,rfl,(R.t zt).as ((za2 (B6.1 (g.2.zero.1 zo)) (B6.1 (i.2.zero.1 zo))).1.symm),(UI.zero _ _).as ((za2 (B6.1 (g.2.zero.1 zo)) (B6.1 (i.2.zero.1 zo))).2.symm)⟩
  refine zG ?_;refine zm [0,1,0,4,15,0,32,0,159,511,1023,0,4095,0,16383,32767,65535,131071] rfl ?_;refine zH ?_;refine dC (denU _ (f.t zt) (i.t zt)) ?_;rintro _ c7 dc ⟨b5,al,ct,bl,rfl,S⟩ et ea;refine dC (mulU _ (e.t zt) S szU szU) ?_;rintro _ c8 dd ⟨b6,am,cu,bm,rfl,T⟩ eu eb;refine zH ?_;refine dC (denU _ (e.t zt) (g.t zt)) ?_;rintro _ c9 de ⟨b7,an,cv,bn,rfl,U⟩ ev ec;refine dC (mulU _ (f.t zt) U szU szU) ?_;rintro _ ca df ⟨b8,ao,cw,bo,rfl,V⟩ ew ed;refine dC (addU _ (T.t zt) V szU szU) ?_;rintro _ cb dg ⟨b9,ap,cz,bp,rfl,W⟩ ez ee;refine zH ?_;refine dC (denU _ (e.t zt) (g.t zt)) ?_;rintro _ cc dh ⟨ba,aq,d0,bq,rfl,Y⟩ f0 ef;refine zH ?_;refine dC (denU _ (f.t zt) (i.t zt)) ?_;rintro _ cd di ⟨bb,ar,d1,br,rfl,Z⟩ f1 eg;refine dC (mulU _ (Y.t zt) Z szU szU) ?_;rintro _ ce dj ⟨bc,au,d2,bs,rfl,a0⟩ f2 eh;refine dC (kH _ (W.t zt) a0 szU szD (zaf x y) (kN x y)) ?_;rintro _ cf dk ⟨u,q,ad,w,B,D,G,I,rfl,a1,ab⟩ f3 ei;refine dS [kz u,jx q ad w,kz B,jx D G I] ?_;intro cg e4 dw;refine zq ?_;exact ⟨_,_,_,_,_,_,_,_,rfl,(a1.t zt),(ab.t zt)⟩
 refine zG ?_;refine zm [0,1,0,4,15,0,32,0,159,511,1023,0,4095,0,16383,32767,65535,131071] rfl ?_;refine zH ?_;refine dC (denU _ (f.t zt) (i.t zt)) ?_;rintro _ ch dl ⟨bd,av,d3,bt,rfl,a2⟩ f4 ej;refine dC (mulU _ (e.t zt) a2 szU szU) ?_;rintro _ ci dm ⟨be,aw,d4,bu,rfl,a3⟩ f5 ek;refine zH ?_;refine dC (denU _ (e.t zt) (g.t zt)) ?_;rintro _ cj dn ⟨bf,az,d5,bv,rfl,a4⟩ f6 el;refine dC (mulU _ (f.t zt) a4 szU szU) ?_;rintro _ ck dp ⟨bg,b0,d6,bw,rfl,a5⟩ f7 em;refine dC (addU _ (a3.t zt) a5 szU szU) ?_;rintro _ cl dq ⟨bh,b1,d7,bx,rfl,a6⟩ f8 en;refine zH ?_;refine dC (denU _ (e.t zt) (g.t zt)) ?_;rintro _ cm dr ⟨bi,b2,d8,bz,rfl,a7⟩ f9 eo;refine zH ?_;refine dC (denU _ (f.t zt) (i.t zt)) ?_;rintro _ cn ds ⟨bj,b3,d9,c0,rfl,a8⟩ fa ep;refine dC (mulU _ (a7.t zt) a8 szU szU) ?_;rintro _ co dt ⟨bk,b4,da,c1,rfl,a9⟩ fb eq;refine dC (kH _ (a6.t zt) a9 szU szD (zaf x y) (kN x y)) ?_;rintro _ cp du ⟨v,s,ae,A,C,F,H,J,rfl,aa,ac⟩ fc er;refine dS [kz v,jx s ae A,kz C,jx F H J] ?_;intro cq e5 dz;refine zq ?_;exact ⟨_,_,_,_,_,_,_,_,rfl,(aa.t zt),(ac.t zt)⟩
theorem mb (k:Nat){x:Rat}{y:Rat}(f:UI h n sx ax lx cx x.num)(i:UI h n dx ex fx gx (denZ x))(g:UI h n sy ay ly cy y.num)(j:UI h n dy ey fy gy (denZ y)){a:Nat}(c:Sz a x)(e:Sz b y)(l:a+b+1≤32):CX (cal (k+6)) 32 [.agg #[kz sx,jx ax lx cx,kz dx,jx ex fx gx],.agg #[kz sy,jx ay ly cy,kz dy,jx ey fy gy]] h n (NQ (x+y)):=
 zks k f i g j ⟨c.1,c.2⟩ ⟨e.1,e.2⟩ zo zo zo
theorem iL (k:Nat){x:Rat}{y:Rat}(c:UI h n sx ax lx cx x.num)(f:UI h n dx ex fx gx (denZ x))(e:UI h n sy ay ly cy y.num)(g:UI h n dy ey fy gy (denZ y)){a:Nat}(hx:Sz a x)(o:Sz b y)(bl:a+b+1≤32):CX (cal (k+6)) 29 [.agg #[kz sx,jx ax lx cx,kz dx,jx ex fx gx],.agg #[kz sy,jx ay ly cy,kz dy,jx ey fy gy]] h n (NQ (x*y)):=by
 obtain ⟨L,J⟩:x.num.natAbs<2^a∧(denZ x).natAbs<2^a:=⟨hx.1,hx.z⟩;obtain ⟨O,M⟩:y.num.natAbs<2^b∧(denZ y).natAbs<2^b:=⟨o.1,o.z⟩;have a8:=uZ L zo;have a6:=uZ J zo;have ab:=uZ O zo;have a9:=uZ M zo;have bm:=x.den_pos;have bn:=y.den_pos;have K:((x.den:Int)).natAbs<2^a:=hx.2;have N:((y.den:Int)).natAbs<2^b:=o.2;have a7:=uZ K zo;have aa:=uZ N zo;refine zu (fn:=Tryz.f29) R4 ?_;refine zG ?_;refine sB [kz sx,jx ax lx cx,kz dx,jx ex fx gx] ?_;intro b4 cb ch;refine sB [kz sy,jx ay ly cy,kz dy,jx ey fy gy] ?_;intro b5 cc ci;refine sA ?_;intro b6 cd cj;refine zG ?_;by_cases q14:(fx:Int)=0
 ·refine zG ?_;by_cases q15:(fy:Int)=0
  ·refine zG ?_;refine sC (mulU _ (c.t zt) (e.t zt) szU szU) ?_;rintro _ b7 bw ⟨j,i,m,l,rfl,P⟩ cv ck;refine sT #[kz j,jx i m l,kz false,jx none 0 0] ?_;refine sS [kz j,jx i m l,kz false,jx none 0 0] ?_;intro b8 ce c8;refine zq ?_;exact ⟨_,_,_,_,_,_,_,_,rfl,(P.t zt).as ((bN (B6.1 (f.2.zero.1 zo)) (B6.1 (g.2.zero.1 zo))).1.symm),(UI.zero _ _).as ((bN (B6.1 (f.2.zero.1 zo)) (B6.1 (g.2.zero.1 zo))).2.symm)⟩
  refine zG ?_;refine zm [0,1,0,4,15,0,63,0,255,511,1023,2047] rfl ?_;refine zH ?_;refine dC (mulU _ (c.t zt) (e.t zt) szU szU) ?_;rintro _ b9 bx ⟨ak,ac,bo,au,rfl,R⟩ cw cl;refine zH ?_;refine dC (denU _ (c.t zt) (f.t zt)) ?_;rintro _ ba bz ⟨al,ad,bp,av,rfl,S⟩ cz cm;refine zH ?_;refine dC (denU _ (e.t zt) (g.t zt)) ?_;rintro _ bb c0 ⟨am,ae,bq,aw,rfl,T⟩ d0 cn;refine dC (mulU _ (S.t zt) T szU szU) ?_;rintro _ bc c1 ⟨an,af,br,az,rfl,U⟩ d1 co;refine dC (kH _ (R.t zt) U szU szD (zaf x y) (kM x y)) ?_;rintro _ bd c2 ⟨s,p,a4,v,A,C,F,H,rfl,V,a2⟩ d2 cp;refine dS [kz s,jx p a4 v,kz A,jx C F H] ?_;intro be cf c9;refine zq ?_;exact ⟨_,_,_,_,_,_,_,_,rfl,(V.t zt),(a2.t zt)⟩
 refine zG ?_;refine zm [0,1,0,4,15,0,63,0,255,511,1023,2047] rfl ?_;refine zH ?_;refine dC (mulU _ (c.t zt) (e.t zt) szU szU) ?_;rintro _ bf c3 ⟨ao,ag,bs,b0,rfl,W⟩ d3 cq;refine zH ?_;refine dC (denU _ (c.t zt) (f.t zt)) ?_;rintro _ bg c4 ⟨ap,ah,bt,b1,rfl,Y⟩ d4 cr;refine zH ?_;refine dC (denU _ (e.t zt) (g.t zt)) ?_;rintro _ bh c5 ⟨aq,ai,bu,b2,rfl,Z⟩ d5 cs;refine dC (mulU _ (Y.t zt) Z szU szU) ?_;rintro _ bi c6 ⟨ar,aj,bv,b3,rfl,a0⟩ d6 ct;refine dC (kH _ (W.t zt) a0 szU szD (zaf x y) (kM x y)) ?_;rintro _ bj c7 ⟨u,q,a5,w,B,D,G,I,rfl,a1,a3⟩ d7 cu;refine dS [kz u,jx q a5 w,kz B,jx D G I] ?_;intro bk cg ca;refine zq ?_;exact ⟨_,_,_,_,_,_,_,_,rfl,(a1.t zt),(a3.t zt)⟩
theorem zrl (k:Nat){x:Rat}(i:UI h n sx ax lx cx x.num)(j:UI h n dx ex fx gx (denZ x)):CX (cal (k+3)) 69 [.agg #[kz sx,jx ax lx cx,kz dx,jx ex fx gx]] h n (NQ (-x)):=by
 refine zu (fn:=Tryz.f69) R4 ?_;refine zG ?_;refine sB [kz sx,jx ax lx cx,kz dx,jx ex fx gx] ?_;intro l u y;refine sA ?_;intro m v A;refine zG ?_;refine zm [0,1,3,0,8,31,63] rfl ?_;refine zH ?_;refine dC (zrp _ (i.t zt)) ?_;rintro _ o q ⟨c,a,f,e,rfl,g⟩ C B;refine zH ?_;refine dT #[kz c,jx a f e,kz dx,jx ex fx gx] ?_;refine dS [kz c,jx a f e,kz dx,jx ex fx gx] ?_;intro p w s;refine zq ?_;exact ⟨_,_,_,_,_,_,_,_,rfl,(g.t zt).as ((Em x).symm),(j.t zt).as (by unfold denZ;rw [EY])⟩
theorem zko (k:Nat){x:Rat}{y:Rat}(A:UI h n sx ax lx cx x.num)(C:UI h n dx ex fx gx (denZ x))(B:UI h n sy ay ly cy y.num)(D:UI h n dy ey fy gy (denZ y)){a c:Nat}(hx:x.num.natAbs<2^a∧x.den<2^c)(w:y.num.natAbs<2^b∧y.den<2^d)(h1:a+d+1≤3840)(h2:b+c+1≤3840)(v:c+d≤32):CX (cal (k+7)) 28 [.agg #[kz sx,jx ax lx cx,kz dx,jx ex fx gx],.agg #[kz sy,jx ay ly cy,kz dy,jx ey fy gy]] h n (NQ (x-y)):=by
 refine zu (fn:=Tryz.f28) R4 ?_;refine zG ?_;refine sB [kz sx,jx ax lx cx,kz dx,jx ex fx gx] ?_;intro M Y a2;refine sB [kz sy,jx ay ly cy,kz dy,jx ey fy gy] ?_;intro N Z a3;refine sA ?_;intro O a0 a4;refine zG ?_;refine zm [0,0,2,7,15] rfl ?_;refine zH ?_;refine dC (zrl _ (B.t zt) (D.t zt)) ?_;rintro _ P U ⟨G,F,T,H,I,J,K,L,rfl,o,q⟩ a7 a5;refine dC (zks _ (A.t zt) (C.t zt) o q hx (by rw [Em,EY,AR];exact w) h1 h2 v) ?_;rintro _ R V ⟨f,e,u,g,i,j,l,m,rfl,p,s⟩ a8 a6;refine dS [kz f,jx e u g,kz i,jx j l m] ?_;intro S a1 W;refine zq ?_;exact ⟨_,_,_,_,_,_,_,_,rfl,(p.t zt).as (by rw [B5]),(s.t zt).as (by rw [B5])⟩
theorem zmf (k:Nat){x:Rat}{y:Rat}(f:UI h n sx ax lx cx x.num)(i:UI h n dx ex fx gx (denZ x))(g:UI h n sy ay ly cy y.num)(j:UI h n dy ey fy gy (denZ y)){a:Nat}(c:Sz a x)(e:Sz b y)(l:a+b+1≤32):CX (cal (k+7)) 28 [.agg #[kz sx,jx ax lx cx,kz dx,jx ex fx gx],.agg #[kz sy,jx ay ly cy,kz dy,jx ey fy gy]] h n (NQ (x-y)):=
 zko k f i g j ⟨c.1,c.2⟩ ⟨e.1,e.2⟩ zo zo zo
theorem zpg (k:Nat){x:Rat}{y:Rat}(l:UI h n sx ax lx cx x.num)(o:UI h n dx ex fx gx (denZ x))(m:UI h n sy ay ly cy y.num)(p:UI h n dy ey fy gy (denZ y)){a:Nat}(i:Sz a x)(j:Sz b y)(e:a+b+1≤32):VF (cal (k+8)) 38 [.agg #[kz sx,jx ax lx cx,kz dx,jx ex fx gx],.agg #[kz sy,jx ay ly cy,kz dy,jx ey fy gy]] h n fun v=>∃s:Int,v=jy .i64 s∧(s= -1∧x<y∨s=0∧x=y∨s=1∧y<x):=by
 refine zI (fn:=Tryz.f38) R4 ?_;refine zG ?_;refine sB [kz sx,jx ax lx cx,kz dx,jx ex fx gx] ?_;intro F M P;refine sB [kz sy,jx ay ly cy,kz dy,jx ey fy gy] ?_;intro G N R;refine zG ?_;refine sC (zmf _ (l.t zt) (o.t zt) (m.t zt) (p.t zt) i j e) ?_;rintro _ H K ⟨u,q,J,w,A,B,C,D,rfl,f,g⟩ U S;refine sC (jh _ f g) ?_;rintro _ I L ⟨O,rfl,c⟩ V T;rcases c with ⟨rfl,c⟩|⟨rfl,c⟩|⟨rfl,c⟩
 ·refine zf ?_;exact ⟨_,rfl,.inl ⟨rfl,(fw x y).1 c⟩⟩
 ·refine zf ?_;exact ⟨_,rfl,.inr (.inl ⟨rfl,(fw x y).2.1 c⟩)⟩
 refine zf ?_;exact ⟨_,rfl,.inr (.inr ⟨rfl,(fw x y).2.2 c⟩)⟩
theorem zmt (k:Nat)(h:HF)(n:Nat)(s:List UInt8)(hs:RdS s):CX (cal (k+7)) 35 [kF ⟨⟨s⟩⟩] h n (NQ (numOf s)):=by
 refine zu (fn:=Tryz.f35) R4 ?_;refine Zh ?_;intro v L U;refine zG ?_;refine sC (zkr _ _ _ s hs) ?_;rintro _ w G ⟨c,a,l,e,f,g,i,j,m,T,rfl,o,p,q,z12⟩ Z V;cases m
 ·refine Zh ?_;intro y M W;refine sS [kz c,jx a l e,kz f,jx g i j] ?_;intro A N H;refine zG ?_;refine sT #[kz false,jx none 0 0,kz false,jx none 0 0] ?_;refine sS [kz false,jx none 0 0,kz false,jx none 0 0] ?_;intro B O I;refine zq ?_;exact (vK (fun u=>by cases z12 u)).symm▸NQ.zero _ _
 refine Zh ?_;intro C P Y;refine sS [kz c,jx a l e,kz f,jx g i j] ?_;intro D R J;refine zG ?_;refine sS [kz c,jx a l e,kz f,jx g i j] ?_;intro F S K;refine zq ?_;exact (sW (q rfl)).symm▸⟨_,_,_,_,_,_,_,_,rfl,(o.t zt),(p.t zt)⟩
theorem numU (k:Nat)(h:HF)(n:Nat)(s:List UInt8)(a:gP s<11):CX (cal (k+7)) 35 [kF ⟨⟨s⟩⟩] h n (NQ (numOf s)):=zmt k h n s (RdS.of a)
end
section
variable {off:Nat}
structure At (h:HF)(b o:Nat)(c:List Value):Prop where
 ex:∃x cs,h b=some x∧x.cells=some cs∧o+gP c≤gP cs∧(cs.drop o).take (gP c)=c
theorem At.ext {h h':HF}{n o:Nat}(a:At h b o c)(x:Ext n h h')(u:b<3*n):At h' b o c:=by
 obtain ⟨y,cs,f,g,l,p⟩:=a.ex;exact ⟨y,cs,(x b u).trans f,g,l,p⟩
theorem At.ld {h:HF}{o:Nat}{c':List Value}{sz:Nat}(a:At h b o c)(k:Nat)(p:GL.isAgg env ty=some true)(A:env.inf ty=some (sz,bt,z))(hl:k+sz≤gP c)(u:(c.drop k).take sz=c'):yr env ty h ⟨b,o+k,none⟩=some (.agg c'.toArray):=by
 obtain ⟨y,cs,f,g,B,l⟩:=a.ex;refine zT ⟨p,A⟩ f g zo ?_;rw [←u,←l,Fw,DP,Cz];congr 1;omega
theorem At.ld1 {h:HF}{o:Nat}(a:At h b o c)(k:Nat)(p:GL.isAgg env ty=some false)(u:c[k]?=some v):yr env ty h ⟨b,o+k,none⟩=some v:=by
 obtain ⟨y,cs,f,g,A,l⟩:=a.ex;exact zX p f ⟨g,(wE l u)⟩
inductive Rec {D:Type} (sz:Nat) (P:List Value→D→Prop):List Value→List D→Prop
 |nil:Rec sz P [] []
 |cons {c cs:List Value} {d:D} {ds:List D} (hl:gP c=sz) (hp:P c d) (hr:Rec sz P cs ds):Rec sz P (c++cs) (d::ds)
section
variable {D:Type}{P P':List Value→D→Prop}
theorem Rec.len {ds:List D}(r:Rec sz P cs ds):gP cs=gP ds*sz:=by
 induction r with
 |nil=>simp
 |cons hl hp hr ih=>rw [nn,ih,hl,Au,BN];omega
theorem Rec.mono {ds:List D}(r:Rec sz P cs ds)(f:∀c d,P c d→P' c d):Rec sz P' cs ds:=by
 induction r with
 |nil=>exact .nil
 |cons hl hp hr ih=>exact .cons hl (f _ _ hp) ih
theorem Rec.snoc {ds:List D}{d:D}(r:Rec sz P cs ds)(hl:gP c=sz)(f:P c d):Rec sz P (cs++c) (ds++[d]):=by
 induction r with
 |nil=>
  have:=Rec.cons hl f (Rec.nil (P:=P) (sz:=sz));rw [A3] at this;exact this
 |cons hl2 hp2 hr ih=>rw [Aq];exact .cons hl2 hp2 ih
theorem Rec.get {ds:List D}{d:D}(r:Rec sz P cs ds):∀{j:Nat},ds[j]?=some d→∃c,gP c=sz∧P c d∧(cs.drop (j*sz)).take sz=c∧j*sz+sz≤gP cs:=by
 induction r with
 |nil=>intro j f;simp at f
 | @cons c cs d2 ds hl hp hr ih=>
  intro j f;cases j with
  |zero=>
   simp at f;subst f;refine ⟨c,hl,hp,?_,by rw [nn];omega⟩;rw [BE,AQ,←hl,List.take_left]
  |succ j=>
   rw [List.getElem?_cons_succ] at f;obtain ⟨g,l,p,u,A⟩:=ih f;refine ⟨g,l,p,?_,by rw [nn,BN];omega⟩;rw [←u,FX,Ca (by rw [hl,BN];omega),AN,BN,hl,Cv]
end
def RS {D:Type}(sz:Nat)(P:List Value→D→HF→Nat→Prop)(h:HF)(n:Nat)(v:Value)(l:List D):Prop:=∃cells,Sl h n sz v cells∧Rec sz (fun c d=>P c d h n) cells l
structure Stay {D:Type}(P:List Value→D→HF→Nat→Prop):Prop where
 go:∀c d h h' n n',P c d h n→Ext n h h'→n≤n'→P c d h' n'
section
variable {D:Type}{P:List Value→D→HF→Nat→Prop}{h h':HF}{n n':Nat}
theorem RS.ext' (A:Stay P){l:List D}(r:RS sz P h n v l)(x:Ext n h h')(g:n≤n'):RS sz P h' n' v l:=by
 obtain ⟨f,p,u⟩:=r;exact ⟨f,p.ext x g,u.mono fun c d B=>A.go c d _ _ _ _ B x g⟩
theorem RS.len' (g:0<sz){len:Nat}{l:List D}(r:RS sz P h n (jx a len cap) l):len=gP l:=by
 obtain ⟨p,u,A⟩:=r;obtain ⟨B,F,C,e,f⟩:=u.len;injection e with e1 e2 e3
 subst e2;rw [A.len] at f;exact (Nat.eq_of_mul_eq_mul_right g f).symm
theorem RS.at' (A:0<sz){len:Nat}{l:List D}{d:D}(r:RS sz P h n (jx a len cap) l)(u:l[j]?=some d):∃b off c,a=some ⟨b,off,none⟩∧b<3*n∧j<len∧At h b (off+j*sz) c∧gP c=sz∧P c d h n:=by
 have f:=r.len' A;obtain ⟨B,G,g⟩:=r;have M:=(oc.1 u).1;obtain ⟨b,off,x,cs,rfl,H,L,I,J,N,K⟩:=G.inv zo;obtain ⟨c,p,C,F,O⟩:=g.get u;refine ⟨b,off,c,rfl,H,zo,⟨x,cs,L,I,?_,?_⟩,p,C⟩
 ·have:=g.len;rw [←f] at this;omega
 rw [p,←F,←K,Fw,DP,Cz];have:=g.len;rw [←f] at this;congr 1;omega
end
theorem yD {h:HF}{n:Nat}{len:Nat}(r:Sl h n 1 (jx a len cap) (strs S))(l:S[j]?=some s):∃b off,a=some ⟨b,off,none⟩∧b<3*n∧j<len∧At h b (off+j*1) [kF ⟨⟨s⟩⟩]:=by
 have H:=(oc.1 l).1;have F:=xY r;obtain ⟨b,off,x,cs,rfl,u,G,A,B,I,C⟩:=r.inv zo;refine ⟨b,off,rfl,u,zo,⟨x,cs,G,A,by show off+j*1+1≤_;omega,?_⟩⟩;show (cs.drop (off+j*1)).take 1=_;have p:(strs S)[j]?=some (kF ⟨⟨s⟩⟩):=by rw [strs,sr,l];rfl
 have f:=wE C p;rw [AO];have g:off+j<gP cs:=zo;rw [List.drop_eq_getElem_cons g];rw [k4 g] at f;injection f with f
 rw [f];rfl
def ratP (c:List Value)(q:Rat)(h:HF)(n:Nat):Prop:=∃b a l k d e f g,c=[kz b,jx a l k,kz d,jx e f g]∧IW h n b a l k q.num∧IW h n d e f g (denZ q)
theorem ratP.stay:Stay ratP:=⟨fun _ _ _ _ _ _ ⟨b,a,l,k,d,e,f,g,u,i,j⟩ x p=>⟨b,a,l,k,d,e,f,g,u,i.ext x p,j.ext x p⟩⟩
def numP (c:List Value)(q:Rat)(h:HF)(n:Nat):Prop:=∃b a l k d e f g,c=[kz b,jx a l k,kz d,jx e f g]∧UI h n b a l k q.num∧UI h n d e f g (denZ q)
theorem numP.stay:Stay numP:=⟨fun _ _ _ _ _ _ ⟨b,a,l,k,d,e,f,g,u,i,j⟩ x p=>⟨b,a,l,k,d,e,f,g,u,i.ext x p,j.ext x p⟩⟩
def QS (h:HF)(n:Nat)(v:Value)(l:List Rat):Prop:=RS 4 ratP h n v l
def NS (h:HF)(n:Nat)(v:Value)(l:List Rat):Prop:=RS 4 numP h n v l
section
variable {h h':HF}{n n':Nat}
theorem QS.ext {l:List Rat}(r:QS h n v l)(x:Ext n h h')(f:n≤n'):QS h' n' v l:=RS.ext' ratP.stay r x f
theorem NS.ext {l:List Rat}(r:NS h n v l)(x:Ext n h h')(f:n≤n'):NS h' n' v l:=RS.ext' numP.stay r x f
theorem QS.len {len:Nat}{l:List Rat}(r:QS h n (jx a len cap) l):len=gP l:=RS.len' zd r
theorem NS.len {len:Nat}{l:List Rat}(r:NS h n (jx a len cap) l):len=gP l:=RS.len' zd r
theorem QS.at {len:Nat}{l:List Rat}(r:QS h n (jx a len cap) l)(H:l[j]?=some q):∃p off b u A k d e f g,a=some ⟨p,off,none⟩∧p<3*n∧j<len∧At h p (off+j*4) [kz b,jx u A k,kz d,jx e f g]∧IW h n b u A k q.num∧IW h n d e f g (denZ q):=by
 obtain ⟨p,off,c,B,C,F,G,_,b,u,A,k,d,e,f,g,rfl,i,j⟩:=RS.at' zd r H;exact ⟨p,off,b,u,A,k,d,e,f,g,B,C,F,G,i,j⟩
theorem NS.at {len:Nat}{l:List Rat}(r:NS h n (jx a len cap) l)(H:l[j]?=some q):∃p off b u A k d e f g,a=some ⟨p,off,none⟩∧p<3*n∧j<len∧At h p (off+j*4) [kz b,jx u A k,kz d,jx e f g]∧UI h n b u A k q.num∧UI h n d e f g (denZ q):=by
 obtain ⟨p,off,c,B,C,F,G,_,b,u,A,k,d,e,f,g,rfl,i,j⟩:=RS.at' zd r H;exact ⟨p,off,b,u,A,k,d,e,f,g,B,C,F,G,i,j⟩
end
section
variable {ops:List Oper}{h:HF}{n:Nat}{d:Tmp}
theorem zcz {x i:Operand}{len sz:Nat}(f:sh X ops t o d (o.op=.indexAddr ty x i∧X.E.und ty=some (.slice e)∧X.E.inf e=some (sz,bt,z)∧evF t x=jx aq len cap∧evF t i=jy ik (j:Int)∧aq=some ⟨b,off,none⟩))(G:j<len)(k:EO X ops r ⟨upd t d (kS (some ⟨b,off+j*sz,none⟩)),h,n,w⟩ Q):EO X ops (o::r) ⟨t,h,n,w⟩ Q:=by
 obtain ⟨f,l,A,B,C,p,F,u,g⟩:=f;subst g;exact wp ⟨f,l,A,B,C,p,F,u⟩ zo k
end
section
variable {ops:List Oper}{h:HF}{n:Nat}{ld:List (Nat×Nat)}{d:Tmp}
theorem zon {x:Operand}{len sz:Nat}(C:zi ops t o=true)(p:o.dst=some d)(B:zv X.nt (some d)=true)(f:o.op=.indexAddr ty x y)(hu:X.E.und ty=some (.slice e))(u:X.E.inf e=some (sz,bt,z))
  (F:evF t x=jx aq len cap)(A:evF t y=jy ik (j:Int))(l:aq=some ⟨b,off,none⟩)(G:j<len)(k:ED X ops r ms (i+1) ⟨⟨upd t d (kS (some ⟨b,off+j*sz,none⟩)),h,n,w⟩,al,ld,ef⟩ Q):ED X ops (o::r) (m::ms) i ⟨⟨t,h,n,w⟩,al,ld,ef⟩ Q:=by
 subst l;refine yy C p B (by rw [f];rfl) ?_ k;have g:(0:Int)≤(j:Int)∧(j:Int)<(len:Int):=zo;rw [f];show yF X.E ty (evF t x) (evF t y)=_;rw [F,A];simp only [yF,hu,u,eN g,wl,AP]
end
theorem QS.x {h h':HF}{n n':Nat}{l:List Rat}(r:QS h n v l)(t:Tx n h n' h'):QS h' n' v l:=r.ext t.2 t.1
theorem At.x {h h':HF}{n n' o:Nat}(a:At h b o c)(t:Tx n h n' h')(f:b<3*n):At h' b o c:=a.ext t.2 f
theorem At.lG {h:HF}{o sz:Nat}{r:List Value}(L:List Value)(a:At h b o c)(l:GL.isAgg env ty=some true)(p:env.inf ty=some (sz,bt,z))(f:c.drop k=L++r)(hl:L.length=sz)(u:0<L.length:=by exact Nat.succ_pos _):yr env ty h ⟨b,o+k,none⟩=some (.agg L.toArray):=by
 have g:=congrArg List.length f;rw [List.length_drop,List.length_append] at g;exact a.ld k l p zo (c':=L) (by rw [f,←hl,List.take_left])
theorem At.l2 {h:HF}{o:Nat}{r:List Value}(a:At h b o c)(f:GL.isAgg env ty=some true)(l:env.inf ty=some (2,bt,z))(g:c.drop k=x1::x2::r):yr env ty h ⟨b,o+k,none⟩=some (.agg #[x1,x2]):=a.lG [x1,x2] f l g rfl
theorem At.l3 {h:HF}{o:Nat}{r:List Value}(a:At h b o c)(f:GL.isAgg env ty=some true)(l:env.inf ty=some (3,bt,z))(g:c.drop k=x1::x2::x3::r):yr env ty h ⟨b,o+k,none⟩=some (.agg #[x1,x2,x3]):=a.lG [x1,x2,x3] f l g rfl
theorem At.l4 {h:HF}{o:Nat}{r:List Value}(a:At h b o c)(f:GL.isAgg env ty=some true)(l:env.inf ty=some (4,bt,z))(g:c.drop k=x1::x2::x3::x4::r):yr env ty h ⟨b,o+k,none⟩=some (.agg #[x1,x2,x3,x4]):=a.lG [x1,x2,x3,x4] f l g rfl
section
variable {ops:List Oper}{h:HF}{n:Nat}{d:Tmp}
theorem sI {f:Operand}{len sz:Nat}(g:aq=some ⟨b,off,none⟩)(l:j<len)(k:EO X ops r ⟨upd t d (.pointer (some ⟨b,off+j*sz,none⟩)),h,n,w⟩ Q)(p:zi ops t o=true:=by exact rfl)(hd:o.dst=some d:=by exact rfl)(hn:zv X.nt (some d)=true:=by exact rfl)(ho:o.op=.indexAddr ty x0 f:=by exact rfl)(hu:X.E.und ty=some (.slice e):=by exact rfl)(hi:X.E.inf e=some (sz,bt,z):=by exact rfl)(hx:evF t x0=.slice aq len cap:=by exact rfl)(hj:evF t f=.int ik (j:Int):=by exact rfl):EO X ops (o::r) ⟨t,h,n,w⟩ Q:=zcz ⟨p,hd,hn,ho,hu,hi,hx,hj,g⟩ l k
theorem sL {f:Nat}(a:At h0 b f c)(hb:b<3*n0)(g:Nat)(k:EO X ops r ⟨upd t d v,h,n,w⟩ Q)(l:zi ops t o=true:=by exact rfl)(hd:o.dst=some d:=by exact rfl)(hn:zv X.nt (some d)=true:=by exact rfl)(ho:o.op=.load ty x0:=by exact rfl)(hx:evF t x0=.pointer (some ⟨b,f+g,none⟩):=by exact rfl)(tx:Tx n0 h0 n h:=by exact zx)(hv:At h b f c→yr X.E ty h ⟨b,f+g,none⟩=some v:=by intro a;first|exact a.ld1 _ rfl rfl|exact a.l1 rfl rfl rfl|exact a.l2 rfl rfl rfl|exact a.l3 rfl rfl rfl|exact a.l4 rfl rfl rfl|exact a.l5 rfl rfl rfl|exact a.l10 rfl rfl rfl|exact a.l11 rfl rfl rfl):EO X ops (o::r) ⟨t,h,n,w⟩ Q:=zV ⟨l,hd,hn,ho,hx⟩ (hv (a.x tx hb)) k
end
section
variable {ops:List Oper}{h:HF}{n:Nat}{ld:List (Nat×Nat)}{d:Tmp}
theorem dI {f:Operand}{len sz:Nat}(g:aq=some ⟨b,off,none⟩)(l:j<len)(k:ED X ops r ms (i+1) ⟨⟨upd t d (.pointer (some ⟨b,off+j*sz,none⟩)),h,n,w⟩,al,ld,ef⟩ Q)(p:zi ops t o=true:=by exact rfl)(hd:o.dst=some d:=by exact rfl)(hn:zv X.nt (some d)=true:=by exact rfl)(ho:o.op=.indexAddr ty x0 f:=by exact rfl)(hu:X.E.und ty=some (.slice e):=by exact rfl)(hi:X.E.inf e=some (sz,bt,z):=by exact rfl)(hx:evF t x0=.slice aq len cap:=by exact rfl)(hj:evF t f=.int ik (j:Int):=by exact rfl):ED X ops (o::r) (m::ms) i ⟨⟨t,h,n,w⟩,al,ld,ef⟩ Q:=zon p hd hn ho hu hi hx hj g l k
theorem dL {A f:Nat}(a:At h0 b f c)(hb:b<3*n0)(l:Nat)(k:ED X ops r ms (i+1) ⟨⟨upd t d v,h,n,w⟩,al,(i,b)::ld,ef⟩ Q)(p:zi ops t o=true:=by exact rfl)(hd:o.dst=some d:=by exact rfl)(hn:zv X.nt (some d)=true:=by exact rfl)(ho:o.op=.load ty x0:=by exact rfl)(hx:evF t x0=.pointer (some ⟨b,f+l,none⟩):=by exact rfl){u:Nat}{g:HF}(hr:wQ m ef i h=(u,g):=by exact rfl)(tx:Tx n0 h0 A g:=by exact zx)(hv:At g b f c→yr X.E ty g ⟨b,f+l,none⟩=some v:=by intro a;first|exact a.ld1 _ rfl rfl|exact a.l1 rfl rfl rfl|exact a.l2 rfl rfl rfl|exact a.l3 rfl rfl rfl|exact a.l4 rfl rfl rfl|exact a.l5 rfl rfl rfl|exact a.l10 rfl rfl rfl|exact a.l11 rfl rfl rfl)(h1:wz u b ef=true:=by exact rfl)(h2:ov m b al=true:=by exact rfl):ED X ops (o::r) (m::ms) i ⟨⟨t,h,n,w⟩,al,ld,ef⟩ Q:=zZ ⟨p,hd,hn,ho,hx,hr⟩ (hv (a.x tx hb)) ⟨h1,h2⟩ k
end
end
section
variable {n:Nat}{h:HF}{U:List Nat}
set_option maxRecDepth 100000
end
theorem zl5 {E:Env}{a x:Value}(b:rC E ty a x h n=some (.val v h' n' W)):n'=n:=by
 unfold rC at b;split at b
 ·split at b
  ·split at b
   ·injection b with b;injection b with _ _ e _;exact e.symm
   cases b
  cases b
 cases b
theorem zdj {E:Env}{a x:Value}{r:RF}(b:rC E ty a x h n=some r):∃v h' n' W,r=.val v h' n' W:=by
 unfold rC at b;split at b
 ·split at b
  ·split at b
   ·injection b with b;subst b;exact ⟨_,_,_,_,rfl⟩
   cases b
  cases b
 cases b
section
variable {x:Operand}
section
variable {ops:List Oper}{h:HF}{n:Nat}{d:Tmp}
theorem rL {a b:List UInt8}(c:Bool)(e:sh X ops t o d (o.op=.binOp .eql ty x y ty'∧evF t x=kF ⟨⟨a⟩⟩∧evF t y=kF ⟨⟨b⟩⟩))(j:(a==b)=c)
  (k:EO X ops r ⟨upd t d (kz c),h,n,w⟩ Q):EO X ops (o::r) ⟨t,h,n,w⟩ Q:=by
 obtain ⟨e,g,i,f,l,m⟩:=e;refine zF ⟨e,g,i,(by rw [f];rfl),?_⟩ k;rw [f];show binE X.E .eql ty (evF t x) (evF t y)=_;rw [l,m,←j];rfl
theorem zl6 {a b:List UInt8}(c:Bool)(j:zi ops t o=true)(f:o.dst=some d)(g:zv X.nt (some d)=true)(e:o.op=.binOp .neq ty x y ty')(l:evF t x=kF ⟨⟨a⟩⟩)(m:evF t y=kF ⟨⟨b⟩⟩)(i:(!(a==b))=c)
  (k:EO X ops r ⟨upd t d (kz c),h,n,w⟩ Q):EO X ops (o::r) ⟨t,h,n,w⟩ Q:=by
 refine zF ⟨j,f,g,(by rw [e];rfl),?_⟩ k;rw [e];show binE X.E .neq ty (evF t x) (evF t y)=_;rw [l,m,←i];rfl
end
def VX (C:CalF)(f:FuncId)(args:List Value)(h:HF)(n:Nat)(P:Value→Prop):Prop:=CF C f args h n fun v h' n' w=>w=[]∧n≤n'∧Ext n h h'∧P v
theorem yW {P:Value→Prop}{e:Ex}{t:TF}{h:HF}{n:Nat}{a f:Tmp}{i:TypeId}(u:Value)(c:rz e=true∧fn.results.toList=[.cell a ty,.tmp f]∧t a=kS (some ⟨b,0,none⟩)∧t f=u∧GL.isAgg env ty=some true∧env.inf ty=some (sz,bt,z))(l:h' b=some (.row cs i))(hl:gP cs=sz)(q:n≤n')(C:Ext n h h')(A:P (.tuple #[.agg cs.toArray,u])):RetH fn (fun v h' n' w=>w=[]∧n≤n'∧Ext n h h'∧P v) e ⟨t,h',n',[]⟩:=by
 obtain ⟨c,B,j,g,m,p⟩:=c;refine retH [.agg cs.toArray,u] ⟨c,?_,rfl⟩ ⟨rfl,q,C,A⟩;rw [B];have D:=zT ⟨m,p⟩ l rfl (show 0+sz≤gP cs by omega) (show (cs.drop 0).take sz=cs by rw [AQ,Aa zo]);simp only [resF,j,g,D]
theorem ze9 (k:Nat)(h:HF)(n:Nat)(s:List UInt8):VF (cal (k+1)) 208 [kF ⟨⟨s⟩⟩,kF ⟨⟨[45]⟩⟩] h n fun v=>v=kz (zQ s):=by
 refine zI (fn:=Tryz.f208) R4 ?_;refine Zb ?_;cases s with
 |nil=>
  refine zM ?_;refine st_I (ik:=.i64) (a:=0) R5 ?_;refine zM ?_;refine st_I (ik:=.i64) (a:=1) R5 ?_;refine Za ?_;exact retF _ rfl (zk rfl) R2 rfl
 |cons x s=>
  refine zM ?_;refine st_I (ik:=.i64) (a:=(gP (x::s):Int)) R5 ?_;refine zM ?_;refine st_I (ik:=.i64) (a:=1) R5 ?_;refine kq R6 (by rw [Au];omega) ?_;refine Zg ?_;refine zM ?_;refine st_I (ik:=.i64) (a:=1) R5 ?_;refine sf (s:=x::s) (j:=1) R8 gN ?_;refine zM ?_;refine rL (a:=[x]) (b:=[45]) (x==45) R6 gN ?_;refine Za ?_;exact retF _ rfl (zk rfl) R2 (by show kz _=kz _;simp [zQ])
theorem zeo (h:zQ s=true):1≤gP s:=by
 unfold zQ at h;cases s with
 |nil=>simp at h
 |cons=>simp
theorem zce (k:Nat)(h:HF)(n:Nat)(s:List UInt8):VF (cal (k+2)) 177 [kF ⟨⟨s⟩⟩,kF ⟨⟨[45]⟩⟩] h n fun v=>v=.tuple #[kF ⟨⟨yK s⟩⟩,kz (zQ s)]:=by
 refine zI (fn:=Tryz.f177) R4 ?_;refine Zb ?_;refine Zg ?_;refine yk _ R5 (ze9 k h n s) ?_;rintro _ rfl;by_cases hm:zQ s=true
 ·rw [hm];refine Zd ?_;refine Zm ?_;refine st_I (ik:=.i64) (a:=1) R5 ?_;refine wS (s:=s) (j:=1) R8 (zeo hm) ?_;refine Za ?_;refine retF [kF ⟨⟨s.drop 1⟩⟩,kz true] rfl rfl R2 ?_;unfold yK;rw [eN hm];rfl
 rw [Es.2 hm];refine Zn ?_;refine retF [kF ⟨⟨s⟩⟩,kz false] rfl rfl R2 ?_;unfold yK;rw [cC hm];rfl
theorem zgp (k:Nat)(h:HF)(n:Nat)(s:List UInt8):VF (cal (k+3)) 147 [kF ⟨⟨s⟩⟩,kF ⟨⟨[45]⟩⟩] h n fun v=>v=.tuple #[kF ⟨⟨yK s⟩⟩,kz (zQ s)]:=by
 refine zI (fn:=Tryz.f147) R4 ?_;refine Zb ?_;refine Zg ?_;refine yk _ R5 (zce k h n s) ?_;rintro _ rfl;refine Za ?_;exact retF [kF ⟨⟨yK s⟩⟩,kz (zQ s)] rfl rfl R2 rfl
theorem zgo (s:List UInt8):∃T D,s.takeWhile dig=T∧s.dropWhile dig=D∧s=T++D∧(∀b∈T,dig b=true)∧(D=[]∨∃x D',D=x::D'∧dig x=false):=by
 refine ⟨_,_,rfl,rfl,List.takeWhile_append_dropWhile.symm,uK,?_⟩;cases hd:s.dropWhile dig with
 |nil=>exact .inl rfl
 |cons x D'=>exact .inr ⟨x,D',rfl,by
   have:=List.head?_dropWhile_not dig s;rw [hd] at this;simpa using this⟩
theorem pZ (k:Nat)(h:HF)(n:Nat)(s:List UInt8)(I:gP s<1000000):VF (cal (k+1)) 148 [kF ⟨⟨s⟩⟩] h n fun v=>v=.tuple #[kF ⟨⟨s.takeWhile dig⟩⟩,kF ⟨⟨s.dropWhile dig⟩⟩]:=by
 refine zI (fn:=Tryz.f148) R4 ?_;obtain ⟨T,D,A,u,f,p,B⟩:=zgo s;rw [A,u];clear A u;have i:gP s=gP T+gP D:=by rw [f,nn]
 refine Zx ?_;refine z9 (α:=Nat) (fun m=>[(0,kF ⟨⟨s⟩⟩),(4,jy .i64 (m:Int))]) (fun m h' n' w=>h=h'∧n=n'∧w=[]∧m≤gP T) (fun m=>gP T-m) 0 ⟨rfl,rfl,eP⟩ ⟨rfl,rfl,rfl,eU⟩ (by show gP T-0<LL;unfold LL;omega) ?_;rintro m t _ _ _ ⟨rfl,rfl,rfl,H⟩;refine Zm ?_;refine st_I (ik:=.i64) (a:=(gP s:Int)) R5 ?_;have F:∀t':TF,t' 0=kF ⟨⟨s⟩⟩→m=gP T→True:=fun _ _ _=>trivial;by_cases hmT:m=gP T
 ·have e:s.take m=T:=by rw [f,hmT,List.take_left' rfl]
  have c:s.drop m=D:=by rw [f,hmT,CY rfl]
  rcases B with rfl|⟨x,q,rfl,l⟩
  ·rw [DE] at i;refine Zj ?_;rw [xV rfl];refine Zg ?_;refine sf (s:=s) (j:=m) R8 zo ?_;refine Zg ?_;refine wS (s:=s) (j:=m) R8 zo ?_;rw [e,c];refine Za ?_;exact retF [kF ⟨⟨T⟩⟩,kF ⟨⟨[]⟩⟩] rfl rfl R2 rfl
  rw [Au] at i;have g:s[m]?=some x:=by rw [f,hmT,AE eT,A7];rfl
  have G:¬(48≤x.toNat∧x.toNat≤57):=fun h=>by rw [mL.2 h] at l;cases l
  refine pI R6 zo ?_;refine Zg ?_;refine zM ?_;refine yp (j:=m) R8 g ?_;by_cases C:48≤x.toNat
  ·refine pJ R6 zo ?_;repeat refine zR ?_
   refine yp (j:=m) R8 g ?_;refine Zj ?_;rw [xV rfl];refine Zg ?_;refine sf (s:=s) (j:=m) R8 zo ?_;refine Zg ?_;refine wS (s:=s) (j:=m) R8 zo ?_;rw [e,c];refine Za ?_;exact retF [kF ⟨⟨T⟩⟩,kF ⟨⟨x::q⟩⟩] rfl rfl R2 rfl
  refine nJ R6 zo ?_;refine Zj ?_;rw [xV rfl];refine Zg ?_;refine sf (s:=s) (j:=m) R8 zo ?_;refine Zg ?_;refine wS (s:=s) (j:=m) R8 zo ?_;rw [e,c];refine Za ?_;exact retF [kF ⟨⟨T⟩⟩,kF ⟨⟨x::q⟩⟩] rfl rfl R2 rfl
 obtain ⟨x,l⟩:∃x,T[m]?=some x:=⟨T[m]'zo,k4 zo⟩;have g:s[m]?=some x:=by rw [f,AZ zo];exact l
 have C:=mL.1 (p x (ns l));refine pI R6 zo ?_;refine Zg ?_;refine zM ?_;refine yp (j:=m) R8 g ?_;refine pJ R6 zo ?_;repeat refine zR ?_
 refine yp (j:=m) R8 g ?_;refine Zn ?_;exact goOn (m+1) (by show gP T-(m+1)<gP T-m;omega) ⟨rfl,rfl,eP⟩ ⟨rfl,rfl,rfl,by show m+1≤_;omega⟩
def spP (mi:Bool)(m r:List UInt8):List UInt8×List UInt8×Bool:=
 if m=[48] then (m,[],!mi&&r.isEmpty)
 else if m=[]∨m.head?=some 48 then (m,[],false)
 else if r=[] then (m,[],true)
 else if r.head?≠some 47 then (m,[],false)
 else (m,(r.drop 1).takeWhile dig,((r.drop 1).dropWhile dig).isEmpty&& !((r.drop 1).takeWhile dig).isEmpty&&((r.drop 1).takeWhile dig).head? != some 48&&(r.drop 1).takeWhile dig != [49])
theorem zma (s:List UInt8):spl s=spP (zQ s) ((yK s).takeWhile dig) ((yK s).dropWhile dig):=rfl
theorem eF {x:UInt8}{l:List UInt8}{c:UInt8}(h:x.toNat≠c.toNat):(x::l).head?≠some c:=fun e=>h (by
 have:x=c:=by simpa using e
 rw [this])
theorem bc (k:Nat)(h:HF)(n:Nat)(s:List UInt8)(L:gP s<1000000):VX (cal (k+4)) 115 [kF ⟨⟨s⟩⟩] h n fun v=>v=.tuple #[.agg #[kz (zQ s),kF ⟨⟨(spl s).1⟩⟩,kF ⟨⟨(spl s).2.1⟩⟩],kz (spl s).2.2]:=by
 refine zu (fn:=Tryz.f115) R4 ?_;rw [zma];have G:=kR s;refine zN ?_;refine yd R5 ?_;refine Za ?_;refine yd R5 ?_;refine zN ?_;generalize hh:upd (upd h (3*n+2) _) (3*(n+1)+2) _=h1;have a:∃e,h1 (3*n+2)=some (.row [kz false,kF ⟨⟨[]⟩⟩,kF ⟨⟨[]⟩⟩] e):=⟨_,by rw [←hh,zj zo,zh];rfl⟩;have g:∃e,h1 (3*(n+1)+2)=some (.row [kz false,kF ⟨⟨[]⟩⟩,kF ⟨⟨[]⟩⟩] e):=⟨_,by rw [←hh,zh];rfl⟩;obtain ⟨C,a⟩:=a;obtain ⟨F,g⟩:=g;have i:Ext n h h1:=fun b f=>by rw [←hh,zj zo,zj zo]
 clear hh;refine zM ?_;refine yk _ R5 (zgp k h1 (n+1+1) s) ?_;rintro _ rfl;generalize yK s=B at G ⊢;generalize zQ s=mi;refine Zk ?_;refine y0 (cs:=[kz mi]) R8 g zb (by show 3*n≤3*(n+1)+2;omega) ?_;refine zN ?_;generalize hh:upd h1 (3*(n+1)+2) _=h2;replace a:h2 (3*n+2)=some (.row [kz false,kF ⟨⟨[]⟩⟩,kF ⟨⟨[]⟩⟩] C):=by rw [←hh,zj zo];exact a
 replace g:h2 (3*(n+1)+2)=some (.row [kz mi,kF ⟨⟨[]⟩⟩,kF ⟨⟨[]⟩⟩] F):=by rw [←hh,zh];rfl
 replace i:Ext n h h2:=fun b f=>by rw [←hh,zj zo,i b f]
 clear hh;refine zM ?_;refine yk _ R5 (pZ (k+2) h2 (n+1+1) B zo) ?_;rintro _ rfl;have A:gP (B.dropWhile dig)≤gP B:=(List.dropWhile_sublist dig).length_le;generalize B.takeWhile dig=M;generalize B.dropWhile dig=R at A ⊢;repeat refine zR ?_
 refine y0 (cs:=[kF ⟨⟨M⟩⟩]) R8 g zb (by show 3*n≤3*(n+1)+2;omega) ?_;generalize hh:upd h2 (3*(n+1)+2) _=h3;replace a:h3 (3*n+2)=some (.row [kz false,kF ⟨⟨[]⟩⟩,kF ⟨⟨[]⟩⟩] C):=by rw [←hh,zj zo];exact a
 replace g:h3 (3*(n+1)+2)=some (.row [kz mi,kF ⟨⟨M⟩⟩,kF ⟨⟨[]⟩⟩] F):=by rw [←hh,zh];rfl
 replace i:Ext n h h3:=fun b f=>by rw [←hh,zj zo,i b f]
 clear hh;refine Zk ?_;refine zl R6 g (v:=kF ⟨⟨M⟩⟩) R2 ?_;have m:yr env 171 h3 ⟨3*(n+1)+2,0,none⟩=some (.agg #[kz mi,kF ⟨⟨M⟩⟩,kF ⟨⟨[]⟩⟩]):=zT R2 g rfl zb rfl;by_cases h48:M=[48]
 ·refine rL true R6 (by rw [h48];rfl) ?_;refine Zp ?_;refine zV (v:=.agg #[kz mi,kF ⟨⟨M⟩⟩,kF ⟨⟨[]⟩⟩]) R5 m ?_;cases mi with
  |true=>
   repeat refine zR ?_
   refine zK [kz true,kF ⟨⟨M⟩⟩,kF ⟨⟨[]⟩⟩] R7 rfl a rfl (by show 3*n≤3*n+2;omega) ?_;refine Za ?_;refine yW (kz false) R6 (zh _ _ _) rfl zo (fun b f=>(zj zo).trans (i b f)) ?_;rw [show spP true M R=(M,[],false) from by unfold spP;rw [eN h48];rfl]
  |false=>
   cases R with
   |nil=>
    repeat refine zR ?_
    refine zK [kz false,kF ⟨⟨M⟩⟩,kF ⟨⟨[]⟩⟩] R7 rfl a rfl (by show 3*n≤3*n+2;omega) ?_;refine Za ?_;refine yW (kz true) R6 (zh _ _ _) rfl zo (fun b f=>(zj zo).trans (i b f)) ?_;rw [show spP false M []=(M,[],true) from by unfold spP;rw [eN h48];rfl]
   |cons z R=>
    repeat refine zR ?_
    refine zK [kz false,kF ⟨⟨M⟩⟩,kF ⟨⟨[]⟩⟩] R7 rfl a rfl (by show 3*n≤3*n+2;omega) ?_;refine Za ?_;refine yW (kz false) R6 (zh _ _ _) rfl zo (fun b f=>(zj zo).trans (i b f)) ?_;rw [show spP false M (z::R)=(M,[],false) from by unfold spP;rw [eN h48];rfl]
 refine rL false R6 (by simpa using h48) ?_;refine Zw ?_;refine zl R6 g (v:=kF ⟨⟨M⟩⟩) R2 ?_;have K:∀t':TF,spP mi M R=(M,[],false)→True:=fun _ _=>trivial;cases M with
 |nil=>
  refine Zp ?_;refine zV (v:=.agg #[kz mi,kF ⟨⟨[]⟩⟩,kF ⟨⟨[]⟩⟩]) R5 m ?_;refine zK [kz mi,kF ⟨⟨[]⟩⟩,kF ⟨⟨[]⟩⟩] R7 rfl a rfl (by show 3*n≤3*n+2;omega) ?_;refine Za ?_;refine yW (kz false) R6 (zh _ _ _) rfl zo (fun b f=>(zj zo).trans (i b f)) ?_;rw [show spP mi [] R=([],[],false) from by unfold spP;rw [cC h48,eN (.inl rfl)]]
 |cons y M=>
 repeat refine zR ?_
 refine zl R6 g (v:=kF ⟨⟨y::M⟩⟩) R2 ?_;refine yp (s:=y::M) (j:=0) R8 rfl ?_;by_cases hy:y.toNat=48
 ·have I:y=48:=C0.1 hy;refine Zp ?_;refine zV (v:=.agg #[kz mi,kF ⟨⟨y::M⟩⟩,kF ⟨⟨[]⟩⟩]) R5 m ?_;refine zK [kz mi,kF ⟨⟨y::M⟩⟩,kF ⟨⟨[]⟩⟩] R7 rfl a rfl (by show 3*n≤3*n+2;omega) ?_;refine Za ?_;refine yW (kz false) R6 (zh _ _ _) rfl zo (fun b f=>(zj zo).trans (i b f)) ?_;rw [show spP mi (y::M) R=(y::M,[],false) from by unfold spP;rw [cC h48,eN (.inr (by rw [I];rfl))]]
 have q:¬(y::M=[]∨(y::M).head?=some 48):=by
  rintro (h|h)
  ·cases h
  exact eF (c:=48) hy h
 refine Zj ?_;cases R with
 |nil=>
  refine Zp ?_;refine zV (v:=.agg #[kz mi,kF ⟨⟨y::M⟩⟩,kF ⟨⟨[]⟩⟩]) R5 m ?_;refine zK [kz mi,kF ⟨⟨y::M⟩⟩,kF ⟨⟨[]⟩⟩] R7 rfl a rfl (by show 3*n≤3*n+2;omega) ?_;refine Za ?_;refine yW (kz true) R6 (zh _ _ _) rfl zo (fun b f=>(zj zo).trans (i b f)) ?_;rw [show spP mi (y::M) []=(y::M,[],true) from by unfold spP;rw [cC h48,cC q,eN rfl]]
 |cons z R=>
 refine ZB ?_;refine yp (s:=z::R) (j:=0) R8 rfl ?_;by_cases hz:z.toNat=47;case neg=>
  refine Zp ?_;refine zV (v:=.agg #[kz mi,kF ⟨⟨y::M⟩⟩,kF ⟨⟨[]⟩⟩]) R5 m ?_;refine zK [kz mi,kF ⟨⟨y::M⟩⟩,kF ⟨⟨[]⟩⟩] R7 rfl a rfl (by show 3*n≤3*n+2;omega) ?_;refine Za ?_;refine yW (kz false) R6 (zh _ _ _) rfl zo (fun b f=>(zj zo).trans (i b f)) ?_;rw [show spP mi (y::M) (z::R)=(y::M,[],false) from by unfold spP;rw [cC h48,cC q,cC gN,eN (eF (c:=47) hz)]]
 have H:spP mi (y::M) (z::R)=(y::M,R.takeWhile dig,(R.dropWhile dig).isEmpty&& !(R.takeWhile dig).isEmpty&&(R.takeWhile dig).head? != some 48&&R.takeWhile dig != [49]):=by
  have J:z=47:=C0.1 hz;unfold spP;rw [cC h48,cC q,cC gN,cC (by rw [J];simp)];rfl
 rw [H];rw [Au] at A;refine ZB ?_;refine wS (s:=z::R) (j:=1) R8 gN ?_;rw [show (z::R).drop 1=R from rfl];refine yk _ R5 (pZ (k+2) h3 (n+1+1) R zo) ?_;rintro _ rfl;generalize R.takeWhile dig=D;generalize R.dropWhile dig=E;repeat refine zR ?_
 refine y0 (cs:=[kF ⟨⟨D⟩⟩]) R8 g zb (by show 3*n≤3*(n+1)+2;omega) ?_;generalize hh:upd h3 (3*(n+1)+2) _=h4;replace a:h4 (3*n+2)=some (.row [kz false,kF ⟨⟨[]⟩⟩,kF ⟨⟨[]⟩⟩] C):=by rw [←hh,zj zo];exact a
 replace g:h4 (3*(n+1)+2)=some (.row [kz mi,kF ⟨⟨y::M⟩⟩,kF ⟨⟨D⟩⟩] F):=by rw [←hh,zh];rfl
 replace i:Ext n h h4:=fun b f=>by rw [←hh,zj zo,i b f]
 clear hh m;refine Za ?_;refine zm [0,0,2,6,14,30,62,126,254,510,1022,2046,4094,8190,16382,32766,65534,131070,262142,32767,1048575] rfl ?_;refine zZ (v:=.agg #[kz mi,kF ⟨⟨y::M⟩⟩,kF ⟨⟨D⟩⟩]) R6 (zT R2 g rfl zb rfl) R2 ?_;cases E with
 |cons x E=>
  repeat (first|refine zZ R6 (zX rfl g R2) R2 ?_|refine zD ?_)
  refine xn (cs:=[kz mi,kF ⟨⟨y::M⟩⟩,kF ⟨⟨D⟩⟩]) R7 rfl a zb (by show 3*n≤3*n+2;omega) R3 ?_;refine Zs ?_;exact yW (kz false) (cs:=[kz mi,kF ⟨⟨y::M⟩⟩,kF ⟨⟨D⟩⟩]) R6 (zh _ _ _) rfl zo (fun b f=>(zj zo).trans (i b f)) rfl
 |nil=>
 cases D with
 |nil=>
  repeat (first|refine zZ R6 (zX rfl g R2) R2 ?_|refine zD ?_)
  refine xn (cs:=[kz mi,kF ⟨⟨y::M⟩⟩,kF ⟨⟨[]⟩⟩]) R7 rfl a zb (by show 3*n≤3*n+2;omega) R3 ?_;refine Zs ?_;exact yW (kz false) (cs:=[kz mi,kF ⟨⟨y::M⟩⟩,kF ⟨⟨[]⟩⟩]) R6 (zh _ _ _) rfl zo (fun b f=>(zj zo).trans (i b f)) rfl
 |cons u D=>
 by_cases hu:u.toNat=48
 ·have p:u=48:=C0.1 hu;repeat (first|refine zZ R6 (zX rfl g R2) R2 ?_|refine zD ?_)
  refine xn (cs:=[kz mi,kF ⟨⟨y::M⟩⟩,kF ⟨⟨u::D⟩⟩]) R7 rfl a zb (by show 3*n≤3*n+2;omega) R3 ?_;refine Zs ?_;refine yW (kz false) (cs:=[kz mi,kF ⟨⟨y::M⟩⟩,kF ⟨⟨u::D⟩⟩]) R6 (zh _ _ _) rfl zo (fun b f=>(zj zo).trans (i b f)) ?_;rw [p];rfl
 have p:((u::D).head? != some 48)=true:=by
  have:=eF (l:=D) (c:=48) hu;simpa using this
 repeat (first|refine zZ R6 (zX rfl g R2) R2 ?_|refine zD ?_)
 refine xn (cs:=[kz mi,kF ⟨⟨y::M⟩⟩,kF ⟨⟨u::D⟩⟩]) R7 rfl a zb (by show 3*n≤3*n+2;omega) ⟨rfl,rfl,(fZ (by intro x i;simp at i;rcases i with rfl|rfl|rfl|rfl<;>show 3*(n+1)+2≠3*n+2<;>omega))⟩ ?_;refine Zs ?_;refine yW (kz (u::D != [49])) (cs:=[kz mi,kF ⟨⟨y::M⟩⟩,kF ⟨⟨u::D⟩⟩]) R6 (zh _ _ _) rfl zo (fun b f=>(zj zo).trans (i b f)) ?_;rw [p];rfl
end
def dotR:List Rat→List Rat→Rat
 |x::xs,y::ys=>x*y+dotR xs ys
 |_,_=>0
theorem yZ {α:Type}{l:List α}{j:Nat}{d:α}(h:l[j]?=some d):l.take (j+1)=l.take j++[d]:=by
 rw [List.take_add_one,h];rfl
theorem zo1 (k:Nat)(h:HF)(n:Nat)(s:List UInt8)(e:gP s<1000000):CX (cal (k+4)) 115 [kF ⟨⟨s⟩⟩] h n fun v _ _=>∃neg m d ok,v=.tuple #[.agg #[kz neg,kF ⟨⟨m⟩⟩,kF ⟨⟨d⟩⟩],kz ok]∧neg=zQ s∧spl s=(m,d,ok):=by
 refine yg (bc k h n s e) ?_;rintro v f g w ⟨a,b,c,rfl⟩;exact ⟨a,b,c,_,_,_,_,rfl,rfl,rfl⟩
theorem zd7 (k:Nat)(h:HF)(n:Nat)(j:AllD s)(hl:gP s≤19):CX (cal (k+6)) 116 [kF ⟨⟨s⟩⟩] h n (IV ((dval s:Nat):Int)):=by
 refine yg (zd8 k h n j hl) ?_;rintro v m o w ⟨a,l,c,L,rfl,⟨b,d,e,f,g⟩,i⟩;refine ⟨b,d,e,_,_,_,_,rfl,?_,L,f,g,?_⟩
 ·rw [aD];omega
 rw [i];omega
theorem Frm.len {m d:List UInt8}(h:Frm s m d):gP m≤gP s∧gP d≤gP s:=by
 have:=congrArg gP h.eq;simp only [nn] at this;refine ⟨zo,?_⟩;by_cases hd:d=[]
 ·subst hd;exact Du _
 rw [cC hd,Au] at this;omega
theorem jB {m:List UInt8}(h:AllD m)(hl:gP m≤19):((dval m:Nat):Int).natAbs<BW:=by
 rw [sa];refine tv (vu h) (Ap (Ac zd hl) ?_);unfold BW;decide+kernel
theorem zdo {m d:List UInt8}(h:spl s=(m,d,false)):¬xy s:=by
 rw [qF,h];rintro ⟨a,_⟩;cases a
theorem uw {m d:List UInt8}(h:spl s=(m,d,true))(c:d=[]):xy s∧(numOf s).num=(if zQ s then -(dval m:Int) else dval m)∧denZ (numOf s)=0:=by
 obtain ⟨q,a,e,b⟩:=(qY h).rat (.inl c);rw [sW a];rw [eN c] at b;exact ⟨⟨q,a⟩,e,yz.2 b⟩
theorem sU {m d:List UInt8}(h:spl s=(m,d,true))(c:¬d=[])(l:sN (dval m) (dval d)=1):xy s∧(numOf s).num=(if zQ s then -(dval m:Int) else dval m)∧denZ (numOf s)=((dval d:Nat):Int):=by
 have f:=qY h;obtain ⟨q,g,i,a⟩:=f.rat (.inr l);rw [sW g];rw [cC c] at a;refine ⟨⟨q,g⟩,i,?_⟩;rw [←a];refine wk (mt yz.1 fun e=>?_);rcases f.den with b|⟨b,j⟩
 ·exact c b
 have:=pr f.dd c b;rw [←a,e,zai] at this;exact j this.symm
theorem pj {m d:List UInt8}(h:spl s=(m,d,true))(b:¬d=[])(c:¬sN (dval m) (dval d)=1):¬xy s:=by
 rw [qF,h];rintro ⟨_,a|a⟩
 ·exact b a
 exact c a
section
variable {h:HF}{n:Nat}
def TL (s:List UInt8):Prop:=gP s<1000000∧∀m d,spl s=(m,d,true)→gP m≤19∧gP d≤19
theorem TL.of (h:gP s<20):TL s:=⟨zo,fun m d e=>by have:=(qY e).len;omega⟩
theorem zpe (k:Nat)(g:GG h n)(hs:TL s):CX (cal (k+9)) 125 [kF ⟨⟨s⟩⟩] h n fun v h' n'=>∃b a l c d e f g ok,v=.tuple #[.agg #[kz b,jx a l c,kz d,jx e f g],kz ok]∧IW h' n' b a l c (numOf s).num∧IW h' n' d e f g (denZ (numOf s))∧(ok=true↔xy s):=by
 refine zu (fn:=Tryz.f125) R4 ?_;refine Zh ?_;intro ab bq c8;refine zG ?_;refine sC (zo1 _ _ _ s hs.1) ?_;rintro _ ac b5 ⟨q,U,F,Z,rfl,z12,i⟩ cl c9;cases Z
 ·refine Zh ?_;intro ad br ca;refine sS [kz q,kF ⟨⟨U⟩⟩,kF ⟨⟨F⟩⟩] ?_;intro ae bs bd;refine zG ?_;refine sT #[kz false,jx none 0 0,kz false,jx none 0 0] ?_;refine sS [kz false,jx none 0 0,kz false,jx none 0 0] ?_;intro af bt be;refine zq ?_;exact ⟨_,_,_,_,_,_,_,_,_,rfl,(IW.zero _ _).as (by rw [vK (zdo i)];rfl),(IW.zero _ _).as (by rw [vK (zdo i)];rfl),⟨fun m=>(by cases m),fun m=>cA m (zdo i)⟩⟩
 have j:=qY i;have a2:=hs.2 _ _ i;refine Zh ?_;intro ag bu cb;refine sS [kz q,kF ⟨⟨U⟩⟩,kF ⟨⟨F⟩⟩] ?_;intro ah bv bf;refine zG ?_;refine sC (zd7 _ _ _ j.dm zo) ?_;rintro _ ai V ⟨w,u,A,y,rfl,G⟩ cm cc;refine sT #[kz w,jx u A y,kz false,jx none 0 0] ?_;refine sA ?_;intro aj bw cd;refine sS [kz w,jx u A y,kz false,jx none 0 0] ?_;intro ak bx bg;refine zG ?_;cases q
 ·refine zG ?_;by_cases q21:F=[]
  ·refine rL true R6 (by simp [q21]) ?_;refine zG ?_;refine sS [kz w,jx u A y,kz false,jx none 0 0] ?_;intro al bz bh;refine zq ?_;exact ⟨_,_,_,_,_,_,_,_,_,rfl,(G.t zt).as (by rw [(uw i q21).2.1,←z12];rfl),(IW.zero _ _).as (uw i q21).2.2.symm,⟨fun _=>(uw i q21).1,fun _=>rfl⟩⟩
  refine rL false R6 (by simp [q21]) ?_;refine zG ?_;refine sC (zd7 _ _ _ j.dd zo) ?_;rintro _ am b6 ⟨L,J,S,N,rfl,P⟩ cn ce;refine zG ?_;refine sS (b:=3*V+2) (off:=2) [kz w,jx u A y,kz L,jx J S N] ?_;intro an c0 bi;refine zG ?_;refine sC (gcdX _ (g.x zx) (G.t zt) (P.t zt) (jB j.dm zo) (jB j.dd zo)) ?_;rintro _ ao b7 ⟨a5,a3,b3,a9,rfl,a0⟩ co cf;refine sC (rG _ a0) ?_;rintro _ ap b8 ⟨a6,rfl,W⟩ cp cg;rcases bvs W with ⟨rfl,o⟩|⟨rfl,o⟩
  ·refine zG ?_;refine sT #[kz false,jx none 0 0,kz false,jx none 0 0] ?_;refine sS [kz false,jx none 0 0,kz false,jx none 0 0] ?_;intro aq c1 bj;refine zq ?_;exact ⟨_,_,_,_,_,_,_,_,_,rfl,(IW.zero _ _).as (by rw [vK (pj i q21 (by have:=o;simp only [AR,sa] at this;omega))];rfl),(IW.zero _ _).as (by rw [vK (pj i q21 (by have:=o;simp only [AR,sa] at this;omega))];rfl),⟨fun m=>(by cases m),fun m=>cA m (pj i q21 (by have:=o;simp only [AR,sa] at this;omega))⟩⟩
  refine zG ?_;refine sS [kz w,jx u A y,kz L,jx J S N] ?_;intro ar c2 bk;refine zq ?_;exact ⟨_,_,_,_,_,_,_,_,_,rfl,(G.t zt).as (by rw [(sU i q21 (by have:=o;simp only [AR,sa] at this;omega)).2.1,←z12];rfl),(P.t zt).as (sU i q21 (by have:=o;simp only [AR,sa] at this;omega)).2.2.symm,⟨fun _=>(sU i q21 (by have:=o;simp only [AR,sa] at this;omega)).1,fun _=>rfl⟩⟩
 refine zG ?_;refine sC (negX _ (G.t zt)) ?_;rintro _ au b9 ⟨C,B,H,D,rfl,I⟩ cq ch;refine zG ?_;refine sS [kz C,jx B H D,kz false,jx none 0 0] ?_;intro av c3 bl;refine zG ?_;by_cases q31:F=[]
 ·refine rL true R6 (by simp [q31]) ?_;refine zG ?_;refine sS [kz C,jx B H D,kz false,jx none 0 0] ?_;intro aw c4 bm;refine zq ?_;exact ⟨_,_,_,_,_,_,_,_,_,rfl,(I.t zt).as (by rw [(uw i q31).2.1,←z12];rfl),(IW.zero _ _).as (uw i q31).2.2.symm,⟨fun _=>(uw i q31).1,fun _=>rfl⟩⟩
 refine rL false R6 (by simp [q31]) ?_;refine zG ?_;refine sC (zd7 _ _ _ j.dd zo) ?_;rintro _ ax ba ⟨M,K,T,O,rfl,R⟩ cr ci;refine zG ?_;refine sS (b:=3*V+2) (off:=2) [kz C,jx B H D,kz M,jx K T O] ?_;intro ay c5 bn;refine zG ?_;refine sC (gcdX _ (g.x zx) (I.t zt) (R.t zt) (by rw [AR];exact (jB j.dm zo)) (jB j.dd zo)) ?_;rintro _ az bb ⟨a7,a4,b4,aa,rfl,a1⟩ cs cj;refine sC (rG _ a1) ?_;rintro _ b0 bc ⟨a8,rfl,Y⟩ ct ck;rcases bvs Y with ⟨rfl,p⟩|⟨rfl,p⟩
 ·refine zG ?_;refine sT #[kz false,jx none 0 0,kz false,jx none 0 0] ?_;refine sS [kz false,jx none 0 0,kz false,jx none 0 0] ?_;intro b1 c6 bo;refine zq ?_;exact ⟨_,_,_,_,_,_,_,_,_,rfl,(IW.zero _ _).as (by rw [vK (pj i q31 (by have:=p;simp only [AR,sa] at this;omega))];rfl),(IW.zero _ _).as (by rw [vK (pj i q31 (by have:=p;simp only [AR,sa] at this;omega))];rfl),⟨fun m=>(by cases m),fun m=>cA m (pj i q31 (by have:=p;simp only [AR,sa] at this;omega))⟩⟩
 refine zG ?_;refine sS [kz C,jx B H D,kz M,jx K T O] ?_;intro b2 c7 bp;refine zq ?_;exact ⟨_,_,_,_,_,_,_,_,_,rfl,(I.t zt).as (by rw [(sU i q31 (by have:=p;simp only [AR,sa] at this;omega)).2.1,←z12];rfl),(R.t zt).as (sU i q31 (by have:=p;simp only [AR,sa] at this;omega)).2.2.symm,⟨fun _=>(sU i q31 (by have:=p;simp only [AR,sa] at this;omega)).1,fun _=>rfl⟩⟩
theorem zrm (k:Nat)(g:GG h n)(m:gP s<20):CX (cal (k+9)) 125 [kF ⟨⟨s⟩⟩] h n fun v i j=>∃b a l c d e f g ok,v=.tuple #[.agg #[kz b,jx a l c,kz d,jx e f g],kz ok]∧IW i j b a l c (numOf s).num∧IW i j d e f g (denZ (numOf s))∧(ok=true↔xy s):=zpe k g (.of m)
def bdOk (s:List UInt8):Prop:=s=[]∨xy s
def pairOk (lo hi:List UInt8):Prop:=bdOk lo∧bdOk hi∧(lo=[]∨hi=[]∨numOf lo≤numOf hi)
end
section
variable {c:List Value}{h h':HF}{len n n':Nat}
structure StayO {D:Type}(P:List Value→D→HF→Nat→Prop):Prop where
 go:∀c d h h' n b cs e,P c d h n→h b=some (.row cs e)→cs.all nu=true→Only b h h'→P c d h' n
theorem ratP.stayO:StayO ratP:=⟨fun _ _ _ _ _ _ _ _ ⟨b,a,l,k,d,e,f,g,s,i,j⟩ p q o=>⟨b,a,l,k,d,e,f,g,s,i.only p q o,j.only p q o⟩⟩
theorem numP.stayO:StayO numP:=⟨fun _ _ _ _ _ _ _ _ ⟨b,a,l,k,d,e,f,g,s,i,j⟩ p q o=>⟨b,a,l,k,d,e,f,g,s,i.only p q o,j.only p q o⟩⟩
structure Fil {D:Type}(P:List Value→D→HF→Nat→Prop)(h:HF)(n B:Nat)(cs:List Value)(e:TypeId)(S:List D)(j:Nat):Prop where
 row:h B=some (.row cs e)
 len:gP cs=gP S*4
 nus:cs.all nu=true
 rcs:Rec 4 (fun c d=>P c d h n) (cs.take (j*4)) (S.take j)
theorem ny {o:Nat}(h:o+gP c≤gP cs):(zw cs o c).take (o+gP c)=cs.take o++c∧gP (zw cs o c)=gP cs:=by
 unfold zw;constructor
 ·rw [←Aq,List.take_append_of_le_length (by simp only [nn,Af];omega),Aa (by simp only [nn,Af];omega)]
 simp only [nn,Af,Ak];omega
theorem zbt {o:Nat}(d:cs.all nu=true)(f:c.all nu=true):(zw cs o c).all nu=true:=by
 unfold zw;rw [Bt] at*
 intro x b;simp only [Al] at b;rcases b with b|b|b
 ·exact d x (AW b)
 ·exact f x b
 exact d x (Bx b)
section
variable {D:Type}{P:List Value→D→HF→Nat→Prop}
theorem Fil.ext (g:Stay P){S:List D}(f:Fil P h n B cs e S j)(x:Ext n h h')(i:n≤n')(b:B<3*n):Fil P h' n' B cs e S j:=
 ⟨(x B b).trans f.row,f.len,f.nus,f.rcs.mono fun c d l=>g.go c d _ _ _ _ l x i⟩
theorem Fil.step (o:StayO P){S:List D}{d:D}(f:Fil P h n B cs e S j)(p:S[j]?=some d)(g:gP c=4)(w:c.all nu=true)(l:P c d h n):Fil P (upd h B (some (.row (zw cs (j*4) c) e))) n B (zw cs (j*4) c) e S (j+1):=by
 have A:=(oc.1 p).1;have i:j*4+gP c≤gP cs:=by rw [f.len,g];omega
 obtain ⟨s,y⟩:=ny i;have q:Only B h (upd h B (some (.row (zw cs (j*4) c) e))):=fun b u=>zj u;refine ⟨zh _ _ _,y.trans f.len,zbt f.nus w,?_⟩;rw [g] at s;rw [BN,s,yZ p];exact (f.rcs.mono fun c d l=>o.go c d _ _ _ _ _ _ l f.row f.nus q).snoc g (o.go c d _ _ _ _ _ _ l f.row f.nus q)
theorem Fil.start {z:List Value}{S:List D}(d:h B=some (.row (rep m z) e))(f:gP z=4)(hu:z.all nu=true)(b:m=gP S):Fil P h n B (rep m z) e S 0:=by
 refine ⟨d,by rw [zmk,f,b],?_,by rw [BE,Bj,Bj];exact .nil⟩;clear d b;induction m with
 |zero=>rfl
 |succ m ih=>rw [rep,DK,hu,ih];rfl
theorem Fil.rs {S:List D}(f:Fil P h n B cs e S (gP S))(d:B<3*n):RS 4 P h n (jx (some ⟨B,0,none⟩) (gP S) (gP S)) S:=by
 have g:=f.len;have b:=f.rcs;rw [Ax,←g,Ax] at b;exact ⟨cs,.at_ d f.row rfl eT zo (by rw [AQ,Aa zo]),b⟩
end
def QSL (lo:Nat)(h:HF)(n:Nat)(v:Value)(l:List Rat):Prop:=QS h n v l∧∀ad len cap,v=jx (some ad) len cap→3*lo≤ad.block∧gro ad.block=false
theorem zig (k:Nat)(g:GG h n)(I:Sl h n 1 (jx a len cap) (strs S))(hl:∀s∈S,gP s<20)(u:gP S<1000000):
  CX (cal (k+10)) 201 [jx a len cap] h n fun v h' n'=>∃a' l' c' F,v=.tuple #[jx a' l' c',kz F]∧(F=true↔∀s∈S,xy s)∧(F=true→QSL n h' n' (jx a' l' c') (S.map numOf)):=by
 refine zu (fn:=Tryz.f201) R4 ?_;have e1:=xY I;subst e1;refine Zv ?_;refine wO R9 zo ?_;refine Zl ?_;generalize hh:upd h (3*n+2) _=h1;have a0:∃cs,Fil ratP h1 (n+1) (3*n+2) cs 139 (S.map numOf) 0:=⟨_,.start (by rw [←hh,zh]) rfl rfl (by rw [oo])⟩;have a2:Ext n h h1:=by rw [←hh];exact Ext.upd zo
 clear hh;refine z9 (α:=Nat) (fun z=>[(4,jx (some ⟨3*n+2,0,none⟩) (gP S) (gP S)),(12,jx a (gP S) cap),(13,jy .i64 (gP S:Int)),(14,jy .i64 (z:Int))])
  (fun z h' n' w'=>w'=[]∧n+1≤n'∧Ext n h h'∧(∃cs,Fil ratP h' n' (3*n+2) cs 139 (S.map numOf) z)∧z≤gP S∧∀s∈S.take z,xy s) (fun z=>gP S-z)
  0 ⟨rfl,rfl,rfl,rfl,eP⟩ ⟨rfl,eT,a2,a0,eU,fun s I=>cA I gN⟩ (by show gP S-0<LL;unfold LL;omega) ?_
 rintro z t h2 J _ ⟨rfl,a3,q,⟨cs,V⟩,hz,i⟩;refine zN ?_;by_cases hze:z=gP S
 ·refine Zi ?_;rw [hze,Ax] at i;have N:=V;rw [hze,←oo (f:=numOf)] at N;have Z:=N.rs (show 3*n+2<3*J by omega);rw [oo] at Z;exact retX [jx (some ⟨3*n+2,0,none⟩) (gP S) (gP S),kz true] R3 (show n≤J by omega) q ⟨_,_,_,_,rfl,⟨fun _=>i,fun _=>rfl⟩,fun _=>⟨Z,fun ad l c e=>by cases e;exact ⟨by show 3*n≤3*n+2;omega,yJ n⟩⟩⟩
 obtain ⟨s,p⟩:∃s,S[z]?=some s:=⟨S[z]'zo,k4 zo⟩;have y:s∈S:=ns p;refine Ze ?_;refine Zc ?_;refine xt (f:=fun s=>kF ⟨⟨s⟩⟩) (j:=z) (dv:=s) R7 (I.ext q (show n≤J by omega)) R2 p (fun _=>rfl) R4 fun _=>?_;refine Za ?_;refine zM ?_;refine fg R5 (zrm k (g.ext q (show n≤J by omega)) (hl s y)) ?_;rintro _ h3 K ⟨b,G,l,c,d,e,f,H,F,rfl,i3,j3,O⟩ Y T;repeat refine zR ?_
 refine wI [kz false,jx none 0 0,kz false,jx none 0 0] R6 ?_;intro h4 L M;refine no [kz b,jx G l c,kz d,jx e f H] R5 L R3 zb rfl (by show 3*n≤_;omega) ?_;intro U p5 C;have o:=(V.ext ratP.stay T Y zo).ext ratP.stay M zs zo;have x5:Ext K h4 U:=fun b u=>C b zo;have i5:=(i3.ext M zs).only L rfl C;have j5:=(j3.ext M zs).only L rfl C;have w:Fil ratP U (K+1) (3*n+2) cs 139 (S.map numOf) z:=⟨(C _ zo).trans o.row,o.len,o.nus,o.rcs.mono fun c d hp=>ratP.stayO.go c d _ _ _ _ _ _ hp L rfl C⟩;have A:Ext n h U:=fun b u=>(x5 b zo).trans ((M b zo).trans ((T b zo).trans (q b u)));refine Za ?_;cases F with
 |false=>
  refine Zn ?_;exact retX [jx none 0 0,kz false] R3 (show n≤K+1 by omega) A ⟨_,_,_,_,rfl,⟨fun h=>cA h gN,fun h=>O.2 (h s y)⟩,fun h=>cA h gN⟩
 |true=>
 refine Zd ?_;refine Zm ?_;refine zV (v:=.agg #[kz b,jx G l c,kz d,jx e f H]) R5 (zT R2 p5 rfl zb rfl) ?_;refine zcz (aq:=some ⟨3*n+2,0,none⟩) (j:=z) R9 zo ?_;refine y0 (b:=3*n+2) (off:=z*4) (cs:=[kz b,jx G l c,kz d,jx e f H]) ⟨rfl,rfl,rfl,rfl,(by show kS (some ⟨3*n+2,0+z*4,none⟩)=_;rw [AA]),rfl,rfl,rfl⟩ w.row (by rw [w.len,oo];omega) (by show 3*n≤_;omega) ?_;have W:=w.step ratP.stayO (j:=z) (c:=[kz b,jx G l c,kz d,jx e f H]) (by rw [sr,p];rfl) rfl rfl ⟨_,_,_,_,_,_,_,_,rfl,i5,j5⟩;refine Zb ?_;refine goOn (z+1) (by show gP S-(z+1)<gP S-z;omega) ⟨rfl,rfl,rfl,rfl,eP⟩ ⟨rfl,by show n+1≤K+1;omega,fun b u=>(zj zo).trans (A b u),⟨_,W⟩,by show z+1≤gP S;omega,?_⟩;intro s' R;rw [yZ p] at R;rcases Al.1 R with h'|h'
 ·exact i s' h'
 rw [nP.1 h'];exact O.1 rfl
theorem zpu (k:Nat)(J:Sl h n 1 (jx a len cap) (strs S))(hl:∀s∈S,gP s<11)(p:gP S<1000000):
  CX (cal (k+7)) 16 [jx a len cap] h n fun v h' n'=>∃a' l' c' F,v=.tuple #[jx a' l' c',kz F]∧(F=true↔∀s∈S,xy s)∧(F=true→NS h' n' (jx a' l' c') (S.map numOf)):=by
 refine zu (fn:=Tryz.f16) R4 ?_;have e1:=xY J;subst e1;refine Zv ?_;refine wO R9 zo ?_;refine Zl ?_;generalize hh:upd h (3*n+2) _=h1;have a2:∃cs,Fil numP h1 (n+1) (3*n+2) cs 51 (S.map numOf) 0:=⟨_,.start (by rw [←hh,zh]) rfl rfl (by rw [oo])⟩;have a3:Ext n h h1:=by rw [←hh];exact Ext.upd zo
 clear hh;refine z9 (α:=Nat) (fun z=>[(0,jx a (gP S) cap),(4,jx (some ⟨3*n+2,0,none⟩) (gP S) (gP S)),(5,jy .i64 (z:Int))])
  (fun z h' n' w'=>w'=[]∧n+1≤n'∧Ext n h h'∧(∃cs,Fil numP h' n' (3*n+2) cs 51 (S.map numOf) z)∧z≤gP S∧∀s∈S.take z,xy s) (fun z=>gP S-z)
  0 ⟨rfl,rfl,rfl,eP⟩ ⟨rfl,eT,a3,a2,eU,fun s J=>cA J gN⟩ (by show gP S-0<LL;unfold LL;omega) ?_
 rintro z t h2 V _ ⟨rfl,a4,A,⟨cs,W⟩,hz,g⟩;refine zN ?_;by_cases hze:z=gP S
 ·refine Zi ?_;rw [hze,Ax] at g;have N:=W;rw [hze,←oo (f:=numOf)] at N;have I:=N.rs (show 3*n+2<3*V by omega);rw [oo] at I;exact retX [jx (some ⟨3*n+2,0,none⟩) (gP S) (gP S),kz true] R3 (show n≤V by omega) A ⟨_,_,_,_,rfl,⟨fun _=>g,fun _=>rfl⟩,fun _=>I⟩
 obtain ⟨s,o⟩:∃s,S[z]?=some s:=⟨S[z]'zo,k4 zo⟩;have w:s∈S:=ns o;refine Zz ?_;refine xt (f:=fun s=>kF ⟨⟨s⟩⟩) (j:=z) (dv:=s) R7 (J.ext A (show n≤V by omega)) R2 o (fun _=>rfl) R4 fun _=>?_;refine fg R5 (zkr k _ _ s (RdS.of (by have:=hl s w;omega))) ?_;rintro _ h3 K ⟨b,G,l,c,d,e,f,H,F,q,rfl,i3,j3,O,Z⟩ a0 T;repeat refine zR ?_
 refine wI [kz false,jx none 0 0,kz false,jx none 0 0] R6 ?_;intro h4 L M;refine no [kz b,jx G l c,kz d,jx e f H] R5 L R3 zb rfl (by show 3*n≤_;omega) ?_;intro U p5 C;have i:=(W.ext numP.stay T a0 zo).ext numP.stay M zs zo;have x5:Ext K h4 U:=fun b p=>C b zo;have i5:=(i3.ext M zs).only L rfl C;have j5:=(j3.ext M zs).only L rfl C;have u:Fil numP U (K+1) (3*n+2) cs 51 (S.map numOf) z:=⟨(C _ zo).trans i.row,i.len,i.nus,i.rcs.mono fun c d hp=>numP.stayO.go c d _ _ _ _ _ _ hp L rfl C⟩;have y:Ext n h U:=fun b p=>(x5 b zo).trans ((M b zo).trans ((T b zo).trans (A b p)));refine Za ?_;cases F with
 |false=>
  refine Zn ?_;exact retX [jx none 0 0,kz false] R3 (show n≤K+1 by omega) y ⟨_,_,_,_,rfl,⟨fun h=>cA h gN,fun h=>Z (h s w)⟩,fun h=>cA h gN⟩
 |true=>
 have I:=sW (O rfl);subst I;refine Zd ?_;refine Zm ?_;refine zV (v:=.agg #[kz b,jx G l c,kz d,jx e f H]) R5 (zT R2 p5 rfl zb rfl) ?_;refine zcz (aq:=some ⟨3*n+2,0,none⟩) (j:=z) R9 zo ?_;refine y0 (b:=3*n+2) (off:=z*4) (cs:=[kz b,jx G l c,kz d,jx e f H]) ⟨rfl,rfl,rfl,rfl,(by show kS (some ⟨3*n+2,0+z*4,none⟩)=_;rw [AA]),rfl,rfl,rfl⟩ u.row (by rw [u.len,oo];omega) (by show 3*n≤_;omega) ?_;have Y:=u.step numP.stayO (j:=z) (c:=[kz b,jx G l c,kz d,jx e f H]) (by rw [sr,o];rfl) rfl rfl ⟨_,_,_,_,_,_,_,_,rfl,i5,j5⟩;refine Zb ?_;refine goOn (z+1) (by show gP S-(z+1)<gP S-z;omega) ⟨rfl,rfl,rfl,eP⟩ ⟨rfl,by show n+1≤K+1;omega,fun b p=>(zj zo).trans (y b p),⟨_,Y⟩,by show z+1≤gP S;omega,?_⟩;intro s' R;rw [yZ o] at R;rcases Al.1 R with h'|h'
 ·exact g s' h'
 rw [nP.1 h'];exact ⟨_,O rfl⟩
end
inductive LdS (n:Nat) (T0:Nat→Nat→Int):Nat→(Nat→Nat→Int)→Int→Prop
 |zero:LdS n T0 0 T0 1
 |skip {k T bf} (h:LdS n T0 k T bf) (h0:∀i,k≤i→i<n→T i k=0):LdS n T0 (k+1) T bf
 |clear {k T bf} (h:LdS n T0 k T bf) (hp:T k k≠0) (hk:k<n):LdS n T0 (k+1) (yG T k bf) (T k k)
def det3 (T:Nat→Nat→Int):Int:=T 0 0*(T 1 1*T 2 2-T 1 2*T 2 1)-T 0 1*(T 1 0*T 2 2-T 1 2*T 2 0)+T 0 2*(T 1 0*T 2 1-T 1 1*T 2 0)
theorem zax (T:Nat→Nat→Int):(T 0 0*T 1 1-T 1 0*T 0 1)*(T 0 0*T 2 2-T 2 0*T 0 2)-(T 0 0*T 2 1-T 2 0*T 0 1)*(T 0 0*T 1 2-T 1 0*T 0 2)=T 0 0*det3 T:=by unfold det3;grind
theorem xI {T:Nat→Nat→Int}(h:k<i):yG T k 1 i j=T k k*T i j-T i k*T k j:=by
 unfold yG;rw [eN h,CN]
theorem LdS.dvd {a T:Nat→Nat→Int}(l:n≤3)(h:LdS n a k T bf):∀i j,k<i→i<n→k<j→j<n→bf∣T k k*T i j-T i k*T k j:=by
 intro i j d e f g;cases h with
 |zero=>exact HC _
 |skip h _=>
  cases h with
  |zero=>exact HC _
  |skip=>omega
  |clear=>omega
 |clear h hp hk=>
  cases h with
  |zero=>
   have b:i=2:=zo;have c:j=2:=zo;subst b c;show a 0 0∣yG a 0 1 1 1*yG a 0 1 2 2-yG a 0 1 2 1*yG a 0 1 1 2;rw [xI zo,xI zo,xI zo,xI zo,zax];exact Int.dvd_mul_right _ _
  |skip=>omega
  |clear=>omega
def bndT (M:Nat):Nat→Nat
 |0=>M
 |1=>2*(M*M)
 |_=>6*(M*(M*M))
theorem qM {a b c d:Int}{M:Nat}(f:a.natAbs≤M)(g:b.natAbs≤M)(l:c.natAbs≤M)(m:d.natAbs≤M):(a*b-c*d).natAbs≤2*(M*M):=by
 have e:=Int.natAbs_sub_le (a*b) (c*d);rw [AX,AX] at e;have o:=AD f g;have p:=AD l m;omega
theorem pD {a b:Int}{M:Nat}(c:a.natAbs≤M)(d:b.natAbs≤N):(a*b).natAbs≤M*N:=by
 rw [AX];exact AD c d
theorem zkc {T:Nat→Nat→Int}{M:Nat}(h:∀i j,i<3→j<3→(T i j).natAbs≤M):(det3 T).natAbs≤6*(M*(M*M)):=by
 have a:=pD (h 0 0 zo zo) (qM (h 1 1 zo zo) (h 2 2 zo zo) (h 1 2 zo zo) (h 2 1 zo zo));have b:=pD (h 0 1 zo zo) (qM (h 1 0 zo zo) (h 2 2 zo zo) (h 1 2 zo zo) (h 2 0 zo zo));have c:=pD (h 0 2 zo zo) (qM (h 1 0 zo zo) (h 2 1 zo zo) (h 1 1 zo zo) (h 2 0 zo zo));unfold det3;generalize T 0 0*_=x at*
 generalize T 0 1*_=y at*
 generalize T 0 2*_=z at*
 have e:M*(2*(M*M))=2*(M*(M*M)):=by rw [BP]
 rw [e] at a b c;omega
theorem zj0 {T:Nat→Nat→Int}(h:k<i):yG T k bf i j=(T k k*T i j-T i k*T k j).tdiv bf:=by
 unfold yG;rw [eN h]
theorem mV {T:Nat→Nat→Int}(h:i≤k):yG T k bf i j=T i j:=by
 unfold yG;rw [cC zo]
theorem mZ {M:Nat}(h:1≤M):M≤bndT M 1∧bndT M 1≤bndT M 2∧M≤bndT M 2:=by
 have b:M*1≤M*M:=A9 M h;have a:M*M*1≤M*M*M:=A9 (M*M) h;rw [Az M M M] at a;show M≤2*(M*M)∧2*(M*M)≤6*(M*(M*M))∧M≤6*(M*(M*M));omega
theorem zgv {M:Nat}{T:Nat→Nat→Int}(b:k<n)(e:1≤M)(a:∀i j,i<n→j<n→(T i j).natAbs≤M):∀i j,i<n→j<n→(yG T k 1 i j).natAbs≤bndT M 1:=by
 intro i j c d;by_cases h:k<i
 ·rw [xI h];exact qM (a _ _ b b) (a _ _ c d) (a _ _ c b) (a _ _ b d)
 rw [mV zo];exact Ap (a _ _ c d) (mZ e).1
theorem LdS.bound {M:Nat}{a T:Nat→Nat→Int}(v:n≤3)(e:1≤M)(d:∀i j,i<n→j<n→(a i j).natAbs≤M)(h:LdS n a k T bf)(q:k<n):(∀i j,i<n→j<n→(T i j).natAbs≤bndT M k)∧bf.natAbs≤bndT M 1∧(k≤1→bf.natAbs≤M):=by
 obtain ⟨g,l,u⟩:=mZ e;have m:(1:Int).natAbs≤bndT M 1:=Ap e g;have f:∀k,k<n→∀i j,i<n→j<n→(yG a k 1 i j).natAbs≤bndT M 1:=fun k q=>zgv q e d;cases h with
 |zero=>exact ⟨d,m,fun _=>e⟩
 |skip h _=>
  cases h with
  |zero=>exact ⟨fun i j b c=>Ap (d i j b c) g,m,fun _=>e⟩
  |skip h _=>
   cases h with
   |zero=>exact ⟨fun i j b c=>Ap (d i j b c) u,m,fun _=>e⟩
   |skip=>omega
   |clear=>omega
  |clear h hp hk0=>
   cases h with
   |zero=>exact ⟨fun i j b c=>Ap (f 0 hk0 i j b c) l,Ap (d 0 0 hk0 hk0) g,fun h=>zo⟩
   |skip=>omega
   |clear=>omega
 |clear h hp hk0=>
  cases h with
  |zero=>exact ⟨f 0 hk0,Ap (d 0 0 hk0 hk0) g,fun _=>d 0 0 hk0 hk0⟩
  |skip h _=>
   cases h with
   |zero=>exact ⟨fun i j b c=>Ap (f 1 hk0 i j b c) l,Ap (d 1 1 hk0 hk0) g,fun h=>zo⟩
   |skip=>omega
   |clear=>omega
  |clear h hp0 hk1=>
   cases h with
   |zero=>
    refine ⟨fun i j b c=>?_,f 0 hk1 1 1 hk0 hk0,fun h=>zo⟩;by_cases hi1:i≤1
    ·rw [mV hi1];exact Ap (f 0 hk1 i j b c) l
    have o:i=2:=zo;subst o;have s:∀j,yG (yG a 0 1) 1 (a 0 0) 2 j=(yG a 0 1 1 1*yG a 0 1 2 j-yG a 0 1 2 1*yG a 0 1 1 j).tdiv (a 0 0):=fun j=>zj0 zo;rw [s];have p:j=0∨j=1∨j=2:=zo;rcases p with rfl|rfl|rfl
    ·rw [xI (T:=a) (i:=2) (j:=0) zo,xI (T:=a) (i:=1) (j:=0) zo];rw [F1 (a 2 0),F5,F1 (a 1 0),F5,Ft,Ft,F5,GF];exact Du _
    ·rw [F1 (yG a 0 1 2 1),F5,GF];exact Du _
    rw [xI zo,xI zo,xI zo,xI zo,zax,Dh _ hp0];exact zkc fun i j b c=>d i j zo zo
   |skip=>omega
   |clear=>omega
structure LdI (n:Nat)(T0:Nat→Nat→Int)(s:Nat→Rat)(a0:Nat→Nat→Rat)(k:Nat)(T:Nat→Nat→Int)(bf:Int)(a:Nat→Nat→Rat):Prop where
 tab:TabR n T bf s a k
 ls:LdS n T0 k T bf
 pos:0<bf
 eq:psdA n n 0 a0↔psdA n (n-k) k a
section
variable {n k:Nat}{T:Nat→Nat→Int}{s:Nat→Rat}{a:Nat→Nat→Rat}{bf:Int}
theorem LdI.start (h:TabR n T0 1 s a0 0):LdI n T0 s a0 0 T0 1 a0:=⟨h,.zero,by decide,Db⟩
theorem LdI.done (h:LdI n T0 s a0 k T bf a)(b:k=n):psdA n n 0 a0:=by
 rw [h.eq,b,A7];trivial
theorem LdI.unf (h:LdI n T0 s a0 k T bf a)(b:k<n):psdA n n 0 a0↔(0≤a k k∧(a k k=0→∀i,k<i→i<n→a i k=0)∧psdA n (n-(k+1)) (k+1) (qt a k)):=by
 rw [h.eq,show n-k=(n-(k+1))+1 by omega];exact Db
theorem LdI.neg (h:LdI n T0 s a0 k T bf a)(b:k<n)(c:a k k<0):¬psdA n n 0 a0:=by
 rw [h.unf b];exact fun h=>Rat.not_lt.2 h.1 c
theorem LdI.found (h:LdI n T0 s a0 k T bf a)(f:∀i,0<s i)(c:k<n)(l:a k k=0)(e:k<i)(b:i<n)(g:T i k≠0):¬psdA n n 0 a0:=by
 rw [h.unf c];exact fun d=>g ((qn h.tab h.pos f zo b eT c).2 (d.2.1 l i e b))
theorem LdI.skip (h:LdI n T0 s a0 k T bf a)(g:∀i,0<s i)(c:k<n)(f:a k k=0)(l:∀i,k<i→i<n→T i k=0):LdI n T0 s a0 (k+1) T bf a:=by
 refine ⟨fun i j b e q o=>h.tab i j zo e zo o,h.ls.skip fun i b e=>?_,h.pos,?_⟩
 ·rcases Nat.lt_or_eq_of_le b with b|rfl
  ·exact l i b e
  exact (qn h.tab h.pos g eT c eT c).2 f
 rw [h.unf c,kv f];constructor
 ·exact fun h=>h.2.2
 exact fun m=>⟨by rw [f];exact Rat.le_refl,fun _ i p d=>(qn h.tab h.pos g zo d eT c).1 (l i p d),m⟩
theorem LdI.pivot (h:LdI n T0 s a0 k T bf a)(f:∀i,0<s i)(b:k<n)(d:0<a k k):0<T k k:=by
 have e:=h.tab k k eT b eT b;have c:(0:Rat)<bf:=C2.2 h.pos;have:(0:Rat)<T k k:=by rw [e];exact Gt (Gt c (f k)) d
 exact C2.1 this
theorem LdI.step (g:n≤3)(h:LdI n T0 s a0 k T bf a)(l:∀i,0<s i)(b:k<n)(c:0<a k k):LdI n T0 s a0 (k+1) (yG T k bf) (T k k) (qt a k):=by
 have f:=h.pivot l b c;refine ⟨zda h.tab h.pos b zo (h.ls.dvd g),h.ls.clear zo b,f,?_⟩;rw [h.unf b];constructor
 ·exact fun h=>h.2.2
 exact fun d=>⟨Rat.le_of_lt c,fun e=>cA c (by rw [e];decide),d⟩
theorem LdI.value (h:LdI n T0 s a0 k T bf a){D:Int}(o:0<D)(m:∀i,s i=(D:Rat))(b:k≤i)(c:i<n)(d:k≤j)(f:j<n):a i j=(T i j:Rat)/((bf*D:Int):Rat):=by
 have e:=h.tab i j b c d f;rw [m i] at e;have g:(bf:Rat)≠0:=fun e=>by have:=ub.1 e;have:=h.pos;omega
 have l:(D:Rat)≠0:=fun e=>by have:=ub.1 e;omega
 rw [e,A8,Bv,BO _ (a i j),AM,CT _ (fun e=>(Rat.mul_eq_zero.1 e).elim g l),DW]
end
noncomputable def ctxR (k n nt l:Nat):CtxF:={E:=env,C:=cal k,L:=LL,round:=some l,n0:=n,nt:=nt}
def YF (C:CalF)(l:Nat)(args:List Value)(h:HF)(n:Nat)(P:HF→Nat→List Nat→Prop):Prop:=∃h' n' w,C.yl l args h n=some (kz true,h',n',w)∧P h' n' w
def RndE (l:Nat)(B:BF)(B':BF)(P:HF→Nat→List Nat→Prop):Ex→SV→Prop:=fun e s=>e=.normal∧s.h l=some B∧P (upd s.h l (some B')) s.n (l::s.w)
def RndA (X:CtxF)(l:Nat)(B0 B B':BF)(body:Code)(P:HF→Nat→List Nat→Prop):Ex→SV→Prop:=fun e s=>e=.normal∧s.h l=some B0∧EC X body ⟨s.t,upd s.h l (some B),s.n,l::s.w⟩ (RndE l B B' P)
theorem zkd {h:HF}{n d:Nat}{τ f:TF}{a:List Tmp}{P:HF→Nat→List Nat→Prop}(hl:h l=some (.loop true none τ nt a assign body d))(q:AG (gP args) (gP a)=true)(s:pL nt a args τ=some f)
  (u:EC (ctxR k n nt l) assign ⟨f,h,n,[]⟩ (RndA (ctxR k n nt l) l (.loop true none τ nt a assign body d) (.loop false none τ nt a assign body d) (.loop true none τ nt a assign body d) body P)):YF (cal (k+1)) l args h n P:=by
 obtain ⟨e,y,b,rfl,g,v,A,c,rfl,j,p⟩:=u;refine ⟨_,_,_,?_,p⟩;show iK env (cal k) LL l args h n=_;unfold iK;rw [hl];simp only [q,s];unfold ctxR at b c;rw [b];simp only [g];rw [c];simp only [j]
theorem zkg {X:CtxF}{g:Operand}{p:FuncId}{first cap:Array Value}{s:Array Tmp}{t:TF}{h:HF}{n:Nat}{w:List Nat}{Q:Ex→SV→Prop}(I:X.round=none)(H:evF t g=.func (.func p) first cap)
  (G:CF X.C p (first.toList++([.func (.yield (3*(n+1)+2)) #[] #[]]++cap.toList)) (upd (upd h (3*n+2) (some .dfr)) (3*(n+1)+2) (some (.loop true none t X.nt s.toList assign body (3*n+2)))) (n+2)
   fun _ a q y=>(∃u b c e f j,a (3*(n+1)+2)=some (.loop true none u b c e f j))∧a (3*n+2)=some .dfr∧Q .normal ⟨t,upd (upd a (3*(n+1)+2) none) (3*n+2) none,q,addW X.n0 y w⟩):EC X (.rangeFunc g s assign body) ⟨t,h,n,w⟩ Q:=by
 obtain ⟨v,a,q,y,A,⟨u,b,c,e,f,j,B⟩,D,F⟩:=G;refine ⟨_,_,?_,F⟩;unfold xz iP;simp only [H,I];rw [show n+1+1=n+2 from rfl,A];simp only [B,D,ze5]
section
variable {ops:List Oper}{h:HF}{n:Nat}{d:Tmp}
theorem zh1 (P:HF→Nat→List Nat→Prop)(q:zi ops t o=true)(f:o.dst=some d)(j:zv X.nt (some d)=true)(e:cls o.op=3)(g:effF X.E o.op (evF t) h n=some (.round l args))(a:YF X.C l args h n P)
  (k:∀h' n' w',P h' n' w'→EO X ops r ⟨upd t d (kz true),h',n',addW X.n0 w' w⟩ Q):EO X ops (o::r) ⟨t,h,n,w⟩ Q:=by
 obtain ⟨c,s,u,b,p⟩:=a;have:=k c s u p;unfold EO at this ⊢;rw [seqF,q];simp only [opF,e,mG,g,b,xS,f,j];exact this
theorem zjm {p:List Nat}{e g:List (Nat×Nat)}{f:List (Nat×HF×List Nat)}(P:HF→Nat→List Nat→Prop)(I:zi ops t o=true)(D:o.dst=some d)(G:zv X.nt (some d)=true)(B:cls o.op=3)(F:effF X.E o.op (evF t) h n=some (.round l args))(q:xg m f=true)(s:xU m e=true)(c:YF X.C l args h n P)
  (k:∀b a W,P b a W→yc m W g=true∧n≤a∧ED X ops r p (i+1) ⟨⟨upd t d (kz true),b,a,addW X.n0 W w⟩,e,g,(i,h,W)::f⟩ Q):ED X ops (o::r) (m::p) i ⟨⟨t,h,n,w⟩,e,g,f⟩ Q:=by
 obtain ⟨b,a,W,j,H⟩:=c;obtain ⟨u,v,J,y,A⟩:=k b a W H;refine ⟨J,?_,A⟩;unfold yi;simp only [I];unfold pq;simp only [B,q,s,A4,mG,F,j,xS,D,G,u,sn v];exact y
end
structure YS (C:CalF)(l:Nat)(W:Nat→Prop)(args:Nat→List Value)(K:Nat)(I:Nat→HF→Nat→Prop):Prop where
 step:∀k h n,k<K→I k h n→YF C l (args k) h n fun h' n' w=>I (k+1) h' n'∧n≤n'∧(∀c,c<3*n→¬W c→h' c=h c)∧∀c∈w,W c∨3*n≤c
theorem xX:∀(l w:List Nat),∀c∈addW n0 l w,(c∈l∧c<3*n0)∨c∈w:=by
 intro l;induction l with
 |nil=>intro w c e;exact Or.inr e
 |cons b l ih=>
  intro w c e;unfold addW at e;cases hb:Ai (3*n0) b with
  |true=>
   simp only [hb] at e;rcases ih w c e with ⟨a,f⟩|a
   ·exact HX ⟨AV _ a,f⟩
   exact Or.inr a
  |false=>
   simp only [hb] at e;have g:b<3*n0:=by
    rcases Ci b (3*n0) with h|h
    ·exact h
    rw [sn h] at hb;cases hb
   rcases ih (b::w) c e with ⟨a,f⟩|a
   ·exact HX ⟨AV _ a,f⟩
   rcases sP.1 a with rfl|a
   ·exact HX ⟨As ..,g⟩
   exact Or.inr a
theorem wm:∀(l w:List Nat),∀c∈w,c∈addW n0 l w:=by
 intro l;induction l with
 |nil=>intro w c a;exact a
 |cons b l ih=>
  intro w c a;unfold addW;cases hb:Ai (3*n0) b with
  |true=>exact ih w c a
  |false=>exact ih (b::w) c (AV _ a)
theorem wG {c:Nat}(a:c<3*n0):∀{l w:List Nat},c∈l→c∈addW n0 l w:=by
 intro l;induction l with
 |nil=>intro w h;exact cA h nN
 |cons b l ih=>
  intro w h;unfold addW;cases hb:Ai (3*n0) b with
  |true=>
   rcases sP.1 h with rfl|h
   ·have:=Nat.le_of_ble_eq_true hb;omega
   exact ih h
  |false=>
   rcases sP.1 h with rfl|h
   ·exact wm l _ _ (As ..)
   exact ih h
section
variable {off:Nat}{c:List Value}{x:Operand}
def tabL {α:Type}(N:Nat)(T:Nat→Nat→α):List α:=(AC (N*N)).map fun m=>T (m/N) (m%N)
theorem yI {T:Nat→Nat→α}:gP (tabL N T)=N*N:=by
 unfold tabL;rw [oo,List.length_range]
theorem rH {i:Nat}(a:i<N)(f:j<N):i*N+j<N*N:=by
 have h:=Ab N (show i+1≤N from a);rw [AH,Bs] at h;omega
theorem ju {i:Nat}(a:j<N):(i*N+j)/N=i∧(i*N+j)%N=j:=
 ⟨by rw [BT,Nat.add_mul_div_right _ _ zo,Nat.div_eq_of_lt a,AA],by rw [BT,Nat.add_mul_mod_self_right,Ag a]⟩
theorem vH {i:Nat}{T:Nat→Nat→α}(f:i<N)(a:j<N):(tabL N T)[i*N+j]?=some (T i j):=by
 unfold tabL;rw [sr,AL (rH f a)];show some (T ((i*N+j)/N) ((i*N+j)%N))=_;rw [(ju a).1,(ju a).2]
theorem kY {m:Nat}{T:Nat→Nat→α}(a:m<N*N):(tabL N T)[m]?=some (T (m/N) (m%N)):=by
 unfold tabL;rw [sr,AL a];rfl
theorem ul {T U:Nat→Nat→α}(h:∀i j,i<N→j<N→T i j=U i j):tabL N T=tabL N U:=by
 refine Bn fun m=>?_;by_cases hm:m<N*N
 ·rw [kY hm,kY hm,h _ _ (Dc hm) (Bo _ (Cw fun e=>by subst e;omega))]
 rw [Ad (by rw [yI];omega),Ad (by rw [yI];omega)]
def updT {α:Type}(T:Nat→Nat→α)(i j:Nat)(x:α):Nat→Nat→α:=fun a b=>if a=i∧b=j then x else T a b
theorem oN {i:Nat}{T:Nat→Nat→α}{x:α}(_hi:i<N)(l:j<N):(tabL N T).set (i*N+j) x=tabL N (updT T i j x):=by
 refine Bn fun m=>?_;by_cases hm:m<N*N
 ·rw [List.getElem?_set,yI];by_cases e:i*N+j=m
  ·subst e;rw [eN rfl,eN hm,vH _hi l];unfold updT;rw [eN ⟨rfl,rfl⟩]
  rw [cC e,kY hm,kY hm];unfold updT;rw [cC];rintro ⟨f,g⟩;have a:=Nat.div_add_mod m N;rw [f,g,vT] at a;exact e a
 rw [Ad (by rw [AY,yI];omega),Ad (by rw [yI];omega)]
structure KP {D:Type}(sz:Nat)(P:List Value→D→HF→Nat→Prop):Prop where
 t:∀{c d h n h' n'},P c d h n→Tr n h n' h'→P c d h' n'
 c:∀{c d h n},P c d h n→gP c=sz∧c.all nu=true∧ones c=true
def OR {D:Type}(sz:Nat)(P:List Value→D→HF→Nat→Prop)(h:HF)(n b:Nat)(ds:List D):Prop:=b<3*n∧∃C e,h b=some (.row C e)∧C.all nu=true∧Rec sz (fun c d=>P c d h n) C ds
theorem Rec.set2 {D:Type}{sz:Nat}{P:List Value→D→Prop}{ds:List D}(r:Rec sz P cs ds){d:D}(f:gP c=sz)(l:P c d):∀{j:Nat},j<gP ds→Rec sz P (zw cs (j*sz) c) (ds.set j d):=by
 induction r with
 |nil=>intro j a;cases a
 | @cons c1 cs d1 ds hl hp1 hr ih=>
  intro j a;cases j with
  |zero=>
   have e:zw (c1++cs) (0*sz) c=c++cs:=by
    unfold zw;rw [BE,Bj,AN,AA,f,←hl,List.drop_left]
   rw [e];exact .cons f l hr
  |succ j=>
   have e:zw (c1++cs) ((j+1)*sz) c=c1++zw cs (j*sz) c:=by
    have g:(j+1)*sz=gP c1+j*sz:=by rw [BN,hl,BT]
    unfold zw;rw [g,List.take_append,Aa zo,Bi,Aq,Nat.add_assoc,FX,Ca zo,AN,Bi]
   rw [e];exact .cons hl hp1 (ih (by simpa using a))
theorem dN {o:Nat}(h:cs.all nu=true)(f:c.all nu=true):(zw cs o c).all nu=true:=by
 rw [Bt] at*
 intro x a;unfold zw at a;rcases Al.1 a with a|a
 ·exact h x (AW a)
 rcases Al.1 a with a|a
 ·exact f x a
 exact h x (Bx a)
section
variable {D:Type}{P:List Value→D→HF→Nat→Prop}{h h':HF}{n n':Nat}{ds:List D}
theorem OR.go (o:OR sz P h n b ds)(p:KP sz P)(t:Tr n h n' h')(e:h' b=h b):OR sz P h' n' b ds:=by
 obtain ⟨q,C,a,f,g,l⟩:=o;exact ⟨by have:=t.1;omega,C,a,e.trans f,g,l.mono fun _ _ r=>p.t r t⟩
theorem OR.ext (o:OR sz P h n b ds)(g:KP sz P)(x:Ext n h h')(f:n≤n'):OR sz P h' n' b ds:=o.go g ⟨f,fun c a=>.inl (x c a)⟩ (x b o.1)
theorem OR.xx (o:OR sz P h n b ds)(a:KP sz P)(t:Tx n h n' h'):OR sz P h' n' b ds:=o.ext a t.2 t.1
theorem OR.as {a:List D}(o:OR sz P h n b ds)(e:ds=a):OR sz P h n b a:=e▸o
theorem OR.get {d:D}(o:OR sz P h n b ds)(q:ds[j]?=some d)(s:off=j*sz):∃c,P c d h n∧gP c=sz∧At h b off c:=by
 obtain ⟨A,C,u,l,y,p⟩:=o;obtain ⟨c,a,f,g,v⟩:=p.get q;subst s;exact ⟨c,f,a,⟨_,C,l,rfl,zo,by rw [a];exact g⟩⟩
theorem OR.set {d:D}{C:List Value}(o:OR sz P h n b ds)(a:KP sz P)(l:h b=some (.row C e))(B:j<gP ds)(r:P c d h n)(v:h' b=some (.row (zw C (j*sz) c) e))(F:Only b h h'):OR sz P h' n b (ds.set j d)∧Sto b h h':=by
 obtain ⟨A,G,H,f,g,y⟩:=o;rw [l] at f;cases f;have p:Sto b h h':=⟨F,_,_,l,g⟩;have t:Tr n h n h':=Tr.s p (Tr.refl _ _);obtain ⟨q,u,_⟩:=a.c r;exact ⟨⟨A,_,_,v,dN g u,(y.mono fun _ _ r=>a.t r t).set2 q (a.t r t) B⟩,p⟩
theorem OR.sl (o:OR sz P h n b ds){len:Nat}(hl:len=gP ds)(l:len≤cap):RS sz P h n (jx (some ⟨b,0,none⟩) len cap) ds:=by
 obtain ⟨g,C,p,f,q,a⟩:=o;have:=a.len;subst hl;exact ⟨C,.at_ g f rfl l zo (by rw [AQ,Aa zo]),a⟩
theorem OR.fill {z:List Value}{d:D}(l:b<3*n)(a:h b=some (.row (rep L z) e))(g:KP sz P)(f:P z d h n):OR sz P h n b (pl L d):=by
 refine ⟨l,_,_,a,?_,?_⟩
 ·clear a;induction L with
  |zero=>rfl
  |succ L ih=>show List.all (z++rep L z) nu=true;rw [DK,ih,(g.c f).2.1];rfl
 clear a;induction L with
 |zero=>exact .nil
 |succ L ih=>exact .cons (g.c f).1 f ih
end
def Ty1 (h:HF)(b:Nat)(e:TypeId):Prop:=∃C,h b=some (.row C e)
def intP (c:List Value)(z:Int)(h:HF)(n:Nat):Prop:=∃b a l k,c=[kz b,jx a l k]∧IW h n b a l k z
theorem intP.kp:KP 2 intP:=⟨fun ⟨b,a,l,k,e,i⟩ t=>⟨b,a,l,k,e,i.t t⟩,fun ⟨b,a,l,k,e,i⟩=>by subst e;exact ⟨rfl,rfl,rfl⟩⟩
theorem ratP.kp:KP 4 ratP:=⟨fun ⟨b,a,l,k,d,e,f,g,p,i,j⟩ t=>⟨b,a,l,k,d,e,f,g,p,i.t t,j.t t⟩,fun ⟨b,a,l,k,d,e,f,g,p,i,j⟩=>by subst p;exact ⟨rfl,rfl,rfl⟩⟩
theorem numP.kp:KP 4 numP:=⟨fun ⟨b,a,l,k,d,e,f,g,p,i,j⟩ t=>⟨b,a,l,k,d,e,f,g,p,i.t t,j.t t⟩,fun ⟨b,a,l,k,d,e,f,g,p,i,j⟩=>by subst p;exact ⟨rfl,rfl,rfl⟩⟩
abbrev OZ (h:HF)(n b:Nat)(zs:List Int):Prop:=OR 2 intP h n b zs
theorem OR.el {h:HF}{n b i:Nat}{T:Nat→Nat→Int}(o:OZ h n b (tabL N T))(q:i<N)(s:j<N):∃g f p l,At h b (i*N*2+j*2) [kz g,jx f p l]∧IW h n g f p l (T i j):=by
 obtain ⟨c,⟨g,f,p,l,rfl,u⟩,_,a⟩:=o.get (vH q s) (off:=i*N*2+j*2) (by rw [AH]);exact ⟨g,f,p,l,a,u⟩
section
variable {ops:List Oper}{h:HF}{n:Nat}{ld:List (Nat×Nat)}{d:Tmp}
theorem sSx {a:Operand}{b sz:Nat}(c':List Value)(f:h b=some (.row c e))(k:∀h',h' b=some (.row c' e)→Sto b h h'→EO X ops r ⟨t,h',n,addW n0 [b] w⟩ Q)(l:zi ops t o=true:=by exact rfl)(hd:o.dst=none:=by exact rfl)(ho:o.op=.store ty a x:=by exact rfl)(hi:X.E.inf ty=some (sz,bt,z):=by exact rfl)(ha:evF t a=.pointer (some ⟨b,off,none⟩):=by exact rfl)(hu:c.all nu=true:=by exact rfl)(hx:zC (evF t x)=cs:=by exact rfl)(hs:cs.length=sz:=by exact rfl)(h1:ones cs=true:=by exact rfl)(hl:off+sz≤c.length:=by exact zb)(hsp:zw c off cs=c':=by exact rfl)(hX:X.n0=n0:=by exact rfl):EO X ops (o::r) ⟨t,h,n,w⟩ Q:=by
 subst hsp hx;rw [qN l (by rw [hd];rfl) (by rw [ho];rfl) (by rw [ho];exact xR hi ha hs h1 f hl),hd,hX];exact k _ (zh _ _ _) ⟨fun c g=>zj g,_,_,f,hu⟩
theorem dSx {a:Operand}{b sz:Nat}(c':List Value)(f:h b=some (.row c e))(k:∀h',h' b=some (.row c' e)→Sto b h h'→ED X ops r ms (i+1) ⟨⟨t,h',n,addW n0 [b] w⟩,al,ld,(i,h,[b])::ef⟩ Q)(l:zi ops t o=true:=by exact rfl)(hd:o.dst=none:=by exact rfl)(ho:o.op=.store ty a x:=by exact rfl)(hi:X.E.inf ty=some (sz,bt,z):=by exact rfl)(ha:evF t a=.pointer (some ⟨b,off,none⟩):=by exact rfl)(hu:c.all nu=true:=by exact rfl)(hx:zC (evF t x)=cs:=by exact rfl)(hs:cs.length=sz:=by exact rfl)(h1:ones cs=true:=by exact rfl)(hl:off+sz≤c.length:=by exact zb)(hsp:zw c off cs=c':=by exact rfl)(hX:X.n0=n0:=by exact rfl)(g1:xg m ef=true:=by exact rfl)(g2:xU m al=true:=by exact rfl)(g3:yc m [b] ld=true:=by exact rfl):ED X ops (o::r) (m::ms) i ⟨⟨t,h,n,w⟩,al,ld,ef⟩ Q:=by
 subst hsp hx;refine mJ l (by rw [hd];rfl) (by rw [ho];rfl) (by rw [ho];exact xR hi ha hs h1 f hl) g1 g2 g3 (Nat.le_refl _) ?_;rw [hd,hX];exact k _ (zh _ _ _) ⟨fun c g=>zj g,_,_,f,hu⟩
theorem dZ {D:Type}{sz:Nat}{P:List Value→D→HF→Nat→Prop}{a:Operand}{b:Nat}{zs:List D}{q:D}(c:List Value)(y:OR sz P h n b zs)(v:KP sz P)(p:j<zs.length)(g:off=j*sz)(u:P c q h n)(k:∀h',OR sz P h' n b (zs.set j q)→Sto b h h'→(∀e,Ty1 h b e→Ty1 h' b e)→ED X ops r ms (i+1) ⟨⟨t,h',n,addW n0 [b] w⟩,al,ld,(i,h,[b])::ef⟩ Q)(I:zi ops t o=true:=by exact rfl)(hd:o.dst=none:=by exact rfl)(ho:o.op=.store ty a x:=by exact rfl)(hi:X.E.inf ty=some (sz,bt,z):=by exact rfl)(ha:evF t a=.pointer (some ⟨b,off,none⟩):=by exact rfl)(hx:zC (evF t x)=c:=by exact rfl)(h1:xg m ef=true:=by exact rfl)(f:xU m al=true:=by exact rfl)(h3:yc m [b] ld=true:=by exact rfl)(hX:X.n0=n0:=by exact rfl):ED X ops (o::r) (m::ms) i ⟨⟨t,h,n,w⟩,al,ld,ef⟩ Q:=by
 have A:=y;obtain ⟨S,C,e,l,T,J⟩:=y;have H:=J.len;obtain ⟨B,O,F⟩:=v.c u;have K:j*sz+sz≤zs.length*sz:=by
  have:=Nat.mul_le_mul_right sz (show j+1≤zs.length from p);rw [Nat.add_mul,Nat.one_mul] at this;exact this
 subst g;refine mJ I (by rw [hd];rfl) (by rw [ho];rfl) (by rw [ho];exact xR hi ha (by rw [hx];exact B) (by rw [hx];exact F) l zo) h1 f h3 (Nat.le_refl _) ?_;rw [hd,hx,hX];have s:=A.set (h':=upd h b (some (.row (zw C (j*sz) c) e))) v l p u (zh _ _ _) (fun c G=>zj G);exact k _ s.1 s.2 fun R ⟨M,f⟩=>⟨_,by rw [l] at f;cases f;exact zh _ _ _⟩
end
end
section
variable {h' h0:HF}{len:Nat}{u:Value}{T:List Nat}{c:List Value}{sT:TypeId}{x:Operand}
def BkOf (v:Value)(b:Nat):Prop:=∃o l c,v=jx (some ⟨b,o,none⟩) l c
def GroU (h:HF)(n:Nat)(v:Value)(T:List Nat):Prop:=Gro h 0 n 164 1 v (gP T) (u64s T)
structure AU (h0:HF)(n0:Nat)(v0:Value)(h:HF)(n:Nat)(w:List Nat)(v:Value)(T:List Nat):Prop where
 hn:n0≤n
 keep:Keep v0 n0 h0 h
 hw:∀b∈w,BkOf v0 b
 g:GroU h n v T
 or:v=v0∨yj n0 v
 wd:WdD T
theorem AU.refl (g:GroU h0 n0 v0 T)(a:WdD T):AU h0 n0 v0 h0 n0 [] v0 T:=⟨eT,fun _ _ _=>rfl,fun b f=>cA f nN,g,HX rfl,a⟩
theorem AU.trans {s:HF}{p A:Nat}{B w2:List Nat}{v1 v2:Value}{C q:List Nat}(a:AU h0 n0 v0 h1 p B v1 C)(b:AU h1 p v1 s A w2 v2 q):AU h0 n0 v0 s A (addW n0 w2 B) v2 q:=by
 have F:=a.hn;refine ⟨Ap a.hn b.hn,fun k m i=>(b.keep k zo fun o l c e=>?_).trans (a.keep k m i),fun k m=>?_,b.g,?_,b.wd⟩
 ·rcases a.or with h|h
  ·exact i o l c (h▸e)
  rw [e] at h;have h:3*n0≤k:=h;omega
 ·rcases yX.1 m with h|⟨h,D⟩
  ·exact a.hw k h
  obtain ⟨o,l,c,e⟩:=b.hw k h;rcases a.or with f|f
  ·exact ⟨o,l,c,f▸e⟩
  rw [e] at f;have f:3*n0≤k:=f;omega
 rcases b.or with h|h
 ·rw [h];exact a.or
 right;cases v2 with
 |slice ad l c=>
  cases ad with
  |none=>trivial
  |some ad=>have h:3*p≤ad.block:=h;show 3*n0≤ad.block;omega
 |_=>trivial
theorem AU.sl {h:HF}{n:Nat}{w:List Nat}(a:AU h0 n0 v0 h n w v T)(s:Sl h0 n0 1 u c)(p:∀b,BkOf v0 b→Off b u):Sl h n 1 u c:=
 s.keep (fun f l cap i=>by
  have m:=s.below;subst i;refine a.keep f.block m fun o q g e=>?_;have:=p f.block ⟨o,q,g,e⟩;exact this rfl) a.hn
theorem AU.off {h:HF}{n:Nat}{w:List Nat}(a:AU h0 n0 v0 h n w v T)(s:Sl h0 n0 1 u c)(g:∀b,BkOf v0 b→Off b u):∀b,BkOf v b→Off b u:=by
 rintro b ⟨o,l,k,rfl⟩;rcases a.or with e|f
 ·exact g b ⟨o,l,k,e.symm⟩
 have f:3*n0≤b:=f;exact s.below.off f
theorem GroU.row {h:HF}{n:Nat}(g:GroU h n v T)(h0:gP T≠0):∃b,v=jx (some ⟨b,0,none⟩) (gP T) (gP T)∧gro b=true∧b<3*n∧h b=some (.row (u64s T) 164):=by
 obtain ⟨b,h1,a,_,f,i,_⟩:=Gro.inv2 g h0;exact ⟨b,h1,a,f,i⟩
theorem AU.row {L:List Nat}{w:List Nat}(a:gro b=true)(i:b<3*n0)(s:ExtT n0 b h0 h')(q:∀c∈w,c=b)(p:h' b=some (.row (u64s L) 164))(hl:gP L=gP T)(g:WdD L):AU h0 n0 (jx (some ⟨b,0,none⟩) (gP T) (gP T)) h' n0 w (jx (some ⟨b,0,none⟩) (gP T) (gP T)) L:=by
 refine ⟨eT,fun k m f=>s k m fun e=>f 0 (gP T) (gP T) (by rw [e]),fun c l=>⟨0,gP T,gP T,by rw [q c l]⟩,?_,.inl rfl,g⟩;rw [←hl];exact .at_ a zo i p (by rw [yh,AO]) (uu _)
section
variable {ops:List Oper}{h:HF}{n:Nat}{d:Tmp}
theorem zdn {s:Operand}(a:AU h0 n0 v0 h n w (evF t s) T)(m:X.n0=n0∧zi ops t o=true∧o.dst=some d∧zv X.nt (some d)=true∧o.op=.call {callee:=.builtin .append,args:=#[s,x],argTypes:=#[sT,xT]}∧(match X.E.und xT with|some (.int _)=>false|none=>false|_=>true)=true∧X.E.und sT=some (.slice 164)∧X.E.inf 164=some (1,8,z)∧gP (zC z)=1)(B:argS h 1 (evF t x) 1 (u64s [0]))(l:gP T<1000000000)
  (k:∀D h' w',AU h0 n0 v0 h' (n+1) w' D (T++[0])→EO X ops r ⟨upd t d D,h',n+1,w'⟩ Q):EO X ops (o::r) ⟨t,h,n,w⟩ Q:=by
 obtain ⟨m,J,hd,hn,q,F,A,p,C⟩:=m;obtain ⟨D,h',W,f,G,_,H,K,I⟩:=wW (lo:=0) A p C ⟨eT,zo⟩ a.g B eT zo (by rw [yh];rfl) (uu _) eU;refine xD ⟨J,hd,hn,q,F⟩ f ?_;rw [m];refine k _ _ _ (a.trans ⟨zo,H,?_,?_,.inr I,?_⟩)
 ·intro b l;have i:Gro h 0 n 164 1 (evF t s) (gP T) (u64s T):=a.g;have hv:∃v,v=evF t s:=⟨_,rfl⟩;obtain ⟨v,hv⟩:=hv;rw [←hv] at i f ⊢;generalize hTl:gP T=tl at i;generalize hTc:u64s T=tc at i;cases i with
  |nil=>
   have e:=append_nil (n:=n) A p C eT zo B eT zo;rw [e] at f;injection f with f
   injection f with _ _ _ f
   rw [←f] at l;exact cA l nN
  |at_ i hlo hb2 hr hl q=>
   have e:=pB (n:=n) A p C eT zo B eT zo i hr hl (wy q (uu _)) (by rw [yh];rfl);rw [e] at f;injection f with f
   injection f with _ _ _ f
   rw [←f] at l;rw [nP.1 l];exact ⟨_,_,_,rfl⟩
 ·unfold GroU;rw [nn,show u64s (T++[0])=u64s T++u64s [0] from by unfold u64s;rw [Bl]];exact G
 exact WdD.snoc a.wd zd
theorem zl8 {i:Operand}{f:Oper}{a:Tmp}{s:Nat}(m:zi ops t o=true∧o.dst=some a∧zv X.nt (some a)=true∧o.op=.indexAddr ty x i∧X.E.und ty=some (.slice e)∧X.E.inf e=some (1,bt,z)∧evF t x=jx (some ⟨b,0,none⟩) len cap∧evF t i=jy ik ji∧ji=(j:Int))(C:j<len∧j<gP c)(F:h b=some (.row c e3))
  (D:∀p,zi ops (upd t a p) f=true)(g:f.dst=none)(l:f.op=.store e2 (.tmp a) y)(A:X.E.inf e2=some (1,s,z2))(q:∀p,zC (evF (upd t a p) y)=[v])(h1:ones [v]=true)
  (k:∀p,EO X ops r ⟨upd t a p,upd h b (some (.row (c.set j v) e3)),n,addW X.n0 [b] w⟩ Q):EO X ops (o::f::r) ⟨t,h,n,w⟩ Q:=by
 obtain ⟨m,G,K,L,M,I,N,J,B⟩:=m;subst B;refine wp ⟨m,G,K,L,M,I,N,J⟩ zo ?_;have H:=xR (E:=X.E) (t:=upd t a (kS (some ⟨b,0+(j:Int).toNat*1,none⟩))) (h:=h) (n:=n) (a:=.tmp a) (x:=y) (b:=b) (off:=0+(j:Int).toNat*1) A (zh _ _ _) (by rw [q];rfl) (by rw [q];exact h1) F (by rw [AP];omega);rw [qN (D _) (by rw [g];rfl) (by rw [l];rfl) (by rw [l];exact H),g];rw [q,AP,AO,AA,splice_one _ _ _ C.2];exact k _
end
end
theorem AU.ext {h0:HF}{n0:Nat}{f:Value}{h h':HF}{n n':Nat}{w:List Nat}{v:Value}{T:List Nat}(a:AU h0 n0 f h n w v T)(x:Ext n h h')(c:n≤n'):AU h0 n0 f h' n' w v T:=
 ⟨Ap a.hn c,fun b i e=>(x b (by have:=a.hn;omega)).trans (a.keep b i e),a.hw,Gro.ext a.g x c,a.or,a.wd⟩
theorem zkb {B V c U x s c' d P:Nat}(e:V+c*P=U)(b:s+B*c'=d+c)(f:x+d*P=V+s*P):x+c'*(P*B)=U:=by
 have a:(s+B*c')*P=(d+c)*P:=by rw [b]
 rw [AH,AH] at a;rw [show c'*(P*B)=B*c'*P from by rw [vT P B,←Az,vT c' B]];omega
theorem zob {P Z S X L:List Nat}{w c:Nat}(a:gP L=gP Z)(b:wv L+c*18446744073709551616^gP Z=wv Z+wv X*w):wv (P++(L++S))+c*18446744073709551616^(gP P+gP Z)=wv (P++(Z++S))+wv X*(18446744073709551616^gP P*w):=by
 rw [qc,qc,qc P,qc Z,a,Bq];generalize 18446744073709551616^gP Z=B at*
 generalize 18446744073709551616^gP P=C at*
 have e:=congrArg (C* ·) b;simp only [A1] at e ⊢;rw [show c*(C*B)=C*(c*B) from BP _ _ _,show wv X*(C*w)=C*(wv X*w) from BP _ _ _];omega
section
variable {ops:List Oper}{h:HF}{n:Nat}{d:Tmp}
theorem mkW {e:TypeId}(cs:List Value){l c:Nat}(a:sh X ops t o d (cls o.op=2∧mkE X.E o.op (evF t)=some ⟨cs,e,false,some (l,c)⟩))
  (k:∀h',h' (3*n+2)=some (.row cs e)→Ext n h h'→EO X ops r ⟨upd t d (jx (some ⟨3*n+2,0,none⟩) l c),h',n+1,w⟩ Q):EO X ops (o::r) ⟨t,h,n,w⟩ Q:=by obtain ⟨a,f,i,b,g⟩:=a;exact vm ⟨a,f,i,b,g⟩ (k _ (zh _ _ _) (Ext.upd zo))
end
theorem qL (k:Nat){h:HF}{n:Nat}{B:Value}{T X Y:List Nat}{aX aY:Option Addr}{lX cX lY cY:Nat}(g:GroU h n B T)(hT:WdD T)(hX:Sl h n 1 (jx aX lX cX) (u64s X))(hY:Sl h n 1 (jx aY lY cY) (u64s Y))(wX:WdD X)(wY:WdD Y)(oX:∀b,BkOf B b→Off b (jx aX lX cX))(oY:∀b,BkOf B b→Off b (jx aY lY cY))(hb:gP T<1000000∧gP X<1000000∧gP Y<1000000)(ao:gP X<40∨gP Y<40):
  CF (cal (k+3)) 245 [B,jx aX lX cX,jx aY lY cY] h n fun v D K w=>∃T',AU h n B D K w v T'∧wv T'=wv T+wv X*wv Y∧gP T'≤max (gP T) (gP X+gP Y)+40:=by
 refine zu (fn:=Tryz.f245) R4 ?_;have e1:=hX.lenW;have e2:=hY.lenW;subst e1 e2;refine Zb ?_;refine zM ?_;refine st_I (ik:=.i64) (a:=(gP X:Int)) R5 ?_;refine zM ?_;refine st_I (ik:=.i64) (a:=(gP Y:Int)) R5 ?_;refine qV R6 ?_;simp only [yN,xQ,zY,xJ];refine yu (α:=(Option Addr×Nat×List Nat)×(Option Addr×Nat×List Nat)) (fun z=>[(0,B),(1,jx z.1.1 (gP z.1.2.2) z.1.2.1),(2,jx z.2.1 (gP z.2.2.2) z.2.2.1)]) (fun z D K w=>h=D∧n=K∧w=[]∧Sl h n 1 (jx z.1.1 (gP z.1.2.2) z.1.2.1) (u64s z.1.2.2)∧Sl h n 1 (jx z.2.1 (gP z.2.2.2) z.2.2.1) (u64s z.2.2.2)∧WdD z.1.2.2∧WdD z.2.2.2∧(∀b,BkOf B b→Off b (jx z.1.1 (gP z.1.2.2) z.1.2.1))∧(∀b,BkOf B b→Off b (jx z.2.1 (gP z.2.2.2) z.2.2.1))∧gP z.2.2.2<40∧gP z.1.2.2<1000000∧wv z.1.2.2*wv z.2.2.2=wv X*wv Y∧gP z.1.2.2+gP z.2.2.2=gP X+gP Y) ?_ ?_
 ·by_cases hlt:gP X<gP Y
  ·rw [ze (by show kz _=_;rw [bO zo])];refine Zb ?_;exact zO ((aY,cY,Y),(aX,cX,X)) ⟨rfl,rfl,rfl,eP⟩ ⟨rfl,rfl,rfl,hY,hX,wY,wX,oY,oX,by show gP X<40;omega,by show gP Y<_;omega,vT _ _,BT _ _⟩
  rw [za (by show kz _=_;rw [aD zo])];refine zN ?_;exact zO ((aX,cX,X),(aY,cY,Y)) ⟨rfl,rfl,rfl,eP⟩ ⟨rfl,rfl,rfl,hX,hY,wX,wY,oX,oY,by show gP Y<40;omega,by show gP X<_;omega,rfl,rfl⟩
 rintro ⟨⟨a,c,A⟩,⟨a',c',C⟩⟩ t _ _ _ ⟨rfl,rfl,rfl,hA,hC,wA,wC,oA,oC,an,ap,N,R⟩;simp only at hA hC wA wC oA oC an ap N R;rw [←N,←R];rw [←R] at*
 have b2:=hb.1;clear N R ao hb hX hY wX wY oX oY;refine Zc ?_;refine st_I (ik:=.i64) (a:=(gP C:Int)) R5 ?_;refine Zj ?_;refine z9 (α:=Value×List Nat) (fun z=>[(0,z.1),(1,jx a (gP A) c),(2,jx a' (gP C) c')]) (fun z D K w=>AU h n B D K w z.1 z.2∧wv z.2=wv T∧gP z.2≤max (gP T) (gP A+gP C)) (fun z=>gP A+gP C-gP z.2) (B,T) ⟨rfl,rfl,rfl,eP⟩ ⟨.refl g hT,rfl,Nat.le_max_left _ _⟩ (by show gP A+gP C-gP T<LL;unfold LL;omega) ?_;rintro ⟨v1,p⟩ t h1 n1 w1 ⟨m,q,W⟩;simp only at m q W;obtain ⟨ac,rfl,_⟩:=Gro.shape m.g;refine Zc ?_;refine st_I (ik:=.i64) (a:=(gP p:Int)) R5 ?_;refine zM ?_;refine st_I (ik:=.i64) (a:=(gP A:Int)) R5 ?_;refine zM ?_;refine st_I (ik:=.i64) (a:=(gP C:Int)) R5 ?_;by_cases hlt:gP p<gP A+gP C
 ·refine Ze ?_;refine Zc ?_;refine mkW [jy .u64 0] (l:=1) (c:=1) R5 ?_;intro h2 p2 x2;refine zdn (m.ext x2 zs) R9 (yH p2 R2) zo ?_;intro v3 h3 w3 a3;refine zF (v:=v3) R5 ?_;refine zN ?_;refine goOn (v3,p++[0]) (by show _-gP (p++[0])<_-gP p;rw [nn,xl];omega) ⟨rfl,rfl,rfl,eP⟩ ⟨a3,?_,?_⟩
  ·simp only;rw [uF,Ep,BC,q]
  simp only;rw [nn,xl];omega
 refine ZB ?_;refine st_I (ik:=.i64) (a:=(gP C:Int)) R5 ?_;refine Za ?_;refine z9 (α:=Value×List Nat×Nat) (fun z=>[(0,z.1),(1,jx a (gP A) c),(36,jx a' (gP C) c'),(37,jy .i64 (gP C:Int)),(38,jy .i64 (z.2.2:Int))]) (fun z D K w=>AU h n B D K w z.1 z.2.1∧wv z.2.1=wv T+wv A*wv (C.take z.2.2)∧gP A+gP C≤gP z.2.1∧gP z.2.1≤max (gP T) (gP A+gP C)+z.2.2∧z.2.2≤gP C) (fun z=>gP C-z.2.2) (jx ac (gP p) (gP p),p,0) ⟨rfl,rfl,rfl,rfl,rfl,eP⟩ ⟨m,by simp [wv,dv] at q ⊢;exact q,by show _≤gP p;omega,W,eU⟩ (by show gP C-0<LL;unfold LL;omega) ?_;clear q W m hlt;rintro ⟨v1,p,i⟩ t h1 n1 w1 ⟨m,q,ax,W,hi⟩;simp only at m q ax W hi;refine zN ?_;by_cases hiC:i=gP C
 ·subst hiC;rw [Ax] at q;obtain ⟨ac,rfl,_⟩:=Gro.shape m.g;refine Zi ?_;exact retH _ ⟨rfl,(zk rfl),rfl⟩ ⟨p,m,q,zo⟩
 obtain ⟨y,hy⟩:∃x,C[i]?=some x:=⟨C[i]'zo,k4 zo⟩;have b0:=wC.get hy;obtain ⟨b,rfl,a7,V,O⟩:=GroU.row m.g zo;obtain ⟨P,Z,S,G,hP,hZ⟩:∃P Z S,p=P++(Z++S)∧gP P=i∧gP Z=gP A:=⟨p.take i,(p.drop i).take (gP A),(p.drop i).drop (gP A),by rw [Bf,Bf],by rw [Af];omega,by rw [Af,Ak];omega⟩;have ad:=m.sl hA oA;have ae:=m.sl hC oC;have ab:=m.off hA oA b ⟨_,_,_,rfl⟩;refine Zr ?_;refine xt (f:=fun d:Nat=>jy .u64 (d:Int)) (j:=i) R7 ae R2 hy (fun _=>rfl) R4 fun _=>?_;refine Zk ?_;refine nH i (i+gP A) R9 rfl rfl zo ?_;rw [show 0+i*1=gP P from zo,show i+gP A-i=gP Z from zo];repeat refine zR ?_
 have ai:=kU k (h:=h1) (n:=n1) (b:=b) (cZ:=gP p-i) (P:=P) (Z:=Z) (S:=S) V (by rw [←G];exact O) zo (fun d H=>m.wd d (by rw [G];simp [H])) ad wA ab hZ zo b0;refine zB _ R5 ai ?_;rintro _ h2 n2 w2 ⟨L,cc,rfl,aw,⟨al,rfl,am,ak⟩,af,a8,ag⟩;have a0:gP (P++(L++S))=gP p:=by rw [G];simp [a8]
 have a2:=m.trans (AU.row a7 V am al ak a0 (WdD.append (fun d H=>m.wd d (by rw [G];simp [H])) (WdD.append af (fun d H=>m.wd d (by rw [G];simp [H])))));have M:=zob (S:=S) (P:=P) a8 ag;rw [←G,hP,hZ,q] at M;generalize hT2:P++(L++S)=T2 at a2 M a0;have M:wv T2+cc*18446744073709551616^(i+gP A)=wv T+wv A*wv (C.take (i+1)):=by
  rw [yC hy,A1,M];omega
 clear q;refine Za ?_;refine Zg ?_;refine st_I (ik:=.i64) (a:=(gP A:Int)) R5 ?_;refine Za ?_;rw [←a0];refine z9 (α:=Value×List Nat×Nat×Nat) (fun z=>[(0,z.1),(1,jx a (gP A) c),(9,jy .u64 (z.2.2.1:Int)),(10,jy .i64 (z.2.2.2:Int)),(36,jx a' (gP C) c'),(37,jy .i64 (gP C:Int)),(38,jy .i64 (i:Int))]) (fun z D K w=>AU h n B D K w z.1 z.2.1∧wv z.2.1+z.2.2.1*18446744073709551616^z.2.2.2=wv T+wv A*wv (C.take (i+1))∧gP A+gP C≤gP z.2.1∧(gP z.2.1≤max (gP T) (gP A+gP C)+i∨(gP z.2.1≤max (gP T) (gP A+gP C)+i+1∧z.2.2.1=0))∧z.2.2.1<18446744073709551616∧z.2.2.2≤gP z.2.1) (fun z=>(gP z.2.1-z.2.2.2)+(if z.2.2.1=0 then 0 else 1)) (jx (some ⟨b,0,none⟩) (gP T2) (gP T2),T2,cc,i+gP A) ⟨rfl,rfl,rfl,by show jy .i64 _=jy .i64 _;rfl,rfl,rfl,rfl,eP⟩ ⟨by rw [a0];exact a2,M,by show _≤gP T2;omega,.inl (by show gP T2≤_;omega),aw,by show i+gP A≤gP T2;omega⟩ (by show (gP T2-(i+gP A))+_<LL;unfold LL;split<;>omega) ?_;clear m a2 M hT2 ak am al O a7 V ad ae ab ai a0 ag a8 af G;rintro ⟨v3,u,c3,e⟩ t h3 n3 w3 ⟨a3,U,aa,aj,au,aq⟩;simp only at a3 U aa aj au aq;refine zN ?_;by_cases hc0:c3=0
 ·subst hc0;rw [BE,BC] at U;refine Zi ?_;refine goOn (v3,u,i+1) (by show gP C-(i+1)<gP C-i;omega) ⟨rfl,rfl,rfl,rfl,rfl,eP⟩ ⟨a3,U,aa,by show gP u≤_+(i+1);omega,by show i+1≤_;omega⟩
 have aj:gP u≤max (gP T) (gP A+gP C)+i:=zo;refine Zp ?_;obtain ⟨b1,rfl,_⟩:=Gro.shape a3.g;refine Zg ?_;refine st_I (ik:=.i64) (a:=(gP u:Int)) R5 ?_;refine fH R6 ?_;simp only [yN,xQ,zY,xJ];refine yu (α:=Value×List Nat) (fun z=>[(0,z.1),(1,jx a (gP A) c),(9,jy .u64 (c3:Int)),(10,jy .i64 (e:Int)),(36,jx a' (gP C) c'),(37,jy .i64 (gP C:Int)),(38,jy .i64 (i:Int))]) (fun z D K w=>AU h n B D K w z.1 z.2∧wv z.2=wv u∧e<gP z.2∧gP A+gP C≤gP z.2∧(gP z.2=gP u∨(gP z.2=gP u+1∧e=gP u∧z.2[e]?=some 0))) ?_ ?_
 ·by_cases hat:e=gP u
  ·rw [ze (by show kz _=_;rw [bO zo])];refine Zc ?_;refine mkW [jy .u64 0] (l:=1) (c:=1) R5 ?_;intro h4 p4 x4;refine zdn (a3.ext x4 zs) R9 (yH p4 R2) zo ?_;intro v5 h5 w5 a5;refine zF (v:=v5) R5 ?_;refine zN ?_;refine zO (v5,u++[0]) ⟨rfl,rfl,rfl,rfl,rfl,rfl,rfl,eP⟩ ⟨a5,?_,?_,?_,.inr ⟨?_,hat,?_⟩⟩
   ·simp only;rw [uF,Ep,BC]
   ·simp only;rw [nn,xl];omega
   ·simp only;rw [nn,xl];omega
   ·simp only;rw [nn,xl]
   simp only;rw [hat,AE eT,A7];rfl
  rw [za (by show kz _=_;rw [aD zo])];refine zN ?_;exact zO (_,u) ⟨rfl,rfl,rfl,rfl,rfl,rfl,rfl,eP⟩ ⟨a3,rfl,by show e<gP u;omega,aa,.inl rfl⟩
 rintro ⟨v4,F⟩ t h4 n4 w4 ⟨a4,ah,a9,ay,J⟩;simp only at a4 ah a9 ay J;rw [←ah] at U;obtain ⟨b,rfl,a7,V,O⟩:=GroU.row a4.g zo;obtain ⟨d,H⟩:∃x,F[e]?=some x:=⟨F[e]'zo,k4 zo⟩;have b3:=a4.wd.get H;refine Zf ?_;refine xt (f:=fun d:Nat=>jy .u64 (d:Int)) (j:=e) R7 (Gro.sl a4.g) R2 H (fun _=>rfl) R4 fun _=>?_;repeat refine zR ?_
 refine qo (x:=d) (y:=c3) (c:=0) R5 zd ?_;obtain ⟨s,hs⟩:∃x,x=(d+c3+0)%18446744073709551616:=⟨_,rfl⟩;obtain ⟨c5,av⟩:∃x,x=(d+c3+0)/18446744073709551616:=⟨_,rfl⟩;rw [←hs,←av];repeat refine zR ?_
 refine zl8 (j:=e) (v:=jy .u64 (s:Int)) R9 ⟨a9,by rw [yh];exact a9⟩ O (fun _=>rfl) rfl rfl rfl (fun _=>rfl) rfl fun _=>?_;rw [vy];refine Zl ?_;have a6:gP (F.set e s)=gP F:=AY;have a5:=a4.trans (AU.row (h':=upd h4 b (some (.row (u64s (F.set e s)) 164))) (w:=[b]) (L:=F.set e s) a7 V (fun k hk az=>zj az) (fun c hc=>nP.1 hc) (zh _ _ _) a6 (WdD.set a4.wd zo));refine goOn (_,F.set e s,c5,e+1) ?_ ⟨rfl,rfl,rfl,rfl,rfl,rfl,rfl,eP⟩ ⟨a5,?_,?_,?_,?_,?_⟩
 ·show (gP (F.set e s)-(e+1))+(if c5=0 then 0 else 1)<(gP u-e)+(if c3=0 then 0 else 1);rw [a6,cC hc0];rcases J with J|⟨J,ar,I⟩
  ·split<;>omega
  rw [H] at I;injection I with I
  rw [eN zo];omega
 ·simp only;rw [Ar];exact zkb U zo (zf0 s H)
 ·show _≤gP (F.set e s);omega
 ·show (gP (F.set e s))≤_∨_;rw [a6];rcases J with J|⟨J,ar,I⟩
  ·exact .inl zo
  rw [H] at I;injection I with I
  exact .inr ⟨zo,by show c5=0;omega⟩
 ·show c5<_;omega
 show e+1≤gP (F.set e s);omega
section
variable {l2 len n n':Nat}{h h' h0:HF}{u:Value}{T:List Nat}
def SumO (lo:Nat)(h:HF)(n bS:Nat)(z:Int)(m:Nat):Prop:=∃vP vN P N e,3*lo≤bS∧bS<3*n∧gro bS=false∧h bS=some (.row [vP,vN] e)∧Gro h lo n 164 1 vP (gP P) (u64s P)∧Gro h lo n 164 1 vN (gP N) (u64s N)∧WdD P∧WdD N∧(∀b,BkOf vP b→¬BkOf vN b)∧z=(wv P:Int)-wv N∧gP P≤m∧gP N≤m
theorem SumO.ext {z:Int}(s:SumO lo h n bS z m)(x:Ext n h h')(a:n≤n'):SumO lo h' n' bS z m:=by
 obtain ⟨o,l,P,N,e,b,c,d,f,g,i,j⟩:=s;exact ⟨o,l,P,N,e,b,zo,d,(x _ c).trans f,g.ext x a,i.ext x a,j⟩
theorem SumO.start (a:3*lo≤bS)(c:bS<3*n)(d:gro bS=false)(f:h bS=some (.row [jx none 0 0,jx none 0 0] e)):SumO lo h n bS 0 0:=
 ⟨_,_,[],[],e,a,c,d,f,.nil,.nil,WdD.nil,WdD.nil,fun b ⟨_,_,_,h⟩=>(by cases h),rfl,eT,eT⟩
theorem AU.gro (a:AU h0 n0 v0 h n w v T)(i:lo≤n0)(f:∀b,BkOf v0 b→3*lo≤b):Gro h lo n 164 1 v (gP T) (u64s T):=by
 have g:Gro h 0 n 164 1 v (gP T) (u64s T):=a.g;have d:=a.or;generalize (gP T)=tl at g;generalize u64s T=tc at g;cases g with
 |nil=>exact .nil
 | @at_ b _ _ hg _ hb hr hl ho2=>
  refine .at_ hg ?_ hb hr hl ho2;rcases d with e|c
  ·exact f _ ⟨_,_,_,e.symm⟩
  have c:3*n0≤b:=c;omega
theorem Gro.bk {C:List Value}(g:Gro h lo n e 1 v len C):∀b,BkOf v b→3*lo≤b∧b<3*n∧gro b=true:=by
 rintro b ⟨o,l,c,e⟩;cases g with
 |nil=>cases e
 |at_ hg hlo hb hr hl ho=>cases e;exact ⟨hlo,hb,hg⟩
theorem Gro.weak {C:List Value}(g:Gro h lo n e 1 v len C):Gro h 0 n e 1 v len C:=by
 cases g with
 |nil=>exact .nil
 |at_ hg hlo hb hr hl ho=>exact .at_ hg zo hb hr hl ho
theorem Gro.beside {C:List Value}(g:Gro h0 lo n0 e 1 u len C)(d:Keep v n0 h0 h)(a:∀b,BkOf u b→¬BkOf v b)(f:n0≤n):Gro h lo n e 1 u len C:=by
 cases g with
 |nil=>exact .nil
 |at_ hg hlo hb hr hl ho=>exact .at_ hg hlo zo ((d _ hb fun o l c e=>a _ ⟨_,_,_,rfl⟩ ⟨o,l,c,e⟩).trans hr) hl ho
theorem SumO.mono {z:Int}(s:SumO lo h n bS z m)(C:m≤m'):SumO lo h n bS z m':=by
 obtain ⟨y,q,P,N,e,b,c,d,f,g,i,j,l,o,a,A,B⟩:=s;exact ⟨y,q,P,N,e,b,c,d,f,g,i,j,l,o,a,zo,zo⟩
theorem Gro.off {C:List Value}{x:Option BF}(g:Gro h lo n e 1 v len C)(a:gro bS=false):Gro (upd h bS x) lo n e 1 v len C:=by
 cases g with
 |nil=>exact .nil
 |at_ hg hlo hbn hr hl ho=>exact .at_ hg hlo hbn ((zj fun e=>by rw [e,a] at hg;cases hg).trans hr) hl ho
theorem zlz {x y:Int}(h:(decide (x<0)==decide (y<0))=true):(p:Int)-n+x*y=((p+x.natAbs*y.natAbs:Nat):Int)-n:=by
 have e:x*y=((x.natAbs*y.natAbs:Nat):Int):=by
  rw [A6];by_cases hx:x<0
  ·have a:y<0:=by
    rw [bO hx] at h;exact of_decide_eq_true (by simpa using h)
   rw [show (x.natAbs:Int)= -x by omega,show (y.natAbs:Int)= -y by omega,Int.neg_mul_neg]
  have a:¬y<0:=by
   rw [aD hx] at h;exact of_decide_eq_false (by simpa using h)
  rw [show (x.natAbs:Int)=x by omega,show (y.natAbs:Int)=y by omega]
 rw [e];omega
theorem zl0 {x y:Int}(h:¬(decide (x<0)==decide (y<0))=true):(p:Int)-n+x*y=(p:Int)-((n+x.natAbs*y.natAbs:Nat):Int):=by
 have e:x*y= -((x.natAbs*y.natAbs:Nat):Int):=by
  rw [A6];by_cases hx:x<0
  ·have a:¬y<0:=fun a=>h (by rw [bO hx,bO a];rfl);rw [show (x.natAbs:Int)= -x by omega,show (y.natAbs:Int)=y by omega,EX,EU]
  have a:y<0:=by
   refine An fun a=>h (by rw [aD hx,aD a];rfl)
  rw [show (x.natAbs:Int)=x by omega,show (y.natAbs:Int)= -y by omega,Int.mul_neg,EU]
 rw [e];omega
theorem qb (k:Nat){z:Int}{b1 b2:Bool}{c1 c2:Nat}{x y:Int}(hs:SumO lo h n bS z m)(a3:lo≤n)(ix:IW h lo b1 a1 l1 c1 x)(iy:IW h lo b2 a2 l2 c2 y)(sx:l1<40)(sy:l2<40)(hm:m≤1000):
  CF (cal (k+4)) 229 [kS (some ⟨bS,0,none⟩),.agg #[kz b1,jx a1 l1 c1],.agg #[kz b2,jx a2 l2 c2]] h n fun _ h' n' w=>SumO lo h' n' bS (z+x*y) (m+130)∧n≤n'∧Ext lo h h'∧(x*y=0∨bS∈w)∧∀c∈w,3*lo≤c:=by
 obtain ⟨rfl,X,sX,nX,vX⟩:=ix;obtain ⟨rfl,Y,sY,nY,vY⟩:=iy;have eX:=sX.lenW;have eY:=sY.lenW;subst eX eY;refine oI (fn:=Tryz.f229) R4 ?_;have Z:x*y=0→SumO lo h n bS (z+x*y) (m+130):=fun e=>by rw [e,Int.add_zero];exact hs.mono zo
 refine zN ?_;refine rB [kz (decide (x<0)),jx a1 (gP X) c1] R5 ?_;intro h5 p5 x5;refine rB [kz (decide (y<0)),jx a2 (gP Y) c2] R5 ?_;intro h6 p6 x6;have q5:=(x6 (3*n+2) zo).trans p5;have q:Ext n h h6:=x5.trans x6 (ux n);have K:∀(t:TF),x*y=0→(rz .ret=true∧∃vs,resF env ⟨t,h6,n+1+1,[]⟩ (Tryz.f229).results.toList=some vs∧(SumO lo h6 (n+1+1) bS (z+x*y) (m+130)∧n≤n+1+1∧Ext lo h h6∧(x*y=0∨bS∈([]:List Nat))∧∀c∈([]:List Nat),3*lo≤c)∧(True→SumO lo h n bS (z+x*y) (m+130)∧n≤n∧Ext lo h h∧(x*y=0∨bS∈([]:List Nat))∧∀c∈([]:List Nat),3*lo≤c)):=fun t e=>
  ⟨rfl,[],rfl,⟨(Z e).ext q zo,zo,q.mono a3,.inl e,fun c R=>cA R nN⟩,fun _=>⟨Z e,eT,Ext.refl _ _,.inl e,fun c R=>cA R nN⟩⟩
 refine Zc ?_;refine zl R6 q5 R2 ?_;refine zM ?_;by_cases hX0:gP X=0
 ·have hx:x=0:=by rw [xd.1 hX0] at vX;have:wv []=0:=rfl;omega
  refine Zp ?_;exact K _ (by rw [hx,Int.zero_mul])
 repeat refine zR ?_
 refine zl R6 p6 R2 ?_;refine zM ?_;by_cases hY0:gP Y=0
 ·have hy:y=0:=by rw [xd.1 hY0] at vY;have:wv []=0:=rfl;omega
  refine Zp ?_;exact K _ (by rw [hy,Ft])
 refine ZB ?_;refine zl R6 q5 R2 ?_;refine zM ?_;refine zl R6 p6 R2 ?_;refine st_B (a:= !(decide (x<0)==decide (y<0))) R5 ?_;obtain ⟨vP,vN,P,N,e,h1,h2,I,h4,G,F,wP,wN,hd,hz,lP,lN⟩:=hs;have q6:=(q bS h2).trans h4;have a5:=sX.ext (q.mono a3) (show lo≤n+1+1 by omega);have a6:=sY.ext (q.mono a3) (show lo≤n+1+1 by omega);have H:∀{v:Value} {len:Nat} {C:List Value} {e:TypeId} (_:Gro h lo n e 1 v len C) (a:Option Addr) (l c:Nat) {cs:List Value} (_:Sl h lo 1 (jx a l c) cs),∀b,BkOf v b→Off b (jx a l c):=fun g a l c _ s b O=>s.below.off (g.bk b O).1;clear K Z;refine zN ?_;by_cases hsg:(decide (x<0)==decide (y<0))=true
 ·rw [za (by show kz _=_;rw [hsg];rfl)];refine zm [0,0,2,6,14,0,32,0,128,510,1023,2047,4095] rfl ?_;refine dr_P R5 ?_;refine dr_P R5 ?_;refine dr_P R5 ?_;refine dr_P R5 ?_;refine zZ R6 (zX rfl q6 R2) R2 ?_;refine dr_P R5 ?_;refine zZ R6 (zX rfl q5 R2) R2 ?_;refine dr_P R5 ?_;refine zZ R6 (zX rfl p6 R2) R2 ?_;refine yM _ R7 (qL k (G.weak.ext q zo) wP a5 a6 nX.1 nY.1 (H G a1 (gP X) c1 sX) (H G a2 (gP Y) c2 sY) zo zo) ?_;rintro v7 h7 V w7 ⟨d,f,e7,l7⟩;obtain ⟨j,rfl,_⟩:=Gro.shape f.g;have J:=f.hn;refine ⟨rfl,J,?_⟩;have q7:h7 bS=some (.row [vP,vN] e):=(f.keep bS zo fun o l c i=>by
   have:=(G.bk bS ⟨o,l,c,i⟩).2.2;rw [I] at this;cases this).trans q6
  refine dr_P R5 ?_;refine dr_P R5 ?_;refine mJ (W:=[bS]) rfl rfl rfl (xR (h:=h7) (n:=V) rfl rfl rfl rfl q7 zb) rfl rfl rfl eT ?_;rw [uC];refine zN ?_;have g7:=f.gro (lo:=lo) zo fun b O=>(G.bk b O).1;have g8:=g7.off I (x:=some (.row [jx j (gP d) (gP d),vN] e));have a0:=((F.ext q zo).beside (n:=V) f.keep (fun b B D=>hd b D B) J).off I (x:=some (.row [jx j (gP d) (gP d),vN] e));have A:bS∈addW n [bS] (addW n w7 []):=wG h2 (nP.2 rfl);refine ⟨rfl,[],rfl,⟨⟨_,vN,d,N,e,h1,zo,I,zh _ _ _,g8,a0,f.wd,wN,?_,?_,zo,zo⟩,by show n≤V;omega,fun b O=>?_,.inr A,fun c R=>?_⟩,fun U=>?_⟩
  ·intro b B D;have q1:=F.bk b D;have a4:jx j (gP d) (gP d)=vP∨yj (n+1+1) (jx j (gP d) (gP d)):=f.or;rcases a4 with i|S
   ·exact hd b (i▸B) D
   obtain ⟨o,l,c,i⟩:=B;have i:jx j (gP d) (gP d)=jx (some ⟨b,o,none⟩) l c:=i;rw [i] at S;have S:3*(n+1+1)≤b:=S;omega
  ·rw [e7,vX,vY,hz];exact zlz hsg
  ·refine (zj zo).trans ((f.keep b zo fun o l c i=>?_).trans (q b zo));have:=(G.bk b ⟨o,l,c,i⟩).1;omega
  ·rcases xX _ _ c R with ⟨L,_⟩|L
   ·rw [nP.1 L];exact h1
   rcases xX _ _ c L with ⟨M,_⟩|M
   ·exact (G.bk c (f.hw c M)).1
   exact cA M nN
  have U:addW n [bS] (addW n w7 [])=[]:=U;rw [U] at A;exact cA A nN
 rw [ze (by show kz _=_;rw [Es.2 hsg];rfl)];refine zm [0,0,2,6,14,0,32,0,128,510,1023,2047,4095] rfl ?_;refine dr_P R5 ?_;refine dr_P R5 ?_;refine dr_P R5 ?_;refine dr_P R5 ?_;refine zZ R6 (zX rfl q6 R2) R2 ?_;refine dr_P R5 ?_;refine zZ R6 (zX rfl q5 R2) R2 ?_;refine dr_P R5 ?_;refine zZ R6 (zX rfl p6 R2) R2 ?_;refine yM _ R7 (qL k (F.weak.ext q zo) wN a5 a6 nX.1 nY.1 (H F a1 (gP X) c1 sX) (H F a2 (gP Y) c2 sY) zo zo) ?_;rintro v7 h7 V w7 ⟨d,f,e7,l7⟩;obtain ⟨j,rfl,_⟩:=Gro.shape f.g;have J:=f.hn;refine ⟨rfl,J,?_⟩;have q7:h7 bS=some (.row [vP,vN] e):=(f.keep bS zo fun o l c i=>by
  have:=(F.bk bS ⟨o,l,c,i⟩).2.2;rw [I] at this;cases this).trans q6
 refine dr_P R5 ?_;refine dr_P R5 ?_;refine mJ (W:=[bS]) rfl rfl rfl (xR (h:=h7) (n:=V) rfl rfl rfl rfl q7 zb) rfl rfl rfl eT ?_;rw [uC];refine zN ?_;have g7:=f.gro (lo:=lo) zo fun b O=>(F.bk b O).1;have g8:=g7.off I (x:=some (.row [vP,jx j (gP d) (gP d)] e));have a0:=((G.ext q zo).beside (n:=V) f.keep (hd) J).off I (x:=some (.row [vP,jx j (gP d) (gP d)] e));have A:bS∈addW n [bS] (addW n w7 []):=wG h2 (nP.2 rfl);refine ⟨rfl,[],rfl,⟨⟨vP,_,P,d,e,h1,zo,I,zh _ _ _,a0,g8,wP,f.wd,?_,?_,zo,zo⟩,by show n≤V;omega,fun b O=>?_,.inr A,fun c R=>?_⟩,fun U=>?_⟩
 ·intro b B D;have q1:=G.bk b B;have a4:jx j (gP d) (gP d)=vN∨yj (n+1+1) (jx j (gP d) (gP d)):=f.or;rcases a4 with i|S
  ·exact hd b B (i▸D)
  obtain ⟨o,l,c,i⟩:=D;have i:jx j (gP d) (gP d)=jx (some ⟨b,o,none⟩) l c:=i;rw [i] at S;have S:3*(n+1+1)≤b:=S;omega
 ·rw [e7,vX,vY,hz];exact zl0 hsg
 ·refine (zj zo).trans ((f.keep b zo fun o l c i=>?_).trans (q b zo));have:=(F.bk b ⟨o,l,c,i⟩).1;omega
 ·rcases xX _ _ c R with ⟨L,_⟩|L
  ·rw [nP.1 L];exact h1
  rcases xX _ _ c L with ⟨M,_⟩|M
  ·exact (F.bk c (f.hw c M)).1
  exact cA M nN
 have U:addW n [bS] (addW n w7 [])=[]:=U;rw [U] at A;exact cA A nN
end
theorem zmw (k:Nat)(h:HF)(n:Nat)(b:Bool)(a:Option Addr)(l c:Nat):CF (cal (k+2)) 153 [.agg #[kz b,jx a l c]] h n fun v g j w=>v=.agg #[kz (!b&&decide (0<l)),jx a l c]∧n≤j∧w=[]∧Ext n h g:=by
 refine zu (fn:=Tryz.f153) R4 ?_;refine zN ?_;refine rB [kz b,jx a l c] R5 ?_;intro y o u;refine wI [kz false,jx none 0 0] R6 ?_;intro i p e;have d:=(e (3*n+2) zo).trans o;refine Zc ?_;refine zl R6 d R2 ?_;refine st_B (a:= !b) R5 ?_;refine zM ?_;refine zl R6 d R2 ?_;refine zB _ R5 (qq k i (n+1+1) (!b) a l c) ?_;rintro _ A C _ ⟨rfl,rfl,rfl,f⟩;have s:=(f (3*(n+1)+2) zo).trans p;refine no [kz (!b&&decide (0<l)),jx a l c] R5 s R3 zb rfl (by show 3*n≤_;omega) ?_;intro B q m;refine zN ?_;exact xu R5 q rfl ⟨rfl,by show n≤n+1+1+1;omega,rfl,Ext.st ((u.trans e (ux n)).trans f zo) m zo⟩
theorem nE (k:Nat){lo:Nat}{h:HF}{n f m:Nat}{z:Int}{i u:Bool}{g s:Option Addr}{b j q v:Nat}{x y:Int}(C:SumO lo h n f z m)(l:lo≤n)(G:IW h lo i g b j x)(Y:IW h lo u s q v y)(sx:b<40)(sy:q<40)(V:m≤1000):
  CF (cal (k+5)) 230 [kS (some ⟨f,0,none⟩),.agg #[kz i,jx g b j],.agg #[kz u,jx s q v]] h n fun _ I N w=>SumO lo I N f (z-x*y) (m+130)∧n≤N∧Ext lo h I∧(x*y=0∨f∈w)∧∀c∈w,3*lo≤c:=by
 have F:x=0↔b=0:=by rw [G.2.zero];omega
 have H:=G.1;have W:∀{p:HF} (_:Ext lo h p),IW p lo (!i&&decide (0<b)) g b j (-x):=fun x2=>⟨by
  rw [H];by_cases a:b=0
  ·rw [a,F.2 a];rfl
  ·have:x≠0:=fun e=>a (F.1 e);rw [bO (show 0<b by omega),Bool.and_true];by_cases hx:x<0
   ·rw [bO hx,aD (show ¬ -x<0 by omega)];rfl
   ·rw [aD hx,bO (show -x<0 by omega)];rfl,by rw [AR];exact G.2.ext x2 eT⟩
 clear H F;refine oI (fn:=Tryz.f230) R4 ?_;refine zN ?_;refine rB [kz i,jx g b j] R5 ?_;intro h5 p5 x5;refine rB [kz u,jx s q v] R5 ?_;intro J p6 S;have q5:=(S (3*n+2) zo).trans p5;have R:Ext n h J:=x5.trans S (ux n);refine zN ?_;refine zm [0,0,2,0,15] rfl ?_;refine dr_P R5 ?_;refine zZ R6 (zT R2 q5 rfl zb rfl) R2 ?_;refine yM _ R7 (zmw (k+2) J (n+1+1) i g b j) ?_;rintro _ U n7 _ ⟨rfl,y7,rfl,x7⟩;refine ⟨rfl,y7,?_⟩;have d:Ext n h U:=R.trans x7 zo;refine zZ R6 (zT R2 p6 rfl zb rfl) R2 ?_;refine yM _ R7 (qb k (C.ext d zo) zo (W (d.mono l)) (Y.ext (d.mono l) eT) sx sy V) ?_;rintro v8 h8 Z P ⟨O,y8,x8,K,M⟩;refine ⟨rfl,y8,?_⟩;rw [uC];have T:z+ -x*y=z-x*y:=by rw [EX,Int.sub_eq_add_neg]
 rw [T] at O;have L:f<3*n:=by
  obtain ⟨_,_,_,_,_,_,p,_⟩:=C;exact p
 have o:x*y=0∨f∈addW n P []:=by
  rcases K with a|a
  ·left;rw [EX] at a;omega
  exact .inr (wG L a)
 refine ⟨rfl,[],rfl,⟨O,by show n≤Z;omega,(d.mono l).trans x8 eT,o,fun c B=>?_⟩,fun D=>?_⟩
 ·rcases xX _ _ c B with ⟨A,_⟩|A
  ·exact M c A
  exact cA A nN
 have D:addW n P []=[]:=D;rw [D] at o;have a:x*y=0:=o.resolve_right nN;exact ⟨by rw [a,Int.sub_zero];exact C.mono zo,eT,Ext.refl _ _,.inl a,fun c B=>cA B nN⟩
theorem mP (k:Nat){h:HF}{n:Nat}{p q:Option Addr}{O s P u:Nat}{A C:List Nat}(B:Sl h n 1 (jx p O s) (u64s A))(i:Sl h n 1 (jx q P u) (u64s C))(R:NW A)(S:NW C)(G:gP A<100000000)(H:wv C≤wv A):
  CF (cal (k+2)) 246 [jx p O s,jx q P u] h n fun v V n' w=>∃L,ResW n h v V n' w L∧wv L=wv A-wv C:=by
 refine zu (fn:=Tryz.f246) R4 ?_;have T:=B.lenW;have U:=i.lenW;subst T U;have o:gP C≤gP A:=by
  rcases Ci (gP A) (gP C) with j|j
  ·have:=R.len_lt S j;omega
  exact j
 refine Zb ?_;refine zM ?_;refine st_I (ik:=.i64) (a:=(gP A:Int)) R5 ?_;refine wO (len:=gP A) (cap:=gP A) R9 zo ?_;rw [show zC (jy .u64 0)=[jy .u64 0] from rfl,sE];generalize hh:upd h (3*n+2) _=h1;have d:∃e,h1 (3*n+2)=some (.row (u64s (pl (gP A) 0)) e):=⟨_,by rw [←hh,zh]⟩;obtain ⟨e,d⟩:=d;have f:Ext n h h1:=by rw [←hh];exact Ext.upd zo
 clear hh;refine Za ?_;refine Zg ?_;refine cV (m:=gP A) (cs:=u64s A) R7 (tX (B.ext f (ux n))) eT d (by rw [yh,yh,Ah];omega) (uu _) (by show 3*n≤3*n+2;omega) ?_;rw [Ca (by rw [yh,yh,Ah];omega),A3];generalize hh:upd h1 (3*n+2) _=h2;have I:h2 (3*n+2)=some (.row (u64s A) e):=by rw [←hh,zh]
 have g:Ext n h h2:=fun b G=>by rw [←hh,zj zo];exact f b G
 clear hh;refine Za ?_;refine Zg ?_;refine zB _ R5 (kh k (n:=n+1) (cX:=gP A) zo I eT R.1 (i.ext g (ux n)) S.1 (i.below.off zo) o zo H) ?_;rintro _ W n3 w3 ⟨L,⟨M,rfl,N,J⟩,D,F,a0⟩;try simp only [nj]
 rw [z0 (w:=[]) fun y hy=>by rw [M y hy];show 3*n≤3*n+2;omega];refine Za ?_;refine zM ?_;have K:=uG k (h:=W) (n:=n+1) (a:=some ⟨3*n+2,0,none⟩) (len:=gP A) (cap:=gP A) (l:=L) zo (fun _ e=>by injection e with e;rw [←e]) (oJ zo J F);refine zB _ R5 K ?_;rintro _ _ _ _ ⟨rfl,rfl,rfl,rfl,Z⟩;refine Za ?_;obtain ⟨t1,t2⟩:=sd D;exact retH _ ⟨rfl,(zk rfl),rfl⟩ ⟨_,⟨rfl,ux n,fun c Y=>(N c zo zo).trans (g c Y),Z,t1⟩,by rw [t2];omega⟩
section
variable {len n:Nat}{h:HF}
theorem Gro.form {C:List Value}(g:Gro h lo n e 1 v len C):∃a,v=jx a len len∧(∀b,a=some b→b.spot=none):=by
 cases g with
 |nil=>exact ⟨none,rfl,fun b h=>by cases h⟩
 |at_ hg hlo hb hr hl ho=>exact ⟨_,rfl,fun b h=>by injection h with h;rw [←h]⟩
theorem zkj (k:Nat){z:Int}(T:SumO lo h n bS z m)(hm:m≤10000):CX (cal (k+4)) 231 [kS (some ⟨bS,0,none⟩)] h n (IV z):=by
 obtain ⟨vP,vN,P,N,e,h1,K,h3,M,C,B,wP,wN,hd,hz,lP,lN⟩:=T;obtain ⟨aP,rfl,Z⟩:=C.form;obtain ⟨aN,rfl,Y⟩:=B.form;refine zu (fn:=Tryz.f231) R4 ?_;refine zN ?_;refine wI [kz false,jx none 0 0] R6 ?_;intro h5 F o;have G:=(o bS K).trans M;have W:=C.sl.ext o (ux n);have V:=B.sl.ext o (ux n);obtain ⟨w,I⟩:=sd wP;obtain ⟨u,H⟩:=sd wN;have tP:=wK P;have tN:=wK N;refine zN ?_;refine zm [0,1,3,7,15,0,32,96,224,511,1023,2047] rfl ?_;refine dr_P R5 ?_;refine dr_P R5 ?_;refine dr_P R5 ?_;refine zZ R6 (zX rfl G R2) R2 ?_;refine yM _ R7 (uG (k+2) (l:=P) zo Z W) ?_;rintro _ _ _ _ ⟨rfl,rfl,rfl,rfl,zP⟩;refine ⟨rfl,eT,?_⟩;refine dr_P R5 ?_;refine dr_P R5 ?_;refine dr_P R5 ?_;refine zZ R6 (zX rfl G R2) R2 ?_;refine yM _ R7 (uG (k+2) (l:=N) zo Y V) ?_;rintro _ _ _ _ ⟨rfl,rfl,rfl,rfl,zNg⟩;refine ⟨rfl,eT,?_⟩;refine dr_S R4 rfl ?_;refine dr_S R4 rfl ?_;rw [uC];refine Zm ?_;refine yk _ R5 (rY k zP zNg w u zo) ?_;rintro _ rfl;rw [I,H];by_cases hle:wv N≤wv P
 ·have S:0≤cmpZ (wv P) (wv N):=by unfold cmpZ;split<;>(try split)<;>omega
  refine Zz ?_;refine zB _ R5 (mP (k+1) zP zNg w u zo zo) ?_;rintro v6 q a _ ⟨L,⟨rfl,y6,p,d,s⟩,A⟩;obtain ⟨f,c,g,rfl,_⟩:=d.len;refine zB _ R5 (qq (k+2) q a false f c g) ?_;rintro _ O U _ ⟨rfl,rfl,rfl,b⟩;have j:=(b (3*n+2) zo).trans ((p (3*n+2) zo).trans F);refine no [kz false,jx f c g] R5 j R3 zb rfl (by show 3*n≤_;omega) ?_;intro R y i;refine zN ?_;refine xu R5 y rfl ⟨rfl,by show n≤a+1;omega,Ext.st ((o.trans p (ux n)).trans b zo) i zo,_,_,_,_,rfl,?_,?_⟩
  ·rw [aD zo]
  exact WW.only (cs:=[kz false,jx none 0 0]) ⟨L,d.ext b (ux a),s,zo⟩ j rfl i
 have S:cmpZ (wv P) (wv N)<0:=by unfold cmpZ;split<;>(try split)<;>omega
 refine Zd ?_;refine Zm ?_;refine zB _ R5 (mP (k+1) zNg zP u w zo zo) ?_;rintro v6 q a _ ⟨L,⟨rfl,y6,p,d,s⟩,A⟩;obtain ⟨f,c,g,rfl,_⟩:=d.len;refine zB _ R5 (qq (k+2) q a true f c g) ?_;rintro _ O U _ ⟨rfl,rfl,rfl,b⟩;have D:0<c:=by
  have:=d.lenW;subst this;refine Cw fun J=>?_;rw [xd.1 J] at A;have:wv []=0:=rfl;omega
 rw [bO D];have j:=(b (3*n+2) zo).trans ((p (3*n+2) zo).trans F);refine no [kz true,jx f c g] R5 j R3 zb rfl (by show 3*n≤_;omega) ?_;intro R y i;refine zN ?_;refine xu R5 y rfl ⟨rfl,by show n≤a+1;omega,Ext.st ((o.trans p (ux n)).trans b zo) i zo,_,_,_,_,rfl,?_,?_⟩
 ·rw [bO zo]
 exact WW.only (cs:=[kz false,jx none 0 0]) ⟨L,d.ext b (ux a),s,zo⟩ j rfl i
end
section
variable {n:Nat}{h:HF}{bf:Int}
theorem sq9 (h:N≤3):N*N≤9:=AD h h
theorem bz (c:i<N):i*N+N≤N*N:=by
 have h:=Ab N (show i+1≤N from c);rw [AH,Bs] at h;exact h
theorem rowX (k:Nat){o:Value}(s:h bt=some (.row [jy .i64 (N:Int),jx (some ⟨be,0,none⟩) (N*N) (N*N),o] e))(g:i<N)(f:N≤3):CX (cal (k+1)) 204 [kS (some ⟨bt,0,none⟩),jy .i64 (i:Int)] h n fun v _ _=>v=jx (some ⟨be,i*N*2,none⟩) N (N*N-i*N):=by
 have q:=sq9 f;have hr:=bz g;have c:(i:Int)*(N:Int)=((i*N:Nat):Int):=(A6 i N).symm;have d:((i:Int)+1)*(N:Int)=((i*N+N:Nat):Int):=by rw [Int.add_mul,Int.one_mul,c,Int.natCast_add]
 refine zu (fn:=Tryz.f204) R4 ?_;refine zG ?_;rw [xV rfl];refine zG ?_;refine st_mul rfl rfl rfl rfl rfl rfl (by rw [c];omega) ?_;refine zG ?_;refine st_mul rfl rfl rfl rfl rfl rfl (by rw [d];omega) ?_;refine nH (i*N) (i*N+N) R9 c d ⟨zo,zo,zo⟩ ?_;rw [Bi];refine zq ?_;show jx (some ⟨be,0+i*N*2,none⟩) N (N*N-i*N)=_;rw [AA]
def rowU (T:Nat→Nat→Int)(i p:Nat)(bf:Int)(j:Nat):Nat→Nat→Int:=fun a b=>if a=i∧b<j then (T p p*T i b-T i p*T p b).tdiv bf else T a b
theorem iI {T:Nat→Nat→Int}:rowU T i p bf 0=T:=by
 funext a b;unfold rowU;rw [cC zo]
theorem oP {T:Nat→Nat→Int}{a:Nat}(h:a≠i∨j≤b):rowU T i p bf j a b=T a b:=by
 unfold rowU;rw [cC zo]
theorem nW {T:Nat→Nat→Int}:updT (rowU T i p bf j) i j ((T p p*T i j-T i p*T p j).tdiv bf)=rowU T i p bf (j+1):=by
 funext a b;unfold updT rowU;by_cases h:a=i∧b=j
 ·rw [eN h,eN zo,h.2]
 rw [cC h];by_cases h2:a=i∧b<j
 ·rw [eN h2,eN zo]
 rw [cC h2,cC zo]
theorem qx {T:Nat→Nat→Int}(h:T i j=0)(h':T i p=0∨T p j=0):rowU T i p bf j=rowU T i p bf (j+1):=by
 rw [←nW,h,Ft];have e:(0-T i p*T p j).tdiv bf=0:=by
  rcases h' with h'|h'<;>rw [h']<;>simp
 rw [e];funext a b;unfold updT;split
 ·rename_i h2;rw [h2.1,h2.2,oP (.inr eT),h]
 rfl
theorem WW.l39 {c:Nat}(i:WW h n a l c m)(g:m<BW):l<40:=by
 obtain ⟨L,d,f,rfl⟩:=i;have:=f.len39 g;have:=d.lenW;omega
theorem zjz (k:Nat){vS:Value}{T:Nat→Nat→Int}{sb:Bool}{ab:Option Addr}{lb cb:Nat}(hT:h bt=some (.row [jy .i64 (N:Int),jx (some ⟨be,0,none⟩) (N*N) (N*N),vS] e))(bb:bt<3*n∧bt≠be)(o:OZ h n be (tabL N T))(ib:IW h n sb ab lb cb bf)(ao:bf≠0)(an:bf.natAbs<BW)(hi:i<N)(s:p<N)(ap:p≠i)(hN:N≤3)
  (hb:∀a c,a<N→c<N→(T a c).natAbs<BW)(hx:∀j,j<N→(T p p*T i j-T i p*T p j).natAbs<BW):
  CF (cal (k+9)) 207 [kS (some ⟨bt,0,none⟩),jy .i64 (i:Int),jy .i64 (p:Int),jy .i64 (p:Int),.agg #[kz sb,jx ab lb cb]] h n fun _ h' n' w=>n≤n'∧ExtB n [be] h h'∧OZ h' n' be (tabL N (rowU T i p bf N))∧(∀c∈w,c=be):=by
 have h9:=sq9 hN;have a3:=o.1;obtain ⟨am,bx⟩:=bb;refine oI (fn:=Tryz.f207) R4 ?_;refine zG ?_;refine sB [kz sb,jx ab lb cb] ?_;intro h1 p1 x1;refine zG ?_;refine sC (rowX _ ((x1 bt am).trans hT) hi hN) ?_;rintro _ h2 n2 rfl y2 x2;refine zG ?_;refine sC (rowX _ ((x2 bt zo).trans ((x1 bt am).trans hT)) s hN) ?_;rintro _ h3 n3 rfl y3 x3;refine zG ?_;obtain ⟨O,M,l4,P,t4,i4⟩:=o.el hi s;refine sI rfl s ?_;refine sL t4 a3 0 ?_;refine sA ?_;intro h5 p5 x5;refine sS [kz O,jx M l4 P] ?_;intro h6 p6 o6;refine zG ?_;refine sF (α:=Nat) (fun z=>[(3,jy .i64 (p:Int)),(9,kS (some ⟨3*n+2,0,none⟩)),(10,jx (some ⟨be,i*N*2,none⟩) N (N*N-i*N)),(11,jx (some ⟨be,p*N*2,none⟩) N (N*N-p*N)),(12,kS (some ⟨3*n3+2,0,none⟩)),(26,jx (some ⟨be,i*N*2,none⟩) N (N*N-i*N)),(27,jy .i64 (N:Int)),(28,jy .i64 (z:Int))]) (fun z h' n' w'=>n3+1≤n'∧ExtB (n3+1) [be] h6 h'∧Tr (n3+1) h6 n' h'∧OZ h' n' be (tabL N (rowU T i p bf z))∧z≤N∧(∀c∈w',c=be)∧(w'=[]→tabL N (rowU T i p bf z)=tabL N T)) (fun z=>N-z) 0 ⟨eT,ExtB.refl _ _ _,Tr.refl _ _,(o.xx intP.kp zx).as (by rw [iI]),eU,fun c hc=>cA hc nN,fun _=>by rw [iI]⟩ ?_;rintro j t h7 n7 K ⟨y7,Y7,B,y,hj,D,a5⟩;have y7:n3+1≤n7:=y7;have y:OZ h7 n7 be (tabL N (rowU T i p bf j)):=y;have hj:j≤N:=hj;have B:Tr (n3+1) h6 n7 h7:=B;have j4:IW h7 n7 O M l4 P (T i p):=(i4.x zx:IW h6 (n3+1) O M l4 P (T i p)).t B;have jb:IW h7 n7 sb ab lb cb bf:=(ib.x zx:IW h6 (n3+1) sb ab lb cb bf).t B;refine zG ?_;by_cases q8:(j:Int)<(N:Int)
 ·have d:j<N:=zo;have A:=y.1;have aw:rowU T i p bf j i j=T i j:=oP (.inr eT);have ax:rowU T i p bf j p j=T p j:=oP (.inl ap);have ay:rowU T i p bf j p p=T p p:=oP (.inl ap);obtain ⟨b8,a8,l8,c8,t8,i8⟩:=y.el hi d;obtain ⟨b9,a9,l9,c9,t9,i9⟩:=y.el s d;obtain ⟨V,U,l10,W,aq,a6⟩:=y.el s s;rw [aw] at i8;rw [ax] at i9;rw [ay] at a6;refine zG ?_;refine sI rfl d ?_;refine sL t8 A 0 ?_;refine sA ?_;intro bu c1 c3;refine zG ?_;refine sS [kz b8,jx a8 l8 c8] ?_;intro bv c2 c0;refine zG ?_;refine sC (yU _ (i8.x zx)) ?_;rintro _ Y f ⟨bq,rfl,ar⟩ ca c5;rcases bvs ar with ⟨rfl,J⟩|⟨rfl,J⟩
  ·refine Zh ?_;intro q ae v;have ah:SumO f q (f+1) (3*f+2) 0 0:=SumO.start zo zo (yJ f) ae;have F:IW q f V U l10 W (T p p):=(a6.x zx:IW Y f V U l10 W (T p p)).ext v eT;have H:IW q f b8 a8 l8 c8 (T i j):=(i8.x zx:IW Y f b8 a8 l8 c8 (T i j)).ext v eT;have G:IW q f O M l4 P (T i p):=(j4.x zx:IW Y f O M l4 P (T i p)).ext v eT;have I:IW q f b9 a9 l9 c9 (T p j):=(i9.x zx:IW Y f b9 a9 l9 c9 (T p j)).ext v eT;refine zG ?_;refine zm [0,0,3,7,0,31] rfl ?_;refine zH ?_;refine dI rfl s ?_;refine dL aq A 0 ?_;refine zH ?_;refine yM _ R7 (qb _ ah zs F H (F.2.l39 (hb _ _ s s)) (H.2.l39 (hb _ _ hi d)) zo) ?_;rintro _ b3 bd bj ⟨ai,ak,L,_,R⟩;refine ⟨rfl,ak,?_⟩;rw [uC,z0 (fun b hb=>by have:=R b hb;show 3*n≤b;omega)];refine zG ?_;refine zm [0,0,0,6,14,31] rfl ?_;refine zH ?_;refine dI rfl d ?_;refine dL t9 A 0 ?_;refine yM _ R7 (nE _ ai zo (G.ext L eT) (I.ext L eT) (G.2.l39 (hb _ _ hi s)) (I.2.l39 (hb _ _ s d)) zo) ?_;rintro _ b5 bg bk ⟨aj,al,bl,_,S⟩;refine ⟨rfl,al,?_⟩;rw [uC,z0 (fun b hb=>by have:=S b hb;show 3*n≤b;omega)];refine zG ?_;refine zm [0,0,0,0,12,31,63] rfl ?_;refine zH ?_;refine dC (zkj _ aj zo) ?_;rintro _ b6 bh ⟨b1,b0,bc,b2,rfl,a7⟩ bo bm;refine zH ?_;refine dC (quoX _ a7 (jb.x zx) (by rw [F9];exact hx j d) an ao) ?_;rintro _ b7 bi ⟨a1,a0,ac,a2,rfl,aa⟩ bp bn;refine zH ?_;refine dI rfl d ?_;refine dZ [kz a1,jx a0 ac a2] (y.xx intP.kp zx) intP.kp (by rw [yI];exact rH hi d) (AH _ _ _).symm ⟨_,_,_,_,rfl,aa⟩ ?_;intro ba ad az _;refine zG ?_;have C:addW n [be] K=be::K:=ry a3;exact sK (j+1) ⟨zo,zy,B.trans zt,ad.as (by rw [F9,oN hi d,nW]),(by show j+1≤N;omega),fun c hc=>(by have hc:c∈addW n [be] K:=hc;rw [C] at hc;rcases sP.1 hc with hc|hc;exact hc;exact D c hc),fun u=>(by have u:addW n [be] K=[]:=u;rw [C] at u;cases u)⟩
  refine zG ?_;refine sC (yU _ (j4.x zx)) ?_;rintro _ bw bz ⟨br,rfl,au⟩ cc c6;rcases bvs au with ⟨rfl,af⟩|⟨rfl,af⟩
  ·refine zG ?_;refine sI rfl d ?_;refine sL t9 A 0 ?_;refine sC (yU _ (i9.x zx)) ?_;rintro _ Z g ⟨bs,rfl,av⟩ cd c7;rcases bvs av with ⟨rfl,ag⟩|⟨rfl,ag⟩
   ·refine Zh ?_;intro q ae v;have ah:SumO g q (g+1) (3*g+2) 0 0:=SumO.start zo zo (yJ g) ae;have F:IW q g V U l10 W (T p p):=(a6.x zx:IW Z g V U l10 W (T p p)).ext v eT;have H:IW q g b8 a8 l8 c8 (T i j):=(i8.x zx:IW Z g b8 a8 l8 c8 (T i j)).ext v eT;have G:IW q g O M l4 P (T i p):=(j4.x zx:IW Z g O M l4 P (T i p)).ext v eT;have I:IW q g b9 a9 l9 c9 (T p j):=(i9.x zx:IW Z g b9 a9 l9 c9 (T p j)).ext v eT;refine zG ?_;refine zm [0,0,3,7,0,31] rfl ?_;refine zH ?_;refine dI rfl s ?_;refine dL aq A 0 ?_;refine zH ?_;refine yM _ R7 (qb _ ah zs F H (F.2.l39 (hb _ _ s s)) (H.2.l39 (hb _ _ hi d)) zo) ?_;rintro _ b3 bd bj ⟨ai,ak,L,_,R⟩;refine ⟨rfl,ak,?_⟩;rw [uC,z0 (fun b hb=>by have:=R b hb;show 3*n≤b;omega)];refine zG ?_;refine zm [0,0,0,6,14,31] rfl ?_;refine zH ?_;refine dI rfl d ?_;refine dL t9 A 0 ?_;refine yM _ R7 (nE _ ai zo (G.ext L eT) (I.ext L eT) (G.2.l39 (hb _ _ hi s)) (I.2.l39 (hb _ _ s d)) zo) ?_;rintro _ b5 bg bk ⟨aj,al,bl,_,S⟩;refine ⟨rfl,al,?_⟩;rw [uC,z0 (fun b hb=>by have:=S b hb;show 3*n≤b;omega)];refine zG ?_;refine zm [0,0,0,0,12,31,63] rfl ?_;refine zH ?_;refine dC (zkj _ aj zo) ?_;rintro _ b6 bh ⟨b1,b0,bc,b2,rfl,a7⟩ bo bm;refine zH ?_;refine dC (quoX _ a7 (jb.x zx) (by rw [F9];exact hx j d) an ao) ?_;rintro _ b7 bi ⟨a1,a0,ac,a2,rfl,aa⟩ bp bn;refine zH ?_;refine dI rfl d ?_;refine dZ [kz a1,jx a0 ac a2] (y.xx intP.kp zx) intP.kp (by rw [yI];exact rH hi d) (AH _ _ _).symm ⟨_,_,_,_,rfl,aa⟩ ?_;intro ba ad az _;refine zG ?_;have C:addW n [be] K=be::K:=ry a3;exact sK (j+1) ⟨zo,zy,B.trans zt,ad.as (by rw [F9,oN hi d,nW]),(by show j+1≤N;omega),fun c hc=>(by have hc:c∈addW n [be] K:=hc;rw [C] at hc;rcases sP.1 hc with hc|hc;exact hc;exact D c hc),fun u=>(by have u:addW n [be] K=[]:=u;rw [C] at u;cases u)⟩
   refine zG ?_;exact sK (j+1) ⟨zo,zy,B.trans zt,(y.xx intP.kp zx).as (by rw [qx J (.inr ag)]),(by show j+1≤N;omega),D,fun u=>by rw [←qx J (.inr ag)];exact a5 u⟩
  refine zG ?_;exact sK (j+1) ⟨zo,zy,B.trans zt,(y.xx intP.kp zx).as (by rw [qx J (.inl af)]),(by show j+1≤N;omega),D,fun u=>by rw [←qx J (.inl af)];exact a5 u⟩
 refine zG ?_;have d:j=N:=zo;subst d;exact ⟨rfl,[],rfl,⟨zo,zy,y,D⟩,fun u=>⟨eT,ExtB.refl _ _ _,o.as (a5 u).symm,fun c hc=>cA hc nN⟩⟩
end
def pOps (E:Env):List Oper→List Nat→Nat→List Nat→Bool
 |[],_,_,_=>true
 |o::r,m::ms,i,es=>match o.op with
  | .store _ _ _=>es.all (fun j=>m.testBit j)&&pOps E r ms (i+1) (i::es)
  |_=>(qOp E o.op&& !(AG (cls o.op) 1))&&pOps E r ms (i+1) es
 |_::_,[],_,_=>false
theorem zhc:∀{a:List (Nat×HF×List Nat)},(∀y∈a,m.testBit y.1=true)→xg m a=true:=by
 intro a;induction a with
 |nil=>intro _;rfl
 |cons y a ih=>
  intro h;obtain ⟨j,g⟩:=y;unfold xg;rw [h (j,g) gN];exact ih fun z b=>h z (by simp [b])
theorem zjl {ops:List Oper}:∀(l:List Oper) (ms:List Nat) (i:Nat) (s:SV) (f:List (Nat×HF×List Nat)) (es:List Nat),(∀y∈f,y.1∈es)→pOps X.E l ms i es=true→yi X ops l ms i ⟨s,[],[],f⟩=seqF X ops l s:=by
 intro l;induction l with
 |nil=>intro ms i s f es _ _;simp [yi,seqF]
 |cons o l ih=>
  intro ms i s f es e b;cases ms with
  |nil=>simp [pOps] at b
  |cons m ms=>
   unfold pOps at b;unfold yi seqF;simp only;split at b
   ·rename_i ty a x g;rw [AT] at b;cases hw:zi ops s.t o with
    |false=>
     simp only;congr 1;funext s1;exact ih ms (i+1) s1 f (i::es) (fun y j=>AV _ (e y j)) b.2
    |true=>
     simp only;have p:cls o.op=3:=by rw [g];rfl
     unfold pq opF;have u:xg m f=true:=zhc fun y j=>Bt.1 b.1 _ (e y j);simp only [p,u,xU,A4];unfold mG;have A:effF X.E o.op (evF s.t) s.h s.n=rC X.E ty (evF s.t a) (evF s.t x) s.h s.n:=by rw [g];rfl
     rw [A];cases he:rC X.E ty (evF s.t a) (evF s.t x) s.h s.n with
     |none=>rfl
     |some r=>
      obtain ⟨v,F,G,W,rfl⟩:=zdj he;have B:=zl5 he;subst B;simp only;have w:yc m W []=true:=rfl;unfold xS;split
      ·simp only [w,sn eT,A4];refine ih ms (i+1) _ _ (i::es) (fun y j=>?_) b.2;rcases sP.1 j with rfl|j
       ·exact As
       exact AV _ (e y j)
      rfl
   rw [AT,AT] at b;cases hw:zi ops s.t o with
   |false=>
    simp only;congr 1;funext s1;exact ih ms (i+1) s1 f es e b.2
   |true=>
    simp only;unfold pq opF;rcases zkt b.1.1 with D|⟨t,d,x,k,g,q⟩
    ·cases p:cls o.op with
     |zero=>
      simp only [p];cases yA X.E o.op (evF s.t) with
      |none=>rfl
      |some v=>
       simp only;congr 1;funext s1;exact ih ms (i+1) s1 f es e b.2
     |succ c=>
      cases c with
      |zero=>rw [p] at b;simp at b
      |succ c=>omega
    have p:cls o.op=4:=by rw [g];rfl
    have C:mkE X.E o.op (evF s.t)=none:=by rw [g];exact mX q _
    simp only [p,C];cases hpu:yA X.E o.op (evF s.t) with
    |none=>
     rw [g];simp only [qg q]
    |some v=>
     rw [g];simp only [qg q];congr 1;funext s1;exact ih ms (i+1) s1 f es e b.2
theorem lK {s:SV}{Q:Ex→SV→Prop}(b:pOps X.E ops.toList (wM ops.toList []) 0 []=true):EC X (.region id ops true) s Q↔EO X ops.toList ops.toList s (Q .normal):=by
 unfold EC EO;rw [xz];have a:yi X ops.toList ops.toList (wM ops.toList []) 0 ⟨s,[],[],[]⟩=seqF X ops.toList ops.toList s:=zjl _ _ _ _ _ _ (fun y c=>cA c nN) b;rw [a];cases h:seqF X ops.toList ops.toList s with
 |none=>simp
 |some r=>simp only [tf];simp
section
variable {x:Operand}
def yT:List UInt8:=[48,48,48,49,48,50,48,51,48,52,48,53,48,54,48,55,48,56,48,57,49,48,49,49,49,50,49,51,49,52,49,53,49,54,49,55,49,56,49,57,50,48,50,49,50,50,50,51,50,52,50,53,50,54,50,55,50,56,50,57,51,48,51,49,51,50,51,51,51,52,51,53,51,54,51,55,51,56,51,57,52,48,52,49,52,50,52,51,52,52,52,53,52,54,52,55,52,56,52,57,53,48,53,49,53,50,53,51,53,52,53,53,53,54,53,55,53,56,53,57,54,48,54,49,54,50,54,51,54,52,54,53,54,54,54,55,54,56,54,57,55,48,55,49,55,50,55,51,55,52,55,53,55,54,55,55,55,56,55,57,56,48,56,49,56,50,56,51,56,52,56,53,56,54,56,55,56,56,56,57,57,48,57,49,57,50,57,51,57,52,57,53,57,54,57,55,57,56,57,57]
theorem wL (m:Nat)(b:m<100):∃b1 b2,yT[m*2]?=some b1∧yT[m*2+1]?=some b2∧b1.toNat=48+m/10∧b2.toNat=48+m%10∧(yT.drop (m*2)).take 2=[b1,b2]:=by
 have h:∀i:Fin 100,(match yT[i.val*2]?,yT[i.val*2+1]? with|some b1,some b2=>decide (b1.toNat=48+i.val/10∧b2.toNat=48+i.val%10∧(yT.drop (i.val*2)).take 2=[b1,b2])|_,_=>false)=true:=by decide+kernel
 have:=h ⟨m,b⟩;simp only at this;split at this
 ·rename_i b1 b2 h1 h2;have a:=of_decide_eq_true this;exact ⟨b1,b2,h1,h2,a.1,a.2.1,a.2.2⟩
 cases this
section
variable {ops:List Oper}{h:HF}{n:Nat}{d:Tmp}
theorem iv {i l:Operand}(a:sh X ops t o d (o.op=.slice ty x (some i) (some l) none∧X.E.und ty=some .string∧evF t x=kF ⟨⟨s⟩⟩∧evF t i=jy ik (j:Int)∧evF t l=jy ik' (m:Int)))(hl:j≤m∧m≤gP s)
  (k:EO X ops r ⟨upd t d (kF ⟨⟨(s.drop j).take (m-j)⟩⟩),h,n,w⟩ Q):EO X ops (o::r) ⟨t,h,n,w⟩ Q:=by
 obtain ⟨a,f,q,b,u,v,g,p⟩:=a;refine zF ⟨a,f,q,(by rw [b];rfl),?_⟩ k;rw [b];show yQ X.E ty (evF t x) (some (evF t i)) (some (evF t l))=_;rw [v,g,p];have c:(0:Int)≤(j:Int)∧(j:Int)≤(m:Int):=zo;have e:(0:Int)≤(m:Int)∧(m:Int)≤(gP s:Int):=zo;simp only [yQ,u,bnd,eN c,eN e,AP]
end
section
variable {ops:List Oper}{h:HF}{n:Nat}{d:Tmp}
theorem zbc {a s:Nat}(l:zi ops t o=true)(f:o.dst=some d)(g:zv X.nt (some d)=true)(b:o.op=.binOp .shr ty x y ty')(p:evF t x=jy .i64 (a:Int))(q:evF t y=jy ik (s:Int))(u:s≤64)
  (k:EO X ops r ⟨upd t d (jy .i64 ((a/2^s:Nat):Int)),h,n,w⟩ Q):EO X ops (o::r) ⟨t,h,n,w⟩ Q:=by
 refine zF ⟨l,f,g,(by rw [b];rfl),?_⟩ k;rw [b];show binE X.E .shr ty (evF t x) (evF t y)=_;rw [p,q];have c:¬(s:Int)<0:=zo;have e:min (s:Int).toNat (By .i64)=s:=by simp [By];omega
 simp only [binE,isSh,shE,cC c,e];rw [Int.fdiv_eq_ediv_of_nonneg _ (Int.le_of_lt (Int.pow_pos zd)),show (2:Int)^s=((2^s:Nat):Int) from by simp];rfl
end
theorem zcd (h:i<10):decT i=[Bh (48+i)]:=by
 have a:(Bh (48+i)).toNat=48+i:=uW h;by_cases h0:i=0
 ·subst h0;rfl
 have:=pr (d:=[Bh (48+i)]) (fun b c=>by rw [nP.1 c,a];omega) gN (by
  intro e;injection e with e
  have:=congrArg UInt8.toNat e;rw [a] at this;have f:(48:UInt8).toNat=48:=rfl;omega)
 rw [←this];congr 1;show i=10*0+((Bh (48+i)).toNat-48);rw [a];omega
theorem zjp {a c:UInt8}(q:10≤i∧i<100)(l:a.toNat=48+i/10)(p:c.toNat=48+i%10):decT i=[a,c]:=by
 have:=pr (d:=[a,c]) (fun b f=>by
  simp only [sP,nN,or_false] at f;rcases f with rfl|rfl<;>omega) gN (by
  intro e;injection e with e
  have:=congrArg UInt8.toNat e;have g:(48:UInt8).toNat=48:=rfl;omega)
 rw [←this];congr 1;show i=10*(10*0+(a.toNat-48))+(c.toNat-48);omega
def znu:List UInt8:=[48,49,50,51,52,53,54,55,56,57,97,98,99,100,101,102,103,104,105,106,107,108,109,110,111,112,113,114,115,116,117,118,119,120,121,122]
theorem znt (m:Nat)(a:m<10):(znu.drop m).take 1=[Bh (48+m)]:=by
 have h:∀i:Fin 10,(znu.drop i.val).take 1=[Bh (48+i.val)]:=by decide+kernel
 exact h ⟨m,a⟩
theorem ja (k:Nat)(h:HF)(n:Nat)(g:i<100):VF (cal (k+1)) 187 [jy .i64 (i:Int)] h n fun v=>v=kF ⟨⟨decT i⟩⟩:=by
 refine zI (fn:=Tryz.f187) R4 ?_;refine Zb ?_;by_cases h10:i<10
 ·refine Zz ?_;refine zR ?_;refine iv (s:=znu) (j:=i) (m:=i+1) R8 ⟨zo,by show i+1≤36;omega⟩ ?_;rw [show i+1-i=1 by omega,znt i h10,←zcd h10];refine Zo ?_;exact retF _ rfl (zk rfl) R2 rfl
 refine Zj ?_;obtain ⟨l,p,_,_,c,e,f⟩:=wL i g;refine zM ?_;refine st_mul (a:=(i:Int)) (b:=2) rfl rfl rfl rfl rfl rfl zo ?_;refine zM ?_;refine st_mul (a:=(i:Int)) (b:=2) rfl rfl rfl rfl rfl rfl zo ?_;refine zR ?_;refine iv (s:=yT) (j:=i*2) (m:=i*2+2) R8 ⟨zo,by show i*2+2≤200;omega⟩ ?_;rw [show i*2+2-i*2=2 by omega,f,←zjp zo c e];refine Zo ?_;exact retF _ rfl (zk rfl) R2 rfl
theorem zav (k:Nat)(h:HF)(n:Nat)(b:Bool):VF (cal (k+1)) 219 [kz b] h n fun v=>v=jy .i64 (if b then 1 else 0):=by
 refine zI (fn:=Tryz.f219) R4 ?_;refine Zx ?_;cases b
 ·rw [za rfl];refine Zb ?_;exact retF _ rfl (zk rfl) R2 rfl
 rw [ze rfl];refine Zb ?_;exact retF _ rfl (zk rfl) R2 rfl
theorem ziy (k:Nat)(h:HF)(n:Nat)(c:m≤64):VF (cal (k+1)) 217 [jy .i64 (m:Int)] h n fun v=>v=jy .i64 ((m*78913/262144:Nat):Int):=by
 refine zI (fn:=Tryz.f217) R4 ?_;refine Zc ?_;refine Zc ?_;refine st_mul (a:=(m:Int)) (b:=78913) rfl rfl rfl rfl rfl rfl zo ?_;refine zbc (a:=m*78913) (s:=18) rfl rfl rfl rfl rfl rfl zo ?_;refine Zo ?_;exact retF _ rfl (zk rfl) R2 rfl
theorem zpp (a:m<20):GK.p10[0+(m:Int).toNat*1]?=some (jy .u64 ((10^m:Nat):Int)):=by
 rw [show 0+(m:Int).toNat*1=m from zo];have h:∀i:Fin 20,(match GK.p10[i.val]? with|some (jy .u64 x)=>decide (x=((10^i.val:Nat):Int))|_=>false)=true:=by decide+kernel
 have:=h ⟨m,a⟩;simp only at this;split at this
 ·rename_i x hx;rw [hx,of_decide_eq_true this]
 cases this
theorem zbw (a:m≤64):m*78913/262144<20∧2^m≤10^(m*78913/262144+1)∧10^(m*78913/262144)≤5*2^m:=by
 have h:∀i:Fin 65,decide (i.val*78913/262144<20∧2^i.val≤10^(i.val*78913/262144+1)∧10^(i.val*78913/262144)≤5*2^i.val)=true:=by decide+kernel
 exact of_decide_eq_true (h ⟨m,zo⟩)
theorem vQ (k:Nat){h:HF}(B:GK.G h)(n:Nat){x:Nat}(D:x<18446744073709551616)(h0:x≠0):VF (cal (k+2)) 188 [jy .u64 (x:Int)] h n fun v=>∃m:Nat,v=jy .i64 (m:Int)∧1≤m∧m≤20∧x<10^m∧10^(m-1)≤x:=by
 refine zI (fn:=Tryz.f188) R4 ?_;refine Zb ?_;refine zM ?_;refine yk _ R5 (ag k _ _ D) ?_;rintro _ ⟨m,rfl,e,f,g⟩;refine yk _ R5 (ziy k _ _ e) ?_;rintro _ rfl;obtain ⟨c,u,A⟩:=zbw e;have F:=g h0;generalize m*78913/262144=q at c u A ⊢;refine Zu ?_;refine Zg ?_;refine fF R8 ⟨Dx _,Int.ofNat_lt.2 c⟩ ?_;refine zl R6 B.2.1 (v:=jy .u64 ((10^q:Nat):Int)) ⟨rfl,(zpp c)⟩ ?_;by_cases hge:10^q≤x
 ·refine kq R6 (Hg.2 hge) ?_;refine yk _ R5 (zav (k+1) _ _ true) ?_;rintro _ rfl;refine ur (a:=(q:Int)) (b:=1) R6 zo ?_;refine Zo ?_;exact retF _ rfl (zk rfl) R2 ⟨q+1,rfl,zo,zo,tv f u,hge⟩
 refine iD R6 (fun C=>hge (Hg.1 C)) ?_;refine yk _ R5 (zav (k+1) _ _ false) ?_;rintro _ rfl;refine ur (a:=(q:Int)) (b:=0) R6 zo ?_;rw [Int.add_zero];refine Zo ?_;have l:1≤q:=by
  rcases Nat.eq_zero_or_pos q with h|h
  ·subst h;rw [CL] at hge;omega
  exact h
 refine retF _ rfl (zk rfl) R2 ⟨q,rfl,l,zo,zo,?_⟩;obtain ⟨p,rfl⟩:∃p,q=p+1:=⟨q-1,zo⟩;rw [Ar] at A;show 10^p≤x;omega
end
section
variable {h h0:HF}{n:Nat}{c:List Value}
def Dg (c:List Value)(o L U i:Nat):Prop:=∀j,i≤j→j<L→c[o+j]?=some (jy .u8 ((48+U/10^(L-1-j)%10:Nat):Int))
structure FbI (h0:HF)(B:Nat)(e:TypeId)(o L U:Nat)(c0:List Value)(h:HF)(w:List Nat)(c:List Value)(i:Nat):Prop where
 w1:∀b∈w,b=B
 w2:w=[]→h=h0
 oth:Only B h0 h
 row:h B=some (.row c e)
 len:gP c=gP c0
 dg:Dg c o L U i
 out:∀k,(k<o∨o+L≤k)→c[k]?=c0[k]?
theorem FbI.put {o:Nat}{v:Nat}(f:FbI h0 B e o L U c0 h w c i)(s:i=m+1)(q:i≤L)(hl:o+L≤gP c0)(l:v=48+U/10^(L-i)%10):FbI h0 B e o L U c0 (upd h B (some (.row (c.set (o+m) (jy .u8 (v:Int))) e))) (B::w) (c.set (o+m) (jy .u8 (v:Int))) m:=by
 refine ⟨fun b a=>?_,fun h=>(by cases h),fun b a=>(zj a).trans (f.oth b a),zh _ _ _,by rw [AY,f.len],fun j p d=>?_,fun k g=>?_⟩
 ·rcases sP.1 a with h|h
  ·exact h
  exact f.w1 b h
 ·by_cases e2:j=m
  ·subst e2;rw [List.getElem?_set_self (by rw [f.len];omega),l,show L-1-j=L-i by omega]
  rw [Gv zo];exact f.dg j zo d
 rw [Gv zo];exact f.out k g
def FbP (h:HF)(n B:Nat)(e:TypeId)(o L U:Nat)(c0:List Value)(h':HF)(n':Nat)(w:List Nat):Prop:=n'=n∧(∀b∈w,b=B)∧∃c,FbI h B e o L U c0 h' w c 0
theorem jz (k:Nat){o:Nat}(hB:B<3*n)(Z:h B=some (.row c0 e))(hl:o+L≤gP c0)(hL:1≤L∧L≤20)(hU:U<10^L)(a2:U<18446744073709551616):
  CF (cal (k+1)) 189 [jx (some ⟨B,o,none⟩) L cap,jy .u64 (U:Int)] h n fun _ J M w=>FbP h n B e o L U c0 J M w:=by
 refine oI (fn:=Tryz.f189) R4 ?_;have f0:FbI h B e o L U c0 h [] c0 L:=⟨fun b hb=>cA hb nN,fun _=>rfl,fun _ _=>rfl,Z,rfl,fun j K h2=>cA K zo,fun _ _=>rfl⟩;refine Zb ?_;refine z9 (α:=Nat×Nat×List Value) (fun z=>[(0,jx (some ⟨B,o,none⟩) L cap),(1,jy .u64 (z.2.1:Int)),(4,jy .i64 (z.1:Int))])
  (fun z J M w=>n=M∧FbI h B e o L U c0 J w z.2.2 z.1∧z.1≤L∧z.2.1=U/10^(L-z.1)) (fun z=>z.1) (L,U,c0) ⟨rfl,rfl,rfl,eP⟩ ⟨rfl,f0,eT,by show U=U/10^(L-L);rw [A7,CL,DR]⟩ (by show L<LL;unfold LL;omega) ?_
 rintro ⟨i,u,c⟩ t K _ w ⟨rfl,d,F,g⟩;have d:FbI h B e o L U c0 K w c i:=d;have F:i≤L:=F;have g:u=U/10^(L-i):=g;have C:∀q,U/10^(L-i+q)=u/10^q:=fun q=>by rw [g,Cm,←Bq]
 have a6:u<18446744073709551616:=by rw [g];exact Ae (Bk _ _) a2
 have f:u<10^i:=by
  rw [g];refine Dc ?_;rw [←Bq,show L-i+i=L by omega];exact hU
 refine zN ?_;by_cases h8:8≤i
 ·refine Ze ?_;refine Zc ?_;refine qU (a:=u) (b:=100000000) R6 zo ?_;refine nK (c:=u%100000000) R7 zo ?_;refine Zu ?_;refine uq (a:=u) (b:=100000000) R6 ⟨zo,zo⟩ ?_;refine Zo ?_;generalize hus:u%100000000=us;refine zM ?_;refine xM (a:=us) (b:=10000) R6 ⟨zo,zo⟩ ?_;refine zM ?_;refine wt (a:=us) (b:=10000) R6 zo ?_;refine Zg ?_;refine zN ?_;generalize hlo:us%10000=lo;generalize hhi:us/10000=hg;have a3:lo%100=u%100:=zo;refine zM ?_;refine xM (a:=lo) (b:=100) R6 ⟨zo,zo⟩ ?_;refine xc (a:=lo/100) (b:=2) R6 zo ?_;refine zM ?_;refine wt (a:=lo) (b:=100) R6 zo ?_;refine xc (a:=lo%100) (b:=2) R6 zo ?_;refine Zg ?_;refine Zc ?_;refine xM (a:=hg) (b:=100) R6 ⟨zo,zo⟩ ?_;refine xc (a:=hg/100) (b:=2) R6 zo ?_;refine zM ?_;refine wt (a:=hg) (b:=100) R6 zo ?_;refine xc (a:=hg%100) (b:=2) R6 zo ?_;refine Zg ?_;refine zN ?_;generalize hm1:lo%100=m1;generalize hm2:lo/100=m2;generalize hm3:hg%100=m3;generalize hm4:hg/100=m4;have H:m1%10=u%10∧m1/10=u/10%10:=zo;have S:m2%10=u/100%10∧m2/10=u/1000%10:=zo;have k2:m3%10=u/10000%10∧m3/10=u/100000%10:=zo;have k3:m4%10=u/1000000%10∧m4/10=u/10000000%10:=zo;have l1:m1<100∧m2<100∧m3<100∧m4<100:=zo;clear a3 hm1 hm2 hm3 hm4 hlo hhi hus;rw [lK rfl];obtain ⟨N,O,l,p,y,A,_⟩:=wL (m1) zo;refine Zy ?_;refine Zy ?_;refine zM ?_;refine yO (a:=m1*2) (b:=1) R6 zo ?_;refine yp (s:=yT) (j:=m1*2+1) R8 p ?_;rw [A];refine zM ?_;refine yp (s:=yT) (j:=m1*2) R8 l ?_;rw [y];refine xa (j:=i-1) R8 zo ⟨zo,by rw [d.len];omega⟩ d.row (by show B<3*n;omega) (fun _=>rfl) R3 (fun _=>rfl) rfl fun _=>?_;have D:=d.put (m:=i-1) (v:=48+(m1)%10) zo zo hl (by rw [←g,H.1]);refine xa (j:=i-2) R8 zo ⟨zo,by rw [D.len];omega⟩ D.row (by show B<3*n;omega) (fun _=>rfl) R3 (fun _=>rfl) rfl fun _=>?_;have G:=D.put (m:=i-2) (v:=48+(m1)/10) zo zo hl (by rw [show L-(i-1)=L-i+1 by omega,C 1,H.2]);clear l p y A;refine zN ?_;rw [lK rfl];obtain ⟨N,O,l,p,y,A,_⟩:=wL (m2) zo;refine Zy ?_;refine Zy ?_;refine zM ?_;refine yO (a:=m2*2) (b:=1) R6 zo ?_;refine yp (s:=yT) (j:=m2*2+1) R8 p ?_;rw [A];refine zM ?_;refine yp (s:=yT) (j:=m2*2) R8 l ?_;rw [y];refine xa (j:=i-3) R8 zo ⟨zo,by rw [G.len];omega⟩ G.row (by show B<3*n;omega) (fun _=>rfl) R3 (fun _=>rfl) rfl fun _=>?_;have I:=G.put (m:=i-3) (v:=48+(m2)%10) zo zo hl (by rw [show L-(i-2)=L-i+2 by omega,C 2,S.1]);refine xa (j:=i-4) R8 zo ⟨zo,by rw [I.len];omega⟩ I.row (by show B<3*n;omega) (fun _=>rfl) R3 (fun _=>rfl) rfl fun _=>?_;have P:=I.put (m:=i-4) (v:=48+(m2)/10) zo zo hl (by rw [show L-(i-3)=L-i+3 by omega,C 3,S.2]);clear l p y A;refine zN ?_;rw [lK rfl];obtain ⟨N,O,l,p,y,A,_⟩:=wL (m3) zo;refine Zy ?_;refine Zy ?_;refine zM ?_;refine yO (a:=m3*2) (b:=1) R6 zo ?_;refine yp (s:=yT) (j:=m3*2+1) R8 p ?_;rw [A];refine zM ?_;refine yp (s:=yT) (j:=m3*2) R8 l ?_;rw [y];refine xa (j:=i-5) R8 zo ⟨zo,by rw [P.len];omega⟩ P.row (by show B<3*n;omega) (fun _=>rfl) R3 (fun _=>rfl) rfl fun _=>?_;have V:=P.put (m:=i-5) (v:=48+(m3)%10) zo zo hl (by rw [show L-(i-4)=L-i+4 by omega,C 4,k2.1]);refine xa (j:=i-6) R8 zo ⟨zo,by rw [V.len];omega⟩ V.row (by show B<3*n;omega) (fun _=>rfl) R3 (fun _=>rfl) rfl fun _=>?_;have W:=V.put (m:=i-6) (v:=48+(m3)/10) zo zo hl (by rw [show L-(i-5)=L-i+5 by omega,C 5,k2.2]);clear l p y A;refine zN ?_;rw [lK rfl];obtain ⟨N,O,l,p,y,A,_⟩:=wL (m4) zo;refine Zy ?_;refine Zy ?_;refine zM ?_;refine yO (a:=m4*2) (b:=1) R6 zo ?_;refine yp (s:=yT) (j:=m4*2+1) R8 p ?_;rw [A];refine zM ?_;refine yp (s:=yT) (j:=m4*2) R8 l ?_;rw [y];refine xa (j:=i-7) R8 zo ⟨zo,by rw [W.len];omega⟩ W.row (by show B<3*n;omega) (fun _=>rfl) R3 (fun _=>rfl) rfl fun _=>?_;have Y:=W.put (m:=i-7) (v:=48+(m4)%10) zo zo hl (by rw [show L-(i-6)=L-i+6 by omega,C 6,k3.1]);refine xa (j:=i-8) R8 zo ⟨zo,by rw [Y.len];omega⟩ Y.row (by show B<3*n;omega) (fun _=>rfl) R3 (fun _=>rfl) rfl fun _=>?_;have f9:=Y.put (m:=i-8) (v:=48+(m4)/10) zo zo hl (by rw [show L-(i-7)=L-i+7 by omega,C 7,k3.2]);clear l p y A;refine Zb ?_;exact goOn (i-8,u/100000000,_) (by show i-8<i;omega) ⟨rfl,rfl,by show jy .i64 _=jy .i64 _;congr 1;show (i:Int)-8=((i-8:Nat):Int);omega,eP⟩ ⟨rfl,f9,by show i-8≤L;omega,by show u/100000000=U/10^(L-(i-8));rw [show L-(i-8)=L-i+8 by omega,C 8]⟩
 refine Zj ?_;have a5:u<100000000:=tv f (Ac zd (show i≤8 by omega));refine zM ?_;refine nK (c:=u) R7 zo ?_;refine Zu ?_;refine fG R6 ?_;refine zN ?_;refine yu (α:=Nat×Nat×List Value) (fun z=>[(0,jx (some ⟨B,o,none⟩) L cap),(4,jy .i64 (z.1:Int)),(12,jy .u32 (z.2.1:Int))]) (fun z J M w=>n=M∧FbI h B e o L U c0 J w z.2.2 z.1∧z.1≤L∧z.2.1=U/10^(L-z.1)∧z.2.1<10^z.1∧z.1<4) ?_ ?_
 ·by_cases h4:4≤i
  ·rw [bO (show (i:Int)≥4 by omega)];rw [ze rfl];refine Zc ?_;refine wt (a:=u) (b:=10000) R6 zo ?_;refine Zu ?_;refine xM (a:=u) (b:=10000) R6 ⟨zo,zo⟩ ?_;refine Zo ?_;generalize hlo:u%10000=lo;refine zM ?_;refine xM (a:=lo) (b:=100) R6 ⟨zo,zo⟩ ?_;refine xc (a:=lo/100) (b:=2) R6 zo ?_;refine zM ?_;refine wt (a:=lo) (b:=100) R6 zo ?_;refine xc (a:=lo%100) (b:=2) R6 zo ?_;refine Zg ?_;refine zN ?_;generalize hm1:lo%100=m1;generalize hm2:lo/100=m2;have H:m1%10=u%10∧m1/10=u/10%10:=zo;have S:m2%10=u/100%10∧m2/10=u/1000%10:=zo;have l1:m1<100∧m2<100:=zo;clear hm1 hm2 hlo;rw [lK rfl];obtain ⟨N,O,l,p,y,A,_⟩:=wL (m1) zo;refine Zy ?_;refine Zy ?_;refine zM ?_;refine yO (a:=m1*2) (b:=1) R6 zo ?_;refine yp (s:=yT) (j:=m1*2+1) R8 p ?_;rw [A];refine zM ?_;refine yp (s:=yT) (j:=m1*2) R8 l ?_;rw [y];refine xa (j:=i-1) R8 zo ⟨zo,by rw [d.len];omega⟩ d.row (by show B<3*n;omega) (fun _=>rfl) R3 (fun _=>rfl) rfl fun _=>?_;have D:=d.put (m:=i-1) (v:=48+(m1)%10) zo zo hl (by rw [←g,H.1]);refine xa (j:=i-2) R8 zo ⟨zo,by rw [D.len];omega⟩ D.row (by show B<3*n;omega) (fun _=>rfl) R3 (fun _=>rfl) rfl fun _=>?_;have G:=D.put (m:=i-2) (v:=48+(m1)/10) zo zo hl (by rw [show L-(i-1)=L-i+1 by omega,C 1,H.2]);clear l p y A;refine zN ?_;rw [lK rfl];obtain ⟨N,O,l,p,y,A,_⟩:=wL (m2) zo;refine Zy ?_;refine Zy ?_;refine zM ?_;refine yO (a:=m2*2) (b:=1) R6 zo ?_;refine yp (s:=yT) (j:=m2*2+1) R8 p ?_;rw [A];refine zM ?_;refine yp (s:=yT) (j:=m2*2) R8 l ?_;rw [y];refine xa (j:=i-3) R8 zo ⟨zo,by rw [G.len];omega⟩ G.row (by show B<3*n;omega) (fun _=>rfl) R3 (fun _=>rfl) rfl fun _=>?_;have I:=G.put (m:=i-3) (v:=48+(m2)%10) zo zo hl (by rw [show L-(i-2)=L-i+2 by omega,C 2,S.1]);refine xa (j:=i-4) R8 zo ⟨zo,by rw [I.len];omega⟩ I.row (by show B<3*n;omega) (fun _=>rfl) R3 (fun _=>rfl) rfl fun _=>?_;have P:=I.put (m:=i-4) (v:=48+(m2)/10) zo zo hl (by rw [show L-(i-3)=L-i+3 by omega,C 3,S.2]);clear l p y A;refine Zb ?_;refine zO (i-4,u/10000,_) ⟨rfl,by show jy .i64 _=jy .i64 _;congr 1;show (i:Int)-4=((i-4:Nat):Int);omega,rfl,eP⟩ ⟨rfl,P,by show i-4≤L;omega,by show u/10000=U/10^(L-(i-4));rw [show L-(i-4)=L-i+4 by omega,C 4],?_,by show i-4<4;omega⟩;show u/10000<10^(i-4);refine Dc ?_;rw [show (10000:Nat)=10^4 from rfl,←Bq,show 4+(i-4)=i by omega];exact f
  rw [aD (show ¬(i:Int)≥4 by omega)];rw [za rfl];try refine zN ?_
  exact zO (i,u,c) ⟨rfl,rfl,rfl,eP⟩ ⟨rfl,d,F,g,f,by show i<4;omega⟩
 clear d F g C a6 f h8 a5;rintro ⟨i,u,c⟩ t K _ w ⟨rfl,d,F,g,f,R⟩;have d:FbI h B e o L U c0 K w c i:=d;have F:i≤L:=F;have g:u=U/10^(L-i):=g;have f:u<10^i:=f;have R:i<4:=R;have C:∀q,U/10^(L-i+q)=u/10^q:=fun q=>by rw [g,Cm,←Bq]
 have a4:u<10000:=tv f (Ac zd (show i≤4 by omega));refine Zc ?_;refine fG R6 ?_;refine zN ?_;refine yu (α:=Nat×Nat×List Value) (fun z=>[(0,jx (some ⟨B,o,none⟩) L cap),(4,jy .i64 (z.1:Int)),(12,jy .u32 (z.2.1:Int))]) (fun z J M w=>n=M∧FbI h B e o L U c0 J w z.2.2 z.1∧z.1≤L∧z.2.1=U/10^(L-z.1)∧z.2.1<10^z.1∧z.1<2) ?_ ?_
 ·by_cases h2:2≤i
  ·rw [bO (show (i:Int)≥2 by omega)];rw [ze rfl];refine Zc ?_;refine wt (a:=u) (b:=100) R6 zo ?_;refine xc (a:=u%100) (b:=2) R6 zo ?_;refine Zu ?_;refine xM (a:=u) (b:=100) R6 ⟨zo,zo⟩ ?_;refine Zo ?_;generalize hm1:u%100=m1;have H:m1%10=u%10∧m1/10=u/10%10:=zo;have l1:m1<100:=zo;clear hm1;rw [lK rfl];obtain ⟨N,O,l,p,y,A,_⟩:=wL (m1) zo;refine Zy ?_;refine Zy ?_;refine zM ?_;refine yO (a:=m1*2) (b:=1) R6 zo ?_;refine yp (s:=yT) (j:=m1*2+1) R8 p ?_;rw [A];refine zM ?_;refine yp (s:=yT) (j:=m1*2) R8 l ?_;rw [y];refine xa (j:=i-1) R8 zo ⟨zo,by rw [d.len];omega⟩ d.row (by show B<3*n;omega) (fun _=>rfl) R3 (fun _=>rfl) rfl fun _=>?_;have D:=d.put (m:=i-1) (v:=48+(m1)%10) zo zo hl (by rw [←g,H.1]);refine xa (j:=i-2) R8 zo ⟨zo,by rw [D.len];omega⟩ D.row (by show B<3*n;omega) (fun _=>rfl) R3 (fun _=>rfl) rfl fun _=>?_;have G:=D.put (m:=i-2) (v:=48+(m1)/10) zo zo hl (by rw [show L-(i-1)=L-i+1 by omega,C 1,H.2]);clear l p y A;refine Zb ?_;refine zO (i-2,u/100,_) ⟨rfl,by show jy .i64 _=jy .i64 _;congr 1;show (i:Int)-2=((i-2:Nat):Int);omega,rfl,eP⟩ ⟨rfl,G,by show i-2≤L;omega,by show u/100=U/10^(L-(i-2));rw [show L-(i-2)=L-i+2 by omega,C 2],?_,by show i-2<2;omega⟩;show u/100<10^(i-2);refine Dc ?_;rw [show (100:Nat)=10^2 from rfl,←Bq,show 2+(i-2)=i by omega];exact f
  rw [aD (show ¬(i:Int)≥2 by omega)];rw [za rfl];try refine zN ?_
  exact zO (i,u,c) ⟨rfl,rfl,rfl,eP⟩ ⟨rfl,d,F,g,f,by show i<2;omega⟩
 clear d F g C f a4 R;rintro ⟨i,u,c⟩ t K _ w ⟨rfl,d,F,g,f,T⟩;have d:FbI h B e o L U c0 K w c i:=d;have F:i≤L:=F;have g:u=U/10^(L-i):=g;have f:u<10^i:=f;have T:i<2:=T;refine zN ?_;by_cases h0:i=0
 ·subst h0;refine Zd ?_;try refine zN ?_
  refine ⟨rfl,[],rfl,⟨rfl,d.w1,c,d⟩,fun hw=>?_⟩;subst hw;have:=d.w2 rfl;subst this;exact ⟨rfl,d.w1,c,d⟩
 have a1:i=1:=zo;subst a1;have a0:u<10:=f;refine Zz ?_;refine yO (a:=48) (b:=u) R6 zo ?_;refine qW (a:=48+u) R7 ?_;rw [Ag (show 48+u<256 by omega)];refine xa (j:=0) R8 rfl ⟨zo,by rw [d.len];omega⟩ d.row (by show B<3*n;omega) (fun _=>rfl) R3 (fun _=>rfl) rfl fun _=>?_;have D:=d.put (m:=0) (v:=48+u) rfl F hl (by rw [←g,Ag a0]);refine zN ?_;exact ⟨rfl,[],rfl,⟨rfl,D.w1,_,D⟩,fun hw=>(by cases hw)⟩
end
section
variable {h0:HF}{len:Nat}{c:List Value}{x:Operand}
theorem zam:∀(L U:Nat),1≤L→U<10^L→10^(L-1)≤U→gP (decD U)=L∧∀j,j<L→(decD U)[j]?=some (U/10^(L-1-j)%10):=by
 intro L;induction L with
 |zero=>intro U h;omega
 |succ L ih=>
  intro U _ g l;have s:0<10^L:=Nat.pow_pos zd;rw [Cv] at l;have a:=wT (V:=U) zo;by_cases hL:L=0
  ·subst hL;have e:U/10=0:=by rw [Nat.pow_one] at g;omega
   rw [e,xH] at a;rw [a];refine ⟨rfl,fun j p=>?_⟩;have:j=0:=zo;subst this;rw [show 0+1-1-0=0 by omega,CL,DR];rfl
  obtain ⟨f,m⟩:=ih (U/10) zo (by rw [Ar] at g;omega) (by
   obtain ⟨q,rfl⟩:∃q,L=q+1:=⟨L-1,zo⟩;rw [Ar] at l;rw [Cv];omega)
  rw [a];refine ⟨by rw [nn,f];rfl,fun j p=>?_⟩;by_cases h3:j<L
  ·rw [AZ zo,m j h3,Cm,vT 10,←Ar,show (L-1-j).succ=L+1-1-j by omega]
  have:j=L:=zo;subst this;rw [AE zo,f,A7,Cv,A7,CL,DR];rfl
theorem FbI.cells {o:Nat}{h:HF}{w:List Nat}(f:FbI h0 B e o L U c0 h w c 0)(hl:o+L≤gP c0)(m:1≤L)(g:U<10^L)(l:10^(L-1)≤U):(c.drop o).take L=u8s (decB U):=by
 obtain ⟨p,a⟩:=zam L U m g l;have q:=f.len;refine Bn fun j=>?_;by_cases hj:j<L
 ·rw [List.getElem?_take_of_lt hj,List.getElem?_drop,f.dg j eU hj];unfold u8s decB;rw [sr,sr,a j hj];rfl
 rw [Ad (by rw [Af,Ak];omega),Ad (by rw [qO];unfold decB;rw [oo];omega)]
section
variable {ops:List Oper}{h:HF}{n:Nat}{d:Tmp}
theorem nM {lo:Operand}(a:sh X ops t o d (o.op=.slice ty x (some lo) (some hi) none∧X.E.und ty=some (.array len e)∧X.E.inf e=some (sz,bt,z)∧evF t x=kS (some ⟨b,0,none⟩)∧evF t lo=jy ik (i:Int)∧evF t hi=jy ik' ji))(l:ji=(j:Int))(v:gro b=false)(hl:i≤j∧j≤len∧i<len)
  (k:EO X ops r ⟨upd t d (jx (some ⟨b,0+i*sz,none⟩) (j-i) (len-i)),h,n,w⟩ Q):EO X ops (o::r) ⟨t,h,n,w⟩ Q:=by
 obtain ⟨a,y,A,p,C,g,D,m,f⟩:=a;subst l;refine zF ⟨a,y,A,(by rw [p];rfl),?_⟩ k;rw [p];show yQ X.E ty (evF t x) (some (evF t lo)) (some (evF t hi))=_;rw [D,m,f];have q:(0:Int)≤(i:Int)∧(i:Int)≤(j:Int):=zo;have s:(0:Int)≤(j:Int)∧(j:Int)≤(len:Int):=zo;have u:AG len i=false:=by
  cases he:AG len i with
  |false=>rfl
  |true=>have:=Aw he;omega
 simp only [yQ,C,g,bnd,eN q,eN s,AP,v,GW,Bool.or_self,offA,u,wl]
theorem so (a:sh X ops t o d (o.op=.slice ty x none (some hi) none∧X.E.und ty=some (.array len e)∧X.E.inf e=some (sz,bt,z)∧evF t x=kS (some ⟨b,0,none⟩)∧evF t hi=jy ik' ji))(l:ji=(j:Int))(s:gro b=false)(hl:j≤len∧0<len)
  (k:EO X ops r ⟨upd t d (jx (some ⟨b,0,none⟩) j len),h,n,w⟩ Q):EO X ops (o::r) ⟨t,h,n,w⟩ Q:=by
 obtain ⟨a,u,v,m,y,g,A,f⟩:=a;subst l;refine zF ⟨a,u,v,(by rw [m];rfl),?_⟩ k;rw [m];show yQ X.E ty (evF t x) none (some (evF t hi))=_;rw [A,f];have p:(0:Int)≤(j:Int)∧(j:Int)≤(len:Int):=zo;have q:AG len 0=false:=by
  cases he:AG len 0 with
  |false=>rfl
  |true=>have:=Aw he;omega
 simp only [yQ,y,g,bnd,eN p,AP,s,GW,Bool.or_self,offA,q,wl,BE,Nat.sub_zero]
end
def intT (x:Int):List UInt8:=(if x<0 then [45] else [])++decT x.natAbs
theorem zah (h:U≠0):(decB U).map Bh=decT U:=by unfold decT;rw [cC h]
theorem cn (d:Nat)(l:List Nat):u8s (d::l)=jy .u8 (d:Int)::u8s l:=rfl
theorem uB {h:HF}{o:Nat}(g:h b=some (.row c e))(f:(c.drop o).take L=cl)(hl:o+L≤gP c)(a:L≤cap):argS h 1 (jx (some ⟨b,o,none⟩) L cap) L cl:=
 tX (n:=b+1) (.at_ zo g rfl a zo (by rw [AO];exact f))
theorem zfn (k:Nat){h:HF}(F:GK.G h){n:Nat}(K:20≤n){x:Int}(P: -9223372036854775808≤x∧x<9223372036854775808):VF (cal (k+3)) 151 [jy .i64 x,jy .i64 10] h n fun v=>v=kF ⟨⟨intT x⟩⟩:=by
 refine zI (fn:=Tryz.f151) R4 ?_;refine Zb ?_;refine Zp ?_;by_cases hsm:0≤x∧x<100
 ·obtain ⟨i,rfl⟩:∃i:Nat,x=(i:Int):=⟨x.natAbs,zo⟩;refine Ze ?_;refine Zc ?_;refine yk _ R5 (ja (k+1) _ _ zo) ?_;rintro _ rfl;refine Zo ?_;refine retF _ rfl (zk rfl) R2 ?_;show kF _=_;unfold intT;rw [cC zo];rfl
 obtain ⟨m,J⟩:∃m,m=x.natAbs:=⟨_,rfl⟩;have l:m≠0:=zo;by_cases hneg:x<0
 ·refine Zj ?_;refine wI (pl 24 (jy .u8 0)) R6 ?_;intro u C D;refine Zc ?_;refine vn (ik:=.u64) (a:=((18446744073709551616-m:Nat):Int)) R6 ?_ ?_
  ·show some (jy .u64 (Ao .u64 x))=_;rw [show x= -(m:Int) from zo,tE m zo]
  refine zM ?_;refine Zb ?_;rw [ze rfl];refine Zc ?_;refine zF (v:=jy .u64 (m:Int)) ⟨rfl,rfl,rfl,rfl,?_⟩ ?_
  ·show some (jy .u64 (Ao .u64 (0-((18446744073709551616-m:Nat):Int))))=_;rw [uH _ zo];congr 3;omega
  refine Zu ?_;refine yk _ R5 (vQ k (rA F D K) _ zo l) ?_;rintro _ ⟨L,rfl,p,H,g,q⟩;refine Zu ?_;refine ur (a:=1) (b:=(L:Int)) R6 zo ?_;refine nM (i:=1) (j:=1+L) R9 zo (yJ n) zo ?_;rw [show 1+L-1=L by omega];refine zM ?_;refine zB _ R5 (jz (k+1) (h:=u) (n:=n+1) (B:=3*n+2) (o:=1) (L:=L) (U:=m) zo C (by rw [Ah];omega) zo g zo) ?_;rintro v M _ W ⟨rfl,y,c,f⟩;rw [z0 fun b A=>by rw [y b A];show 3*n≤_;omega];have s:gP c=24:=by rw [f.len,Ah]
  refine Zb ?_;rw [ze rfl];refine zN ?_;refine fF R8 (j:=0) zo ?_;refine no (b:=3*n+2) (off:=0) (c.set 0 (jy .u8 45)) R5 f.row R3 (by rw [s];omega) (splice_one c 0 _ zo) (by show 3*n≤_;omega) ?_;intro O N R;refine Zc ?_;refine ur (a:=1) (b:=(L:Int)) R6 zo ?_;refine so (j:=1+L) R8 zo (yJ n) zo ?_;have I:((c.set 0 (jy .u8 45)).drop 0).take (1+L)=u8s (45::decB m):=by
   rw [cn,←f.cells (by rw [Ah];omega) p g q,AQ];cases c with
   |nil=>simp at s
   |cons c1 c2=>rw [List.set_cons_zero,BT,List.take_succ_cons,List.drop_succ_cons,AQ];rfl
  refine qS R5 (se (B:=45::decB m) R3 (uB N I (by rw [AY];omega) zo)) ?_;refine Zo ?_;refine retF _ rfl (zk rfl) R2 ?_;show kF _=_;unfold intT;rw [eN hneg,←J,←zah l];rfl
 refine Zj ?_;refine wI (pl 24 (jy .u8 0)) R6 ?_;intro u C D;refine Zc ?_;refine vn (ik:=.u64) (a:=(m:Int)) R6 ?_ ?_
 ·show some (jy .u64 (Ao .u64 x))=_;rw [show x=(m:Int) from zo,xW,Ag zo]
 refine zM ?_;refine Zb ?_;rw [za rfl];refine Zc ?_;refine yk _ R5 (vQ k (rA F D K) _ zo l) ?_;rintro _ ⟨L,rfl,p,H,g,q⟩;refine Zu ?_;refine ur (a:=1) (b:=(L:Int)) R6 zo ?_;refine nM (i:=1) (j:=1+L) R9 zo (yJ n) zo ?_;rw [show 1+L-1=L by omega];refine zM ?_;refine zB _ R5 (jz (k+1) (h:=u) (n:=n+1) (B:=3*n+2) (o:=1) (L:=L) (U:=m) zo C (by rw [Ah];omega) zo g zo) ?_;rintro v M _ W ⟨rfl,y,c,f⟩;rw [z0 fun b A=>by rw [y b A];show 3*n≤_;omega];have s:gP c=24:=by rw [f.len,Ah]
 refine Zb ?_;rw [za rfl];refine Zc ?_;refine ur (a:=1) (b:=(L:Int)) R6 zo ?_;refine nM (i:=1) (j:=1+L) R9 zo (yJ n) zo ?_;rw [show 1+L-1=L by omega];refine qS R5 (se (B:=decB m) R3 (uB f.row (f.cells (by rw [Ah];omega) p g q) zo zo)) ?_;refine Zo ?_;refine retF _ rfl (zk rfl) R2 ?_;show kF _=_;unfold intT;rw [cC hneg,←J,←zah l];rfl
theorem kJ (k:Nat){h:HF}(a:GK.G h){n:Nat}(f:20≤n){x:Int}(g: -9223372036854775808≤x∧x<9223372036854775808):VF (cal (k+4)) 123 [jy .i64 x,jy .i64 10] h n fun v=>v=kF ⟨⟨intT x⟩⟩:=by
 refine zI (fn:=Tryz.f123) R4 ?_;refine Zc ?_;refine Zm ?_;refine yk _ R5 (zfn k a f g) ?_;rintro _ rfl;refine Zo ?_;exact retF _ rfl (zk rfl) R2 rfl
theorem eL (k:Nat){h:HF}(a:GK.G h){n:Nat}(f:20≤n){x:Int}(g: -9223372036854775808≤x∧x<9223372036854775808):VF (cal (k+5)) 132 [jy .i64 x] h n fun v=>v=kF ⟨⟨intT x⟩⟩:=by
 refine zI (fn:=Tryz.f132) R4 ?_;refine Zc ?_;refine Zc ?_;refine yk _ R5 (kJ k a f g) ?_;rintro _ rfl;refine Zo ?_;exact retF _ rfl (zk rfl) R2 rfl
end
section
variable {c:List Value}{h':HF}{n':Nat}{u:Value}
structure SideD where
 A:List Rat
 lo:List UInt8
 hi:List UInt8
theorem Gro.same {lo n len:Nat}{h:HF}{C:List Value}(g:Gro h lo n e sz v len C)(f:∀b,3*lo≤b→b<3*n→gro b=true→h' b=h b):Gro h' lo n e sz v len C:=by
 cases g with
 |nil=>exact .nil
 |at_ hg hlo hb hr hl ho=>exact .at_ hg hlo hb ((f _ hlo hb hg).trans hr) hl ho
section
variable {ops:List Oper}{h:HF}{n:Nat}{d:Tmp}
theorem jP (cs:List Value){c:Nat}(f:sh X ops t o d (cls o.op=2∧mkE X.E o.op (evF t)=some ⟨cs,e,false,some (l,c)⟩))
  (k:∀h',h' (3*n+2)=some (.row cs e)→Ext n h h'→EO X ops r ⟨upd t d (jx (some ⟨3*n+2,0,none⟩) l c),h',n+1,w⟩ Q):EO X ops (o::r) ⟨t,h,n,w⟩ Q:=by obtain ⟨f,i,p,g,m⟩:=f;exact vm ⟨f,i,p,g,m⟩ (k _ (zh _ _ _) (Ext.upd zo))
end
end
section
variable {h h':HF}{n n':Nat}
structure RowD where
 A:List (List UInt8)
 lo:List UInt8
 hi:List UInt8
structure LPD where
 obj:List (List UInt8)
 rows:List RowD
 lower:List (List UInt8)
 upper:List (List UInt8)
structure VLP (p:LPD):Prop where
 n1:1≤gP p.obj
 n2:gP p.obj≤64
 ll:gP p.lower=gP p.obj
 lu:gP p.upper=gP p.obj
 lr:gP p.rows≤64
 ob:∀s∈p.obj,xy s
 bd:∀(j:Nat) lo hi,p.lower[j]?=some lo→p.upper[j]?=some hi→pairOk lo hi
 rw:∀r∈p.rows,pairOk r.lo r.hi∧(∀s∈r.A,xy s)∧gP r.A=gP p.obj
def Txt (a:Nat)(s:List UInt8):Prop:=gP s<500∧Sz a (numOf s)
structure LPB (a:Nat)(p:LPD):Prop where
 ob:∀s∈p.obj,Txt a s
 lw:∀s∈p.lower,Txt a s
 up:∀s∈p.upper,Txt a s
 rl:∀r∈p.rows,Txt a r.lo∧Txt a r.hi∧gP r.A<1000000∧∀s∈r.A,Txt a s
 n1:gP p.obj<1000000
 n2:gP p.rows<1000000
 n3:gP p.lower<1000000
 n4:gP p.upper<1000000
noncomputable def rowS (r:RowD):SideD:=⟨r.A.map numOf,r.lo,r.hi⟩
noncomputable def zia (p:LPD):List SideD:=p.rows.map rowS
theorem Keep.blk {len:Nat}{C:List Value}(k:Keep v n h h')(g:Gro h lo n e sz v len C)(d:gro b=false)(hl:b<3*n):h' b=h b:=by
 refine k b hl fun o l c e=>?_;cases g with
 |nil=>cases e
 |at_ hg hlo hb2 hr hl ho=>cases e;rw [hg] at d;cases d
end
section
variable {V len n':Nat}{sT:TypeId}{T:List Nat}{h' h0:HF}{x:Operand}
def decN (V:Nat):List Nat:=if V=0 then [48] else decB V
theorem mN (V:Nat):decT V=(decN V).map Bh:=by
 unfold decT decN;split<;>rfl
theorem znw:∀V,∀d∈decD V,d<10:=by
 intro V;induction V using Nat.strongRecOn with
 |_ V ih=>
  intro d c;by_cases h0:V=0
  ·subst h0;rw [xH] at c;exact cA c nN
  rw [wT h0] at c;rcases Al.1 c with h|h
  ·exact ih (V/10) zo d h
  rw [nP.1 h];omega
theorem znv (V:Nat):∀d∈decN V,d<256:=by
 intro d c;unfold decN at c;split at c
 ·rw [nP.1 c];decide
 obtain ⟨q,f,rfl⟩:=Ay.1 c;have:=znw V q f;show 48+q<256;omega
theorem zgj (V:Nat):decN V≠[]:=by
 unfold decN;split
 ·simp
 rename_i h;intro e;unfold decB at e;rw [wT h] at e;simp at e
theorem zcm {l:List Nat}(h:∀d∈l,d<256):(l.map Bh).map (fun b:UInt8=>jy .u8 (b.toNat:Int))=u8s l:=by
 induction l with
 |nil=>rfl
 |cons d l ih=>
  rw [Cy,Cy,ih fun x c=>h x (by simp [c]),cn];have:=h d gN;rw [show (Bh d).toNat=d from by rw [UInt8.toNat_ofNat'];omega]
theorem zay {h:HF}:argS h 1 (kF ⟨⟨decT V⟩⟩) (gP (decN V)) (u8s (decN V)):=by
 refine ⟨?_,?_⟩
 ·show some (gP (decT V))=_;rw [mN,oo]
 show some (((decT V).take (gP (decN V))).map fun b:UInt8=>jy .u8 (b.toNat:Int))=_;rw [mN,Aa (by rw [oo];exact Nat.le_refl _),zcm (znv V)]
theorem zal (f:1≤L)(h1:U<10^L)(c:10^(L-1)≤U):gP (decB U)=L:=by
 unfold decB;rw [oo];exact (zam L U f h1 c).1
def zrb (v:Value)(b:Nat):Prop:=∃o l c,v=jx (some ⟨b,o,none⟩) l c
def GroT (h:HF)(n:Nat)(v:Value)(T:List Nat):Prop:=Gro h 0 n 5 1 v (gP T) (u8s T)
theorem dK {E:Env}{h:HF}{n:Nat}{x:Value}{new:List Nat}(hu:E.und sT=some (.slice e))(B:e=5)(p:E.inf e=some (1,bytes,z))(A:gP (zC z)=1)(h1:1≤bytes)(j:GroT h n v T)(y:argS h 1 x m (u8s new))(s:1≤m)(hl:gP new=m)(c:(gP T+m)*bytes≤1099511627776):
  ∃v' h' W,xf E h n sT v x=some (.val v' h' (n+1) W)∧GroT h' (n+1) v' (T++new)∧Keep v n h h'∧(∀b∈W,zrb v b)∧yj n v':=by
 subst B;unfold GroT at*
 have f:gP (u8s new)=m*1:=by rw [qO,hl,AO]
 have g:gP T+m=gP (T++new):=by rw [nn,hl]
 have i:u8s T++u8s new=u8s (T++new):=by unfold u8s;rw [Bl]
 generalize hT:gP T=tl at j c g;generalize hc:u8s T=cc at j i;cases j with
 |nil=>
  refine ⟨_,_,_,append_nil hu p A eT h1 y s (by rw [AA] at c;exact c),?_,fun b c _=>zj zo,fun b c=>cA c nN,by show 3*n≤3*n+1;omega⟩;rw [←i,←g,AA,AN];exact .at_ (mB n) zo zo (zh _ _ _) f (qB _)
 | @at_ b len _ hg2 hlo hb2 hr hl2 ho2=>
  refine ⟨_,_,_,pB hu p A eT h1 y s c hg2 hr hl2 (wy ho2 (qB _)) f,?_,fun k q u=>?_,fun k q=>?_,by show 3*n≤3*n+1;omega⟩
  ·rw [←i,←g];exact .at_ (mB n) zo zo (zh _ _ _) (by rw [nn,hl2,f];omega) (wy ho2 (qB _))
  ·rw [zj zo,zj (fun e=>u 0 tl tl (by rw [e]))]
  rw [nP.1 q];exact ⟨_,_,_,rfl⟩
structure AS (h0:HF)(n0:Nat)(v0:Value)(h:HF)(n:Nat)(w:List Nat)(v:Value)(T:List Nat):Prop where
 hn:n0≤n
 keep:Keep v0 n0 h0 h
 hw:∀b∈w,zrb v0 b
 g:GroT h n v T
 or:v=v0∨yj n0 v
theorem AS.refl (g:GroT h0 n0 v0 T):AS h0 n0 v0 h0 n0 [] v0 T:=⟨eT,fun _ _ _=>rfl,fun b c=>cA c nN,g,HX rfl⟩
theorem AS.ext {h:HF}{n:Nat}{w:List Nat}(a:AS h0 n0 v0 h n w v T)(x:Ext n h h')(c:n≤n'):AS h0 n0 v0 h' n' w v T:=
 ⟨Ap a.hn c,fun b i f=>(x b (by have:=a.hn;omega)).trans (a.keep b i f),a.hw,a.g.ext x c,a.or⟩
theorem AS.only {h:HF}{n:Nat}{w:List Nat}(a:AS h0 n0 v0 h n w v T)(o:Only b h h')(j:3*n0≤b)(i:gro b=false):AS h0 n0 v0 h' n w v T:=
 ⟨a.hn,fun k c f=>(o k zo).trans (a.keep k c f),a.hw,a.g.same fun k _ _ c=>o k fun e=>(by rw [e,i] at c;cases c),a.or⟩
theorem AS.trans {q:HF}{s u:Nat}{y w2:List Nat}{v1 v2:Value}{A p:List Nat}(a:AS h0 n0 v0 h1 s y v1 A)(b:AS h1 s v1 q u w2 v2 p):AS h0 n0 v0 q u (addW n0 w2 y) v2 p:=by
 have B:=a.hn;refine ⟨Ap a.hn b.hn,fun k j i=>(b.keep k zo fun o l c e=>?_).trans (a.keep k j i),fun k j=>?_,b.g,?_⟩
 ·rcases a.or with h|h
  ·exact i o l c (h▸e)
  rw [e] at h;have h:3*n0≤k:=h;omega
 ·rcases yX.1 j with h|⟨h,C⟩
  ·exact a.hw k h
  obtain ⟨o,l,c,e⟩:=b.hw k h;rcases a.or with f|f
  ·exact ⟨o,l,c,f▸e⟩
  rw [e] at f;have f:3*n0≤k:=f;omega
 rcases b.or with h|h
 ·rw [h];exact a.or
 exact .inr (h.mono B)
section
variable {ops:List Oper}{h:HF}{n:Nat}{d:Tmp}
theorem nQ {s:Operand}{new:List Nat}(f:sh X ops t o d (o.op=.call {callee:=.builtin .append,args:=#[s,x],argTypes:=#[sT,xT]}∧(match X.E.und xT with|some (.int _)=>false|none=>false|_=>true)=true∧X.E.und sT=some (.slice e)∧e=5∧X.E.inf e=some (1,bytes,z)∧gP (zC z)=1))(h1:1≤bytes)(G:evF t s=v)(I:argS h 1 (evF t x) m (u8s new))(D:1≤m)(hl:gP new=m)(A:(gP T+m)*bytes≤1099511627776)(a:AS h0 X.n0 v0 h n w v T)
  (k:∀c h' w',AS h0 X.n0 v0 h' (n+1) w' c (T++new)→Keep v n h h'→EO X ops r ⟨upd t d c,h',n+1,w'⟩ Q):EO X ops (o::r) ⟨t,h,n,w⟩ Q:=by
 obtain ⟨f,hd,hn,F,j,H,B,C,J⟩:=f;obtain ⟨c,h',W,p,q,i,u,y⟩:=dK H B C J h1 a.g I D hl A;refine xD ⟨f,hd,hn,F,j⟩ (by rw [G];exact p) ?_;have b:AS h n v h' (n+1) W c (T++new):=⟨ux _,i,u,q,.inr y⟩;exact k c h' _ (a.trans b) i
end
theorem GroT.shape {h:HF}{n:Nat}(g:GroT h n v T):∃a,v=jx a (gP T) (gP T):=by
 obtain ⟨a,e,_⟩:=Gro.shape g;exact ⟨a,e⟩
theorem GroT.keepB {h:HF}{n:Nat}(g:GroT h n v T)(k:Keep v n h h')(c:gro b=false)(hl:b<3*n):h' b=h b:=k.blk g c hl
theorem zcq (k:Nat){h:HF}(K:GK.G h){n:Nat}(O:20≤n){u:Nat}(hu:u<18446744073709551616)(g:GroT h n (jx a (gP T) (gP T)) T)(hT:gP T<1000000000):CF (cal (k+3)) 191 [jx a (gP T) (gP T),jy .u64 (u:Int),jy .i64 10] h n fun v h' n' w=>AS h n (jx a (gP T) (gP T)) h' n' w v (T++decN u):=by
 refine zu (fn:=Tryz.f191) R4 ?_;have D:=AS.refl g;have a4:gP (decN u)≤20:=by
  unfold decN;split
  ·decide
  unfold decB;rw [oo];exact xm 20 u zo
 refine Zc ?_;refine Zb ?_;rw [ze rfl];refine zN ?_;by_cases hsm:u<100
 ·refine Zz ?_;refine wx (a:=(u:Int)) R7 zo ?_;refine yk _ R5 (ja (k+1) _ _ hsm) ?_;rintro _ rfl;refine nQ R9 zb rfl (zay (V:=u)) (by have:=zgj u;cases hh:decN u with|nil=>exact cA hh this|cons _ _=>simp) rfl zo D ?_;intro R h' S F _;obtain ⟨C,rfl⟩:=F.g.shape;refine Zo ?_;exact retH [jx C _ _] R3 F
 have A:u≠0:=zo;refine Zj ?_;refine wI (pl 24 (jy .u8 0)) R6 ?_;intro h1 P I;refine Zc ?_;refine yk _ R5 (vQ k (rA K I O) _ hu A) ?_;rintro _ ⟨L,rfl,i,Y,p,q⟩;refine Zu ?_;refine so (j:=L) R8 rfl (yJ n) zo ?_;refine zM ?_;refine zB _ R5 (jz (k+1) (h:=h1) (n:=n+1) (B:=3*n+2) (o:=0) (L:=L) (U:=u) zo P (by rw [Ah];omega) zo p zo) ?_;rintro v h2 _ W ⟨rfl,M,c,f⟩;rw [z0 fun b N=>by rw [M b N];show 3*n≤_;omega];have Z:gP c=24:=by rw [f.len,Ah]
 have J:=(D.ext I zs).only f.oth zo (yJ n);have s:=f.cells (by rw [Ah];omega) i p q;have y:decN u=decB u:=by unfold decN;rw [cC A]
 rw [←y] at s;refine Zm ?_;refine so (j:=L) R8 rfl (yJ n) zo ?_;refine nQ R9 zb rfl (uB f.row s zo zo) i (by rw [y];exact zal i p q) zo J ?_;intro R h' S H _;obtain ⟨C,rfl⟩:=H.g.shape;refine Zo ?_;exact retH [jx C _ _] R3 H
theorem dM (k:Nat){h:HF}(j:GK.G h){n:Nat}(q:20≤n){u:Nat}(hu:u<18446744073709551616)(g:GroT h n (jx a (gP T) (gP T)) T)(p:gP T<1000000000):CF (cal (k+4)) 198 [jx a (gP T) (gP T),jy .u64 (u:Int),jy .i64 10] h n fun v h' n' w=>AS h n (jx a (gP T) (gP T)) h' n' w v (T++decN u):=by
 refine zu (fn:=Tryz.f198) R4 ?_;refine Zc ?_;refine Zc ?_;refine Zg ?_;refine zB _ R5 (zcq k j q hu g p) ?_;intro v h1 s y c;obtain ⟨f,rfl⟩:=c.g.shape;have i:=(AS.refl g).trans c;refine Zo ?_;exact retH [jx f _ _] R3 i
end
section
variable {len:Nat}{c:List Value}{T:List Nat}
section
variable {h:HF}{n:Nat}{sT:TypeId}{x:Value}
theorem rx {a:TypeId}(hu:E.und sT=some (.slice e)∧E.inf e=some (1,bytes,z)∧gP (zC z)=1)(q:1≤bytes)(C:argS h 1 x m new)(s:(len+m)*bytes≤1099511627776)(w:gP new=m∧1≤m)(hc:len+m≤cap)(A:h b=some (.row c a))(hl:len+m≤gP c)(y:ones new=true):
  xf E h n sT (jx (some ⟨b,0,none⟩) len cap) x=some (.val (jx (some ⟨b,0,none⟩) (len+m) cap) (upd h b (some (.row (zw c len new) a))) n [b]):=by
 obtain ⟨hu,u,D⟩:=hu;obtain ⟨f,d⟩:=C;have g:Ai ((len+m)*bytes) 1099511627776=true:=sn s;have i:AG (gP (zC z)) 1=true:=by rw [D];exact Nat.beq_refl _
 have j:Ai 1 1=true:=rfl;have l:Ai 1 bytes=true:=sn q;have o:Ai (len+m) cap=true:=sn hc;have p:vl h ((⟨b,0,none⟩:Addr).add (len*1)) new=some (upd h b (some (.row (zw c len new) a))):=by
  rw [wl,AA,AO,um A zo y]
 obtain ⟨v,r,rfl⟩:∃v r,new=v::r:=by
  cases new with
  |nil=>simp at w;omega
  |cons v r=>exact ⟨v,r,rfl⟩
 simp only [xf,hu,u,f,d,g,i,j,l,o,A4,u9,p]
end
def BufT (T:List Nat)(h:HF)(n B cap:Nat)(e:TypeId)(c0:List Value)(N:List Nat)(v:Value)(h':HF)(n':Nat)(w:List Nat):Prop:=
 v=jx (some ⟨B,0,none⟩) (gP (T++N)) cap∧n≤n'∧(∀b∈w,b=B)∧(∀b,b<3*n→b≠B→h' b=h b)∧∃c,h' B=some (.row c e)∧gP c=gP c0∧c.take (gP (T++N))=u8s (T++N)
theorem vG {N:List Nat}(a:c.take (gP T)=u8s T)(hl:gP T+gP N≤gP c):(zw c (gP T) (u8s N)).take (gP (T++N))=u8s (T++N)∧(zw c (gP T) (u8s N)).length=gP c:=by
 have h:=ny (c:=u8s N) (cs:=c) (o:=gP T) (by rw [qO];exact hl);rw [qO,a] at h;rw [nn];exact ⟨h.1.trans (by simp [u8s]),h.2⟩
theorem li (k:Nat){h:HF}(S:GK.G h){n:Nat}(Z:20≤n){u:Nat}{e:TypeId}(K:c0.take (gP T)=u8s T)(F:B<3*n)(p:h B=some (.row c0 e))(a1:cap=gP c0∧gP T+20≤cap∧cap<1000000)(hu:u<18446744073709551616):
  CF (cal (k+3)) 191 [jx (some ⟨B,0,none⟩) (gP T) cap,jy .u64 (u:Int),jy .i64 10] h n fun v O n' w=>BufT T h n B cap e c0 (decN u) v O n' w:=by
 refine zu (fn:=Tryz.f191) R4 ?_;have a3:gP (decN u)≤20:=by
  unfold decN;split
  ·decide
  unfold decB;rw [oo];exact xm 20 u zo
 have M:1≤gP (decN u):=by
  have:=zgj u;cases hh:decN u with
  |nil=>exact cA hh this
  |cons _ _=>simp
 refine Zc ?_;refine Zb ?_;rw [ze rfl];refine zN ?_;by_cases hsm:u<100
 ·refine Zz ?_;refine wx (a:=(u:Int)) R7 zo ?_;refine yk _ R5 (ja (k+1) _ _ hsm) ?_;rintro _ rfl;refine xD R5 (rx R3 zb (zay (V:=u)) zo ⟨qO _,M⟩ zo p zo (qB _)) ?_;rw [ry (by show B<3*n;exact F)];refine Zo ?_;obtain ⟨H,I⟩:=vG (N:=decN u) K zo;refine retH [jx (some ⟨B,0,none⟩) (gP T+gP (decN u)) cap] R3 ⟨by rw [nn];rfl,eT,fun b d=>nP.1 d,fun b _ l=>zj l,_,zh _ _ _,I,H⟩
 have D:u≠0:=zo;refine Zj ?_;refine wI (pl 24 (jy .u8 0)) R6 ?_;intro P p1 J;refine Zc ?_;refine yk _ R5 (vQ k (rA S J Z) _ hu D) ?_;rintro _ ⟨L,rfl,g,a0,i,y⟩;refine Zu ?_;refine so (j:=L) R8 rfl (yJ n) zo ?_;refine zM ?_;refine zB _ R5 (jz (k+1) (h:=P) (n:=n+1) (B:=3*n+2) (o:=0) (L:=L) (U:=u) zo p1 (by rw [Ah];omega) zo i zo) ?_;rintro v R _ W ⟨rfl,Y,c,f⟩;rw [z0 fun b d=>by rw [Y b d];show 3*n≤_;omega];have a2:gP c=24:=by rw [f.len,Ah]
 have A:=f.cells (by rw [Ah];omega) g i y;have C:decN u=decB u:=by unfold decN;rw [cC D]
 rw [←C] at A;have s:gP (decN u)=L:=by rw [C];exact zal g i y
 have q:R B=some (.row c0 e):=(f.oth B zo).trans ((J B F).trans p);refine Zm ?_;refine so (j:=L) R8 rfl (yJ n) zo ?_;refine xD R5 (rx R3 zb (uB f.row A zo zo) zo ⟨by rw [qO,s],g⟩ zo q zo (qB _)) ?_;rw [ry (by show B<3*n;exact F)];refine Zo ?_;obtain ⟨H,I⟩:=vG (N:=decN u) K zo;refine retH [jx (some ⟨B,0,none⟩) (gP T+L) cap] R3 ⟨by rw [nn,s];rfl,by show n≤n+1;omega,fun b d=>nP.1 d,fun b d l=>(zj l).trans ((f.oth b zo).trans (J b d)),_,zh _ _ _,I,H⟩
end
section
variable {h h':HF}{n n':Nat}{T:List Nat}{u:Value}
theorem G_fr (g:GK.G h)(c:∀b,b<60→gro b=false→h' b=h b):GK.G h':=by
 obtain ⟨d,e,f⟩:=g;exact ⟨(c _ zo rfl).trans d,(c _ zo rfl).trans e,(c _ zo rfl).trans f⟩
theorem lh (k:Nat)(B:GK.G h)(C:20≤n)(g:GroT h n (jx a (gP T) (gP T)) T)(I:gP T<100000000){L:List Nat}(s:Sl h n 1 (jx ax lx cx) (u64s L))(D:NW L)(hl:gP L≤1):
  CF (cal (k+7)) 160 [jx a (gP T) (gP T),jx ax lx cx] h n fun v h' n' w=>AS h n (jx a (gP T) (gP T)) h' n' w v (T++decN (wv L)):=by
 refine zu (fn:=Tryz.f160) R4 ?_;have q:=s.lenW;subst q;refine Zc ?_;refine zN ?_;by_cases h0:L=[]
 ·subst h0;refine Ze ?_;refine Zc ?_;refine jP [jy .u8 48] (l:=1) (c:=1) R5 ?_;intro o F H;refine nQ (m:=1) (new:=[48]) R9 zb rfl (yH F R2) eT rfl zo ((AS.refl g).ext H zs) ?_;intro K h' M b _;obtain ⟨i,rfl⟩:=b.g.shape;refine Zo ?_;exact retH [jx i _ _] R3 b
 have y:gP L≠0:=fun e=>h0 (xd.1 e);refine Zj ?_;by_cases o:gP L=1
 ·obtain ⟨w,rfl⟩:=List.length_eq_one_iff.1 o;have p:w<18446744073709551616:=D.1 w gN;refine Zz ?_;refine xt (f:=fun d:Nat=>jy .u64 (d:Int)) (j:=0) (dv:=w) R7 s R2 rfl (fun _=>rfl) R4 fun _=>?_;refine zB _ R5 (dM (k+2) B C p g zo) ?_;intro v o J N b;obtain ⟨i,rfl⟩:=b.g.shape;have A:=(AS.refl g).trans b;refine Zo ?_;rw [nl];exact retH [jx i _ _] R3 A
 omega
def intN (x:Int):List Nat:=(if x<0 then [45] else [])++decN x.natAbs
theorem ze7 (x:Int):(intN x).map Bh=intT x:=by
 unfold intN intT;rw [Bl,←mN];congr 1;split<;>rfl
theorem IW.few {b:Bool}{c:Nat}{x:Int}(i:IW h n b a l c x)(j:x.natAbs<2^m)(g:m≤64):∃L,Sl h n 1 (jx a l c) (u64s L)∧NW L∧gP L≤1∧wv L=x.natAbs:=by
 obtain ⟨_,L,f,d,e⟩:=i;refine ⟨L,f,d,d.len_le (k:=1) ?_,e⟩;rw [e];refine tv j (Ap (Ac zd g) ?_);decide+kernel
theorem zlu {L:List Nat}{o:Nat}(g:m≠0)(hl:gP L=m)(h:((u8s T).drop o).take m=u64s L):False:=by
 obtain ⟨d,b,rfl⟩:∃d b,L=d::b:=by
  cases L with
  |nil=>exact cA hl.symm g
  |cons d b=>exact ⟨d,b,rfl⟩
 have c:jy .u64 (d:Int)∈((u8s T).drop o).take m:=by rw [h];exact As
 have f:=Bx (AW c);obtain ⟨q,_,e⟩:=Ay.1 f;cases e
theorem Sl.kept {L:List Nat}(s:Sl h n 1 v (u64s L))(k:Keep u n h h')(g:GroT h n u T)(f:n≤n'):Sl h' n' 1 v (u64s L):=by
 generalize hL:u64s L=cl at s;cases s with
 |nil ha=>exact .nil (vR ha f)
 | @at_ b off len cap x cs c2 hb hx hc hcap hl he=>
  by_cases h0:len=0
  ·subst h0;have:cl=[]:=by rw [←he];simp
   subst this;exact .nil (.inr ⟨_,_,_,rfl,zo⟩)
  refine .at_ zo ((k b hb fun o l c e=>?_).trans hx) hc hcap hl he;unfold GroT at g;generalize (gP T)=tl at g;generalize hT:u8s T=tc at g;cases g with
  |nil=>cases e
  |at_ hg hlo hb2 hr hl2 ho=>
   cases e;rw [hr] at hx;cases hx;injection hc with hc
   subst hc;have d:gP L=len*1:=by
    have:=congrArg gP he;rw [←hL,yh,Af,Ak] at this;omega
   rw [←hT,←hL] at he;exact zlu zo d he
theorem lg (k:Nat)(I:GK.G h)(M:20≤n)(g:GroT h n (jx a (gP T) (gP T)) T)(hT:gP T<10000000){b:Bool}{x:Int}(i:IW h n b ax lx cx x)(Y:x.natAbs<2^m)(W:m≤64):
  CF (cal (k+8)) 134 [.agg #[kz b,jx ax lx cx],jx a (gP T) (gP T)] h n fun v h' n' w=>AS h n (jx a (gP T) (gP T)) h' n' w v (T++intN x):=by
 refine zu (fn:=Tryz.f134) R4 ?_;refine zN ?_;refine rB [kz b,jx ax lx cx] R5 ?_;intro h1 A e;have Z:=i.ext e zs;obtain ⟨L,N,P,K,o⟩:=Z.few Y W;have q:=(AS.refl g).ext e zs;refine Zu ?_;refine zV (v:=kz b) R5 (zX rfl A R2) ?_;refine zN ?_;cases b
 ·have p:=i.ge;rw [za rfl];refine Zm ?_;refine zV (v:=jx ax lx cx) R5 (zX rfl A R2) ?_;refine zB _ R5 (lh k (rA I e M) (n:=n+1) zo q.g zo N P K) ?_;intro v j n3 w3 d;obtain ⟨B,rfl⟩:=d.g.shape;have C:=q.trans d;rw [o] at C;refine Zo ?_;rw [show intN x=decN x.natAbs by unfold intN;rw [cC zo];rfl];exact retH [jx B _ _] R3 (by rw [o];exact C)
 have p:=i.lt;rw [ze rfl];refine Zc ?_;refine jP [jy .u8 45] (l:=1) (c:=1) R5 ?_;intro H p2 f;have R:H (3*n+2)=_:=(f _ zo).trans A;refine nQ (m:=1) (new:=[45]) R9 zb rfl (yH p2 R2) eT rfl zo (q.ext f zs) ?_;intro v' j w3 d y;obtain ⟨B,rfl⟩:=d.g.shape;have s:GroT H (n+1+1) (jx a (gP T) (gP T)) T:=(g.ext e zs).ext f zs;have S:j (3*n+2)=_:=(s.keepB y (yJ n) zo).trans R;have J:GK.G j:=G_fr (rA I (e.trans f zs) M) fun b hb V=>s.keepB y V zo;have O:Sl j (n+1+1+1) 1 (jx ax lx cx) (u64s L):=(N.ext f zs).kept y s zs;refine zM ?_;refine Zm ?_;refine zV (v:=jx ax lx cx) R5 (zX rfl S R2) ?_;refine zB _ R5 (lh k J (n:=n+1+1+1) zo d.g (by rw [nn];simp;omega) O P K) ?_;intro v h4 n4 w4 D;obtain ⟨U,rfl⟩:=D.g.shape;have F:=d.trans D;rw [o] at F;refine Zo ?_;rw [show T++intN x=T++[45]++decN x.natAbs by unfold intN;rw [eN p,Aq]];exact retH [jx U _ _] R3 (by rw [o];exact F)
end
section
variable {h h0:HF}{n:Nat}{T:List Nat}
theorem GroT.text (g:GroT h n (jx a (gP T) (gP T)) T):argS h 1 (jx a (gP T) (gP T)) (gP T) (u8s T):=tX (Gro.sl g)
theorem GroT.nil (h:HF)(n:Nat):GroT h n (jx none (gP ([]:List Nat)) (gP ([]:List Nat))) []:=Gro.nil
theorem zjr:∀(m V:Nat),V<2^m→gP (decD V)≤m:=by
 intro m;induction m with
 |zero=>(intro V h;have:V=0:=by simpa using h);subst this;simp [decD]
 |succ m ih=>
  intro V h;by_cases h0:V=0
  ·subst h0;simp [decD]
  rw [decD];simp only [h0,if_false,↓reduceDIte,↓reduceIte,Au,nn,xl,DE];have:=ih (V/10) (by rw [Ar] at h;omega);omega
theorem zi8 {x:Int}(h:x.natAbs<2^m):gP (intN x)≤m+2:=by
 have b:gP (decN x.natAbs)≤m+1:=by
  unfold decN;split
  ·simp
  have:=zjr m _ h;simp only [decB,oo,List.length_reverse];omega
 unfold intN;rw [nn];split<;>simp<;>omega
theorem AS.w_nil {c:Nat}(a:AS h0 n0 (jx none l c) h n w v T):w=[]:=by
 cases w with
 |nil=>rfl
 |cons b w=>
  obtain ⟨o,l,c,e⟩:=a.hw b As;cases e
theorem zdi (k:Nat)(j:GK.G h)(p:20≤n){b:Bool}{x:Int}(i:IW h n b ax lx cx x)(s:x.natAbs<2^m)(o:m≤64):
  VF (cal (k+9)) 133 [.agg #[kz b,jx ax lx cx]] h n fun v=>v=kF ⟨⟨intT x⟩⟩:=by
 refine zI (fn:=Tryz.f133) R4 ?_;refine zN ?_;refine rB [kz b,jx ax lx cx] R5 ?_;intro f y e;have u:=i.ext e zs;refine Zo ?_;refine zV (v:=.agg #[kz b,jx ax lx cx]) R5 (zT R2 y rfl zb rfl) ?_;refine zB _ R5 (lg k (rA j e p) (n:=n+1) zo (GroT.nil f (n+1)) (by show 0<10000000;omega) u s o) ?_;intro v C D F c;obtain ⟨A,rfl⟩:=c.g.shape;have d:=c.w_nil;subst d;refine qS R5 (se (B:=[]++intN x) R3 c.g.text) ?_;refine Zo ?_;refine retF _ rfl (zk rfl) R2 ?_;show kF _=_;rw [AN,ze7]
theorem jO {w:Nat}(b:w≤9223372036854775808)(h0:0<w):Ao .i64 ((18446744073709551616-w:Nat):Int)= -(w:Int):=by
 simp only [Ao,IntKind.signed,By];simp;omega
theorem zi9 (k:Nat){b:Bool}{x:Int}(i:IW h n b ax lx cx x):
  VF (cal (k+1)) 131 [.agg #[kz b,jx ax lx cx]] h n fun v=>∃y ok,v=.tuple #[jy .i64 y,kz ok]∧(ok=true→y=x∧ -9223372036854775808≤x∧x<9223372036854775808):=by
 refine zI (fn:=Tryz.f131) R4 ?_;obtain ⟨u,L,B,G,D⟩:=i;have A:=B.lenW;subst A;refine zN ?_;refine rB [kz b,jx ax (gP L) cx] R5 ?_;intro p g H;have C:=B.ext H zs;refine Zg ?_;refine Zc ?_;refine zV (v:=jx ax (gP L) cx) R5 (zX rfl g R2) ?_;by_cases h0:L=[]
 ·subst h0;have o:x=0:=by
   have:x.natAbs=0:=D.symm.trans rfl;omega
  refine Zn ?_;exact retF [jy .i64 0,kz true] rfl (xj rfl (xj rfl pM)) R2 ⟨_,_,rfl,fun _=>⟨o.symm,zo,zo⟩⟩
 have I:gP L≠0:=fun e=>h0 (xd.1 e);obtain ⟨w,c,rfl⟩:∃w c,L=w::c:=by
  cases L with
  |nil=>exact cA rfl h0
  |cons w c=>exact ⟨w,c,rfl⟩
 have s:w<18446744073709551616:=G.1 w gN;refine ZB ?_;refine zV (v:=jx ax (gP (w::c)) cx) R5 (zX rfl g R2) ?_;refine xt (f:=fun d:Nat=>jy .u64 (d:Int)) (j:=0) (dv:=w) R7 C R2 rfl (fun _=>rfl) R4 fun _=>?_;refine Zu ?_;refine zV (v:=jx ax (gP (w::c)) cx) R5 (zX rfl g R2) ?_;by_cases p:c=[]
 ·subst p;rw [nl] at D;have F:w≠0:=G.last (l:=[]);refine zM ?_;refine iB R6 (by show ¬(((1:Nat):Int)>1);omega) ?_;refine Zo ?_;rw [za rfl];refine Zc ?_;refine zV (v:=kz b) R5 (zX rfl g R2) ?_;cases b
  ·have o:0≤x:=FB.1 (of_decide_eq_false u.symm);refine ZB ?_;refine zV (v:=kz false) R5 (zX rfl g R2) ?_;by_cases hlt:w≤9223372036854775807
   ·refine Zg ?_;refine zM ?_;refine pJ R6 zo ?_;refine Zg ?_;refine zN ?_;rw [ze rfl];refine Zc ?_;refine wx (a:=(w:Int)) R7 zo ?_;refine Zg ?_;refine zN ?_;exact retF [jy .i64 (w:Int),kz true] rfl (xj rfl (xj rfl pM)) R2 ⟨_,_,rfl,fun _=>⟨zo,zo,zo⟩⟩
   refine Zg ?_;refine zM ?_;refine nJ R6 zo ?_;refine Zg ?_;refine zN ?_;rw [za rfl];refine Zm ?_;refine zN ?_;exact retF [jy .i64 0,kz false] rfl (xj rfl (xj rfl pM)) R2 ⟨_,_,rfl,fun e=>by cases e⟩
  have o:x<0:=of_decide_eq_true u.symm;by_cases hlt:w≤9223372036854775808
  ·refine Zg ?_;refine pJ R6 zo ?_;refine Zg ?_;refine zN ?_;rw [ze rfl];refine Zc ?_;refine zF (v:=jy .u64 ((18446744073709551616-w:Nat):Int)) ⟨rfl,rfl,rfl,rfl,(zeg s F)⟩ ?_;refine vn (ik:=.i64) (a:= -(w:Int)) R6 (by show some (jy .i64 (Ao .i64 _))=_;rw [jO hlt zo]) ?_;refine Zg ?_;refine zN ?_;exact retF [jy .i64 (-(w:Int)),kz true] rfl (xj rfl (xj rfl pM)) R2 ⟨_,_,rfl,fun _=>⟨zo,zo,zo⟩⟩
  refine Zg ?_;refine nJ R6 zo ?_;refine Zg ?_;refine zN ?_;rw [za rfl];refine Zc ?_;refine zV (v:=kz true) R5 (zX rfl g R2) ?_;refine Zd ?_;refine Zm ?_;refine zN ?_;exact retF [jy .i64 0,kz false] rfl (xj rfl (xj rfl pM)) R2 ⟨_,_,rfl,fun e=>by cases e⟩
 have J:2≤gP (w::c):=by
  cases c with
  |nil=>exact cA rfl p
  |cons _ _=>simp
 refine zM ?_;refine ko R6 zo ?_;refine Zo ?_;rw [ze rfl];refine Zm ?_;refine zN ?_;exact retF [jy .i64 0,kz false] rfl (xj rfl (xj rfl pM)) R2 ⟨_,_,rfl,fun e=>by cases e⟩
theorem pe (h:denZ q=0):ratT q=intT q.num:=by
 unfold ratT intT;rw [eN (yz.1 h),A3]
theorem iO (h:¬denZ q=0):ratT q=(intN q.num++[47]++intN (denZ q)).map Bh:=by
 rw [Bl,Bl,ze7,ze7,wk h];unfold ratT intT;rw [cC (mt yz.2 h),cC (show ¬((q.den:Nat):Int)<0 by omega)];simp only [Aq,sa];rfl
theorem tJ (k:Nat)(hG:GK.G h)(hn:20≤n){b d:Bool}{e:Option Addr}{c f g:Nat}(i:IW h n b a l c q.num)(j:IW h n d e f g (denZ q))(J:Sz m q)(R:m≤64):
  VF (cal (k+10)) 89 [.agg #[kz b,jx a l c,kz d,jx e f g]] h n fun v=>v=kF ⟨⟨ratT q⟩⟩:=by
 refine zI (fn:=Tryz.f89) R4 ?_;refine zN ?_;refine rB [kz b,jx a l c,kz d,jx e f g] R5 ?_;intro O D K;have S:=i.ext K zs;have j1:=j.ext K zs;have u:=rA hG K hn;refine Zu ?_;refine zV (v:=.agg #[kz d,jx e f g]) R5 (zT R2 D rfl zb rfl) ?_;refine yk _ R5 (an (k+8) j1) ?_;rintro _ ⟨z,rfl,s⟩;refine zN ?_;cases z
 ·have s:¬denZ q=0:=fun e=>by cases s.2 e
  rw [za rfl];refine Zc ?_;refine zV (v:=.agg #[kz b,jx a l c]) R5 (zT R2 D rfl zb rfl) ?_;refine zB _ R5 (lg (k+1) u (n:=n+1) zo (GroT.nil O (n+1)) (by show 0<10000000;omega) S J.1 R) ?_;intro v h2 C w2 A;obtain ⟨a',rfl⟩:=A.g.shape;have a1:=A.w_nil;subst a1;have V:Ext (n+1) O h2:=fun b p=>A.keep b p fun o l c e=>by cases e
  have ad:=A.hn;refine jP [jy .u8 47] (l:=1) (c:=1) R5 ?_;intro I p3 L;have H:GroT I (C+1) _ _:=A.g.ext L zs;have ac:gP (intN q.num)≤1922:=Ap (zi8 J.1) zo;have hA:AS h (ctx (k+9) n 0).n0 (jx none 0 0) I (C+1) [] _ ([]++intN q.num):=⟨by show n≤C+1;omega,fun b p _=>(L b (by have p:b<3*n:=p;omega)).trans ((V b (by have p:b<3*n:=p;omega)).trans (K b p)),fun b p=>cA p nN,H,by rcases A.or with h|h;exact .inl h;exact .inr (h.mono (ux n))⟩;refine nQ (m:=1) (new:=[47]) R9 zb rfl (yH p3 R2) eT rfl (by show (gP ([]++intN q.num)+1)*1≤_;rw [AN];omega) hA ?_;intro v' P w4 F U;obtain ⟨a5,rfl⟩:=F.g.shape;have a3:=F.w_nil;subst a3;have p4:P (3*n+2)=_:=(H.keepB U (yJ n) zo).trans ((L _ zo).trans ((V _ zo).trans D));have M:Ext (n+1) O I:=V.trans L zo;have W:GK.G I:=rA u M zo;have Y:GK.G P:=G_fr W fun b p hg=>H.keepB U hg zo;obtain ⟨ej,Lj,Z,ab,a0⟩:=j1.ext M (show n+1≤C+1 by omega);have j4:IW P (C+1+1) d e f g (denZ q):=⟨ej,Lj,Z.kept U H zs,ab,a0⟩;refine Zu ?_;refine zV (v:=.agg #[kz d,jx e f g]) R5 (zT R2 p4 rfl zb rfl) ?_;refine zM ?_;refine zB _ R5 (lg (k+1) Y (n:=C+1+1) zo F.g (by rw [nn,AN];simp;omega) j4 (by rw [wk s,sa];exact J.2) R) ?_;intro v h5 n5 w5 N;obtain ⟨a7,rfl⟩:=N.g.shape;have a8:addW (ctx (k+9) n 0).n0 w5 []=[]:=(F.trans N).w_nil;refine qS R5 (se (B:=[]++intN q.num++[47]++intN (denZ q)) R3 N.g.text) ?_;refine Zo ?_;refine retF _ rfl (zk rfl) ⟨rfl,a8⟩ ?_;show kF _=_;rw [AN,iO s]
 have s:denZ q=0:=s.1 rfl;rw [ze rfl];refine Zc ?_;refine zV (v:=.agg #[kz b,jx a l c]) R5 (zT R2 D rfl zb rfl) ?_;refine yk _ R5 (zi9 (k+8) S) ?_;rintro _ ⟨y,ok,rfl,hy⟩;refine Zg ?_;refine Zg ?_;refine Zu ?_;refine zN ?_;cases ok
 ·rw [za rfl];refine Zc ?_;refine zV (v:=.agg #[kz b,jx a l c]) R5 (zT R2 D rfl zb rfl) ?_;refine yk _ R5 (zdi k u (n:=n+1) zo S J.1 R) ?_;rintro _ rfl;refine Zo ?_;exact retF _ rfl (zk rfl) R2 (by rw [pe s];rfl)
 obtain ⟨rfl,a9,aa⟩:=hy rfl;rw [ze rfl];refine Zc ?_;refine yk _ R5 (eL (k+4) u (n:=n+1) zo ⟨a9,aa⟩) ?_;rintro _ rfl;refine Zo ?_;exact retF _ rfl (zk rfl) R2 (by rw [pe s];rfl)
end
theorem ky {i j:Nat}(h:i≤j):10^i≤10^j:=Ac zd h
theorem gH (k:Nat)(h:HF)(n:Nat)(s:List UInt8)(f:AllD s)(hl:gP s≤9):VF (cal (k+1)) 146 [kF ⟨⟨s⟩⟩] h n fun v=>v=jy .i64 ((dval s:Nat):Int):=by
 refine zI (fn:=Tryz.f146) R4 ?_;refine Zx ?_;refine zM ?_;refine st_I (ik:=.i64) (a:=(gP s:Int)) R5 ?_;refine Za ?_;refine z9 (α:=Nat) (fun m=>[(0,kF ⟨⟨s⟩⟩),(3,jy .i64 ((dval (s.take m):Nat):Int)),(6,jy .i64 (gP s:Int)),(7,jy .i64 (m:Int))]) (fun m g o w=>h=g∧n=o∧w=[]∧m≤gP s) (fun m=>gP s-m) 0 ⟨rfl,rfl,rfl,rfl,eP⟩ ⟨rfl,rfl,rfl,eU⟩ (by show gP s-0<LL;unfold LL;omega) ?_;rintro m t _ _ _ ⟨rfl,rfl,rfl,q⟩;refine zN ?_;by_cases hml:m=gP s
 ·refine Zi ?_;exact retF _ rfl (zk rfl) R2 (by rw [hml,Ax];rfl)
 obtain ⟨b,d⟩:∃b,s[m]?=some b:=⟨s[m]'zo,k4 zo⟩;have p:=f b (ns d);have e:dval (s.take m)<10^m:=by
  have:=vu (s:=s.take m) fun b d=>f b (AW d);rw [Af,Be zo] at this;exact this
 have l:=ky (i:=m) (j:=8) zo;rw [show (10:Nat)^8=100000000 from rfl] at l;have c:dval (s.take (m+1))=10*dval (s.take m)+(b.toNat-48):=by rw [qQ d,tO]
 generalize dval (s.take m)=V at e c;refine Zn ?_;refine zM ?_;refine st_mul (a:=10) (b:=(V:Int)) rfl rfl rfl rfl rfl rfl zo ?_;refine Zg ?_;refine yp (j:=m) R8 d ?_;refine nG (a:=b.toNat) (b:=48) R6 zo ?_;refine vn (ik:=.i64) (a:=((b.toNat-48:Nat):Int)) R6 (by show some (jy .i64 (Ao .i64 _))=_;rw [xK zo]) ?_;refine ur (a:=10*(V:Int)) (b:=((b.toNat-48:Nat):Int)) R6 zo ?_;refine Zl ?_;exact goOn (m+1) (by show gP s-(m+1)<gP s-m;omega) ⟨rfl,by show jy .i64 _=jy .i64 _;rw [c];congr 1,rfl,rfl,eP⟩ ⟨rfl,rfl,rfl,by show m+1≤_;omega⟩
theorem zff (k:Nat)(h:HF)(n:Nat)(a b:Nat)(f:b<9223372036854775808):VF (cal (k+1)) 122 [jy .i64 (a:Int),jy .i64 (b:Int)] h n fun v=>v=jy .i64 ((sN a b:Nat):Int):=by
 refine zI (fn:=Tryz.f122) R4 ?_;refine Zb ?_;refine z9 (α:=Nat×Nat) (fun z=>[(0,jy .i64 (z.1:Int)),(1,jy .i64 (z.2:Int))]) (fun z e g w=>h=e∧n=g∧w=[]∧z.2<9223372036854775808∧sN z.1 z.2=sN a b) (fun z=>z.2) (a,b) ⟨rfl,rfl,eP⟩ ⟨rfl,rfl,rfl,f,rfl⟩ (by show b<LL;unfold LL;omega) ?_;rintro ⟨x,y⟩ t _ _ _ ⟨rfl,rfl,rfl,d,c⟩;simp only at d c;refine zN ?_;by_cases hy0:y=0
 ·subst hy0;refine Zi ?_;exact retF _ rfl (zk rfl) R2 (by rw [←c,Nat.gcd_zero_right];rfl)
 refine Zp ?_;rw [xV rfl];refine Zg ?_;refine zM ?_;refine cN (a:=(x:Int)) (b:=(y:Int)) R6 zo ?_;rw [show (x:Int).tmod (y:Int)=((x%y:Nat):Int) from rfl];refine Za ?_;exact goOn (y,x%y) (Bo _ zo) ⟨rfl,rfl,eP⟩ ⟨rfl,rfl,rfl,Nat.lt_trans (Bo _ zo) d,by show sN y (x%y)=_;rw [←c,B8 x y,Nat.gcd_rec y x,B8]⟩
def ShR (s:List UInt8)(v:Value):Prop:=∃(x y:Int) (ok:Bool),v=.tuple #[.agg #[jy .i64 x,jy .i64 y],kz ok]∧(ok=true→∃q:Rat,ratT q=s∧x=q.num∧y=(q.den:Int)∧q.num.natAbs<1000000000∧q.den<1000000000)
def ShT (s:List UInt8):Prop:=gP s≤20∧(spl s).1.length≤9∧(spl s).2.1.length≤9∧(spl s).2.2=true∧((spl s).2.1=[]∨sN (dval (spl s).1) (dval (spl s).2.1)=1)
def ShR2 (s:List UInt8)(v:Value):Prop:=∃(x y:Int) (ok:Bool),v=.tuple #[.agg #[jy .i64 x,jy .i64 y],kz ok]∧(ok=true→∃q:Rat,ratT q=s∧x=q.num∧y=(q.den:Int)∧q.num.natAbs<1000000000∧q.den<1000000000)∧(ShT s→ok=true)
theorem gC {s:List UInt8}(h:AllD s)(hl:gP s≤9):dval s<1000000000:=tv (vu h) (Ap (ky hl) zd)
theorem qy (k:Nat)(h:HF)(n:Nat)(s:List UInt8)(T:gP s<1000000):VX (cal (k+5)) 114 [kF ⟨⟨s⟩⟩] h n (ShR2 s):=by
 refine zu (fn:=Tryz.f114) R4 ?_;refine zN ?_;refine yd R5 ?_;refine Za ?_;generalize hh:upd h (3*n+2) _=h1;have c:∃e,h1 (3*n+2)=some (.row [jy .i64 0,jy .i64 0] e):=⟨_,by rw [←hh,zh];rfl⟩;obtain ⟨y,c⟩:=c;have j:Ext n h h1:=fun b i=>by rw [←hh,zj zo]
 clear hh;refine zM ?_;refine st_I (ik:=.i64) (a:=(gP s:Int)) R5 ?_;by_cases hl20:20<gP s
 ·refine Zp ?_;refine zF (v:=.agg #[jy .i64 0,jy .i64 0]) R5 ?_;refine zK [jy .i64 0,jy .i64 0] R7 rfl c rfl (by show 3*n≤3*n+2;omega) ?_;refine Za ?_;exact yW (kz false) R6 (zh _ _ _) rfl zo (fun b i=>(zj zo).trans (j b i)) ⟨_,_,false,rfl,(fun h=>by cases h),fun h=>by have:=h.1;omega⟩
 refine ZB ?_;refine zB _ R5 (bc k h1 (n+1) s T) ?_;rintro _ J d _ ⟨rfl,V,G,rfl⟩;replace c:=(G (3*n+2) zo).trans c;replace j:Ext n h J:=fun b i=>(G b zo).trans (j b i);have l:(spl s).2.2=true→Frm s (spl s).1 (spl s).2.1:=fun e=>qY (by rw [←e]);have m:ShT s→(spl s).1.length≤9∧(spl s).2.1.length≤9∧(spl s).2.2=true∧((spl s).2.1=[]∨sN (dval (spl s).1) (dval (spl s).2.1)=1):=fun h=>h.2;generalize (spl s).1=M at l m ⊢;generalize (spl s).2.1=D at l m ⊢;generalize (spl s).2.2=ok at l m ⊢;generalize hmi:zQ s=mi;repeat refine zR ?_
 refine yd R5 ?_;refine zK [kz mi,kF ⟨⟨M⟩⟩,kF ⟨⟨D⟩⟩] R7 rfl (zh _ _ _) rfl (by show 3*n≤3*d+2;omega) ?_;rw [xq];generalize hh:upd J (3*d+2) _=h2;replace c:h2 (3*n+2)=some (.row [jy .i64 0,jy .i64 0] y):=by rw [←hh,zj zo];exact c
 have f:∃e,h2 (3*d+2)=some (.row [kz mi,kF ⟨⟨M⟩⟩,kF ⟨⟨D⟩⟩] e):=⟨_,by rw [←hh,zh]⟩;obtain ⟨L,f⟩:=f;replace j:Ext n h h2:=fun b i=>by rw [←hh,zj zo,j b i]
 clear hh;repeat refine zR ?_
 simp only [yN,xQ,zY,xJ];refine yu (α:=Bool) (fun z=>[(2,kS (some ⟨3*n+2,0,none⟩)),(4,kS (some ⟨3*d+2,0,none⟩)),(29,kz z)]) (fun z u N w=>h2=u∧N=d+1∧w=[]∧(z=false→ok=true∧gP M≤9∧gP D≤9)∧(z=true→¬ShT s)) ?_ ?_
 ·refine zN ?_;cases ok with
  |false=>
   refine Za ?_;exact zO true ⟨rfl,rfl,rfl,eP⟩ ⟨rfl,rfl,rfl,(fun h=>by cases h),(fun _ h=>by cases (m h).2.2.1)⟩
  |true=>
  repeat refine zR ?_
  refine zl R6 f (v:=kF ⟨⟨M⟩⟩) R2 ?_;refine st_I (ik:=.i64) (a:=(gP M:Int)) R5 ?_;by_cases C:9<gP M
  ·refine Za ?_;exact zO true ⟨rfl,rfl,rfl,eP⟩ ⟨rfl,rfl,rfl,(fun h=>by cases h),(fun _ h=>by have:=(m h).1;omega)⟩
  repeat refine zR ?_
  refine zl R6 f (v:=kF ⟨⟨D⟩⟩) R2 ?_;refine st_I (ik:=.i64) (a:=(gP D:Int)) R5 ?_;by_cases B:9<gP D
  ·refine Za ?_;exact zO true ⟨rfl,rfl,rfl,eP⟩ ⟨rfl,rfl,rfl,(fun h=>by cases h),(fun _ h=>by have:=(m h).2.1;omega)⟩
  refine Za ?_;exact zO false ⟨rfl,rfl,rfl,eP⟩ ⟨rfl,rfl,rfl,(fun _=>⟨by first|rfl|trivial,zo,zo⟩),fun h=>by cases h⟩
 rintro z t _ _ _ ⟨rfl,rfl,rfl,H,R⟩;cases z with
 |true=>
  rw [ze rfl];refine zN ?_;refine zF (v:=.agg #[jy .i64 0,jy .i64 0]) R5 ?_;refine zK [jy .i64 0,jy .i64 0] R7 rfl c rfl (by show 3*n≤3*n+2;omega) ?_;refine Za ?_;exact yW (kz false) R6 (zh _ _ _) rfl zo (fun b i=>(zj zo).trans (j b i)) ⟨_,_,false,rfl,(fun h=>by cases h),fun h=>cA h (R rfl)⟩
 |false=>
 refine ZA ?_;obtain ⟨rfl,C,B⟩:=H rfl;have F:=l rfl;have U:=gC F.dm C;have O:=gC F.dd B;clear H l;repeat refine zR ?_
 refine zl R6 f (v:=kF ⟨⟨M⟩⟩) R2 ?_;refine yk _ R5 (gH (k+3) h2 (d+1) M F.dm C) ?_;rintro _ rfl;refine zF (v:=.agg #[jy .i64 ((dval M:Nat):Int),jy .i64 1]) R5 ?_;refine yd R5 ?_;refine zK [jy .i64 ((dval M:Nat):Int),jy .i64 1] R7 rfl (zh _ _ _) rfl (by show 3*n≤3*(d+1)+2;omega) ?_;rw [xq];generalize hh:upd h2 (3*(d+1)+2) _=h3;replace c:h3 (3*n+2)=some (.row [jy .i64 0,jy .i64 0] y):=by rw [←hh,zj zo];exact c
 replace f:h3 (3*d+2)=some (.row [kz mi,kF ⟨⟨M⟩⟩,kF ⟨⟨D⟩⟩] L):=by rw [←hh,zj zo];exact f
 have g:∃e,h3 (3*(d+1)+2)=some (.row [jy .i64 ((dval M:Nat):Int),jy .i64 1] e):=⟨_,by rw [←hh,zh]⟩;obtain ⟨A,g⟩:=g;replace j:Ext n h h3:=fun b i=>by rw [←hh,zj zo,j b i]
 clear hh;refine Zf ?_;refine zl R6 f (v:=kF ⟨⟨D⟩⟩) R2 ?_;refine zl6 (!(D==[])) rfl rfl rfl rfl rfl rfl rfl ?_;simp only [yN,xQ,zY,xJ];refine yu (α:=Nat) (fun _=>[(2,kS (some ⟨3*n+2,0,none⟩)),(4,kS (some ⟨3*d+2,0,none⟩)),(6,kS (some ⟨3*(d+1)+2,0,none⟩))]) (fun z u N w=>w=[]∧N=d+1+1∧Ext n h u∧u (3*n+2)=some (.row [jy .i64 0,jy .i64 0] y)∧u (3*d+2)=some (.row [kz mi,kF ⟨⟨M⟩⟩,kF ⟨⟨D⟩⟩] L)∧(∃e,u (3*(d+1)+2)=some (.row [jy .i64 ((dval M:Nat):Int),jy .i64 (z:Int)] e))∧z=(if D=[] then 1 else dval D)∧(D=[]∨sN (dval M) (dval D)=1)) ?_ ?_
 ·by_cases hD:D=[]
  ·rw [za (by show kz _=_;rw [hD];rfl)];refine zN ?_;exact zO 1 ⟨rfl,rfl,rfl,eP⟩ ⟨rfl,rfl,j,c,f,⟨A,g⟩,by rw [eN hD],.inl hD⟩
  rw [ze (by show kz _=_;rw [show (D==[])=false from by simpa using hD];rfl)];refine Zf ?_;refine zl R6 f (v:=kF ⟨⟨D⟩⟩) R2 ?_;refine yk _ R5 (gH (k+3) h3 (d+1+1) D F.dd B) ?_;rintro _ rfl;repeat refine zR ?_
  refine y0 (cs:=[jy .i64 ((dval D:Nat):Int)]) R8 g zb (by show 3*n≤3*(d+1)+2;omega) ?_;generalize hh:upd h3 (3*(d+1)+2) _=h4;replace c:h4 (3*n+2)=some (.row [jy .i64 0,jy .i64 0] y):=by rw [←hh,zj zo];exact c
  replace f:h4 (3*d+2)=some (.row [kz mi,kF ⟨⟨M⟩⟩,kF ⟨⟨D⟩⟩] L):=by rw [←hh,zj zo];exact f
  replace g:h4 (3*(d+1)+2)=some (.row [jy .i64 ((dval M:Nat):Int),jy .i64 ((dval D:Nat):Int)] A):=by rw [←hh,zh];rfl
  replace j:Ext n h h4:=fun b i=>by rw [←hh,zj zo,j b i]
  clear hh;refine Zf ?_;refine zl R6 g (v:=jy .i64 ((dval M:Nat):Int)) R2 ?_;repeat refine zR ?_
  refine zl R6 g (v:=jy .i64 ((dval D:Nat):Int)) R2 ?_;refine yk _ R5 (zff (k+3) h4 (d+1+1) (dval M) (dval D) zo) ?_;rintro _ rfl;by_cases I:sN (dval M) (dval D)=1
  ·refine Zj ?_;exact zO (dval D) ⟨rfl,rfl,rfl,eP⟩ ⟨rfl,rfl,j,c,f,⟨A,g⟩,by rw [cC hD],.inr I⟩
  refine Zp ?_;refine zF (v:=.agg #[jy .i64 0,jy .i64 0]) R5 ?_;refine zK [jy .i64 0,jy .i64 0] R7 rfl c rfl (by show 3*n≤3*n+2;omega) ?_;refine Za ?_;exact yW (kz false) R6 (zh _ _ _) rfl zo (fun b i=>(zj zo).trans (j b i)) ⟨_,_,false,rfl,(fun h=>by cases h),fun h=>by
   rcases (m h).2.2.2 with h|h
   ·exact (hD h).elim
   ·exact (I h).elim⟩
 rintro z t S W _ ⟨rfl,rfl,j,c,f,⟨A,g⟩,H,I⟩;obtain ⟨q,P,o,p⟩:=F.rat I;rw [←H] at p;rw [hmi] at o;have K:z<1000000000:=by
  rw [H];split
  ·decide
  exact O
 refine Zf ?_;refine zl R6 f (v:=kz mi) R2 ?_;refine zN ?_;cases mi with
 |true=>
  rw [ze rfl];refine Zf ?_;refine zl R6 g (v:=jy .i64 ((dval M:Nat):Int)) R2 ?_;refine st_I (ik:=.i64) (a:= -((dval M:Nat):Int)) ⟨rfl,rfl,rfl,rfl,(by show some (jy .i64 (Ao .i64 _))=_;rw [xK zo,Int.zero_sub])⟩ ?_;repeat refine zR ?_
  refine y0 (cs:=[jy .i64 (-((dval M:Nat):Int))]) R8 g zb (by show 3*n≤3*(d+1)+2;omega) ?_;generalize hh:upd S (3*(d+1)+2) _=h6;replace c:h6 (3*n+2)=some (.row [jy .i64 0,jy .i64 0] y):=by rw [←hh,zj zo];exact c
  replace g:h6 (3*(d+1)+2)=some (.row [jy .i64 (-((dval M:Nat):Int)),jy .i64 (z:Int)] A):=by rw [←hh,zh];rfl
  replace j:Ext n h h6:=fun b i=>by rw [←hh,zj zo,j b i]
  clear hh;refine zN ?_;refine zV (v:=.agg #[jy .i64 (-((dval M:Nat):Int)),jy .i64 (z:Int)]) R5 (zT R2 g rfl zb rfl) ?_;refine zK [jy .i64 (-((dval M:Nat):Int)),jy .i64 (z:Int)] R7 rfl c rfl (by show 3*n≤3*n+2;omega) ?_;refine Za ?_;refine yW (kz true) R6 (zh _ _ _) rfl zo (fun b i=>(zj zo).trans (j b i)) ⟨_,_,true,rfl,(fun _=>⟨q,P,?_,by rw [p],?_,by rw [p];exact K⟩),fun _=>rfl⟩
  ·rw [o];rfl
  rw [o];simp only [if_true];omega
 |false=>
  refine ZA ?_;refine zV (v:=.agg #[jy .i64 ((dval M:Nat):Int),jy .i64 (z:Int)]) R5 (zT R2 g rfl zb rfl) ?_;refine zK [jy .i64 ((dval M:Nat):Int),jy .i64 (z:Int)] R7 rfl c rfl (by show 3*n≤3*n+2;omega) ?_;refine Za ?_;refine yW (kz true) R6 (zh _ _ _) rfl zo (fun b i=>(zj zo).trans (j b i)) ⟨_,_,true,rfl,(fun _=>⟨q,P,?_,by rw [p],?_,by rw [p];exact K⟩),fun _=>rfl⟩
  ·rw [o];rfl
  rw [o];simp only [AJ,if_false];omega
theorem iM (k:Nat)(h:HF)(n:Nat)(s:List UInt8)(f:gP s<1000000):VX (cal (k+5)) 114 [kF ⟨⟨s⟩⟩] h n (ShR s):=by
 refine yg (qy k h n s f) ?_;rintro v i j w ⟨a,b,c,x,y,g,e,d,_⟩;exact ⟨a,b,c,x,y,g,e,d⟩
section
variable {x:Operand}{T:List Nat}
section
variable {ops:List Oper}{h:HF}{n:Nat}{d:Tmp}
theorem zkl {a b c:Int}(j:sh X ops t o d (o.op=.binOp .quo ty x y ty'∧evF t x=jy .i64 a∧evF t y=jy .i64 b))(i:b≠0)(g:a.tdiv b=c)(f: -9223372036854775808≤c∧c<9223372036854775808)
  (k:EO X ops r ⟨upd t d (jy .i64 c),h,n,w⟩ Q):EO X ops (o::r) ⟨t,h,n,w⟩ Q:=by
 refine ZC j ?_ k;have:ikEq .i64 .i64=true:=rfl;simp only [binE,isSh,this,intE,cC i,g,xK f]
theorem zoz {a:Int}(i:zi ops t o=true)(c:o.dst=some d)(f:zv X.nt (some d)=true)(b:o.op=.unOp .neg ty x)(j:evF t x=jy .i64 a)(g: -9223372036854775808≤ -a∧ -a<9223372036854775808)
  (k:EO X ops r ⟨upd t d (jy .i64 (-a)),h,n,w⟩ Q):EO X ops (o::r) ⟨t,h,n,w⟩ Q:=by
 refine zF ⟨i,c,f,(by rw [b];rfl),?_⟩ k;rw [b];show unE .neg (evF t x)=_;rw [j];show some (jy .i64 (Ao .i64 (0-a)))=_;rw [show 0-a= -a by omega,xK g]
end
theorem zcr (k:Nat){h:HF}(M:GK.G h){n:Nat}(Z:20≤n)(P:c0.take (gP T)=u8s T)(L:60≤B∧B<3*n)(s:h B=some (.row c0 e))(f:cap=gP c0∧gP T+21≤cap∧cap<1000000){x:Int}(hx: -9223372036854775808≤x∧x<9223372036854775808):
  CF (cal (k+4)) 152 [jx (some ⟨B,0,none⟩) (gP T) cap,jy .i64 x,jy .i64 10] h n fun v V n' w=>BufT T h n B cap e c0 (intN x) v V n' w:=by
 refine zu (fn:=Tryz.f152) R4 ?_;obtain ⟨m,R⟩:∃m,m=x.natAbs:=⟨_,rfl⟩;refine Zc ?_;refine zN ?_;by_cases hneg:x<0
 ·have i:intN x=[45]++decN m:=by unfold intN;rw [eN hneg,R]
  refine zM ?_;refine vn (ik:=.u64) (a:=((18446744073709551616-m:Nat):Int)) R6 ?_ ?_
  ·show some (jy .u64 (Ao .u64 x))=_;rw [show x= -(m:Int) from zo,tE m zo]
  refine zM ?_;refine Zb ?_;rw [ze rfl];refine Zc ?_;refine jP [jy .u8 45] (l:=1) (c:=1) R5 ?_;intro W p1 K;have F:=(K B L.2).trans s;refine xD R5 (rx (m:=1) R3 zb (yH p1 R2) zo ⟨rfl,eT⟩ zo F zo rfl) ?_;rw [ry (by show B<3*n;exact L.2)];rw [show gP T+1=gP (T++[45]) from by rw [nn];rfl];obtain ⟨t1,U⟩:=vG (N:=[45]) P (by show gP T+1≤_;omega);have O:GK.G (upd W B (some (.row (zw c0 (gP T) [jy .u8 45]) e))):=G_fr M fun b g _=>(zj zo).trans (K b zo);refine Zu ?_;refine zF (v:=jy .u64 (m:Int)) ⟨rfl,rfl,rfl,rfl,?_⟩ ?_
  ·show some (jy .u64 (Ao .u64 (0-((18446744073709551616-m:Nat):Int))))=_;rw [uH _ zo];congr 3;omega
  refine Zu ?_;refine Zg ?_;refine zB _ R5 (li k O (n:=n+1) zo (T:=T++[45]) (B:=B) (cap:=cap) (u:=m) t1 zo (zh _ _ _) ⟨by rw [U];exact f.1,by rw [nn];simp;omega,f.2.2⟩ zo) ?_;rintro v Y S w3 ⟨rfl,H,C,p,J,q,j,A⟩;refine Zo ?_;refine retH [jx (some ⟨B,0,none⟩) (gP (T++[45]++decN m)) cap] R3 ⟨by rw [i,←Aq];rfl,by show n≤S;omega,fun b g=>?_,fun b g I=>(p b zo I).trans ((zj I).trans (K b g)),J,q,j.trans U,by rw [i,←Aq];exact A⟩;rcases yX.1 g with h|⟨h,_⟩
  ·exact nP.1 h
  exact C b h
 have i:intN x=decN m:=by unfold intN;rw [cC hneg,R];rfl
 obtain rfl:x=(m:Int):=zo;refine zM ?_;refine uM (c:=m) R7 zo ?_;refine zM ?_;refine Zb ?_;rw [za rfl];refine Zc ?_;refine Zg ?_;refine zB _ R5 (li k M Z (T:=T) (B:=B) (cap:=cap) (u:=m) P zo s ⟨f.1,zo,f.2.2⟩ zo) ?_;rintro v Y S w3 ⟨rfl,H,C,p,J,q,j,A⟩;refine Zo ?_;refine retH [jx (some ⟨B,0,none⟩) (gP (T++decN m)) cap] R3 ⟨by rw [i];rfl,H,fun b g=>?_,p,J,q,j,by rw [i];exact A⟩;rcases yX.1 g with h|⟨h,_⟩
 ·exact cA h nN
 exact C b h
theorem lk (k:Nat){h:HF}(u:GK.G h){n:Nat}(F:20≤n)(A:c0.take (gP T)=u8s T)(s:60≤B∧B<3*n)(a:h B=some (.row c0 e))(c:cap=gP c0∧gP T+21≤cap∧cap<1000000){x:Int}(H: -9223372036854775808≤x∧x<9223372036854775808):
  CF (cal (k+5)) 124 [jx (some ⟨B,0,none⟩) (gP T) cap,jy .i64 x,jy .i64 10] h n fun v q I w=>BufT T h n B cap e c0 (intN x) v q I w:=by
 refine zu (fn:=Tryz.f124) R4 ?_;refine Zc ?_;refine Zc ?_;refine Zg ?_;refine zB _ R5 (zcr k u F A s a c H) ?_;rintro v J K L ⟨rfl,g,m,i,p,j,f,l⟩;refine Zo ?_;refine retH [jx (some ⟨B,0,none⟩) (gP (T++intN x)) cap] R3 ⟨rfl,g,fun b C=>?_,i,p,j,f,l⟩;rcases yX.1 C with h|⟨h,_⟩
 ·exact cA h nN
 exact m b h
theorem pY (N:Int)(a:0<D):(Av N D).num=N.tdiv ((sN N.natAbs D:Nat):Int)∧((Av N D).den:Int)=(D:Int).tdiv ((sN N.natAbs D:Nat):Int):=by
 have b:0<sN N.natAbs D:=A5 _ a;rw [Rat.divInt_ofNat,←Ev zo,Rat.normalize_eq];simp only;refine ⟨?_,?_⟩
 ·rw [Int.tdiv_eq_ediv_of_dvd];exact BZ.2 (BB _ _)
 rfl
theorem kG {x:Int}(b: -9223372036854775808≤x∧x<9223372036854775808):gP (intN x)≤21:=by
 have a:gP (decN x.natAbs)≤20:=by
  unfold decN;split
  ·decide
  unfold decB;rw [oo];exact xm 20 _ zo
 unfold intN;rw [nn];split<;>simp<;>omega
theorem eM (k:Nat){h:HF}(A:GK.G h){n:Nat}(I:20≤n){N:Int}(hN: -9000000000000000000≤N∧N≤9000000000000000000)(u:0<D∧D≤9000000000000000000):VF (cal (k+6)) 86 [jy .i64 N,jy .i64 (D:Int)] h n fun v=>v=kF ⟨⟨ratT (Av N D)⟩⟩:=by
 refine zI (fn:=Tryz.f86) R4 ?_;obtain ⟨g,i⟩:=pY N u.1;have hg:0<sN N.natAbs D:=A5 _ u.1;have a0:sN N.natAbs D≤D:=Dd u.1 (BS _ _);generalize Av N D=q at g i ⊢;have a6:(q.den:Int)≤D∧(0:Int)<q.den:=by
  refine ⟨?_,by have:=q.den_pos;omega⟩;rw [i];exact Hg.2 (Bk _ _)
 have a7: -9000000000000000000≤q.num∧q.num≤9000000000000000000:=by
  have h1:q.num.natAbs≤N.natAbs:=by rw [g,DG];exact Bk _ _
  omega
 refine Zc ?_;refine Zb ?_;rw [za rfl,yN,zY,xJ];refine yu (α:=Unit) (fun _=>[(0,jy .i64 q.num),(1,jy .i64 (q.den:Int))]) (fun _ h' n' w=>h=h'∧n'=n∧w=[]) ?_ ?_
 ·refine zN ?_;by_cases hD1:D=1
  ·subst hD1;rw [Nat.gcd_one_right] at g i;refine Zj ?_;exact zO () ⟨by rw [g];simp;rfl,by rw [i];rfl,eP⟩ ⟨rfl,rfl,rfl⟩
  refine Zz ?_;refine zoz rfl rfl rfl rfl rfl zo ?_;refine st_I (ik:=.i64) (a:=(N.natAbs:Int)) ⟨rfl,rfl,rfl,rfl,?_⟩ ?_
  ·show some (jy .i64 (if N< -N then -N else N))=_;congr 2;split<;>omega
  refine zM ?_;refine yk _ R5 (zff (k+4) _ _ N.natAbs D zo) ?_;rintro _ rfl;refine Zo ?_;rw [xV rfl];refine Zg ?_;refine zkl (c:=q.num) R6 zo g.symm zo ?_;refine Zg ?_;refine zkl (c:=(q.den:Int)) R6 zo i.symm zo ?_;refine Zg ?_;refine zN ?_;exact zO () ⟨rfl,rfl,eP⟩ ⟨rfl,rfl,rfl⟩
 rintro _ t _ n _ ⟨rfl,rfl,rfl⟩;refine zN ?_;by_cases hq1:q.den=1
 ·refine Ze ?_;refine Zc ?_;refine yk _ R5 (kJ (k+1) A I (x:=q.num) zo) ?_;rintro _ rfl;refine Zo ?_;exact retF _ rfl (zk rfl) R2 (by rw [pe (yz.2 hq1)];rfl)
 have U:¬denZ q=0:=mt yz.1 hq1;refine Zj ?_;refine wI (pl 48 (jy .u8 0)) R6 ?_;intro h1 p1 W;have C:=rA A W I;have a1:gP (intN q.num)≤21:=kG zo;refine zN ?_;refine so (j:=0) R8 rfl (yJ n) zo ?_;refine zM ?_;refine zB _ R5 (lk k C (n:=n+1) zo (T:=[]) (B:=3*n+2) (cap:=48) rfl zo p1 ⟨by rw [Ah],by show 0+21≤48;omega,zo⟩ (x:=q.num) zo) ?_;rintro v h2 n2 w2 ⟨rfl,a3,R,J,Z,K,p,O⟩;rw [z0 fun b f=>by rw [R b f];show 3*n≤_;omega];rw [Ah] at p;refine Zu ?_;refine jP [jy .u8 47] (l:=1) (c:=1) R5 ?_;intro h3 p3 Y;have L:=(Y (3*n+2) zo).trans K;refine xD R5 (rx (m:=1) R3 zb (yH p3 R2) (by show (gP ([]++intN q.num)+1)*1≤_;rw [AN];omega) ⟨rfl,eT⟩ (by rw [AN];omega) L (by rw [AN];omega) rfl) ?_;rw [z0 fun b f=>by rw [nP.1 f];show 3*n≤_;omega];rw [show gP (([]:List Nat)++intN q.num)+1=gP (([]:List Nat)++intN q.num++[47]) from by simp];obtain ⟨t1,V⟩:=vG (N:=[47]) O (by show gP ([]++intN q.num)+1≤_;rw [AN];omega);generalize hh4:upd h3 (3*n+2) _=h4;have F:GK.G h4:=by
  rw [←hh4];exact G_fr A fun b f _=>(zj zo).trans ((Y b zo).trans ((J b zo zo).trans (W b zo)))
 have s:∃e,h4 (3*n+2)=some (.row (zw Z (gP ([]++intN q.num)) [jy .u8 47]) e):=⟨_,by rw [←hh4];exact zh _ _ _⟩;obtain ⟨e4,s⟩:=s;have a2:gP (intN (q.den:Int))≤21:=kG zo;refine zM ?_;refine Zm ?_;refine zB _ R5 (lk k F (n:=n2+1) zo (T:=[]++intN q.num++[47]) (B:=3*n+2) (cap:=48) t1 zo s ⟨by rw [V,p],by rw [nn,AN];simp;omega,zo⟩ (x:=(q.den:Int)) zo) ?_;rintro v h5 n5 w5 ⟨rfl,a4,S,a5,c5,M,H,P⟩;rw [z0 fun b f=>by rw [S b f];show 3*n≤_;omega];refine qS R5 (se (B:=[]++intN q.num++[47]++intN (q.den:Int)) R3 (uB M (by rw [AQ];exact P) (by rw [H,V,p];simp only [nn,AN,xl];omega) (by simp only [nn,AN,xl];omega))) ?_;refine Zo ?_;refine retF _ rfl (zk rfl) R2 ?_;show kF _=_;rw [AN,iO U,wk U]
end
section
variable {h:HF}{n:Nat}
theorem mD {x y:Int}(a:0<y):(Av x y).num=x.tdiv ((sN x.natAbs y.natAbs:Nat):Int)∧((Av x y).den:Int)=y.tdiv ((sN x.natAbs y.natAbs:Nat):Int):=by
 obtain ⟨d,rfl⟩:∃d:Nat,y=(d:Int):=⟨y.toNat,zo⟩;exact pY x zo
theorem znj {x y:Int}:Av x y=Av (-x) (-y):=by rw [Rat.neg_divInt_neg]
theorem gu {x y:Int}(a:y<0):(Av x y).num=(-x).tdiv ((sN (-x).natAbs (-y).natAbs:Nat):Int)∧((Av x y).den:Int)=(-y).tdiv ((sN (-x).natAbs (-y).natAbs:Nat):Int):=by
 rw [znj];exact mD zo
theorem rI {x y:Int}(b:0<y)(a:((sN x.natAbs y.natAbs:Nat):Int)=1):(Av x y).num=x∧((Av x y).den:Int)=y:=by
 have h:=mD (x:=x) b;rw [a,CN,CN] at h;exact h
theorem pU {x y:Int}(b:y<0)(a:((sN (-x).natAbs (-y).natAbs:Nat):Int)=1):(Av x y).num= -x∧((Av x y).den:Int)= -y:=by
 rw [znj];exact rI zo a
theorem zfj {x y:Int}(a:y=1):(Av x y).num=x∧denZ (Av x y)=0:=by
 have h:=rI (x:=x) (y:=y) zo (by rw [a];simp);exact ⟨h.1,yz.2 (by have:=h.2;omega)⟩
theorem zjc {x y:Int}(a: -y=1):(Av x y).num= -x∧denZ (Av x y)=0:=by
 rw [znj];exact zfj a
theorem gt (k:Nat){x:Int}{y:Int}(g:GG h n)(f:IW h n sx ax lx cx x)(b:IW h n sy ay ly cy y)(hx:x.natAbs<BW)(hy:y.natAbs<BW)(c:y≠0):CX (cal (k+10)) 203 [.agg #[kz sx,jx ax lx cx],.agg #[kz sy,jx ay ly cy]] h n (QV (Av x y)):=by
 have d6:(-x).natAbs<BW:=by rw [AR];exact hx
 have aw:(-y).natAbs<BW:=by rw [AR];exact hy
 have d4:((sN (-x).natAbs (-y).natAbs:Nat):Int).natAbs<BW:=eK aw zo;have d5:((sN x.natAbs y.natAbs:Nat):Int).natAbs<BW:=eK hy c;have bq:((sN (-x).natAbs (-y).natAbs:Nat):Int)≠0:=eI zo;have br:((sN x.natAbs y.natAbs:Nat):Int)≠0:=eI c;refine zu (fn:=Tryz.f203) R4 ?_;refine zG ?_;refine sB [kz sx,jx ax lx cx] ?_;intro bz e7 es;refine sB [kz sy,jx ay ly cy] ?_;intro c0 e8 et;refine sA ?_;intro c1 e9 eu;refine zG ?_;refine sC (yU _ (b.t zt)) ?_;rintro _ c2 d7 ⟨bs,rfl,v⟩ fh ev;rcases bvs v with ⟨rfl,u⟩|⟨rfl,u⟩
 ·refine zG ?_;refine sC (yU _ (f.t zt)) ?_;rintro _ c3 d8 ⟨bt,rfl,w⟩ fi ew;rcases bvs w with ⟨rfl,s⟩|⟨rfl,s⟩
  ·refine zG ?_;refine sC (zmc _ (b.t zt)) ?_;rintro _ c4 d9 ⟨er,rfl,a⟩ fj ey;rcases a with ⟨rfl,a⟩|⟨rfl,a⟩|⟨rfl,a⟩
   ·refine zG ?_;refine zm [0,1,0,7,15,31] rfl ?_;refine zH ?_;refine dC (negX _ (f.t zt)) ?_;rintro _ c5 da ⟨j,i,p,l,rfl,d⟩ fk ez;refine zH ?_;refine dC (negX _ (b.t zt)) ?_;rintro _ c6 db ⟨R,F,bb,a3,rfl,e⟩ fl f0;refine dS [kz j,jx i p l] ?_;intro c7 ea dr;refine dS [kz R,jx F bb a3] ?_;intro c8 eb ds;refine zG ?_;refine sC (rG _ (e.t zt)) ?_;rintro _ c9 dc ⟨bu,rfl,A⟩ fm f1;rcases bvs A with ⟨rfl,bm⟩|⟨rfl,bm⟩
    ·refine zG ?_;refine sC (gcdX _ (g.t zt) (d.t zt) (e.t zt) szB szB) ?_;rintro _ ca dd ⟨S,G,bc,a4,rfl,m⟩ fo f2;refine sA ?_;intro cb ec f3;refine sS [kz S,jx G bc a4] ?_;intro cc ed dt;refine zG ?_;refine sC (rG _ (m.t zt)) ?_;rintro _ cd de ⟨bv,rfl,B⟩ fp f4;rcases bvs B with ⟨rfl,bn⟩|⟨rfl,bn⟩
     ·refine zG ?_;refine zm [0,0,3,0,0,31,63,127] rfl ?_;refine zH ?_;refine dC (quoX _ (d.t zt) (m.t zt) szB szB szN) ?_;rintro _ ce df ⟨T,H,bd,a5,rfl,az⟩ fq f5;refine zH ?_;refine dC (quoX _ (e.t zt) (m.t zt) szB szB szN) ?_;rintro _ cf dg ⟨U,I,be,a6,rfl,b0⟩ fr f6;refine dS [kz T,jx H bd a5] ?_;intro cg ee du;refine dS [kz U,jx I be a6] ?_;intro ch ef dv;refine zG ?_;refine sC (ue _ (az.t zt) (b0.t zt) (q:=Av x y) (by first|exact (mD zo).1|exact (gu zo).1|exact (rI zo ‹_›).1|exact (pU zo ‹_›).1) (by first|exact (mD zo).2|exact (gu zo).2|exact (rI zo ‹_›).2|exact (pU zo ‹_›).2)) ?_;rintro _ ci dh ⟨V,J,bf,a7,ae,ai,am,aq,rfl,b1,b7⟩ fs f7;refine sS [kz V,jx J bf a7,kz ae,jx ai am aq] ?_;intro cj eg dw;refine zq ?_;exact ⟨_,_,_,_,_,_,_,_,rfl,(b1.t zt),(b7.t zt)⟩
     refine zG ?_;refine sC (ue _ (d.t zt) (e.t zt) (q:=Av x y) (by first|exact (mD zo).1|exact (gu zo).1|exact (rI zo ‹_›).1|exact (pU zo ‹_›).1) (by first|exact (mD zo).2|exact (gu zo).2|exact (rI zo ‹_›).2|exact (pU zo ‹_›).2)) ?_;rintro _ ck di ⟨W,K,bg,a8,af,aj,an,ar,rfl,b2,b8⟩ ft f8;refine sS [kz W,jx K bg a8,kz af,jx aj an ar] ?_;intro cl eh dy;refine zq ?_;exact ⟨_,_,_,_,_,_,_,_,rfl,(b2.t zt),(b8.t zt)⟩
    refine zG ?_;refine sT #[kz j,jx i p l,kz false,jx none 0 0] ?_;refine sS [kz j,jx i p l,kz false,jx none 0 0] ?_;intro cm ei dz;refine zq ?_;exact ⟨_,_,_,_,_,_,_,_,rfl,(d.t zt).as ((by first|exact (zfj ‹_›).1.symm|exact (zjc ‹_›).1.symm)),(IW.zero _ _).as ((by first|exact (zfj ‹_›).2.symm|exact (zjc ‹_›).2.symm))⟩
   ·exact cA a c
   refine zG ?_;refine sC (rG _ (b.t zt)) ?_;rintro _ cn dj ⟨bw,rfl,C⟩ fu f9;rcases bvs C with ⟨rfl,bo⟩|⟨rfl,bo⟩
   ·refine zG ?_;refine sC (gcdX _ (g.t zt) (f.t zt) (b.t zt) szB szB) ?_;rintro _ co dk ⟨Y,L,bh,a9,rfl,o⟩ fv fa;refine sA ?_;intro cp ej fb;refine sS [kz Y,jx L bh a9] ?_;intro cq ek e0;refine zG ?_;refine sC (rG _ (o.t zt)) ?_;rintro _ cr dl ⟨bx,rfl,D⟩ fw fc;rcases bvs D with ⟨rfl,bp⟩|⟨rfl,bp⟩
    ·refine zG ?_;refine zm [0,0,3,0,0,31,63,127] rfl ?_;refine zH ?_;refine dC (quoX _ (f.t zt) (o.t zt) szB szB szN) ?_;rintro _ cs dm ⟨Z,M,bi,aa,rfl,b3⟩ fy fd;refine zH ?_;refine dC (quoX _ (b.t zt) (o.t zt) szB szB szN) ?_;rintro _ ct dn ⟨a0,N,bj,ab,rfl,b4⟩ fz fe;refine dS [kz Z,jx M bi aa] ?_;intro cu el e1;refine dS [kz a0,jx N bj ab] ?_;intro cv em e2;refine zG ?_;refine sC (ue _ (b3.t zt) (b4.t zt) (q:=Av x y) (by first|exact (mD zo).1|exact (gu zo).1|exact (rI zo ‹_›).1|exact (pU zo ‹_›).1) (by first|exact (mD zo).2|exact (gu zo).2|exact (rI zo ‹_›).2|exact (pU zo ‹_›).2)) ?_;rintro _ cw dp ⟨a1,O,bk,ac,ag,ak,ao,au,rfl,b5,b9⟩ g0 ff;refine sS [kz a1,jx O bk ac,kz ag,jx ak ao au] ?_;intro cz en e3;refine zq ?_;exact ⟨_,_,_,_,_,_,_,_,rfl,(b5.t zt),(b9.t zt)⟩
    refine zG ?_;refine sC (ue _ (f.t zt) (b.t zt) (q:=Av x y) (by first|exact (mD zo).1|exact (gu zo).1|exact (rI zo ‹_›).1|exact (pU zo ‹_›).1) (by first|exact (mD zo).2|exact (gu zo).2|exact (rI zo ‹_›).2|exact (pU zo ‹_›).2)) ?_;rintro _ d0 dq ⟨a2,P,bl,ad,ah,al,ap,av,rfl,b6,ba⟩ g1 fg;refine sS [kz a2,jx P bl ad,kz ah,jx al ap av] ?_;intro d1 eo e4;refine zq ?_;exact ⟨_,_,_,_,_,_,_,_,rfl,(b6.t zt),(ba.t zt)⟩
   refine zG ?_;refine sT #[kz sx,jx ax lx cx,kz false,jx none 0 0] ?_;refine sS [kz sx,jx ax lx cx,kz false,jx none 0 0] ?_;intro d2 ep e5;refine zq ?_;exact ⟨_,_,_,_,_,_,_,_,rfl,(f.t zt).as ((by first|exact (zfj ‹_›).1.symm|exact (zjc ‹_›).1.symm)),(IW.zero _ _).as ((by first|exact (zfj ‹_›).2.symm|exact (zjc ‹_›).2.symm))⟩
  refine zG ?_;refine sT #[kz false,jx none 0 0,kz false,jx none 0 0] ?_;refine sS [kz false,jx none 0 0,kz false,jx none 0 0] ?_;intro d3 eq e6;refine zq ?_;exact ⟨_,_,_,_,_,_,_,_,rfl,(IW.zero _ _).as (by rw [s,HK];rfl),(IW.zero _ _).as (by rw [s,HK];rfl)⟩
 exact cA u c
theorem zme (k:Nat){x:Rat}{y:Int}(o:IW h n sx ax lx cx x.num)(q:IW h n dx ex fx gx (denZ x))(p:IW h n sy ay ly cy y)(hx:x.num.natAbs<BW)(M:(denZ x).natAbs<BW)(hy:y.natAbs<BW):CX (cal (k+9)) 228 [.agg #[kz sx,jx ax lx cx,kz dx,jx ex fx gx],.agg #[kz sy,jx ay ly cy]] h n (IV (x.num*y.tdiv (x.den:Int))):=by
 refine zu (fn:=Tryz.f228) R4 ?_;refine zG ?_;refine sB [kz sx,jx ax lx cx,kz dx,jx ex fx gx] ?_;intro C V a1;refine sB [kz sy,jx ay ly cy] ?_;intro D W a2;refine sA ?_;intro F Y a3;refine zG ?_;refine sC (yU _ (q.t zt)) ?_;rintro _ G O ⟨w,rfl,b⟩ a8 a4;rcases bvs b with ⟨rfl,a⟩|⟨rfl,a⟩
 ·refine zG ?_;refine zm [0,1,0,0,8,28,63,127] rfl ?_;refine zH ?_;refine dC (quoX _ (p.t zt) (q.t zt) szB szB szN) ?_;rintro _ H P ⟨A,v,N,B,rfl,j⟩ a9 a5;refine dC (mulX _ (o.t zt) j szB szB) ?_;rintro _ I R ⟨e,c,s,g,rfl,l⟩ aa a6;refine dS [kz e,jx c s g] ?_;intro J Z T;refine zq ?_;exact ⟨_,_,_,_,rfl,(l.t zt).as (by rw [wk a])⟩
 refine zG ?_;refine sC (mulX _ (o.t zt) (p.t zt) szB szB) ?_;rintro _ K S ⟨f,d,u,i,rfl,m⟩ ab a7;refine sS [kz f,jx d u i] ?_;intro L a0 U;refine zq ?_;exact ⟨_,_,_,_,rfl,(m.t zt).as (by rw [show (x.den:Int)=1 from by have:=yz.1 a;omega,CN])⟩
end
section
variable {n:Nat}{h:HF}
theorem znd {x:Rat}(h:x.num<0):(x⁻¹).num= -((x.den:Int))∧((x⁻¹).den:Int)= -x.num:=by
 rw [Rat.num_inv,Ht,Int.sign_eq_neg_one_of_neg h,cC zo];omega
theorem znc {x:Rat}(h:0<x.num):(x⁻¹).num=(x.den:Int)∧((x⁻¹).den:Int)=x.num:=by
 rw [Rat.num_inv,Ht,Int.sign_eq_one_of_pos h,cC zo];omega
theorem zp2 {x:Rat}(h:x.num=0):x⁻¹ =0:=by rw [Rat.num_eq_zero.1 h,Rat.inv_zero]
theorem Sz.inv {x:Rat}(h:Sz m x):Sz m x⁻¹ :=by
 have c:=x.den_pos;refine ⟨?_,?_⟩
 ·rcases Int.lt_trichotomy x.num 0 with a|a|a
  ·rw [(znd a).1,AR,sa];exact h.2
  ·rw [zp2 a];exact Ae eU h.2
  rw [(znc a).1,sa];exact h.2
 rw [Ht];split
 ·exact Ae c h.2
 exact h.1
theorem invQ (k:Nat){x:Rat}(c:IW h n sx ax lx cx x.num)(J:IW h n dx ex fx gx (denZ x)):CX (cal (k+4)) 206 [.agg #[kz sx,jx ax lx cx,kz dx,jx ex fx gx]] h n (QV x⁻¹):=by
 refine zu (fn:=Tryz.f206) R4 ?_;refine zG ?_;refine sB [kz sx,jx ax lx cx,kz dx,jx ex fx gx] ?_;intro a0 aq b0;refine sA ?_;intro a1 ar b1;refine zG ?_;refine sC (zmc _ (c.t zt)) ?_;rintro _ a2 ag ⟨az,rfl,a⟩ b9 b2;rcases a with ⟨rfl,a⟩|⟨rfl,a⟩|⟨rfl,a⟩
 ·refine zG ?_;refine zm [0,1,3,0,8,31,63,127] rfl ?_;refine zH ?_;refine dC (denQ _ (c.t zt) (J.t zt)) ?_;rintro _ a3 ah ⟨R,M,ac,V,rfl,A⟩ ba b3;refine dC (negX _ A) ?_;rintro _ a4 ai ⟨S,N,ad,W,rfl,B⟩ bb b4;refine zH ?_;refine dC (negX _ (c.t zt)) ?_;rintro _ a5 aj ⟨T,O,ae,Y,rfl,C⟩ bc b5;refine dC (ue _ (B.t zt) C (q:=x⁻¹) (znd a).1 (znd a).2) ?_;rintro _ a6 ak ⟨f,d,K,i,l,p,u,w,rfl,D,H⟩ bd b6;refine dS [kz f,jx d K i,kz l,jx p u w] ?_;intro a7 au an;refine zq ?_;exact ⟨_,_,_,_,_,_,_,_,rfl,(D.t zt),(H.t zt)⟩
 ·refine zG ?_;refine sT #[kz false,jx none 0 0,kz false,jx none 0 0] ?_;refine sS [kz false,jx none 0 0,kz false,jx none 0 0] ?_;intro a8 av ao;refine zq ?_;exact (show x⁻¹ =0 from zp2 a)▸QV.zero _ _
 refine zG ?_;refine zm [0,1,0,4,15,31] rfl ?_;refine zH ?_;refine dC (denQ _ (c.t zt) (J.t zt)) ?_;rintro _ a9 al ⟨U,P,af,Z,rfl,F⟩ be b7;refine zH ?_;refine dC (ue _ F (c.t zt) (q:=x⁻¹) (znc a).1 (znc a).2) ?_;rintro _ aa am ⟨g,e,L,j,o,s,v,y,rfl,G,I⟩ bf b8;refine dS [kz g,jx e L j,kz o,jx s v y] ?_;intro ab aw ap;refine zq ?_;exact ⟨_,_,_,_,_,_,_,_,rfl,(G.t zt),(I.t zt)⟩
theorem divQ (k:Nat){x:Rat}{y:Rat}(g:GG h n)(A:IW h n sx ax lx cx x.num)(C:IW h n dx ex fx gx (denZ x))(B:IW h n sy ay ly cy y.num)(D:IW h n dy ey fy gy (denZ y)){a:Nat}(hx:Sz a x)(w:Sz b y)(o:a+b≤64):CX (cal (k+11)) 169 [.agg #[kz sx,jx ax lx cx,kz dx,jx ex fx gx],.agg #[kz sy,jx ay ly cy,kz dy,jx ey fy gy]] h n (QV (x/y)):=by
 refine zu (fn:=Tryz.f169) R4 ?_;refine zG ?_;refine sB [kz sx,jx ax lx cx,kz dx,jx ex fx gx] ?_;intro M Y a2;refine sB [kz sy,jx ay ly cy,kz dy,jx ey fy gy] ?_;intro N Z a3;refine sA ?_;intro O a0 a4;refine zG ?_;refine zm [0,0,2,7,15] rfl ?_;refine zH ?_;refine dC (invQ _ (B.t zt) (D.t zt)) ?_;rintro _ P U ⟨G,F,T,H,I,J,K,L,rfl,p,s⟩ a7 a5;refine dC (mulQ _ (g.t zt) (A.t zt) (C.t zt) p s hx w.inv o) ?_;rintro _ R V ⟨d,c,v,e,f,i,j,l,rfl,q,u⟩ a8 a6;refine dS [kz d,jx c v e,kz f,jx i j l] ?_;intro S a1 W;refine zq ?_;exact ⟨_,_,_,_,_,_,_,_,rfl,(q.t zt).as (by rw [Bv]),(u.t zt).as (by rw [Bv])⟩
end
section
variable {h:HF}{n:Nat}
theorem zm8 (a b:Nat):a*(b/sN a b)=((G4 a b:Nat):Int).natAbs:=by
 rw [sa,G4,Nat.mul_div_assoc _ (BS a b)]
theorem lcmX (k:Nat){x:Int}{y:Int}(g:GG h n)(b:IW h n sx ax lx cx x)(a:IW h n sy ay ly cy y)(hx:x.natAbs<BW)(hy:y.natAbs<BW):CX (cal (k+8)) 244 [.agg #[kz sx,jx ax lx cx],.agg #[kz sy,jx ay ly cy]] h n (IV ((G4 x.natAbs y.natAbs:Nat):Int)):=by
 refine zu (fn:=Tryz.f244) R4 ?_;refine zG ?_;refine sB [kz sx,jx ax lx cx] ?_;intro A U a1;refine sB [kz sy,jx ay ly cy] ?_;intro B V a2;refine sA ?_;intro C W a3;refine zG ?_;by_cases q14:(lx:Int)=0
 ·refine zG ?_;refine sT #[kz false,jx none 0 0] ?_;refine sS [kz false,jx none 0 0] ?_;intro D Y R;refine zq ?_;exact ⟨_,_,_,_,rfl,(IW.zero _ _).as (by have:=b.2.zero;have:=a.2.zero;rcases (show x.natAbs=0∨y.natAbs=0 by omega) with e|e<;>rw [e]<;>simp)⟩
 refine zG ?_;by_cases q16:(ly:Int)=0
 ·refine zG ?_;refine sT #[kz false,jx none 0 0] ?_;refine sS [kz false,jx none 0 0] ?_;intro F Z S;refine zq ?_;exact ⟨_,_,_,_,rfl,(IW.zero _ _).as (by have:=b.2.zero;have:=a.2.zero;rcases (show x.natAbs=0∨y.natAbs=0 by omega) with e|e<;>rw [e]<;>simp)⟩
 refine zG ?_;have f:y.natAbs≠0:=fun e=>q16 (by have:=a.2.zero;omega);refine zm [0,1,0,4,0,16,60,127,255,511,511,1023,4095] rfl ?_;refine zH ?_;refine dC (zp9 _ (g.t zt) (b.t zt).2 (a.t zt).2 zhh) ?_;rintro _ G N ⟨o,L,q,rfl,j⟩ a7 a4;refine dC (zql _ (a.t zt).2 j ⟨hy,Ae (Nat.gcd_le_right _ (Cw f)) hy⟩ (by have:=A5 x.natAbs (Cw f);omega)) ?_;rintro _ H O ⟨p,M,s,u,v,w,rfl,l,K⟩ a8 a5;refine zJ ?_;refine sC (zel _ (b.t zt).2 l ⟨hx,Ae (Bk _ _) hy⟩) ?_;rintro _ I P ⟨c,i,d,rfl,m⟩ a9 a6;refine sT #[kz false,jx c i d] ?_;refine sS [kz false,jx c i d] ?_;intro J a0 T;refine zq ?_;exact ⟨_,_,_,_,rfl,by rw [aD];exact FB.2 (Dx _),(m.t zt).as (zm8 _ _)⟩
end
def lcmD:List Rat→Nat→Nat
 |[],m=>m
 |q::l,m=>lcmD l (G4 m q.den)
theorem my:∀{l:List Rat} {q:Rat} {m:Nat},lcmD (l++[q]) m=G4 (lcmD l m) q.den:=by
 intro l;induction l with
 |nil=>intro q m;rfl
 |cons x l ih=>intro q m;exact ih
theorem ak:∀{l:List Rat} {m:Nat},(∀q∈l,q.den∣D)→m∣D→lcmD l m∣D:=by
 intro l;induction l with
 |nil=>intro m _ h;exact h
 |cons x l ih=>intro m b c;exact ih (fun q d=>b q (AV _ d)) (Nat.lcm_dvd c (b x (As ..)))
theorem ze1:∀{l:List Rat} {m:Nat},m∣lcmD l m:=by
 intro l;induction l with
 |nil=>intro m;exact Nat.dvd_refl m
 |cons x l ih=>intro m;exact GH (Nat.dvd_lcm_left _ _) ih
theorem zi3:∀{l:List Rat} {m:Nat} {q:Rat},q∈l→q.den∣lcmD l m:=by
 intro l;induction l with
 |nil=>intro m q h;cases h
 |cons x l ih=>
  intro m q h;rcases sP.1 h with rfl|h
  ·exact GH (Nat.dvd_lcm_right _ _) ze1
  exact ih h
theorem zi2 {l:List Rat}:∀{m:Nat},0<m→0<lcmD l m:=by
 induction l with
 |nil=>intro m h;exact h
 |cons x l ih=>intro m h;exact ih (Nat.lcm_pos h x.den_pos)
theorem sJ (q:Rat):q*(q.den:Rat)=(q.num:Rat):=by
 have h:=Rat.num_divInt_den q;have c:((q.den:Int):Rat)≠0:=fun e=>by have:=ub.1 e;have:=q.den_pos;omega
 rw [Bm,Bv] at h;rw [←Bc];have b:(q.num:Rat)*((q.den:Int):Rat)⁻¹ *((q.den:Int):Rat)=q.num:=by rw [AM,Rat.inv_mul_cancel _ c,DW]
 rw [h] at b;exact b
def nfZ (den:Nat)(x:Rat):Int:=x.num*(den:Int).tdiv (x.den:Int)
theorem zkz {b:Nat}{x:Rat}(h:x.den∣b):((nfZ b x:Int):Rat)=x*(b:Rat):=by
 obtain ⟨m,rfl⟩:=h;have c:=x.den_pos;unfold nfZ;rw [A6,Dh _ zo,A8,←sJ x,Cs,AM,Bc]
def FN (D B:Nat)(q:Rat):Prop:=∃z:Int,q*(D:Rat)=(z:Rat)∧z.natAbs≤B
theorem zmv {b:Nat}{x:Rat}(h:x.den∣b)(o:b∣D)(l:0<D)(f:FN D B x):(nfZ b x).natAbs≤B:=by
 obtain ⟨m,rfl⟩:=o;obtain ⟨z,q,c⟩:=f;have e:=zkz h;have d:(z:Rat)=((nfZ b x*(m:Int):Int):Rat):=by
  rw [A8,e,←q,Cs,AM,Bc]
 have g:=Rat.intCast_inj.1 d;have p:0<m:=Nat.pos_of_mul_pos_left l;rw [g,AX,sa] at c;exact Ap (Nat.le_mul_of_pos_right _ p) c
def gcF (f:Nat→Int):Nat→Nat
 |0=>0
 |j+1=>sN (gcF f j) (f j).natAbs
theorem zni {f:Nat→Int}:∀{m j:Nat},j<m→gcF f m∣(f j).natAbs:=by
 intro m;induction m with
 |zero=>intro j h;omega
 |succ m ih=>
  intro j h;rcases Ci j m with b|b
  ·exact GH (BB _ _) (ih b)
  rw [show j=m by omega];exact BS _ _
theorem zk7 {f:Nat→Int}(b:∀j,j<m→(f j).natAbs≤B):gcF f m≤B:=by
 induction m with
 |zero=>exact Du _
 |succ m ih=>
  have c:=ih fun j e=>b j zo;have d:=b m zo;show sN (gcF f m) (f m).natAbs≤B;by_cases h0:gcF f m=0
  ·rw [h0,Nat.gcd_zero_left];exact d
  exact Ap (Nat.gcd_le_left _ (Cw h0)) c
def ccF (f:Nat→Int)(m:Nat):Nat:=if gcF f m=0 then 1 else gcF f m
theorem mW {f:Nat→Int}:0<ccF f m:=by
 unfold ccF;split
 ·decide
 omega
theorem zn4 {f:Nat→Int}{j:Nat}(h:j<m):((ccF f m:Nat):Int)∣f j:=by
 unfold ccF;split
 ·exact HC _
 exact BZ.2 (zni h)
theorem zqx {f:Nat→Int}(b:1≤B)(c:∀j,j<m→(f j).natAbs≤B):ccF f m≤B:=by
 unfold ccF;split
 ·exact b
 exact zk7 c
def rowQ (N:Nat)(a:Nat→Nat→Rat)(i:Nat):List Rat:=(AC N).map (a i)
def deni (N:Nat)(a:Nat→Nat→Rat)(i:Nat):Nat:=lcmD (rowQ N a i) 1
def nfi (N:Nat)(a:Nat→Nat→Rat)(i j:Nat):Int:=nfZ (deni N a i) (a i j)
def cci (N:Nat)(a:Nat→Nat→Rat)(i:Nat):Nat:=ccF (nfi N a i) N
def tT (N:Nat)(a:Nat→Nat→Rat)(i j:Nat):Int:=(nfi N a i j).tdiv (cci N a i:Int)
def tS (N:Nat)(a:Nat→Nat→Rat)(i:Nat):Rat:=Av (deni N a i:Int) (cci N a i:Int)
section
variable {a:Nat→Nat→Rat}
theorem zmg (b:j<N):a i j∈rowQ N a i:=Ay.2 ⟨j,Cf.2 b,rfl⟩
theorem zjo:0<deni N a i:=zi2 zd
theorem zad (b:j<N):(a i j).den∣deni N a i:=zi3 (zmg b)
theorem zae (b:∀j,j<N→(a i j).den∣D):deni N a i∣D:=ak (fun q d=>by
 obtain ⟨j,c,rfl⟩:=Ay.1 d;exact b j (Cf.1 c)) (Nat.one_dvd _)
theorem du (h:0<m):((m:Int):Rat)≠0:=fun e=>by have:=ub.1 e;omega
theorem zox:tS N a i=(deni N a i:Int)/((cci N a i:Int):Rat):=by
 unfold tS;rw [Bm]
theorem ij:0<tS N a i:=by
 rw [zox,Bv];have b:(0:Rat)<((deni N a i:Int):Rat):=C2.2 (by have:=zjo (N:=N) (a:=a) (i:=i);omega);have c:(0:Rat)<((cci N a i:Int):Rat):=C2.2 (by have:=mW (f:=nfi N a i) (m:=N);unfold cci;omega);exact Gt b (Rat.inv_pos.2 c)
theorem zrh (d:j<N):((tT N a i j:Int):Rat)=tS N a i*a i j:=by
 have o:=zn4 (f:=nfi N a i) d;have l:((cci N a i:Int):Rat)≠0:=du (mW (f:=nfi N a i) (m:=N));obtain ⟨z,p⟩:=o;have c:nfi N a i j=(cci N a i:Int)*z:=p;have g:(cci N a i:Int)≠0:=by have:=mW (f:=nfi N a i) (m:=N);unfold cci;omega
 have e:=zkz (zad (N:=N) (a:=a) (i:=i) d);have b:((nfi N a i j:Int):Rat)=a i j*(deni N a i:Rat):=e;unfold tT;rw [c,Dh _ g];rw [c,A8] at b;rw [zox,Bv,AM,BO _ (a i j),←AM,BO _ (a i j),Bc (deni N a i),←b,BO _ (z:Rat),AM,CT _ l,DW]
theorem zc9:TabR N (tT N a) 1 (tS N a) a 0:=by
 intro i j _ _ _ b;rw [zrh b];show _=(1:Rat)*tS N a i*a i j;rw [Rat.one_mul]
theorem jn (d:∀j,j<N→(a i j).den∣D)(c:0<D)(f:∀j,j<N→FN D B (a i j))(b:j<N):(nfi N a i j).natAbs≤B:=zmv (zad b) (zae d) c (f j b)
theorem zow (c:∀j,j<N→(a i j).den∣D)(b:0<D)(f:∀j,j<N→FN D B (a i j))(d:j<N):(tT N a i j).natAbs≤B:=by
 unfold tT;rw [DG];exact Ap (Bk _ _) (jn c b f d)
theorem zgf (c:∀j,j<N→(a i j).den∣D)(b:0<D):deni N a i≤D:=Dd b (zae c)
theorem zlq (d:∀j,j<N→(a i j).den∣D)(c:0<D)(f:∀j,j<N→FN D B (a i j))(b:1≤B):cci N a i≤B:=zqx b fun j e=>jn d c f e
end
section
variable {n:Nat}{h:HF}
theorem ze0 {l:List Rat}(a:0<D)(b:D<BW)(c:∀q∈l,q.den∣D):((lcmD (l.take j) 1:Nat):Int).natAbs<BW:=by
 rw [sa];exact Ae (Dd a (ak (fun q d=>c q (AW d)) (Nat.one_dvd _))) b
theorem zag (b:0<D)(a:D<BW)(c:q.den∣D):(denZ q).natAbs<BW:=by
 have h:=Ae (Dd b c) a;unfold denZ;split
 ·exact Ae eU a
 rw [sa];exact h
theorem zex {l:List Rat}(g:l[j]?=some q)(h:denZ q=0):((lcmD (l.take j) 1:Nat):Int)=((lcmD (l.take (j+1)) 1:Nat):Int):=by
 rw [yZ g,my,yz.1 h,Nat.lcm_one_right]
theorem zey {l:List Rat}(g:l[j]?=some q)(h0:¬denZ q=0)(h:denZ q=((lcmD (l.take j) 1:Nat):Int)):((lcmD (l.take j) 1:Nat):Int)=((lcmD (l.take (j+1)) 1:Nat):Int):=by
 rw [wk h0] at h;have h:q.den=lcmD (l.take j) 1:=Int.ofNat.inj h;rw [yZ g,my,←h,Nat.lcm_self]
theorem zez {l:List Rat}(g:l[j]?=some q)(h0:¬denZ q=0):((G4 ((lcmD (l.take j) 1:Nat):Int).natAbs (denZ q).natAbs:Nat):Int)=((lcmD (l.take (j+1)) 1:Nat):Int):=by
 rw [wk h0,sa,sa,yZ g,my]
theorem zn0 (k:Nat)(g:GG h n){u M:Nat}{b:List Rat}(W:QS h n (jx aq u M) b)(v:0<D)(hb:D<BW)(hd:∀q∈b,q.den∣D)(hl:gP b<1000000):CX (cal (k+9)) 227 [jx aq u M] h n (IV ((lcmD b 1:Nat):Int)):=by
 have ap:=W.len;refine zu (fn:=Tryz.f227) R4 ?_;refine Zh ?_;intro ad b1 b6;refine zG ?_;refine sC (zef _ _ _) ?_;rintro _ ae e ⟨A,w,H,C,rfl,U⟩ bd b7;refine sA ?_;intro af b2 b8;refine sS [kz A,jx w H C] ?_;intro T a1 aw;refine zG ?_;refine sF (α:=Nat×Bool×Option Addr×Nat×Nat) (fun z=>[(2,kS (some ⟨3*n+2,0,none⟩)),(3,kS (some ⟨3*e+2,0,none⟩)),(7,jx aq u M),(8,jy .i64 (u:Int)),(9,jy .i64 (z.1:Int))]) (fun z N n' w'=>w'=[]∧e+1≤n'∧ExtB (e+1) [3*e+2] T N∧N (3*e+2)=some (.row [kz z.2.1,jx z.2.2.1 z.2.2.2.1 z.2.2.2.2] 137)∧IW N n' z.2.1 z.2.2.1 z.2.2.2.1 z.2.2.2.2 (((lcmD (b.take z.1) 1:Nat):Int))∧z.1≤gP b) (fun z=>gP b-z.1) (0,A,w,H,C) ⟨rfl,eT,ExtB.refl _ _ _,a1,((U.t zt).as (by rw [Bj];rfl)),eU⟩ ?_;rintro ⟨j,m,l,s,p⟩ t G a0 _ ⟨rfl,be,a9,f,a,hj⟩;have f:G (3*e+2)=some (.row [kz m,jx l s p] 137):=f;have a:IW G a0 m l s p (((lcmD (b.take j) 1:Nat):Int)):=a;have hj:j≤gP b:=hj;refine zG ?_;by_cases q16:(j:Int)<(u:Int)
 ·refine zG ?_;obtain ⟨ac,c⟩:∃d,(b)[j]?=some d:=⟨_,k4 zo⟩;obtain ⟨ao,ax,P,O,Y,R,a5,a6,a7,a8,S,Z,a3,a4,an,o⟩:=QS.at W c;refine sI S a3 ?_;refine sL a4 Z 0 ?_;refine sA ?_;intro ag b3 b9;refine sS [kz P,jx O Y R,kz a5,jx a6 a7 a8] ?_;intro ah b4 ay;refine zG ?_;refine sC (yU _ (o.x zx)) ?_;rintro _ ai ar ⟨aa,rfl,K⟩ bf ba;rcases bvs K with ⟨rfl,i⟩|⟨rfl,i⟩
  ·refine zG ?_;refine sC ((znl _ (o.x zx) (a.t zt) (zag v hb (hd _ (ns c))) (ze0 v hb hd)).cx) ?_;rintro _ aj au ⟨ab,rfl,L⟩ bg bb;rcases bvs L with ⟨rfl,J⟩|⟨rfl,J⟩
   ·refine zG ?_;refine sC (lcmX _ (g.x zx) (a.t zt) (o.x zx) (ze0 v hb hd) (zag v hb (hd _ (ns c)))) ?_;rintro _ ak av ⟨B,y,I,F,rfl,V⟩ bh bc;refine sS [kz B,jx y I F] ?_;intro al a2 az;refine zG ?_;exact sK (j+1,B,y,I,F) ⟨rfl,zo,zy,a2,((V.t zt).as (zez c i)),(by show j+1≤gP b;omega)⟩
   refine zG ?_;exact sK (j+1,m,l,s,p) ⟨rfl,zo,zy,zp,((a.t zt).as (zey c i J)),(by show j+1≤gP b;omega)⟩
  refine zG ?_;exact sK (j+1,m,l,s,p) ⟨rfl,zo,zy,zp,((a.t zt).as (zex c i)),(by show j+1≤gP b;omega)⟩
 refine zG ?_;refine sS [kz m,jx l s p] ?_;intro am b5 b0;refine zq ?_;exact ⟨_,_,_,_,rfl,(a.t zt).as (by rw [show j=gP b by omega,Ax])⟩
end
structure TapeI where
 m:Nat
 bt:Nat
 a:Option Addr
 len:Nat
 cap:Nat
 L:List Int
structure Tp (h:HF)(T:TapeI):Prop where
 bt:T.bt<3*T.m
 len:gP T.L=T.len
 le:T.len≤400
 ne:∀x,T.a=some x→x.block≠T.bt
 sl:Sl h T.m 1 (jx T.a T.len T.cap) (i64s T.L)
 row:∃(pos:Nat) (e:TypeId),h T.bt=some (.row [jx T.a T.len T.cap,jy .i64 (pos:Int)] e)∧pos≤T.len
theorem Tp.ext {T:TapeI}(t:Tp h T)(e:Ext n h h')(f:T.m≤n):Tp h' T:=by
 obtain ⟨a,g,c,d⟩:=t.row;exact ⟨t.bt,t.len,t.le,t.ne,t.sl.ext (e.mono f) eT,a,g,by rw [e _ (by have:=t.bt;omega)];exact c,d⟩
theorem Tp.upd {T:TapeI}{x:Option BF}(t:Tp h T)(a:3*T.m≤b):Tp (GL.upd h b x) T:=t.ext (n:=T.m) (Ext.upd a) eT
theorem za8 (v m:Int)(a:0<m):0≤(v.tmod m+m).tmod m∧(v.tmod m+m).tmod m<m∧ -m<v.tmod m∧v.tmod m<m:=by
 have c:=Int.lt_tmod_of_pos v a;have d:=GX v a;have e:=Int.tmod_nonneg m (show 0≤v.tmod m+m by omega);have f:=GX (v.tmod m+m) a;exact ⟨e,f,c,d⟩
theorem uY (k:Nat){T:TapeI}{m:Int}(G:0<m∧m<1000000000)(N:Tp h T)(K:T.m≤n):CF (cal (k+1)) 10 [kS (some ⟨T.bt,0,none⟩),jy .i64 m] h n fun v h' R w=>(∀b∈w,b=T.bt)∧R=n∧Tp h' T∧(∀b,b≠T.bt→h' b=h b)∧∃r,v=jy .i64 r∧0≤r∧r<m:=by
 obtain ⟨M,D,a,o,y,L⟩:=T;obtain ⟨q,B,g,i,j,f,e,d,s⟩:=N;simp only at q B g i j d s K ⊢;refine nk (fn:=Tryz.f10) rfl rfl rfl rfl ?_;refine Zb ?_;rw [tB rfl];repeat refine zR ?_
 refine zl R6 d (v:=jy .i64 (f:Int)) R2 ?_;repeat refine zR ?_
 refine zl R6 d (v:=jx a o y) R2 ?_;refine zM ?_;by_cases hp:f=o
 ·refine Zn ?_;exact ⟨rfl,_,zk rfl,fun b p=>cA p nN,rfl,⟨q,B,g,i,j,f,e,d,s⟩,fun _ _=>rfl,0,rfl,Int.le_refl _,G.1⟩
 obtain ⟨b,A,x,F,rfl,V,P,H,I,W,J⟩:=j.inv zo;obtain ⟨v,O⟩:∃v,L[f]?=some v:=⟨L[f]'zo,k4 zo⟩;have u:F[A+f]?=some (jy .i64 v):=wE J (by rw [i64s,sr,O];rfl);have C:b≠D:=i _ rfl;refine Zj ?_;rw [tB rfl];repeat refine zR ?_
 refine zl R6 d (v:=jx (some ⟨b,A,none⟩) o y) R2 ?_;repeat refine zR ?_
 refine zl R6 d (v:=jy .i64 (f:Int)) R2 ?_;refine wp R8 zo ?_;refine zl R6 P (v:=jy .i64 v) ⟨H,(by rw [←u];congr 1;omega)⟩ ?_;refine Zk ?_;refine zl R6 d (v:=jy .i64 (f:Int)) R2 ?_;repeat refine zR ?_
 refine iw (cs:=[jy .i64 ((f:Int)+1)]) rfl rfl rfl rfl rfl rfl rfl rfl d zb (by show D<3*n;omega) ?_;refine zN ?_;obtain ⟨S,U,Y,Z⟩:=za8 v m G.1;repeat refine zR ?_
 refine cN R6 zo ?_;repeat refine zR ?_
 refine cN R6 zo ?_;refine Za ?_;refine ⟨rfl,_,zk rfl,fun b p=>?_,rfl,⟨q,B,g,i,j.keep (fun a l c e=>?_) eT,f+1,e,zh _ _ _,by show f+1≤o;omega⟩,fun b p=>zj p,_,rfl,S,U⟩
 ·exact nP.1 p
 injection e with e1
 injection e1 with e1
 subst e1;exact zj C
theorem oK (k:Nat){T:TapeI}{K:Int}(L:0≤K∧K<1000000)(y:Tp h T)(M:T.m≤n):CF (cal (k+4)) 41 [kS (some ⟨T.bt,0,none⟩),jy .i64 K] h n fun v h' C w=>(∀b∈w,b=T.bt)∧n≤C∧Tp h' T∧ExtT n T.bt h h'∧∃d j i x,v=.agg #[d,j,kz false,jx none 0 0]∧RatR h' C d j (kz false) (jx none 0 0) ((x:Int):Rat) i []∧ -K≤x∧x≤K∧yj n j∧gP i≤2:=by
 have F:=y.bt;refine zu (fn:=Tryz.f41) R4 ?_;refine zN ?_;refine yd R5 ?_;refine Zm ?_;refine st_mul rfl rfl rfl rfl rfl rfl zo ?_;repeat refine zR ?_
 refine zB _ R5 (uY (k+2) zo (y.upd zo) zo) ?_;rintro _ J _ N ⟨B,rfl,A,l,r,rfl,H,I⟩;repeat refine zR ?_
 refine zB _ R5 (r_ok k _ _ (r-K) zo) ?_;rintro _ D j _ ⟨rfl,G,f,d,c,i,rfl,o,q,s⟩;have a:∃e,D (3*n+2)=some (.row [kz false,jx none 0 0,kz false,jx none 0 0] e):=⟨_,by rw [f _ zo,l _ zo,zh];rfl⟩;obtain ⟨e,a⟩:=a;have p:ones [d,c,kz false,jx none 0 0]=true:=by
  rw [o.num.neg];show ones (c::_)=true;rw [o.num.sl.ones];rfl
 refine zK [d,c,kz false,jx none 0 0] R7 p a rfl (by show 3*n≤_;omega) ?_;refine zN ?_;refine xu R5 (zh _ _ _) rfl ⟨?_,zo,(A.ext f zo).upd zo,fun b g u=>by rw [zj zo,f b zo,l b u,zj zo],d,c,i,r-K,rfl,o.old q trivial zo,zo,zo,q.mono zo,s⟩;exact yB (W:=[]) (fun b g=>cA g nN) (yB B (fun b g=>cA g nN))
section
variable {len:Nat}
def wn (K:Int)(s:List UInt8):Prop:=∃x:Int,-K≤x∧x≤K∧s=ratT (x:Rat)
theorem zpw (k:Nat){L:List Int}(hsp:∀ad,a=some ad→ad.spot=none)(g:Sl h n 1 (jx a len cap) (i64s L)):CF (cal (k+1)) 6 [jx a len cap] h n fun v d l w=>w=[]∧l=n+1∧Ext n h d∧v=kS (some ⟨3*n+2,0,none⟩)∧Tp d ⟨n+1,3*n+2,a,min len 400,cap,L.take 400⟩:=by
 have A:gP L=len:=by
  obtain ⟨y,s,o,e,q⟩:=g.len;injection e with e1 e2 e3
  simp [i64s] at q;omega
 refine zu (fn:=Tryz.f6) R4 ?_;have i:∀t:TF,t 2=kS (some ⟨3*n+2,0,none⟩)→∀e,RetH Tryz.f6 (fun v d l w=>w=[]∧l=n+1∧Ext n h d∧v=kS (some ⟨3*n+2,0,none⟩)∧Tp d ⟨n+1,3*n+2,a,min len 400,cap,L.take 400⟩) .ret ⟨t,upd h (3*n+2) (some (.row [jx a (min len 400) cap,jy .i64 0] e)),n+1,[]⟩:=fun t m e=>by
  refine retH _ ⟨rfl,(zk rfl),?_⟩ ⟨rfl,rfl,Ext.upd zo,m,by show 3*n+2<3*(n+1);omega,by show gP (L.take 400)=min len 400;simp;omega,by show min len 400≤400;omega,fun x j=>?_,?_,0,e,zh _ _ _,eU⟩
  ·show td [t 2]=false;rw [m];rfl
  ·have j:a=some x:=j;subst j;have:x.block<3*n:=g.below;show x.block≠3*n+2;omega
  show Sl _ (n+1) 1 (jx a (min len 400) cap) (i64s (L.take 400));have:=g.take (min len 400) zo;rw [show (i64s L).take (min len 400*1)=i64s (L.take 400) from by simp [i64s,List.map_take];omega] at this;exact this.ext (Ext.upd zo) zs
 refine Zv ?_;have f:(if (400:Int)<(len:Int) then 400 else (len:Int))=((min len 400:Nat):Int):=by
  split<;>omega
 have p:=g.cap;rcases (show a=none∨∃b c,a=some ⟨b,c,none⟩ from by
  cases a with
  |none=>exact .inl rfl
  |some ad=>obtain ⟨b,c,u⟩:=ad;obtain rfl:u=none:=hsp _ rfl;exact .inr ⟨b,c,rfl⟩) with rfl|⟨b,c,rfl⟩
 ·refine fD (min len 400) rfl rfl rfl rfl rfl rfl rfl rfl f zo ?_;refine zF (v:=.agg #[jx none (min len 400) cap,jy .i64 0]) R5 ?_;refine we (cs:=[jx none (min len 400) cap,jy .i64 0]) R5 ?_;refine Za ?_;exact i _ rfl _
 refine sk (min len 400) R8 f zo ?_;refine zF (v:=.agg #[jx (some ⟨b,c,none⟩) (min len 400) cap,jy .i64 0]) R5 ?_;refine we (cs:=[jx (some ⟨b,c,none⟩) (min len 400) cap,jy .i64 0]) R5 ?_;refine Za ?_;exact i _ rfl _
structure TLeft (T:TapeI)(h:HF)(n:Nat)(h':HF)(n':Nat)(w:List Nat):Prop where
 w:∀b∈w,b=T.bt
 le:n≤n'
 tp:Tp h' T
 ext:ExtT n T.bt h h'
theorem jQ (k:Nat){T:TapeI}(hN:N≤1000)(F:Tp h T)(hn:T.m≤n):CF (cal (k+5)) 40 [kS (some ⟨T.bt,0,none⟩),jy .i64 (N:Int)] h n fun v d f w=>TLeft T h n d f w∧∃S,gP S=N∧(∀s∈S,wn 2 s)∧Gro d n f 9 1 v N (strs S):=by
 have R:=F.bt;refine zu (fn:=Tryz.f40) R4 ?_;refine Zb ?_;refine Zl ?_;refine z9 (α:=Nat×Value×List (List UInt8)) (fun z=>[(0,kS (some ⟨T.bt,0,none⟩)),(1,jy .i64 (N:Int)),(5,z.2.1),(6,jy .i64 (z.1:Int))])
  (fun z d f w=>TLeft T h n d f w∧z.1≤N∧gP z.2.2=z.1∧(∀s∈z.2.2,wn 2 s)∧Gro d n f 9 1 z.2.1 z.1 (strs z.2.2)) (fun z=>N-z.1)
  (0,jx none 0 0,[]) ⟨rfl,rfl,rfl,rfl,eP⟩ ⟨⟨fun b g=>cA g nN,eT,F,ExtT.refl _ _ _⟩,eU,rfl,fun s c=>cA c nN,.nil⟩ (by show N-0<LL;unfold LL;omega) ?_
 rintro ⟨j,v5,S⟩ t Y n1 w1 ⟨⟨q,C,p,u⟩,M,L,e,i⟩;simp only at M L e i;obtain ⟨W,rfl,_⟩:=i.shape;refine zN ?_;by_cases hjN:j=N
 ·refine Zi ?_;refine retH _ ⟨rfl,(zk rfl),rfl⟩ ⟨⟨q,C,p,u⟩,S,zo,e,?_⟩;subst hjN;exact i
 refine Zr ?_;refine zB _ R5 (oK k (K:=2) zo p zo) ?_;rintro _ Z P w2 ⟨H,D,G,y,m1,m2,ln,x,rfl,O,I,B,hf,V⟩;refine yk _ R5 (nw k O (by simp;omega)) ?_;rintro _ rfl;refine vm (cs:=strs [ratT (x:Rat)]) R5 ?_;refine iE (m:=1) R8 zd ((i.extT y zo D).ext (Ext.upd zo) zs) (yH (zh _ _ _) R2) eT zo rfl rfl (by show n≤n∧_;omega) ?_;intro v3 h3 l A U;obtain ⟨J,rfl,_⟩:=l.shape;refine Zl ?_;refine goOn (j+1,jx J (j+1) (j+1),S++[ratT (x:Rat)]) (by show N-(j+1)<N-j;omega) ⟨rfl,rfl,rfl,by show jy .i64 _=jy .i64 _;congr 1,eP⟩ ⟨⟨?_,by show n≤P+1+1;omega,(G.upd zo).ext A zo,fun b g o=>?_⟩,by show j+1≤N;omega,by show gP (S++[_])=j+1;simp;omega,?_,?_⟩
 ·exact yB H q
 ·exact (A b g).trans ((zj zo).trans ((y b zo o).trans (u b g o)))
 ·intro s c;rcases Al.1 c with c|c
  ·exact e s c
  simp at c;subst c;exact ⟨x,I,B,rfl⟩
 show Gro _ _ _ _ _ _ (j+1) (strs (S++[_]));rw [fC];exact l
end
structure Ent where
 b:Int
 r:Int
 c:Int
 v:List UInt8
def entC (e:Ent):List Value:=[jy .i64 e.b,jy .i64 e.r,jy .i64 e.c,kF ⟨⟨e.v⟩⟩]
def ents (l:List Ent):List Value:=l.flatMap entC
theorem rU (a b:List Ent):ents (a++b)=ents a++ents b:=by simp [ents]
theorem xk (a:List Ent):gP (ents a)=gP a*4:=by
 induction a with
 |nil=>rfl
 |cons e a ih=>simp only [ents,List.flatMap_cons,nn,Au] at*;rw [ih];simp [entC];omega
def ltP (e:Ent)(b r c:Int):Prop:=e.b<b∨(e.b=b∧(e.r<r∨(e.r=r∧e.c<c)))
def ltE (e f:Ent):Prop:=ltP e f.b f.r f.c
structure EntOk (B:List Int)(e:Ent):Prop where
 b:0≤e.b∧e.b<gP B
 rc:0≤e.r∧e.r≤e.c
 c:∀d,B[e.b.toNat]?=some d→e.c<d
 v:∃x:Int,-2≤x∧x≤2∧x≠0∧e.v=ratT (x:Rat)
structure EOk (B:List Int)(E:List Ent)(b r c:Int):Prop where
 ok:∀e∈E,EntOk B e
 asc:E.Pairwise ltE
 lt:∀e∈E,ltP e b r c
theorem oZ {e:Ent}{b r c d f c':Int}(h:ltP e b r c)(h':b<d∨(b=d∧(r<f∨(r=f∧c≤c')))):ltP e d f c':=by
 unfold ltP at*
 omega
theorem EOk.mono {B:List Int}{E:List Ent}{b r c d f c':Int}(h:EOk B E b r c)(h':b<d∨(b=d∧(r<f∨(r=f∧c≤c')))):EOk B E d f c':=⟨h.ok,h.asc,fun e g=>oZ (h.lt e g) h'⟩
theorem EOk.snoc {B:List Int}{E:List Ent}{e:Ent}(h:EOk B E e.b e.r e.c)(g:EntOk B e):EOk B (E++[e]) e.b e.r (e.c+1):=by
 refine ⟨fun x d=>?_,?_,fun x d=>?_⟩
 ·rcases Al.1 d with d|d
  ·exact h.ok x d
  simp at d;subst d;exact g
 ·rw [List.pairwise_append];refine ⟨h.asc,gN,fun x d y f=>?_⟩;simp at f;subst f;exact h.lt x d
 rcases Al.1 d with d|d
 ·exact oZ (h.lt x d) (.inr ⟨rfl,.inr ⟨rfl,zo⟩⟩)
 simp at d;subst d;exact .inr ⟨rfl,.inr ⟨rfl,zo⟩⟩
theorem TLeft.refl {T:TapeI}(e:Tp h T):TLeft T h n h n []:=⟨fun b d=>cA d nN,eT,e,ExtT.refl _ _ _⟩
theorem kK (k:Nat){T:TapeI}{B:List Int}(hB:gP B≤4∧∀d∈B,0≤d∧d≤8)(ht:Tp h T)(hn:T.m≤n)(hs:Sl h n 1 (jx a (gP B) cap) (i64s B))(ad:∀x,a=some x→x.block≠T.bt):
  CF (cal (k+5)) 39 [kS (some ⟨T.bt,0,none⟩),jx a (gP B) cap] h n fun v h' n' w=>TLeft T h n h' n' w∧∃E,EOk B E (gP B) 0 0∧gP E≤256∧Gro h' n n' 76 4 v (gP E) (ents E):=by
 have ao:=ht.bt;refine zu (fn:=Tryz.f39) R4 ?_;refine Zb ?_;refine Zl ?_;refine z9 (α:=Nat×Value×List Ent) (fun z=>[(0,kS (some ⟨T.bt,0,none⟩)),(5,z.2.1),(11,jx a (gP B) cap),(12,jy .i64 (gP B:Int)),(13,jy .i64 (z.1:Int))])
  (fun z h' n' w=>TLeft T h n h' n' w∧z.1≤gP B∧EOk B z.2.2 z.1 0 0∧gP z.2.2≤64*z.1∧Gro h' n n' 76 4 z.2.1 (gP z.2.2) (ents z.2.2)) (fun z=>gP B-z.1)
  (0,jx none 0 0,[]) ⟨rfl,rfl,rfl,rfl,rfl,eP⟩ ⟨TLeft.refl ht,eU,⟨fun e O=>cA O nN,G7,fun e O=>cA O nN⟩,eT,.nil⟩ (by show gP B-0<LL;unfold LL;omega) ?_
 rintro ⟨j,v5,E⟩ t h1 n1 w1 ⟨f,hj,o,A,i⟩;simp only at hj o A i;obtain ⟨u,rfl,_⟩:=i.shape;refine zN ?_;by_cases hjB:j=gP B
 ·refine Zi ?_;exact retH _ ⟨rfl,(zk rfl),rfl⟩ ⟨f,E,hjB▸o,zo,i⟩
 obtain ⟨d,hd⟩:∃d,B[j]?=some d:=⟨B[j]'zo,k4 zo⟩;have ar:=hB.2 d (ns hd);obtain ⟨N,M,x,cs,rfl,ac,hx,hc,aq,av,O⟩:=hs.inv zo;have U:cs[M+j]?=some (jy .i64 d):=wE O (by rw [i64s,sr,hd];rfl);have al:h1 N=some x:=by rw [f.ext N ac (ad _ rfl)];exact hx
 obtain ⟨D,rfl⟩:∃D:Nat,d=(D:Int):=⟨d.toNat,zo⟩;refine Zr ?_;refine wp R8 zo ?_;refine zl R6 al (v:=jy .i64 (D:Int)) ⟨hc,(by rw [←U];congr 1;omega)⟩ ?_;refine Zl ?_;refine z9 (α:=Nat×Value×List Ent) (fun z=>[(0,kS (some ⟨T.bt,0,none⟩)),(5,z.2.1),(6,jy .i64 (j:Int)),(7,jy .i64 (D:Int)),(8,jy .i64 (z.1:Int)),(11,jx (some ⟨N,M,none⟩) (gP B) cap),(12,jy .i64 (gP B:Int)),(13,jy .i64 (j:Int))])
  (fun z h' n' w=>TLeft T h n h' n' w∧z.1≤D∧EOk B z.2.2 j z.1 0∧gP z.2.2≤64*j+8*z.1∧Gro h' n n' 76 4 z.2.1 (gP z.2.2) (ents z.2.2)) (fun z=>D-z.1)
  (0,jx u (gP E) (gP E),E) ⟨rfl,rfl,rfl,rfl,rfl,rfl,rfl,rfl,eP⟩ ⟨f,eU,o,by show gP E≤64*j+0;omega,i⟩ (by show D-0<LL;unfold LL;omega) ?_
 rintro ⟨r,v5,E⟩ t h1 n1 w1 ⟨f,hr,o,A,i⟩;simp only at hr o A i;obtain ⟨u,rfl,_⟩:=i.shape;refine zN ?_;by_cases hrD:r=D
 ·refine Zi ?_;exact goOn (j+1,jx u (gP E) (gP E),E) (by show gP B-(j+1)<gP B-j;omega) ⟨rfl,rfl,rfl,rfl,by show jy .i64 _=jy .i64 _;congr 1,eP⟩ ⟨f,by show j+1≤_;omega,o.mono (.inl (by show (j:Int)<((j+1:Nat):Int);omega)),by show gP E≤64*(j+1);omega,i⟩
 refine Zn ?_;refine z9 (α:=Nat×Value×List Ent) (fun z=>[(0,kS (some ⟨T.bt,0,none⟩)),(5,z.2.1),(6,jy .i64 (j:Int)),(7,jy .i64 (D:Int)),(8,jy .i64 (r:Int)),(9,jy .i64 (z.1:Int)),(11,jx (some ⟨N,M,none⟩) (gP B) cap),(12,jy .i64 (gP B:Int)),(13,jy .i64 (j:Int))])
  (fun z h' n' w=>TLeft T h n h' n' w∧r≤z.1∧z.1≤D∧EOk B z.2.2 j r z.1∧gP z.2.2≤64*j+8*r+(z.1-r)∧Gro h' n n' 76 4 z.2.1 (gP z.2.2) (ents z.2.2)) (fun z=>D-z.1)
  (r,jx u (gP E) (gP E),E) ⟨rfl,rfl,rfl,rfl,rfl,rfl,rfl,rfl,rfl,eP⟩ ⟨f,eT,hr,o.mono (.inr ⟨rfl,.inr ⟨rfl,zo⟩⟩),by show gP E≤64*j+8*r+(r-r);omega,i⟩ (by show D-r<LL;unfold LL;omega) ?_
 rintro ⟨c,v5,E⟩ t h1 n1 w1 ⟨f,ah,ae,o,A,i⟩;simp only at ah ae o A i;obtain ⟨u,rfl,_⟩:=i.shape;refine zN ?_;by_cases hcD:c=D
 ·refine Zi ?_;exact goOn (r+1,jx u (gP E) (gP E),E) (by show D-(r+1)<D-r;omega) ⟨rfl,rfl,rfl,rfl,by show jy .i64 _=jy .i64 _;congr 1,rfl,rfl,rfl,eP⟩ ⟨f,by show r+1≤_;omega,o.mono (.inr ⟨rfl,.inl (by show (r:Int)<((r+1:Nat):Int);omega)⟩),by show gP E≤64*j+8*(r+1);omega,i⟩
 have ap:c<D:=zo;refine Ze ?_;simp only [yN,xQ,zY,xJ];refine yu (α:=Value×List Ent) (fun z=>[(0,kS (some ⟨T.bt,0,none⟩)),(5,z.1),(6,jy .i64 (j:Int)),(7,jy .i64 (D:Int)),(8,jy .i64 (r:Int)),(9,jy .i64 (c:Int)),(11,jx (some ⟨N,M,none⟩) (gP B) cap),(12,jy .i64 (gP B:Int)),(13,jy .i64 (j:Int))])
  (fun z h' n' w=>TLeft T h n h' n' w∧EOk B z.2 j r (c+1:Nat)∧gP z.2≤gP E+1∧Gro h' n n' 76 4 z.1 (gP z.2) (ents z.2)) ?_ ?_
 ·refine Zf ?_;refine zB _ R5 (oK k (K:=2) zo f.tp (by have:=f.le;omega)) ?_;rintro _ h2 q w2 ⟨aj,af,ai,a4,I,F,ln,y,rfl,hq,am,an,hf,aw⟩;have ax:=f.le;refine yd R5 ?_;have aa:ones [I,F,kz false,jx none 0 0]=true:=by
   rw [hq.num.neg];show ones (F::_)=true;rw [hq.num.sl.ones];rfl
  refine zK [I,F,kz false,jx none 0 0] R7 aa (zh _ _ _) rfl (by show 3*n≤_;omega) ?_;rw [xq];refine zN ?_;generalize hh:upd h2 (3*q+2) _=h3;have L:Ext q h2 h3:=by rw [←hh];exact Ext.upd zo
  have p:∃e,h3 (3*q+2)=some (.row [I,F,kz false,jx none 0 0] e):=⟨_,by rw [←hh,zh]⟩;obtain ⟨e3,p⟩:=p;have s:=hq.ext L (ux q);have a1:=ai.ext L zo;have Y:=(i.extT a4 zo af).ext L (ux q);have H:∀b,b<3*n→b≠T.bt→h3 b=h b:=fun b G g=>(L b zo).trans ((a4 b zo g).trans (f.ext b G g));have a3:∀b∈addW (ctx (k+4) n (Tryz.f39).ntmps).n0 w2 w1,b=T.bt:=yB aj f.w;refine zV (v:=.agg #[I,F,kz false,jx none 0 0]) R5 (zT R2 p rfl zb rfl) ?_;refine yk _ R5 (bw (k+2) s) ?_;rintro _ rfl;rw [Rat.num_intCast];by_cases hy:y=0
  ·subst hy;refine Zj ?_;exact zO (jx u (gP E) (gP E),E) ⟨rfl,rfl,rfl,rfl,rfl,rfl,rfl,rfl,rfl,eP⟩ ⟨⟨a3,by show n≤q+1;omega,a1,H⟩,o.mono (.inr ⟨rfl,.inr ⟨rfl,zo⟩⟩),by show gP E≤gP E+1;omega,Y⟩
  have b0:¬y.sign=0:=fun e=>hy (Int.sign_eq_zero_iff_zero.1 e);repeat refine zR ?_
  refine zB _ R5 (uY (k+3) (m:=2) zo a1 zo) ?_;rintro _ h4 _ w4 ⟨ak,rfl,a2,C,rr,rfl,ay,az⟩;have Z:Gro h4 n (q+1) 76 4 (jx u (gP E) (gP E)) (gP E) (ents E):=Y.extT (fun b G g=>C b g) zo eT;have V:h4 (3*q+2)=some (.row [I,F,kz false,jx none 0 0] e3):=by rw [C _ zo];exact p
  have R:=yB (n0:=(ctx (k+4) n (Tryz.f39).ntmps).n0) ak a3;by_cases hrr:rr=0
  ·refine Zr ?_;refine zV (v:=.agg #[I,F,kz false,jx none 0 0]) R5 (zT R2 V rfl zb rfl) ?_;have ag:RatR h4 (q+1) I F (kz false) (jx none 0 0) ((y:Int):Rat) ln []:=by
    refine ⟨⟨s.num.neg,s.num.sl.keep (fun a l cc e=>C _ ?_) eT,s.num.norm,s.num.val⟩,rfl,.nil (.inl rfl),Norm.nil,s.val⟩;subst e;have hf:3*n1≤a.block:=hf;omega
   refine yk _ R5 (nw k ag (by simp;omega)) ?_;rintro _ rfl;refine zF (v:=.agg #[jy .i64 (j:Int),jy .i64 (r:Int),jy .i64 (c:Int),kF ⟨⟨ratT ((y:Int):Rat)⟩⟩]) R5 ?_;refine vm (cs:=ents [⟨j,r,c,ratT ((y:Int):Rat)⟩]) R5 ?_;refine iE (m:=1) R8 zd (Z.ext (Ext.upd zo) zs) (yH (zh _ _ _) R2) eT zo rfl rfl (by show n≤n∧_;omega) ?_;intro v6 h6 a0 a8 au;obtain ⟨a6,rfl,_⟩:=a0.shape;refine Za ?_;refine zO (jx a6 (gP E+1) (gP E+1),E++[⟨j,r,c,ratT ((y:Int):Rat)⟩]) ⟨rfl,rfl,rfl,rfl,rfl,rfl,rfl,rfl,rfl,eP⟩ ⟨⟨R,by show n≤q+1+1+1;omega,(a2.upd zo).ext a8 zo,fun b G g=>?_⟩,?_,by show gP (E++[_])≤gP E+1;simp,?_⟩
   ·exact (a8 b G).trans ((zj zo).trans ((C b g).trans (H b G g)))
   ·refine EOk.snoc (e:=⟨j,r,c,ratT ((y:Int):Rat)⟩) o ⟨by simp only;omega,by simp only;omega,fun d' J=>?_,y,am,an,hy,rfl⟩;simp only [AP] at J ⊢;rw [hd] at J;injection J with J
    omega
   show Gro _ _ _ _ _ _ (gP (E++[_])) (ents (E++[_]));rw [rU,nn];exact a0
  refine Zj ?_;exact zO (jx u (gP E) (gP E),E) ⟨rfl,rfl,rfl,rfl,rfl,rfl,rfl,rfl,rfl,eP⟩ ⟨⟨R,by show n≤q+1;omega,a2,fun b G g=>(C b g).trans (H b G g)⟩,o.mono (.inr ⟨rfl,.inr ⟨rfl,zo⟩⟩),by show gP E≤gP E+1;omega,Z⟩
 rintro ⟨v7,S⟩ t h7 n7 w7 ⟨ab,W,a9,P⟩;simp only at W a9 P;obtain ⟨a7,rfl,_⟩:=P.shape;refine Zb ?_;exact goOn (c+1,jx a7 (gP S) (gP S),S) (by show D-(c+1)<D-c;omega) ⟨rfl,rfl,rfl,rfl,rfl,by show jy .i64 _=jy .i64 _;congr 1,rfl,rfl,rfl,eP⟩ ⟨ab,by show r≤c+1;omega,by show c+1≤D;omega,W,by show gP S≤64*j+8*r+(c+1-r);omega,P⟩
structure Eqn where
 es:List Ent
 fr:List (List UInt8)
 rhs:List UInt8
structure Sdp where
 blocks:List Int
 free:Nat
 obj:List Ent
 objFree:List (List UInt8)
 eqs:List Eqn
inductive EqR (h:HF) (n:Nat):List Value→List Eqn→Prop
 |nil:EqR h n [] []
 |cons {ve vf:Value} {q:Eqn} {cs:List Value} {qs:List Eqn} (h1:Sl h n 4 ve (ents q.es)) (h2:Sl h n 1 vf (strs q.fr)) (h3:EqR h n cs qs):EqR h n (ve::vf:: kF ⟨⟨q.rhs⟩⟩::cs) (q::qs)
theorem EqR.mapS {b:List Eqn}(e:EqR h n cs b)(a:∀v∈cs,∀sz c,Sl h n sz v c→Sl h' n' sz v c):EqR h' n' cs b:=by
 induction e with
 |nil=>exact .nil
 |cons h1 h2 h3 ih=>exact .cons (a _ gN _ _ h1) (a _ gN _ _ h2) (ih fun v d=>a v (by simp [d]))
theorem EqR.ext {a:List Eqn}(e:EqR h n cs a)(c:Ext n h h')(b:n≤n'):EqR h' n' cs a:=e.mapS fun _ _ _ _ s=>s.ext c b
theorem EqR.belows {f:List Eqn}(e:EqR h n cs f):∀v∈cs,Pt (fun b=>b<3*n) v:=by
 induction e with
 |nil=>intro v d;cases d
 |cons h1 h2 h3 ih=>
  intro v d;simp only [sP] at d;rcases d with rfl|rfl|rfl|d
  ·exact Pt.of_below h1.below
  ·exact Pt.of_below h2.below
  ·exact fun a l c e=>by cases e
  exact ih v d
theorem EqR.len {a:List Eqn}(e:EqR h n cs a):gP cs=gP a*3:=by
 induction e with
 |nil=>rfl
 |cons h1 h2 h3 ih=>simp [ih];omega
structure SdpR (h:HF)(n:Nat)(vB vO vF vE:Value)(p:Sdp):Prop where
 blocks:Sl h n 1 vB (i64s p.blocks)
 obj:Sl h n 4 vO (ents p.obj)
 objFree:Sl h n 1 vF (strs p.objFree)
 eqs:∃ce,Sl h n 3 vE ce∧EqR h n ce p.eqs
structure SdpOk (F least:Nat)(p:Sdp):Prop where
 bl:1≤gP p.blocks∧gP p.blocks≤2
 b3:∀d∈p.blocks,1≤d∧d≤3
 free:p.free≤F
 obj:EOk p.blocks p.obj (gP p.blocks) 0 0
 objl:gP p.obj≤256
 ofl:gP p.objFree=p.free
 ofs:∀s∈p.objFree,wn 2 s
 eql:least≤gP p.eqs∧gP p.eqs≤4
 eqo:∀q∈p.eqs,EOk p.blocks q.es (gP p.blocks) 0 0∧gP q.es≤256∧gP q.fr=p.free∧(∀s∈q.fr,wn 2 s)∧wn 4 q.rhs
theorem gR (k:Nat)(h:HF)(n:Nat)(e f:Ent):VF (cal (k+1)) 113 [.agg (entC e).toArray,.agg (entC f).toArray] h n fun v=>∃b:Bool,v=kz b∧(b=true↔ltE e f):=by
 refine zI (fn:=Tryz.f113) R4 ?_;refine zN ?_;refine we (cs:=entC e) R5 ?_;refine we (cs:=entC f) R5 ?_;generalize hh:upd (upd h (3*n+2) _) (3*(n+1)+2) _=h1;have a:∃ty,h1 (3*n+2)=some (.row (entC e) ty):=⟨_,by rw [←hh,zj zo,zh]⟩;have d:∃ty,h1 (3*(n+1)+2)=some (.row (entC f) ty):=⟨_,by rw [←hh,zh]⟩;obtain ⟨g,a⟩:=a;obtain ⟨i,d⟩:=d;refine Zk ?_;refine zl R6 a (v:=jy .i64 e.b) R2 ?_;repeat refine zR ?_
 refine zl R6 d (v:=jy .i64 f.b) R2 ?_;by_cases hb:e.b=f.b
 ·refine Zw ?_;refine zl R6 a (v:=jy .i64 e.r) R2 ?_;repeat refine zR ?_
  refine zl R6 d (v:=jy .i64 f.r) R2 ?_;by_cases hr:e.r=f.r
  ·refine Zw ?_;refine zl R6 a (v:=jy .i64 e.c) R2 ?_;repeat refine zR ?_
   refine zl R6 d (v:=jy .i64 f.c) R2 ?_;refine qV R6 ?_;refine Za ?_;exact retF _ rfl (zk rfl) R2 ⟨_,rfl,by rw [decide_eq_true_eq];unfold ltE ltP;omega⟩
  refine Zr ?_;refine zl R6 a (v:=jy .i64 e.r) R2 ?_;repeat refine zR ?_
  refine zl R6 d (v:=jy .i64 f.r) R2 ?_;refine qV R6 ?_;refine Za ?_;exact retF _ rfl (zk rfl) R2 ⟨_,rfl,by rw [decide_eq_true_eq];unfold ltE ltP;omega⟩
 refine Zr ?_;refine zl R6 a (v:=jy .i64 e.b) R2 ?_;repeat refine zR ?_
 refine zl R6 d (v:=jy .i64 f.b) R2 ?_;refine qV R6 ?_;refine Za ?_;exact retF _ rfl (zk rfl) R2 ⟨_,rfl,by rw [decide_eq_true_eq];unfold ltE ltP;omega⟩
theorem zfu:∀{E:List Ent} {j:Nat} {e:Ent},E[j]?=some e→((ents E).drop (j*4)).take 4=entC e:=by
 intro E;induction E with
 |nil=>intro j e h;simp at h
 |cons x E ih=>
  intro j e h;cases j with
  |zero=>
   simp at h;subst h;rfl
  |succ j=>
   have:=ih (j:=j) (e:=e) (by simpa using h);rw [show (j+1)*4=gP (entC x)+j*4 from by simp [entC];omega];show ((entC x++ents E).drop _).take 4=_;rw [←Cz,CY rfl];exact this
theorem nB {cs a:List Value}{off m j k:Nat}(b:(cs.drop off).take m=a)(c:j+k≤m):(cs.drop (off+j)).take k=(a.drop j).take k:=by
 rw [←b,Fw,DP,Cz,Be zo]
end Go.Proofs.YtfajmfoofmienaaGreatDoor
