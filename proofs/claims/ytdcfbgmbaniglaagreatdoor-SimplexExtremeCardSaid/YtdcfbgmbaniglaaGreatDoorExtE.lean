import Derived.Test.YtdcfbgmbaniglaaGreatDoorExtD
set_option maxHeartbeats 8000000
set_option linter.unusedVariables false
set_option linter.unusedSimpArgs false
namespace Go.Proofs.YtdcfbgmbaniglaaGreatDoor
open Go Go.GL
section
variable {b cx cy fx fy gx gy lx ly m m' n:Nat}{q:Rat}{h:HF}{ax ay ex ey:Option Addr}{dx dy sx sy:Bool}
theorem wy {x y:Int}(h:x.natAbs<m):(x.tdiv y).natAbs<m:=by
 rw [Int.natAbs_tdiv]
 exact Nat.lt_of_le_of_lt (Nat.div_le_self _ _) h
theorem uV {x y:Int}{a:Nat}(hx:x.natAbs<2^a)(hy:y.natAbs<2^b):(x*y).natAbs<2^(a+b):=by
 rw [Int.natAbs_mul,Nat.pow_add]
 exact Nat.mul_lt_mul'' hx hy
theorem cG {x y:Int}{a:Nat}(hx:x.natAbs<2^a)(hy:y.natAbs<2^b)(h:a+b≤2496):(x*y).natAbs<BW:=wg (uV hx hy) h
theorem jw {x y:Int}(hx:x.natAbs<2^m)(hy:y.natAbs<2^m):(x+y).natAbs<2^(m+1):=by
 rw [Nat.pow_succ]
 omega
theorem dz {x y u v:Int}{a:Nat}(hx:x.natAbs<2^a)(hy:y.natAbs<2^b)(hu:u.natAbs<2^b)(hv:v.natAbs<2^a)(h:a+b+1≤2496):(x*y+u*v).natAbs<BW:=
 wg (jw (uV hx hy) (by rw [Nat.add_comm a b];exact uV hu hv)) h
theorem zev {x y u:Int}{a:Nat}(hx:x.natAbs<2^a)(hy:y.natAbs<2^b)(hu:u.natAbs<2^b)(h:a+b+1≤2496):(x*y+u).natAbs<BW:=
 wg (jw (uV hx hy) (Nat.lt_of_lt_of_le hu (Nat.pow_le_pow_right zd zo))) h
theorem zd4 {x y:Int}(hx:x.natAbs<m)(h0:¬x=0):((Nat.gcd x.natAbs y.natAbs:Nat):Int).natAbs<m:=by
 rw [Int.natAbs_natCast]
 exact Nat.lt_of_le_of_lt (Nat.gcd_le_left _ zo) hx
theorem kM {x y:Int}(hy:y.natAbs<m)(h0:¬y=0):((Nat.gcd x.natAbs y.natAbs:Nat):Int).natAbs<m:=by
 rw [Int.natAbs_natCast]
 exact Nat.lt_of_le_of_lt (Nat.gcd_le_right _ zo) hy
theorem zh0 {x y:Int}(h:¬x=0):((Nat.gcd x.natAbs y.natAbs:Nat):Int)≠0:=by
 have:=Nat.gcd_pos_of_pos_left (n:=y.natAbs) (m:=x.natAbs) zo
 omega
theorem kK {x y:Int}(h:¬y=0):((Nat.gcd x.natAbs y.natAbs:Nat):Int)≠0:=by
 have:=Nat.gcd_pos_of_pos_right (m:=x.natAbs) (n:=y.natAbs) zo
 omega
theorem zhr:(1:Int).natAbs<BW:=wg (e:=1) zd zd
theorem szB {x:Int}(h:x.natAbs<BW:=by first|assumption|exact wy ‹_› |exact cG ‹_› ‹_› zo|exact cG ‹_› (wy ‹_›) zo|exact cG (wy ‹_›) (wy ‹_›) zo|exact dz ‹_› (wy ‹_›) ‹_› (wy ‹_›) zo|exact dz ‹_› ‹_› ‹_› ‹_› zo|exact zev ‹_› ‹_› ‹_› zo|exact zd4 ‹_› ‹_› |exact zd4 (dz ‹_› (wy ‹_›) ‹_› (wy ‹_›) zo) ‹_› |exact kM ‹_› ‹_› |exact zhr):x.natAbs<BW:=h
theorem szN {x:Int}(h:x≠0:=by first|assumption|exact zh0 ‹_› |exact kK ‹_› |omega):x≠0:=h
def Sz (m:Nat)(q:Rat):Prop:=q.num.natAbs<2^m∧q.den<2^m
theorem Sz.z (h:Sz m q):(denZ q).natAbs<2^m:=by
 unfold denZ
 split
 ·exact Nat.two_pow_pos m
 rw [Int.natAbs_natCast];exact h.2
theorem Sz.mono (h:Sz m q)(hm:m≤m'):Sz m' q:=⟨Nat.lt_of_lt_of_le h.1 (Nat.pow_le_pow_right zd hm),Nat.lt_of_lt_of_le h.2 (Nat.pow_le_pow_right zd hm)⟩
theorem qG {x:Int}{g:Nat}(h:x.natAbs<m):(x/(g:Int)).natAbs<m:=by
 refine Nat.lt_of_le_of_lt ?_ h
 exact Int.natAbs_ediv_le_natAbs _ _
theorem Sz.add {a:Nat}{x y:Rat}(hx:Sz a x)(hy:Sz b y):Sz (a+b+1) (x+y):=by
 refine ⟨?_,?_⟩
 ·rw [vz]
  refine qG (jw (uV hx.1 (by rw [Int.natAbs_natCast];exact hy.2)) ?_)
  rw [Nat.add_comm a b]
  exact uV hy.1 (by rw [Int.natAbs_natCast];exact hx.2)
 rw [vA]
 refine Nat.lt_of_le_of_lt (Nat.div_le_self _ _) (Nat.lt_of_lt_of_le (Nat.mul_lt_mul'' hx.2 hy.2) ?_)
 rw [←Nat.pow_add]
 exact Nat.pow_le_pow_right zd zo
theorem Sz.mul {a:Nat}{x y:Rat}(hx:Sz a x)(hy:Sz b y):Sz (a+b) (x*y):=by
 refine ⟨?_,?_⟩
 ·rw [uT]
  exact qG (uV hx.1 hy.1)
 rw [uU]
 refine Nat.lt_of_le_of_lt (Nat.div_le_self _ _) ?_
 rw [Nat.pow_add]
 exact Nat.mul_lt_mul'' hx.2 hy.2
theorem Sz.neg {a:Nat}{x:Rat}(hx:Sz a x):Sz a (-x):=⟨by rw [Rat.neg_num,Int.natAbs_neg];exact hx.1,by rw [Rat.neg_den];exact hx.2⟩
theorem Sz.zero (a:Nat)(h:1≤a):Sz a 0:=⟨Nat.two_pow_pos a,Nat.lt_of_lt_of_le (by decide:(1:Nat)<2^1) (Nat.pow_le_pow_right zd h)⟩
def QV (q:Rat)(v:Value)(h:HF)(n:Nat):Prop:=∃b a l c d e f g,v=.agg #[.bool b,.slice a l c,.bool d,.slice e f g]∧IW h n b a l c q.num∧IW h n d e f g (denZ q)
theorem QV.zero (h:HF)(n:Nat):QV 0 (.agg #[.bool false,.slice none 0 0,.bool false,.slice none 0 0]) h n:=⟨_,_,_,_,_,_,_,_,rfl,IW.zero h n,IW.zero h n⟩
theorem tQ (k:Nat){bx:Bool}{x:Int}{b_y:Bool}{y:Int}(ix:IW h n bx ax lx cx x)(iy:IW h n b_y ay ly cy y)(hx:x.natAbs<BW)(hy:y.natAbs<BW):CX (cal (k+4)) 122 [.agg #[.bool bx,.slice ax lx cx],.agg #[.bool b_y,.slice ay ly cy]] h n fun v _ _=>∃s:Int,v=.int .i64 s∧(s= -1∧x<y∨s=0∧x=y∨s=1∧y<x):=(aG k ix iy hx hy).cx
theorem zh5 (k:Nat)(h:HF)(n:Nat):CX (cal (k+1)) 91 [.int .u64 1] h n (WV 1):=zh4 k h n (w:=1) zd
theorem zbs (k:Nat)(h:HF)(n:Nat):CX (cal (k+2)) 56 [.int .i64 1] h n (IV 1):=by
 refine zv (fn:=Tryz.f56) R4 ?_
 refine zG ?_
 refine sA ?_
 intro h11 p11 x11
 refine zG ?_
 refine wf R6 (ik:=.u64) (a:=1) rfl ?_
 refine sC (zh5 _ _ _) ?_
 rintro _ h12 n12 ⟨a12,l12,c12,rfl,i12⟩ y12 x12
 refine sT #[.bool false,.slice a12 l12 c12] ?_
 refine sS [.bool false,.slice a12 l12 c12] ?_
 intro h13 p13 o13
 refine zq ?_
 exact ⟨_,_,_,_,rfl,rfl,(i12.t zt)⟩
theorem zb2 (k:Nat){x:Rat}(ix:IW h n sx ax lx cx x.num)(jx:IW h n dx ex fx gx (denZ x)):VF (cal (k+2)) 72 [.agg #[.bool sx,.slice ax lx cx,.bool dx,.slice ex fx gx]] h n fun v=>∃b:Bool,v=.bool b∧(b=true↔x=0):=by
 refine zB (fn:=Tryz.f72) R4 ?_
 refine zG ?_
 refine sB [.bool sx,.slice ax lx cx,.bool dx,.slice ex fx gx] ?_
 intro h11 p11 x11
 refine zG ?_
 refine sC (yJ _ (ix.t zt)) ?_
 rintro _ h12 n12 ⟨b12,rfl,bq12⟩ y12 x12
 rcases bvs bq12 with ⟨rfl,q12⟩|⟨rfl,q12⟩
 ·refine zf ?_
  exact zno fun hq=>absurd (Rat.num_eq_zero.2 hq) q12
 refine zf ?_
 exact zye (Rat.num_eq_zero.1 q12)
theorem zg8 (k:Nat){x:Rat}(ix:IW h n sx ax lx cx x.num)(jx:IW h n dx ex fx gx (denZ x)):VF (cal (k+2)) 61 [.agg #[.bool sx,.slice ax lx cx,.bool dx,.slice ex fx gx]] h n fun v=>∃s:Int,v=.int .i64 s∧(s= -1∧x.num<0∨s=0∧x.num=0∨s=1∧0<x.num):=by
 refine zB (fn:=Tryz.f61) R4 ?_
 refine zG ?_
 refine sB [.bool sx,.slice ax lx cx,.bool dx,.slice ex fx gx] ?_
 intro h11 p11 x11
 refine zG ?_
 refine sC (za8 _ (ix.t zt)) ?_
 rintro _ h12 n12 ⟨s12,rfl,q12⟩ y12 x12
 rcases q12 with ⟨rfl,q12⟩|⟨rfl,q12⟩|⟨rfl,q12⟩
 ·refine zf ?_
  exact ⟨_,rfl,zo⟩
 ·refine zf ?_
  exact ⟨_,rfl,zo⟩
 refine zf ?_
 exact ⟨_,rfl,zo⟩
theorem kG (k:Nat){x:Rat}(ix:IW h n sx ax lx cx x.num)(jx:IW h n dx ex fx gx (denZ x)):CX (cal (k+2)) 72 [.agg #[.bool sx,.slice ax lx cx,.bool dx,.slice ex fx gx]] h n (BV (x=0)):=(zb2 k ix jx).cx
theorem za9 (k:Nat){x:Rat}(ix:IW h n sx ax lx cx x.num)(jx:IW h n dx ex fx gx (denZ x)):CX (cal (k+2)) 61 [.agg #[.bool sx,.slice ax lx cx,.bool dx,.slice ex fx gx]] h n (SV3 x.num):=(zg8 k ix jx).cx
theorem denQ (k:Nat){x:Rat}(ix:IW h n sx ax lx cx x.num)(jx:IW h n dx ex fx gx (denZ x)):CX (cal (k+3)) 53 [.agg #[.bool sx,.slice ax lx cx,.bool dx,.slice ex fx gx]] h n (IV (x.den:Int)):=by
 refine zv (fn:=Tryz.f53) R4 ?_
 refine zG ?_
 refine sB [.bool sx,.slice ax lx cx,.bool dx,.slice ex fx gx] ?_
 intro h11 p11 x11
 refine sA ?_
 intro h12 p12 x12
 refine zG ?_
 refine sC (yJ _ (jx.t zt)) ?_
 rintro _ h13 n13 ⟨b13,rfl,bq13⟩ y13 x13
 rcases bvs bq13 with ⟨rfl,q13⟩|⟨rfl,q13⟩
 ·refine zG ?_
  refine sS [.bool dx,.slice ex fx gx] ?_
  intro h14 p14 o14
  refine zq ?_
  exact ⟨_,_,_,_,rfl,(jx.t zt).as (xO q13)⟩
 refine zG ?_
 refine sC (zbs _ _ _) ?_
 rintro _ h15 n15 ⟨b15,a15,l15,c15,rfl,i15⟩ y15 x15
 refine sS [.bool b15,.slice a15 l15 c15] ?_
 intro h16 p16 o16
 refine zq ?_
 exact ⟨_,_,_,_,rfl,(i15.t zt).as (by rw [yf.1 q13];rfl)⟩
theorem wR (k:Nat){x:Int}{y:Int}(ix:IW h n sx ax lx cx x)(iy:IW h n sy ay ly cy y)(hN:q.num=x)(hD:(q.den:Int)=y):CX (cal (k+2)) 44 [.agg #[.bool sx,.slice ax lx cx],.agg #[.bool sy,.slice ay ly cy]] h n (QV q):=by
 refine zv (fn:=Tryz.f44) R4 ?_
 refine zG ?_
 refine sB [.bool sx,.slice ax lx cx] ?_
 intro h11 p11 x11
 refine sB [.bool sy,.slice ay ly cy] ?_
 intro h12 p12 x12
 refine sA ?_
 intro h13 p13 x13
 refine zG ?_
 refine sC (uK _ (iy.t zt)) ?_
 rintro _ h14 n14 ⟨b14,rfl,bq14⟩ y14 x14
 rcases bvs bq14 with ⟨rfl,q14⟩|⟨rfl,q14⟩
 ·refine zG ?_
  refine sT #[.bool sx,.slice ax lx cx,.bool sy,.slice ay ly cy] ?_
  refine sS [.bool sx,.slice ax lx cx,.bool sy,.slice ay ly cy] ?_
  intro h15 p15 o15
  refine zq ?_
  exact ⟨_,_,_,_,_,_,_,_,rfl,(ix.t zt).as (hN.symm),(iy.t zt).as (((xO (mt yf.1 (by have:=hD;omega))).trans hD).symm)⟩
 refine zG ?_
 refine sT #[.bool sx,.slice ax lx cx,.bool false,.slice none 0 0] ?_
 refine sS [.bool sx,.slice ax lx cx,.bool false,.slice none 0 0] ?_
 intro h16 p16 o16
 refine zq ?_
 exact ⟨_,_,_,_,_,_,_,_,rfl,(ix.t zt).as (hN.symm),(IW.zero _ _).as ((yf.2 (by have:=hD;omega)).symm)⟩
theorem oY (k:Nat){x:Int}{y:Int}(g:GG h n)(ix:IW h n sx ax lx cx x)(iy:IW h n sy ay ly cy y)(hx:x.natAbs<BW)(hy:y.natAbs<BW)(hy0:¬y=0):CX (cal (k+9)) 52 [.agg #[.bool sx,.slice ax lx cx],.agg #[.bool sy,.slice ay ly cy]] h n fun v h' n'=>∃b a l c g d e f,v=.tuple #[.agg #[.bool b,.slice a l c],.agg #[.bool g,.slice d e f]]∧IW h' n' b a l c (x.tdiv ((Nat.gcd x.natAbs y.natAbs:Nat):Int))∧IW h' n' g d e f (y.tdiv ((Nat.gcd x.natAbs y.natAbs:Nat):Int)):=by
 refine zv (fn:=Tryz.f52) R4 ?_
 refine zG ?_
 refine sB [.bool sx,.slice ax lx cx] ?_
 intro h11 p11 x11
 refine sB [.bool sy,.slice ay ly cy] ?_
 intro h12 p12 x12
 refine sA ?_
 intro h13 p13 x13
 refine sA ?_
 intro h14 p14 x14
 refine zG ?_
 refine sC (uK _ (iy.t zt)) ?_
 rintro _ h15 n15 ⟨b15,rfl,bq15⟩ y15 x15
 rcases bvs bq15 with ⟨rfl,q15⟩|⟨rfl,q15⟩
 ·refine zG ?_
  refine sC (gcdX _ (g.t zt) (ix.t zt) (iy.t zt) szB szB) ?_
  rintro _ h16 n16 ⟨b16,a16,l16,c16,rfl,i16⟩ y16 x16
  refine sA ?_
  intro h17 p17 x17
  refine sS [.bool b16,.slice a16 l16 c16] ?_
  intro h18 p18 o18
  refine zG ?_
  refine zu [0,0,3,0,0,31,63,127] rfl ?_
  refine zH ?_
  refine dC (quoX _ (ix.t zt) (i16.t zt) szB szB szN) ?_
  rintro _ h19 n19 ⟨b19,a19,l19,c19,rfl,i19⟩ y19 x19
  refine zH ?_
  refine dC (quoX _ (iy.t zt) (i16.t zt) szB szB szN) ?_
  rintro _ h20 n20 ⟨b20,a20,l20,c20,rfl,i20⟩ y20 x20
  refine dS [.bool b19,.slice a19 l19 c19] ?_
  intro h21 p21 o21
  refine dS [.bool b20,.slice a20 l20 c20] ?_
  intro h22 p22 o22
  refine zq ?_
  exact ⟨_,_,_,_,_,_,_,_,rfl,(i19.t zt),(i20.t zt)⟩
 refine zG ?_
 refine zu [0,0,1,7] rfl ?_
 refine zH ?_
 refine dS [.bool sx,.slice ax lx cx] ?_
 intro h23 p23 o23
 refine dS [.bool sy,.slice ay ly cy] ?_
 intro h24 p24 o24
 refine zq ?_
 exact ⟨_,_,_,_,_,_,_,_,rfl,(ix.t zt).as (by rw [q15];simp),(iy.t zt).as (by rw [q15];simp)⟩
theorem zam {x y:Rat}(hx:¬denZ x=0)(hy:¬denZ y=0)(h:x.num*((denZ y).tdiv ((Nat.gcd (denZ x).natAbs (denZ y).natAbs:Nat):Int))+y.num*((denZ x).tdiv ((Nat.gcd (denZ x).natAbs (denZ y).natAbs:Nat):Int))=0):x+y=0:=by
 obtain ⟨d,l,r,N,s,a,e1,e2,e3,e4,e5⟩:=AddS.mk' hx hy
 rw [e4] at h
 rw [←Rat.num_eq_zero,a.res.1,h,Int.zero_tdiv]
theorem ng {x y:Rat}(hx:¬denZ x=0)(hy:¬denZ y=0):(x+y).num=(x.num*((denZ y).tdiv ((Nat.gcd (denZ x).natAbs (denZ y).natAbs:Nat):Int))+y.num*((denZ x).tdiv ((Nat.gcd (denZ x).natAbs (denZ y).natAbs:Nat):Int))).tdiv ((Nat.gcd (x.num*((denZ y).tdiv ((Nat.gcd (denZ x).natAbs (denZ y).natAbs:Nat):Int))+y.num*((denZ x).tdiv ((Nat.gcd (denZ x).natAbs (denZ y).natAbs:Nat):Int))).natAbs (((Nat.gcd (denZ x).natAbs (denZ y).natAbs:Nat):Int)).natAbs:Nat):Int)∧((x+y).den:Int)=((denZ x).tdiv ((Nat.gcd (denZ x).natAbs (denZ y).natAbs:Nat):Int))*((denZ y).tdiv ((Nat.gcd (x.num*((denZ y).tdiv ((Nat.gcd (denZ x).natAbs (denZ y).natAbs:Nat):Int))+y.num*((denZ x).tdiv ((Nat.gcd (denZ x).natAbs (denZ y).natAbs:Nat):Int))).natAbs (((Nat.gcd (denZ x).natAbs (denZ y).natAbs:Nat):Int)).natAbs:Nat):Int)):=by
 obtain ⟨d,l,r,N,s,a,e1,e2,e3,e4,e5⟩:=AddS.mk' hx hy
 rw [e4,e5 N rfl,e3]
 refine ⟨a.res.1,?_⟩
 rw [a.res.2,Int.natCast_mul,xO hy,pU]
theorem gP {x y:Rat}(hx:¬denZ x=0)(hy:¬denZ y=0)(h:((Nat.gcd (denZ x).natAbs (denZ y).natAbs:Nat):Int)=1):(x+y).num=x.num*((denZ y).tdiv ((Nat.gcd (denZ x).natAbs (denZ y).natAbs:Nat):Int))+y.num*((denZ x).tdiv ((Nat.gcd (denZ x).natAbs (denZ y).natAbs:Nat):Int))∧((x+y).den:Int)=denZ x*denZ y:=by
 have h4:=ng hx hy
 rw [h] at h4 ⊢
 have e:(1:Int).natAbs=1:=rfl
 rw [e,Nat.gcd_one_right,show ((1:Nat):Int)=1 from rfl,Int.tdiv_one,Int.tdiv_one,Int.tdiv_one] at h4
 rw [Int.tdiv_one,Int.tdiv_one]
 exact h4
theorem addQ (k:Nat){x:Rat}{y:Rat}(g:GG h n)(ix:IW h n sx ax lx cx x.num)(jx:IW h n dx ex fx gx (denZ x))(iy:IW h n sy ay ly cy y.num)(jy:IW h n dy ey fy gy (denZ y)){a:Nat}(hx:Sz a x)(hy:Sz b y)(hab:a+b+1≤2496):CX (cal (k+9)) 16 [.agg #[.bool sx,.slice ax lx cx,.bool dx,.slice ex fx gx],.agg #[.bool sy,.slice ay ly cy,.bool dy,.slice ey fy gy]] h n (QV (x+y)):=by
 obtain ⟨hxn,hxd⟩:x.num.natAbs<2^a∧(denZ x).natAbs<2^a:=⟨hx.1,hx.z⟩
 obtain ⟨hyn,hyd⟩:y.num.natAbs<2^b∧(denZ y).natAbs<2^b:=⟨hy.1,hy.z⟩
 have hxn1:=wg hxn zo
 have hxd1:=wg hxd zo
 have hyn1:=wg hyn zo
 have hyd1:=wg hyd zo
 refine zv (fn:=Tryz.f16) R4 ?_
 refine zG ?_
 refine sB [.bool sx,.slice ax lx cx,.bool dx,.slice ex fx gx] ?_
 intro h11 p11 x11
 refine sB [.bool sy,.slice ay ly cy,.bool dy,.slice ey fy gy] ?_
 intro h12 p12 x12
 refine sA ?_
 intro h13 p13 x13
 refine zG ?_
 refine sC (yJ _ (jx.t zt)) ?_
 rintro _ h14 n14 ⟨b14,rfl,bq14⟩ y14 x14
 rcases bvs bq14 with ⟨rfl,q14⟩|⟨rfl,q14⟩
 ·refine zG ?_
  refine sC (yJ _ (jx.t zt)) ?_
  rintro _ h15 n15 ⟨b15,rfl,bq15⟩ y15 x15
  rcases bvs bq15 with ⟨rfl,q15⟩|⟨rfl,q15⟩
  ·refine zG ?_
   refine sC (yJ _ (jy.t zt)) ?_
   rintro _ h16 n16 ⟨b16,rfl,bq16⟩ y16 x16
   rcases bvs bq16 with ⟨rfl,q16⟩|⟨rfl,q16⟩
   ·refine zG ?_
    refine sC (gcdX _ (g.t zt) (jx.t zt) (jy.t zt) szB szB) ?_
    rintro _ h17 n17 ⟨b17,a17,l17,c17,rfl,i17⟩ y17 x17
    refine sA ?_
    intro h18 p18 x18
    refine sS [.bool b17,.slice a17 l17 c17] ?_
    intro h19 p19 o19
    refine zG ?_
    refine zu [0,1,0,7,0,16,0,127,0,0,1023,2047] rfl ?_
    refine zH ?_
    refine dC (quoX _ (jy.t zt) (i17.t zt) szB szB szN) ?_
    rintro _ h20 n20 ⟨b20,a20,l20,c20,rfl,i20⟩ y20 x20
    refine zH ?_
    refine dC (quoX _ (jx.t zt) (i17.t zt) szB szB szN) ?_
    rintro _ h21 n21 ⟨b21,a21,l21,c21,rfl,i21⟩ y21 x21
    refine dB [.bool false,.slice none 0 0] ?_
    intro h22 p22 x22
    refine dB [.bool false,.slice none 0 0] ?_
    intro h23 p23 x23
    refine dS [.bool b20,.slice a20 l20 c20] ?_
    intro h24 p24 o24
    refine dS [.bool b21,.slice a21 l21 c21] ?_
    intro h25 p25 o25
    refine zG ?_
    refine zu [0,1,0,7,0,16,0,127,255,0,1023] rfl ?_
    refine zH ?_
    refine dC (mulX _ (ix.t zt) (i20.t zt) szB szB) ?_
    rintro _ h26 n26 ⟨b26,a26,l26,c26,rfl,i26⟩ y26 x26
    refine zH ?_
    refine dC (mulX _ (iy.t zt) (i21.t zt) szB szB) ?_
    rintro _ h27 n27 ⟨b27,a27,l27,c27,rfl,i27⟩ y27 x27
    refine dC (addX _ (i26.t zt) i27 szB szB) ?_
    rintro _ h28 n28 ⟨b28,a28,l28,c28,rfl,i28⟩ y28 x28
    refine dB [.bool false,.slice none 0 0] ?_
    intro h29 p29 x29
    refine dS [.bool b28,.slice a28 l28 c28] ?_
    intro h30 p30 o30
    refine zG ?_
    refine sC (yJ _ (i28.t zt)) ?_
    rintro _ h31 n31 ⟨b31,rfl,bq31⟩ y31 x31
    rcases bvs bq31 with ⟨rfl,q31⟩|⟨rfl,q31⟩
    ·refine zG ?_
     refine sC (uK _ (i17.t zt)) ?_
     rintro _ h32 n32 ⟨b32,rfl,bq32⟩ y32 x32
     rcases bvs bq32 with ⟨rfl,q32⟩|⟨rfl,q32⟩
     ·refine zG ?_
      refine sC (gcdX _ (g.t zt) (i28.t zt) (i17.t zt) szB szB) ?_
      rintro _ h33 n33 ⟨b33,a33,l33,c33,rfl,i33⟩ y33 x33
      refine sA ?_
      intro h34 p34 x34
      refine sS [.bool b33,.slice a33 l33 c33] ?_
      intro h35 p35 o35
      refine zG ?_
      refine zu [0,0,3,0,0,16,0,119,255,511,1023] rfl ?_
      refine zH ?_
      refine dC (quoX _ (i28.t zt) (i33.t zt) szB szB szN) ?_
      rintro _ h36 n36 ⟨b36,a36,l36,c36,rfl,i36⟩ y36 x36
      refine zH ?_
      refine dC (quoX _ (jy.t zt) (i33.t zt) szB szB szN) ?_
      rintro _ h37 n37 ⟨b37,a37,l37,c37,rfl,i37⟩ y37 x37
      refine dC (mulX _ (i21.t zt) i37 szB szB) ?_
      rintro _ h38 n38 ⟨b38,a38,l38,c38,rfl,i38⟩ y38 x38
      refine dC (wR _ (i36.t zt) i38 (ng q15 q16).1 (ng q15 q16).2) ?_
      rintro _ h39 n39 ⟨b39,a39,l39,c39,d39,e39,f39,g39,rfl,i39,j39⟩ y39 x39
      refine dS [.bool b39,.slice a39 l39 c39,.bool d39,.slice e39 f39 g39] ?_
      intro h40 p40 o40
      refine zq ?_
      exact ⟨_,_,_,_,_,_,_,_,rfl,(i39.t zt),(j39.t zt)⟩
     refine zG ?_
     refine zu [0,0,2,0,8,30,63,127] rfl ?_
     refine zH ?_
     refine dC (mulX _ (jx.t zt) (jy.t zt) szB szB) ?_
     rintro _ h41 n41 ⟨b41,a41,l41,c41,rfl,i41⟩ y41 x41
     refine dC (wR _ (i28.t zt) i41 (gP q15 q16 q32).1 (gP q15 q16 q32).2) ?_
     rintro _ h42 n42 ⟨b42,a42,l42,c42,d42,e42,f42,g42,rfl,i42,j42⟩ y42 x42
     refine dS [.bool b42,.slice a42 l42 c42,.bool d42,.slice e42 f42 g42] ?_
     intro h43 p43 o43
     refine zq ?_
     exact ⟨_,_,_,_,_,_,_,_,rfl,(i42.t zt),(j42.t zt)⟩
    refine zG ?_
    refine sT #[.bool false,.slice none 0 0,.bool false,.slice none 0 0] ?_
    refine sS [.bool false,.slice none 0 0,.bool false,.slice none 0 0] ?_
    intro h44 p44 o44
    refine zq ?_
    exact (show x+y=0 from zam (q14) (q16) q31)▸QV.zero _ _
   refine zG ?_
   refine zu [0,1,0,4,15,0,32,127,0,256,1023,2047] rfl ?_
   refine zH ?_
   refine dC (mulX _ (iy.t zt) (jx.t zt) szB szB) ?_
   rintro _ h45 n45 ⟨b45,a45,l45,c45,rfl,i45⟩ y45 x45
   refine zH ?_
   refine dC (addX _ i45 (ix.t zt) szB szB) ?_
   rintro _ h46 n46 ⟨b46,a46,l46,c46,rfl,i46⟩ y46 x46
   refine zH ?_
   refine dT #[.bool b46,.slice a46 l46 c46,.bool dx,.slice ex fx gx] ?_
   refine dS [.bool b46,.slice a46 l46 c46,.bool dx,.slice ex fx gx] ?_
   intro h47 p47 o47
   refine zq ?_
   exact ⟨_,_,_,_,_,_,_,_,rfl,(i46.t zt).as ((zem q15 q16).1.symm),(jx.t zt).as ((zem q15 q16).2.symm)⟩
  exact absurd q15 q14
 refine zG ?_
 refine sC (yJ _ (jy.t zt)) ?_
 rintro _ h48 n48 ⟨b48,rfl,bq48⟩ y48 x48
 rcases bvs bq48 with ⟨rfl,q48⟩|⟨rfl,q48⟩
 ·refine zG ?_
  refine sC (yJ _ (jx.t zt)) ?_
  rintro _ h49 n49 ⟨b49,rfl,bq49⟩ y49 x49
  rcases bvs bq49 with ⟨rfl,q49⟩|⟨rfl,q49⟩
  ·exact absurd q14 q49
  refine zG ?_
  refine zu [0,1,0,4,15,0,32,127,0,256,1023,2047] rfl ?_
  refine zH ?_
  refine dC (mulX _ (ix.t zt) (jy.t zt) szB szB) ?_
  rintro _ h50 n50 ⟨b50,a50,l50,c50,rfl,i50⟩ y50 x50
  refine zH ?_
  refine dC (addX _ i50 (iy.t zt) szB szB) ?_
  rintro _ h51 n51 ⟨b51,a51,l51,c51,rfl,i51⟩ y51 x51
  refine zH ?_
  refine dT #[.bool b51,.slice a51 l51 c51,.bool dy,.slice ey fy gy] ?_
  refine dS [.bool b51,.slice a51 l51 c51,.bool dy,.slice ey fy gy] ?_
  intro h52 p52 o52
  refine zq ?_
  exact ⟨_,_,_,_,_,_,_,_,rfl,(i51.t zt).as ((zan q14 q48).1.symm),(jy.t zt).as ((zan q14 q48).2.symm)⟩
 refine zG ?_
 refine sC (addX _ (ix.t zt) (iy.t zt) szB szB) ?_
 rintro _ h53 n53 ⟨b53,a53,l53,c53,rfl,i53⟩ y53 x53
 refine sT #[.bool b53,.slice a53 l53 c53,.bool false,.slice none 0 0] ?_
 refine sS [.bool b53,.slice a53 l53 c53,.bool false,.slice none 0 0] ?_
 intro h54 p54 o54
 refine zq ?_
 exact ⟨_,_,_,_,_,_,_,_,rfl,(i53.t zt).as ((zen q14 q48).1.symm),(IW.zero _ _).as ((zen q14 q48).2.symm)⟩
theorem zdv {x y:Rat}(hx:denZ x=0)(hy:denZ y=0):(x*y).num=x.num*y.num∧denZ (x*y)=0:=by
 rw [yf] at*
 have h1:=uT x y
 have h2:=uU x y
 rw [hx,hy] at h1 h2
 simp at h1 h2
 exact ⟨h1,h2⟩
theorem oB (x y:Rat):(x*y).num=(x.num.tdiv ((Nat.gcd x.num.natAbs ((y.den:Int)).natAbs:Nat):Int))*(y.num.tdiv ((Nat.gcd y.num.natAbs ((x.den:Int)).natAbs:Nat):Int))∧((x*y).den:Int)=((x.den:Int).tdiv ((Nat.gcd y.num.natAbs ((x.den:Int)).natAbs:Nat):Int))*((y.den:Int).tdiv ((Nat.gcd x.num.natAbs ((y.den:Int)).natAbs:Nat):Int)):=by
 simp only [Int.natAbs_natCast,pU]
 have h:=zfj x y
 rw [Int.tdiv_eq_ediv_of_dvd (Int.ofNat_dvd_left.2 (Nat.gcd_dvd_left _ _)),Int.tdiv_eq_ediv_of_dvd (Int.ofNat_dvd_left.2 (Nat.gcd_dvd_left _ _))]
 refine ⟨h.1,?_⟩
 rw [h.2,Int.natCast_mul]
theorem mulQ (k:Nat){x:Rat}{y:Rat}(g:GG h n)(ix:IW h n sx ax lx cx x.num)(jx:IW h n dx ex fx gx (denZ x))(iy:IW h n sy ay ly cy y.num)(jy:IW h n dy ey fy gy (denZ y)){a:Nat}(hx:Sz a x)(hy:Sz b y)(hab:a+b≤2496):CX (cal (k+10)) 20 [.agg #[.bool sx,.slice ax lx cx,.bool dx,.slice ex fx gx],.agg #[.bool sy,.slice ay ly cy,.bool dy,.slice ey fy gy]] h n (QV (x*y)):=by
 obtain ⟨hxn,hxd⟩:x.num.natAbs<2^a∧(denZ x).natAbs<2^a:=⟨hx.1,hx.z⟩
 obtain ⟨hyn,hyd⟩:y.num.natAbs<2^b∧(denZ y).natAbs<2^b:=⟨hy.1,hy.z⟩
 have hxn1:=wg hxn zo
 have hxd1:=wg hxd zo
 have hyn1:=wg hyn zo
 have hyd1:=wg hyd zo
 have hxp:=x.den_pos
 have hyp:=y.den_pos
 have hxe:((x.den:Int)).natAbs<2^a:=hx.2
 have hye:((y.den:Int)).natAbs<2^b:=hy.2
 have hxe1:=wg hxe zo
 have hye1:=wg hye zo
 refine zv (fn:=Tryz.f20) R4 ?_
 refine zG ?_
 refine sB [.bool sx,.slice ax lx cx,.bool dx,.slice ex fx gx] ?_
 intro h11 p11 x11
 refine sB [.bool sy,.slice ay ly cy,.bool dy,.slice ey fy gy] ?_
 intro h12 p12 x12
 refine sA ?_
 intro h13 p13 x13
 refine zG ?_
 refine sC (yJ _ (ix.t zt)) ?_
 rintro _ h14 n14 ⟨b14,rfl,bq14⟩ y14 x14
 rcases bvs bq14 with ⟨rfl,q14⟩|⟨rfl,q14⟩
 ·refine zG ?_
  refine sC (yJ _ (iy.t zt)) ?_
  rintro _ h15 n15 ⟨b15,rfl,bq15⟩ y15 x15
  rcases bvs bq15 with ⟨rfl,q15⟩|⟨rfl,q15⟩
  ·refine zG ?_
   refine sC (yJ _ (jx.t zt)) ?_
   rintro _ h16 n16 ⟨b16,rfl,bq16⟩ y16 x16
   rcases bvs bq16 with ⟨rfl,q16⟩|⟨rfl,q16⟩
   ·refine zG ?_
    refine zu [0,1,0,4,15,31,63,63,0,0,895,2047] rfl ?_
    refine zH ?_
    refine dC (denQ _ (iy.t zt) (jy.t zt)) ?_
    rintro _ h17 n17 ⟨b17,a17,l17,c17,rfl,i17⟩ y17 x17
    refine dC (oY _ (g.t zt) (ix.t zt) i17 szB szB zo) ?_
    rintro _ h18 n18 ⟨b18,a18,l18,c18,g18,d18,e18,f18,rfl,i18,j18⟩ y18 x18
    refine zH ?_
    refine dB [.bool false,.slice none 0 0] ?_
    intro h19 p19 x19
    refine dB [.bool false,.slice none 0 0] ?_
    intro h20 p20 x20
    refine dS [.bool b18,.slice a18 l18 c18] ?_
    intro h21 p21 o21
    refine dS [.bool g18,.slice d18 e18 f18] ?_
    intro h22 p22 o22
    refine zG ?_
    refine zu [0,1,0,4,15,31,63,63,0,0,895,2047] rfl ?_
    refine zH ?_
    refine dC (denQ _ (ix.t zt) (jx.t zt)) ?_
    rintro _ h23 n23 ⟨b23,a23,l23,c23,rfl,i23⟩ y23 x23
    refine dC (oY _ (g.t zt) (iy.t zt) i23 szB szB zo) ?_
    rintro _ h24 n24 ⟨b24,a24,l24,c24,g24,d24,e24,f24,rfl,i24,j24⟩ y24 x24
    refine zH ?_
    refine dB [.bool false,.slice none 0 0] ?_
    intro h25 p25 x25
    refine dB [.bool false,.slice none 0 0] ?_
    intro h26 p26 x26
    refine dS [.bool b24,.slice a24 l24 c24] ?_
    intro h27 p27 o27
    refine dS [.bool g24,.slice d24 e24 f24] ?_
    intro h28 p28 o28
    refine zG ?_
    refine zu [0,0,3,0,0,31,63,127] rfl ?_
    refine zH ?_
    refine dC (mulX _ (i18.t zt) (i24.t zt) szB szB) ?_
    rintro _ h29 n29 ⟨b29,a29,l29,c29,rfl,i29⟩ y29 x29
    refine zH ?_
    refine dC (mulX _ (j24.t zt) (j18.t zt) szB szB) ?_
    rintro _ h30 n30 ⟨b30,a30,l30,c30,rfl,i30⟩ y30 x30
    refine dC (wR _ (i29.t zt) i30 (oB x y).1 (oB x y).2) ?_
    rintro _ h31 n31 ⟨b31,a31,l31,c31,d31,e31,f31,g31,rfl,i31,j31⟩ y31 x31
    refine dS [.bool b31,.slice a31 l31 c31,.bool d31,.slice e31 f31 g31] ?_
    intro h32 p32 o32
    refine zq ?_
    exact ⟨_,_,_,_,_,_,_,_,rfl,(i31.t zt),(j31.t zt)⟩
   refine zG ?_
   refine sC (yJ _ (jy.t zt)) ?_
   rintro _ h33 n33 ⟨b33,rfl,bq33⟩ y33 x33
   rcases bvs bq33 with ⟨rfl,q33⟩|⟨rfl,q33⟩
   ·refine zG ?_
    refine zu [0,1,0,4,15,31,63,63,0,0,895,2047] rfl ?_
    refine zH ?_
    refine dC (denQ _ (iy.t zt) (jy.t zt)) ?_
    rintro _ h34 n34 ⟨b34,a34,l34,c34,rfl,i34⟩ y34 x34
    refine dC (oY _ (g.t zt) (ix.t zt) i34 szB szB zo) ?_
    rintro _ h35 n35 ⟨b35,a35,l35,c35,g35,d35,e35,f35,rfl,i35,j35⟩ y35 x35
    refine zH ?_
    refine dB [.bool false,.slice none 0 0] ?_
    intro h36 p36 x36
    refine dB [.bool false,.slice none 0 0] ?_
    intro h37 p37 x37
    refine dS [.bool b35,.slice a35 l35 c35] ?_
    intro h38 p38 o38
    refine dS [.bool g35,.slice d35 e35 f35] ?_
    intro h39 p39 o39
    refine zG ?_
    refine zu [0,1,0,4,15,31,63,63,0,0,895,2047] rfl ?_
    refine zH ?_
    refine dC (denQ _ (ix.t zt) (jx.t zt)) ?_
    rintro _ h40 n40 ⟨b40,a40,l40,c40,rfl,i40⟩ y40 x40
    refine dC (oY _ (g.t zt) (iy.t zt) i40 szB szB zo) ?_
    rintro _ h41 n41 ⟨b41,a41,l41,c41,g41,d41,e41,f41,rfl,i41,j41⟩ y41 x41
    refine zH ?_
    refine dB [.bool false,.slice none 0 0] ?_
    intro h42 p42 x42
    refine dB [.bool false,.slice none 0 0] ?_
    intro h43 p43 x43
    refine dS [.bool b41,.slice a41 l41 c41] ?_
    intro h44 p44 o44
    refine dS [.bool g41,.slice d41 e41 f41] ?_
    intro h45 p45 o45
    refine zG ?_
    refine zu [0,0,3,0,0,31,63,127] rfl ?_
    refine zH ?_
    refine dC (mulX _ (i35.t zt) (i41.t zt) szB szB) ?_
    rintro _ h46 n46 ⟨b46,a46,l46,c46,rfl,i46⟩ y46 x46
    refine zH ?_
    refine dC (mulX _ (j41.t zt) (j35.t zt) szB szB) ?_
    rintro _ h47 n47 ⟨b47,a47,l47,c47,rfl,i47⟩ y47 x47
    refine dC (wR _ (i46.t zt) i47 (oB x y).1 (oB x y).2) ?_
    rintro _ h48 n48 ⟨b48,a48,l48,c48,d48,e48,f48,g48,rfl,i48,j48⟩ y48 x48
    refine dS [.bool b48,.slice a48 l48 c48,.bool d48,.slice e48 f48 g48] ?_
    intro h49 p49 o49
    refine zq ?_
    exact ⟨_,_,_,_,_,_,_,_,rfl,(i48.t zt),(j48.t zt)⟩
   refine zG ?_
   refine sC (mulX _ (ix.t zt) (iy.t zt) szB szB) ?_
   rintro _ h50 n50 ⟨b50,a50,l50,c50,rfl,i50⟩ y50 x50
   refine sT #[.bool b50,.slice a50 l50 c50,.bool false,.slice none 0 0] ?_
   refine sS [.bool b50,.slice a50 l50 c50,.bool false,.slice none 0 0] ?_
   intro h51 p51 o51
   refine zq ?_
   exact ⟨_,_,_,_,_,_,_,_,rfl,(i50.t zt).as ((zdv q16 q33).1.symm),(IW.zero _ _).as ((zdv q16 q33).2.symm)⟩
  refine zG ?_
  refine sT #[.bool false,.slice none 0 0,.bool false,.slice none 0 0] ?_
  refine sS [.bool false,.slice none 0 0,.bool false,.slice none 0 0] ?_
  intro h52 p52 o52
  refine zq ?_
  exact (show x*y=0 from by rw [Rat.num_eq_zero.1 q15,Rat.mul_zero])▸QV.zero _ _
 refine zG ?_
 refine sT #[.bool false,.slice none 0 0,.bool false,.slice none 0 0] ?_
 refine sS [.bool false,.slice none 0 0,.bool false,.slice none 0 0] ?_
 intro h53 p53 o53
 refine zq ?_
 exact (show x*y=0 from by rw [Rat.num_eq_zero.1 q14,Rat.zero_mul])▸QV.zero _ _
theorem qP {s:Int}{a b c A B C:Prop}(e:(a→A)∧(b→B)∧(c→C))(q:s= -1∧a∨s=0∧b∨s=1∧c):s= -1∧A∨s=0∧B∨s=1∧C:=by
 rcases q with q|q|q
 ·exact .inl ⟨q.1,e.1 q.2⟩
 ·exact .inr (.inl ⟨q.1,e.2.1 q.2⟩)
 exact .inr (.inr ⟨q.1,e.2.2 q.2⟩)
theorem rW {x y:Rat}:(x.num*(y.den:Int)<y.num*(x.den:Int)→x<y)∧(x.num*(y.den:Int)=y.num*(x.den:Int)→x=y)∧(y.num*(x.den:Int)<x.num*(y.den:Int)→y<x):=⟨(oX x y).1.2,(oX x y).2.1.2,(oX x y).2.2.2⟩
theorem aH {x y:Rat}(hx:denZ x=0)(hy:denZ y=0):(x.num<y.num→x<y)∧(x.num=y.num→x=y)∧(y.num<x.num→y<x):=by
 have:=rW (x:=x) (y:=y)
 rw [yf.1 hx,yf.1 hy] at this
 simpa using this
theorem gt {x y:Rat}(h:x.num<0∧0≤y.num∨x.num≤0∧0<y.num∨y.num<0∧0≤x.num∨y.num≤0∧0<x.num):(x.num<y.num→x<y)∧(x.num=y.num→x=y)∧(y.num<x.num→y<x):=by
 have hc:=rW (x:=x) (y:=y)
 have h1:=x.den_pos
 have h2:=y.den_pos
 refine ⟨fun hl=>hc.1 ?_,fun hl=>by omega,fun hl=>hc.2.2 ?_⟩
 ·rcases Int.lt_or_le x.num 0 with hx|hx
  ·have a1:=Int.mul_neg_of_neg_of_pos hx (show (0:Int)<y.den by omega)
   have a2:=Int.mul_nonneg (show 0≤y.num by omega) (show (0:Int)≤x.den by omega)
   omega
  have:x.num=0:=zo
  rw [this,Int.zero_mul]
  exact Int.mul_pos zo zo
 rcases Int.lt_or_le y.num 0 with hx|hx
 ·have a1:=Int.mul_neg_of_neg_of_pos hx (show (0:Int)<x.den by omega)
  have a2:=Int.mul_nonneg (show 0≤x.num by omega) (show (0:Int)≤y.den by omega)
  omega
 have:y.num=0:=zo
 rw [this,Int.zero_mul]
 exact Int.mul_pos zo zo
theorem qN (k:Nat){x:Rat}{y:Rat}(ix:IW h n sx ax lx cx x.num)(jx:IW h n dx ex fx gx (denZ x))(iy:IW h n sy ay ly cy y.num)(jy:IW h n dy ey fy gy (denZ y)){a:Nat}(hx:Sz a x)(hy:Sz b y)(hab:a+b≤2496):VF (cal (k+6)) 90 [.agg #[.bool sx,.slice ax lx cx,.bool dx,.slice ex fx gx],.agg #[.bool sy,.slice ay ly cy,.bool dy,.slice ey fy gy]] h n fun v=>∃s:Int,v=.int .i64 s∧(s= -1∧x<y∨s=0∧x=y∨s=1∧y<x):=by
 obtain ⟨hxn,hxd⟩:x.num.natAbs<2^a∧(denZ x).natAbs<2^a:=⟨hx.1,hx.z⟩
 obtain ⟨hyn,hyd⟩:y.num.natAbs<2^b∧(denZ y).natAbs<2^b:=⟨hy.1,hy.z⟩
 have hxn1:=wg hxn zo
 have hxd1:=wg hxd zo
 have hyn1:=wg hyn zo
 have hyd1:=wg hyd zo
 have hxp:=x.den_pos
 have hyp:=y.den_pos
 have hxe:((x.den:Int)).natAbs<2^a:=hx.2
 have hye:((y.den:Int)).natAbs<2^b:=hy.2
 have hxe1:=wg hxe zo
 have hye1:=wg hye zo
 refine zB (fn:=Tryz.f90) R4 ?_
 refine zG ?_
 refine sB [.bool sx,.slice ax lx cx,.bool dx,.slice ex fx gx] ?_
 intro h11 p11 x11
 refine sB [.bool sy,.slice ay ly cy,.bool dy,.slice ey fy gy] ?_
 intro h12 p12 x12
 refine zG ?_
 refine zu [0,1,3,7,15,31,63,127,255,511,1023,511,4095,8191,16383] rfl ?_
 refine zH ?_
 refine dC (yJ _ (jx.t zt)) ?_
 rintro _ h13 n13 ⟨b13,rfl,bq13⟩ y13 x13
 rcases bvs bq13 with ⟨rfl,q13⟩|⟨rfl,q13⟩
 ·refine zH ?_
  refine dC (za9 _ (ix.t zt) (jx.t zt)) ?_
  rintro _ h14 n14 ⟨s14,rfl,q14⟩ y14 x14
  refine zH ?_
  refine dC (za9 _ (iy.t zt) (jy.t zt)) ?_
  rintro _ h15 n15 ⟨s15,rfl,q15⟩ y15 x15
  by_cases q16:s14=s15
  ·refine zJ ?_
   refine zu [0,1,0,4,15,0,32,0,159,511,1023,2047] rfl ?_
   refine zH ?_
   refine dC (denQ _ (iy.t zt) (jy.t zt)) ?_
   rintro _ h17 n17 ⟨b17,a17,l17,c17,rfl,i17⟩ y17 x17
   refine dC (mulX _ (ix.t zt) i17 szB szB) ?_
   rintro _ h18 n18 ⟨b18,a18,l18,c18,rfl,i18⟩ y18 x18
   refine zH ?_
   refine dC (denQ _ (ix.t zt) (jx.t zt)) ?_
   rintro _ h19 n19 ⟨b19,a19,l19,c19,rfl,i19⟩ y19 x19
   refine dC (mulX _ (iy.t zt) i19 szB szB) ?_
   rintro _ h20 n20 ⟨b20,a20,l20,c20,rfl,i20⟩ y20 x20
   refine dC (tQ _ (i18.t zt) i20 szB szB) ?_
   rintro _ h21 n21 ⟨s21,rfl,q21⟩ y21 x21
   refine zf ?_
   exact ⟨_,rfl,qP (rW) q21⟩
  refine zJ ?_
  refine sC (tQ _ (ix.t zt) (iy.t zt) szB szB) ?_
  rintro _ h22 n22 ⟨s22,rfl,q22⟩ y22 x22
  refine zf ?_
  exact ⟨_,rfl,qP (gt zo) q22⟩
 refine zH ?_
 refine dC (yJ _ (jy.t zt)) ?_
 rintro _ h23 n23 ⟨b23,rfl,bq23⟩ y23 x23
 rcases bvs bq23 with ⟨rfl,q23⟩|⟨rfl,q23⟩
 ·refine zH ?_
  refine dC (za9 _ (ix.t zt) (jx.t zt)) ?_
  rintro _ h24 n24 ⟨s24,rfl,q24⟩ y24 x24
  refine zH ?_
  refine dC (za9 _ (iy.t zt) (jy.t zt)) ?_
  rintro _ h25 n25 ⟨s25,rfl,q25⟩ y25 x25
  by_cases q26:s24=s25
  ·refine zJ ?_
   refine zu [0,1,0,4,15,0,32,0,159,511,1023,2047] rfl ?_
   refine zH ?_
   refine dC (denQ _ (iy.t zt) (jy.t zt)) ?_
   rintro _ h27 n27 ⟨b27,a27,l27,c27,rfl,i27⟩ y27 x27
   refine dC (mulX _ (ix.t zt) i27 szB szB) ?_
   rintro _ h28 n28 ⟨b28,a28,l28,c28,rfl,i28⟩ y28 x28
   refine zH ?_
   refine dC (denQ _ (ix.t zt) (jx.t zt)) ?_
   rintro _ h29 n29 ⟨b29,a29,l29,c29,rfl,i29⟩ y29 x29
   refine dC (mulX _ (iy.t zt) i29 szB szB) ?_
   rintro _ h30 n30 ⟨b30,a30,l30,c30,rfl,i30⟩ y30 x30
   refine dC (tQ _ (i28.t zt) i30 szB szB) ?_
   rintro _ h31 n31 ⟨s31,rfl,q31⟩ y31 x31
   refine zf ?_
   exact ⟨_,rfl,qP (rW) q31⟩
  refine zJ ?_
  refine sC (tQ _ (ix.t zt) (iy.t zt) szB szB) ?_
  rintro _ h32 n32 ⟨s32,rfl,q32⟩ y32 x32
  refine zf ?_
  exact ⟨_,rfl,qP (gt zo) q32⟩
 refine zJ ?_
 refine sC (tQ _ (ix.t zt) (iy.t zt) szB szB) ?_
 rintro _ h33 n33 ⟨s33,rfl,q33⟩ y33 x33
 refine zf ?_
 exact ⟨_,rfl,qP (aH q13 q23) q33⟩
end
section
theorem wz {S:List (List UInt8)}{h:HF}{n:Nat}{a:Option Addr}{len cap:Nat}(hs:Sl h n 1 (.slice a len cap) (strs S)):len=S.length:=by
 obtain ⟨a',len',cap',e,hl⟩:=hs.len
 injection e with e1 e2 e3
 rw [za0] at hl
 omega
theorem zfa (m:Nat)(l:List Value):(rep m l).length=m*l.length:=by
 induction m with
 |zero=>simp [rep]
 |succ m ih=>rw [rep,List.length_append,ih,Nat.succ_mul];omega
end
section
variable {bb l m n':Nat}{h':HF}{a:Option Addr}{cs:List Value}{e:TypeId}{L:List Nat}{q:Rat}
def BX:Nat:=18446744073709551616^60
theorem zhu {e:Nat}(h:m<2^e)(he:e≤3840):m<BX:=by
 have h1:e≤64*60:=he
 generalize hk:60=k at h1
 have h2:m<(2^64)^k:=by
  rw [←Nat.pow_mul]
  exact Nat.lt_of_lt_of_le h (Nat.pow_le_pow_right zd h1)
 subst hk
 exact h2
def UW (h:HF)(n:Nat)(a:Option Addr)(l c m:Nat):Prop:=∃L,Sl h n 1 (.slice a l c) (u32s L)∧Norm L∧val L=m
theorem UW.ext {h:HF}{n:Nat}{c:Nat}(i:UW h n a l c m)(e:Ext n h h')(hn:n≤n'):UW h' n' a l c m:=by
 obtain ⟨L,h1,h2,h3⟩:=i
 exact ⟨L,h1.ext e hn,h2,h3⟩
theorem UW.only {h:HF}{n:Nat}{c:Nat}(i:UW h n a l c m)(hp:h bb=some (.row cs e))(hu:cs.all nu=true)(ho:Only bb h h'):UW h' n a l c m:=by
 obtain ⟨L,h1,h2,h3⟩:=i
 exact ⟨L,h1.only32 hp hu ho,h2,h3⟩
theorem UW.t {h:HF}{n:Nat}{c:Nat}(i:UW h n a l c m)(t:Tr n h n' h'):UW h' n' a l c m:=by
 obtain ⟨L,h1,h2,h3⟩:=i
 exact ⟨L,h1.trG (fun x hx=>by obtain ⟨d,_,rfl⟩:=List.mem_map.1 hx;rfl) t,h2,h3⟩
theorem UW.x {h:HF}{n:Nat}{c:Nat}(i:UW h n a l c m)(t:Tx n h n' h'):UW h' n' a l c m:=i.ext t.2 t.1
theorem UW.zero {h:HF}{n:Nat}{c:Nat}(i:UW h n a l c m):l=0↔m=0:=by
 obtain ⟨L,h1,h2,h3⟩:=i
 have e:=h1.lenU
 rw [←h3,h2.zero,←List.length_eq_zero_iff,e]
theorem UW.nil (h:HF)(n:Nat):UW h n none 0 0 0:=⟨[],.nil (.inl rfl),Norm.nil,rfl⟩
def UI (h:HF)(n:Nat)(b:Bool)(a:Option Addr)(l c:Nat)(x:Int):Prop:=b=decide (x<0)∧UW h n a l c x.natAbs
theorem UI.ext {h:HF}{n:Nat}{b:Bool}{c:Nat}{x:Int}(i:UI h n b a l c x)(e:Ext n h h')(hn:n≤n'):UI h' n' b a l c x:=⟨i.1,i.2.ext e hn⟩
theorem UI.only {h:HF}{n:Nat}{b:Bool}{c:Nat}{x:Int}(i:UI h n b a l c x)(hp:h bb=some (.row cs e))(hu:cs.all nu=true)(ho:Only bb h h'):UI h' n b a l c x:=⟨i.1,i.2.only hp hu ho⟩
theorem UI.t {h:HF}{n:Nat}{b:Bool}{c:Nat}{x:Int}(i:UI h n b a l c x)(t:Tr n h n' h'):UI h' n' b a l c x:=⟨i.1,i.2.t t⟩
theorem UI.x {h:HF}{n:Nat}{b:Bool}{c:Nat}{x:Int}(i:UI h n b a l c x)(t:Tx n h n' h'):UI h' n' b a l c x:=i.ext t.2 t.1
theorem UI.as {h:HF}{n:Nat}{b:Bool}{c:Nat}{x y:Int}(i:UI h n b a l c x)(e:x=y):UI h n b a l c y:=e▸i
theorem UI.lt {h:HF}{n:Nat}{c:Nat}{x:Int}(i:UI h n true a l c x):x<0:=of_decide_eq_true i.1.symm
theorem UI.ge {h:HF}{n:Nat}{c:Nat}{x:Int}(i:UI h n false a l c x):0≤x:=Int.not_lt.1 (of_decide_eq_false i.1.symm)
theorem UI.zero (h:HF)(n:Nat):UI h n false none 0 0 0:=⟨rfl,UW.nil h n⟩
def NQ (q:Rat)(v:Value)(h:HF)(n:Nat):Prop:=∃b a l c d e f g,v=.agg #[.bool b,.slice a l c,.bool d,.slice e f g]∧UI h n b a l c q.num∧UI h n d e f g (denZ q)
theorem NQ.zero (h:HF)(n:Nat):NQ 0 (.agg #[.bool false,.slice none 0 0,.bool false,.slice none 0 0]) h n:=⟨_,_,_,_,_,_,_,_,rfl,UI.zero h n,UI.zero h n⟩
theorem Norm.len800 (h:Norm L)(hb:val L<BX):L.length≤1200:=by
 refine h.len_pow (Nat.lt_of_lt_of_le hb ?_)
 unfold BX
 decide+kernel
theorem UI.r {h:HF}{n:Nat}{b:Bool}{c:Nat}{x:Int}(i:UI h n b a l c x):∃L,IntR h n (.bool b) (.slice a l c) x L:=by
 obtain ⟨e,L,h1,h2,h3⟩:=i
 exact ⟨L,by rw [e],h1,h2,h3⟩
theorem NQ.r {h:HF}{n:Nat}{b d:Bool}{e:Option Addr}{c f g:Nat}(i:UI h n b a l c q.num)(j:UI h n d e f g (denZ q)):∃ln ld,RatR h n (.bool b) (.slice a l c) (.bool d) (.slice e f g) q ln ld∧(∀m,Sz m q→m≤3840→ln.length≤1200∧ld.length≤1200):=by
 obtain ⟨ln,hi⟩:=i.r
 obtain ⟨e2,ld,h1,h2,h3⟩:=j
 refine ⟨ln,ld,⟨hi,?_,h1,h2,?_⟩,fun m hm hl=>⟨hi.norm.len800 (by rw [hi.val];exact zhu hm.1 hl),h2.len800 (by rw [h3];exact zhu hm.z hl)⟩⟩
 ·rw [e2];unfold denZ;split<;>simp
 rw [h3];unfold denZ;split<;>simp
section
variable (k:Nat){h:HF}{n:Nat}{a1 a2:Option Addr}{l1 c1 l2 c2 x y:Nat}
end
end
end Go.Proofs.YtdcfbgmbaniglaaGreatDoor
namespace Go.Proofs.YtdcfbgmbaniglaaGreatDoor
variable {s:List UInt8}{V b:Nat}
def dig (b:UInt8):Bool:=decide (48≤b.toNat∧b.toNat≤57)
theorem qJ {b:UInt8}:dig b=true↔48≤b.toNat∧b.toNat≤57:=by unfold dig;simp
theorem AllD.all:AllD s↔∀b∈s,dig b=true:=by
 unfold AllD
 constructor
 ·exact fun h b hb=>qJ.2 (h b hb)
 exact fun h b hb=>qJ.1 (h b hb)
theorem vp {p:UInt8→Bool}:∀b∈s.takeWhile p,p b=true:=by
 induction s with
 |nil=>intro b hb;simp at hb
 |cons x s ih=>
  intro b hb
  rw [List.takeWhile_cons] at hb
  split at hb
  ·rename_i h
   rcases List.mem_cons.1 hb with rfl|hb
   ·exact h
   exact ih b hb
  simp at hb
theorem tr {a r:List UInt8}(ha:AllD a)(hr:r=[]∨∃x r',r=x::r'∧dig x=false):(a++r).takeWhile dig=a∧(a++r).dropWhile dig=r:=by
 induction a with
 |nil=>
  rcases hr with rfl|⟨x,r',rfl,hx⟩
  ·exact ⟨rfl,rfl⟩
  simp [List.takeWhile_cons,List.dropWhile_cons,hx]
 |cons b a ih=>
  have hb:dig b=true:=qJ.2 (ha b (by simp))
  have:=ih fun c hc=>ha c (by simp [hc])
  simp only [List.cons_append,List.takeWhile_cons,List.dropWhile_cons,hb,if_true]
  exact ⟨by rw [this.1],this.2⟩
theorem jG {a b:UInt8}(h:a.toNat=b.toNat):a=b:=UInt8.toNat_inj.1 h
theorem iY {b:UInt8}(h:48≤b.toNat∧b.toNat≤57):UInt8.ofNat (48+(b.toNat-48))=b:=by
 apply jG
 rw [vC zo]
 omega
theorem aj {d:List UInt8}(hd:AllD d)(h0:d≠[])(h1:d.head?≠some 48):dval d≠0∧(decB (dval d)).map UInt8.ofNat=d:=by
 induction hl:d.length generalizing d with
 |zero=>exact absurd (List.length_eq_zero_iff.1 hl) h0
 |succ m ih=>
  obtain ⟨i,b,rfl⟩:∃i b,d=i++[b]:=⟨d.dropLast,d.getLast h0,(List.dropLast_concat_getLast h0).symm⟩
  have hb:=hd b (by simp)
  rw [tN]
  by_cases hi:i=[]
  ·subst hi
   have hb0:b.toNat≠48:=fun e=>h1 (by show some b=some 48;rw [jG (a:=b) (b:=48) e])
   have e0:dval []=0:=rfl
   rw [e0]
   refine ⟨zo,?_⟩
   rw [mT zo (.inr zo)]
   have:decB 0=[]:=by unfold decB;rw [yZ];rfl
   rw [this,List.nil_append,List.map_cons,List.map_nil,iY hb]
   rfl
  obtain ⟨h2,h3⟩:=ih (d:=i) (fun c hc=>hd c (by simp [hc])) hi (by
   cases i with
   |nil=>exact absurd rfl hi
   |cons x i=>simpa using h1) (by simpa using hl)
  refine ⟨zo,?_⟩
  rw [mT zo (.inl h2),List.map_append,h3,List.map_cons,List.map_nil,iY hb]
theorem sH {d:List UInt8}(hd:AllD d)(h0:d≠[])(h1:d.head?≠some 48):decT (dval d)=d:=by
 obtain ⟨h2,h3⟩:=aj hd h0 h1
 unfold decT
 rw [if_neg h2,h3]
theorem gi:decT 1=[49]:=sH (d:=[49]) (fun b hb=>by rw [List.mem_singleton.1 hb];decide) (by simp) (by simp)
theorem am (h:V≠0):((decB V).map UInt8.ofNat).head?≠some 48:=by
 induction V using Nat.strongRecOn with
 |ind V ih=>
  have e:decB V=decB (V/10)++[48+V%10]:=by
   unfold decB
   rw [xX h]
   simp
  rw [e]
  by_cases h2:V/10=0
  ·have:decB (V/10)=[]:=by unfold decB;rw [h2,yZ];rfl
   rw [this]
   intro he
   simp only [List.nil_append,List.map_cons,List.map_nil,List.head?_cons,Option.some.injEq] at he
   have:=vC (c:=V%10) zo
   rw [he] at this
   have e48:(48:UInt8).toNat=48:=rfl
   omega
  have:=ih (V/10) zo h2
  cases hd:(decB (V/10)).map UInt8.ofNat with
  |nil=>
   have h5:=(rU (V/10)).2
   rw [hd] at h5
   exact absurd h5.symm h2
  |cons x l=>
   rw [List.map_append,hd]
   rw [hd] at this
   simpa using this
theorem mS (h:V≠0):(decT V).head?≠some 48:=by
 unfold decT
 rw [if_neg h]
 exact am h
theorem gj {a:Nat}(h:decT a=decT b):a=b:=by
 rw [←(xW a).2.1,h,(xW b).2.1]
def spl (s:List UInt8):List UInt8×List UInt8×Bool:=
 let b:=yw s
 let m:=b.takeWhile dig
 let r:=b.dropWhile dig
 if m=[48] then (m,[],!zP s&&r.isEmpty)
 else if m=[]∨m.head?=some 48 then (m,[],false)
 else if r=[] then (m,[],true)
 else if r.head?≠some 47 then (m,[],false)
 else
  let d:=(r.drop 1).takeWhile dig
  let r2:=(r.drop 1).dropWhile dig
  (m,d,r2.isEmpty&& !d.isEmpty&&d.head? != some 48&&d != [49])
theorem eF (s:List UInt8):(yw s).takeWhile dig++(yw s).dropWhile dig=yw s:=List.takeWhile_append_dropWhile
theorem zfg:s=(if zP s then [45] else [])++yw s:=by
 unfold yw
 by_cases h:zP s=true
 ·rw [if_pos h,if_pos h]
  unfold zP at h
  cases s with
  |nil=>simp at h
  |cons x s=>
   have:x=45:=by simpa using h
   subst this
   rfl
 rw [if_neg h,if_neg h]
 rfl
structure Frm (s:List UInt8)(m d:List UInt8):Prop where
 dm:AllD m
 m0:m≠[]
 dd:AllD d
 lead:m=[48]∧zP s=false∧d=[]∨m.head?≠some 48
 den:d=[]∨d.head?≠some 48∧d≠[49]
 eq:s=(if zP s then [45] else [])++(m++(if d=[] then [] else 47::d))
theorem uP {m d:List UInt8}(h:spl s=(m,d,true)):Frm s m d:=by
 have hb:=eF s
 have hs:=zfg (s:=s)
 have hm:AllD ((yw s).takeWhile dig):=AllD.all.2 vp
 unfold spl at h
 simp only at h
 generalize (yw s).takeWhile dig=m0 at*
 generalize (yw s).dropWhile dig=r at*
 split at h
 ·rename_i h48
  simp only [Prod.mk.injEq] at h
  obtain ⟨rfl,rfl,h3⟩:=h
  simp only [Bool.and_eq_true,Bool.not_eq_true',List.isEmpty_iff] at h3
  obtain ⟨h3,rfl⟩:=h3
  refine ⟨hm,by rw [h48];simp,fun b hb=>absurd hb (by simp),.inl ⟨h48,h3,rfl⟩,.inl rfl,?_⟩
  rw [if_pos rfl,hb];exact hs
 split at h
 ·simp at h
 rename_i h48 hne
 have hne1:¬m0=[]:=fun e=>hne (.inl e)
 have hne2:¬m0.head?=some 48:=fun e=>hne (.inr e)
 split at h
 ·rename_i hr
  simp only [Prod.mk.injEq] at h
  obtain ⟨rfl,rfl,_⟩:=h
  refine ⟨hm,hne1,fun b hb=>absurd hb (by simp),.inr hne2,.inl rfl,?_⟩
  subst hr
  rw [if_pos rfl,hb];exact hs
 split at h
 ·simp at h
 rename_i hr h47
 have h47:r.head?=some 47:=Classical.not_not.1 h47
 simp only [Prod.mk.injEq] at h
 obtain ⟨rfl,rfl,h3⟩:=h
 simp only [Bool.and_eq_true,Bool.not_eq_true',List.isEmpty_iff,bne_iff_ne,ne_eq] at h3
 obtain ⟨⟨⟨h3,h4⟩,h5⟩,h6⟩:=h3
 obtain ⟨r',rfl⟩:∃r',r=47::r':=by
  cases r with
  |nil=>simp at h47
  |cons x r=>exact ⟨r,by simp at h47;rw [h47]⟩
 simp only [List.drop_one,List.tail_cons] at h3 h4 h5 h6 ⊢
 have hd:AllD (r'.takeWhile dig):=AllD.all.2 vp
 have hd2:r'.takeWhile dig++r'.dropWhile dig=r':=List.takeWhile_append_dropWhile
 rw [h3,List.append_nil] at hd2
 rw [hd2] at hd h4 h5 h6 ⊢
 have hne:¬r'=[]:=fun e=>by rw [e] at h4;simp at h4
 refine ⟨hm,hne1,hd,.inr hne2,.inr ⟨h5,h6⟩,?_⟩
 rw [if_neg hne,hb];exact hs
theorem rM (q:Rat):spl (ratT q)=(decT q.num.natAbs,(if q.den=1 then [] else decT q.den),true):=by
 obtain ⟨h1,h2⟩:=si q
 obtain ⟨hd,hv,hne⟩:=xW q.num.natAbs
 obtain ⟨dd,dvv,dne⟩:=xW q.den
 have htw:=tr (a:=decT q.num.natAbs) (r:=if q.den=1 then [] else 47::decT q.den) hd (by
  by_cases h:q.den=1
  ·left;rw [if_pos h]
  ·right;rw [if_neg h];exact ⟨47,_,rfl,rfl⟩)
 have hdw:=tr (a:=decT q.den) (r:=[]) dd (.inl rfl)
 rw [List.append_nil] at hdw
 unfold spl
 simp only
 rw [h2,htw.1,htw.2,h1]
 by_cases h0:q.num=0
 ·have hq:q.den=1:=by
   have:=q.reduced
   rw [h0] at this
   simpa using this
  rw [h0,if_pos hq,if_pos hq]
  rfl
 have hn0:q.num.natAbs≠0:=zo
 have hhd:=mS hn0
 have h48:¬decT q.num.natAbs=[48]:=fun e=>hhd (by rw [e];rfl)
 rw [if_neg h48,if_neg (by rintro (e|e);exact hne e;exact hhd e)]
 by_cases hq:q.den=1
 ·rw [if_pos hq,if_pos rfl,if_pos hq]
 rw [if_neg hq,if_neg (by simp),if_neg (by simp),if_neg hq]
 simp only [List.drop_one,List.tail_cons]
 rw [hdw.1,hdw.2]
 have hd0:q.den≠0:=q.den_nz
 have e1:(decT q.den).isEmpty=false:=by cases h:decT q.den with
  |nil=>exact absurd h dne
  |cons x l=>rfl
 have e2:((decT q.den).head? != some 48)=true:=by rw [bne_iff_ne];exact mS hd0
 have e3:(decT q.den != [49])=true:=by
  rw [bne_iff_ne]
  intro e
  have:dval (decT q.den)=1:=by rw [e];rfl
  rw [dvv] at this
  exact hq this
 rw [e1,e2,e3]
 rfl
theorem Frm.rat {m d:List UInt8}(h:Frm s m d)(hg:d=[]∨Nat.gcd (dval m) (dval d)=1):∃q:Rat,ratT q=s∧q.num=(if zP s then -(dval m:Int) else dval m)∧q.den=(if d=[] then 1 else dval d):=by
 obtain ⟨dm,m0,dd,lead,den,eq⟩:=h
 have hdv:∃D:Nat,D≠0∧D=(if d=[] then 1 else dval d)∧Nat.gcd (dval m) D=1∧(if D=1 then [] else 47::decT D)=(if d=[] then [] else 47::d):=by
  by_cases hd:d=[]
  ·refine ⟨1,by decide,by rw [if_pos hd],Nat.gcd_one_right _,by rw [if_pos rfl,if_pos hd]⟩
  rcases den with h|⟨h1,h2⟩
  ·exact absurd h hd
  have e:=sH dd hd h1
  refine ⟨dval d,(aj dd hd h1).1,by rw [if_neg hd],hg.resolve_left hd,?_⟩
  rw [e,if_neg hd,if_neg]
  intro h
  rw [h] at e
  exact h2 (by rw [←e];exact gi)
 obtain ⟨D,D0,hD,hgD,hDt⟩:=hdv
 refine ⟨⟨if zP s then -(dval m:Int) else dval m,D,D0,?_⟩,?_,rfl,hD⟩
 ·show Nat.Coprime _ _
  unfold Nat.Coprime
  split
  ·rw [Int.natAbs_neg];exact hgD
  exact hgD
 have habs:(if zP s then -(dval m:Int) else dval m).natAbs=dval m:=by
  split
  ·rw [Int.natAbs_neg];rfl
  rfl
 have hm:decT (dval m)=m:=by
  rcases lead with ⟨h,_,_⟩|h
  ·rw [h];rfl
  exact sH dm m0 h
 have hsign:(if (if zP s then -(dval m:Int) else dval m)<0 then [45] else [])=(if zP s then [45] else ([]:List UInt8)):=by
  by_cases hh:zP s=true
  ·rw [if_pos hh,if_pos hh]
   rcases lead with ⟨_,h,_⟩|h
   ·rw [h] at hh;cases hh
   have:=(aj dm m0 h).1
   rw [if_pos zo]
  rw [if_neg hh,if_neg hh,if_neg zo]
 show (if (if zP s then -(dval m:Int) else dval m)<0 then [45] else [])++(decT (if zP s then -(dval m:Int) else dval m).natAbs++(if D=1 then [] else 47::decT D))=s
 rw [hsign,habs,hm,hDt]
 exact eq.symm
theorem tL (s:List UInt8):wi s↔(spl s).2.2=true∧((spl s).2.1=[]∨Nat.gcd (dval (spl s).1) (dval (spl s).2.1)=1):=by
 constructor
 ·rintro ⟨q,rfl⟩
  rw [rM]
  refine ⟨rfl,?_⟩
  by_cases hq:q.den=1
  ·left;show (if q.den=1 then [] else _)=_;rw [if_pos hq]
  right
  show Nat.gcd (dval (decT _)) (dval (if q.den=1 then [] else _))=1
  rw [if_neg hq,(xW _).2.1,(xW _).2.1]
  exact q.reduced
 rintro ⟨h1,h2⟩
 have hf:=uP (s:=s) (m:=(spl s).1) (d:=(spl s).2.1) (by rw [←h1])
 obtain ⟨q,hq,_⟩:=hf.rat h2
 exact ⟨q,hq⟩
end Go.Proofs.YtdcfbgmbaniglaaGreatDoor
namespace Go.Proofs.YtdcfbgmbaniglaaGreatDoor
open Go Go.GL
variable {q:Rat}{s:List UInt8}{b bt cap j k n0 u n' sz i n M N l:Nat}{c cs args:List Value}{e ty ty':TypeId}{v x1 x10 x2 x3 x4 x5 x6 x7 x8 x9 z:Value}{a aq:Option Addr}{ik:IntKind}{y:Operand}{h0 h':HF}{fn:Func}{α:Type}{xs ys:List Rat}{bf:Int}
theorem jW {p:Rat}(h:ratT p=ratT q):p=q:=by
 have h1:=rM p
 have h2:=rM q
 rw [h,h2] at h1
 have e1:decT q.num.natAbs=decT p.num.natAbs:=congrArg Prod.fst h1
 have e2:(if q.den=1 then [] else decT q.den)=(if p.den=1 then [] else decT p.den):=congrArg (fun x=>x.2.1) h1
 have m1:=(si p).1
 have m2:=(si q).1
 rw [h,m2] at m1
 have a1:=gj e1
 have hs:q.num<0↔p.num<0:=decide_eq_decide.1 m1
 refine Rat.ext zo ?_
 have n1:=(xW p.den).2.2
 have n2:=(xW q.den).2.2
 split at e2<;>split at e2
 ·omega
 ·exact absurd e2.symm n1
 ·exact absurd e2 n2
 exact (gj e2).symm
noncomputable def zk (s:List UInt8):Rat:=open Classical in if h:wi s then h.choose else 0
theorem xV (h:¬wi s):zk s=0:=by unfold zk;rw [dif_neg h]
theorem pF (h:wi s):ratT (zk s)=s:=by unfold zk;rw [dif_pos h];exact h.choose_spec
theorem tI (h:ratT q=s):zk s=q:=jW ((pF ⟨q,h⟩).trans h.symm)
section
end
section
variable {off:Nat}
structure At (h:HF)(b o:Nat)(c:List Value):Prop where
 ex:∃x cs,h b=some x∧x.cells=some cs∧o+c.length≤cs.length∧(cs.drop o).take c.length=c
theorem At.ext {h h':HF}{n o:Nat}(a:At h b o c)(x:Ext n h h')(hb:b<3*n):At h' b o c:=by
 obtain ⟨y,cs,h1,h2,h3,h4⟩:=a.ex
 exact ⟨y,cs,(x b hb).trans h1,h2,h3,h4⟩
theorem At.ld {h:HF}{o:Nat}{c':List Value}{sz:Nat}(a:At h b o c)(k:Nat)(ha:GL.isAgg env ty=some true)(hi:env.inf ty=some (sz,bt,z))(hl:k+sz≤c.length)(hc:(c.drop k).take sz=c'):yd env ty h ⟨b,o+k,none⟩=some (.agg c'.toArray):=by
 obtain ⟨y,cs,h1,h2,h3,h4⟩:=a.ex
 refine yo ⟨ha,hi⟩ h1 h2 zo ?_
 rw [←hc,←h4,List.drop_take,List.take_take,List.drop_drop]
 congr 1
 omega
theorem At.ld1 {h:HF}{o:Nat}(a:At h b o c)(k:Nat)(ha:GL.isAgg env ty=some false)(hc:c[k]?=some v):yd env ty h ⟨b,o+k,none⟩=some v:=by
 obtain ⟨y,cs,h1,h2,h3,h4⟩:=a.ex
 exact zU ha h1 ⟨h2,(sO h4 hc)⟩
inductive Rec {D:Type} (sz:Nat) (P:List Value→D→Prop):List Value→List D→Prop
 |nil:Rec sz P [] []
 |cons {c cs:List Value} {d:D} {ds:List D} (hl:c.length=sz) (hp:P c d) (hr:Rec sz P cs ds):Rec sz P (c++cs) (d::ds)
section
variable {D:Type}{sz:Nat}{P P':List Value→D→Prop}
theorem Rec.len {ds:List D}(r:Rec sz P cs ds):cs.length=ds.length*sz:=by
 induction r with
 |nil=>simp
 |cons hl hp hr ih=>rw [List.length_append,ih,hl,List.length_cons,Nat.succ_mul];omega
theorem Rec.mono {ds:List D}(r:Rec sz P cs ds)(hP:∀c d,P c d→P' c d):Rec sz P' cs ds:=by
 induction r with
 |nil=>exact .nil
 |cons hl hp hr ih=>exact .cons hl (hP _ _ hp) ih
theorem Rec.snoc {ds:List D}{d:D}(r:Rec sz P cs ds)(hl:c.length=sz)(hp:P c d):Rec sz P (cs++c) (ds++[d]):=by
 induction r with
 |nil=>
  have:=Rec.cons hl hp (Rec.nil (P:=P) (sz:=sz))
  rw [List.append_nil] at this
  exact this
 |cons hl2 hp2 hr ih=>rw [List.append_assoc];exact .cons hl2 hp2 ih
theorem Rec.get {ds:List D}{d:D}(r:Rec sz P cs ds):∀{j:Nat},ds[j]?=some d→∃c,c.length=sz∧P c d∧(cs.drop (j*sz)).take sz=c∧j*sz+sz≤cs.length:=by
 induction r with
 |nil=>intro j hj;simp at hj
 | @cons c cs d2 ds hl hp hr ih=>
  intro j hj
  cases j with
  |zero=>
   simp at hj
   subst hj
   refine ⟨c,hl,hp,?_,by rw [List.length_append];omega⟩
   rw [Nat.zero_mul,List.drop_zero,←hl,List.take_left]
  |succ j=>
   rw [List.getElem?_cons_succ] at hj
   obtain ⟨c2,h1,h2,h3,h4⟩:=ih hj
   refine ⟨c2,h1,h2,?_,by rw [List.length_append,Nat.succ_mul];omega⟩
   rw [←h3,List.drop_append,List.drop_eq_nil_of_le (by rw [hl,Nat.succ_mul];omega),List.nil_append,Nat.succ_mul,hl,Nat.add_sub_cancel]
end
def RS {D:Type}(sz:Nat)(P:List Value→D→HF→Nat→Prop)(h:HF)(n:Nat)(v:Value)(l:List D):Prop:=∃cells,Sl h n sz v cells∧Rec sz (fun c d=>P c d h n) cells l
structure Stay {D:Type}(P:List Value→D→HF→Nat→Prop):Prop where
 go:∀c d h h' n n',P c d h n→Ext n h h'→n≤n'→P c d h' n'
section
variable {D:Type}{sz:Nat}{P:List Value→D→HF→Nat→Prop}{h h':HF}{n n':Nat}
theorem RS.ext' (hP:Stay P){l:List D}(r:RS sz P h n v l)(x:Ext n h h')(hn:n≤n'):RS sz P h' n' v l:=by
 obtain ⟨cells,h1,h2⟩:=r
 exact ⟨cells,h1.ext x hn,h2.mono fun c d hp=>hP.go c d _ _ _ _ hp x hn⟩
theorem RS.len' (hsz:0<sz){len:Nat}{l:List D}(r:RS sz P h n (.slice a len cap) l):len=l.length:=by
 obtain ⟨cells,h1,h2⟩:=r
 obtain ⟨a',l',c',e,hl⟩:=h1.len
 injection e with e1 e2 e3
 subst e2
 rw [h2.len] at hl
 exact (Nat.eq_of_mul_eq_mul_right hsz hl).symm
theorem RS.at' (hsz:0<sz){len:Nat}{l:List D}{d:D}(r:RS sz P h n (.slice a len cap) l)(hj:l[j]?=some d):∃b off c,a=some ⟨b,off,none⟩∧b<3*n∧j<len∧At h b (off+j*sz) c∧c.length=sz∧P c d h n:=by
 have hlen:=r.len' hsz
 obtain ⟨cells,h1,h2⟩:=r
 have hjl:=(List.getElem?_eq_some_iff.1 hj).1
 obtain ⟨b,off,x,cs,rfl,hb,hx,hc,hcap,hle,he⟩:=h1.inv zo
 obtain ⟨c,e1,e2,e3,e4⟩:=h2.get hj
 refine ⟨b,off,c,rfl,hb,zo,⟨x,cs,hx,hc,?_,?_⟩,e1,e2⟩
 ·have:=h2.len
  rw [←hlen] at this
  omega
 rw [e1,←e3,←he,List.drop_take,List.take_take,List.drop_drop]
 have:=h2.len
 rw [←hlen] at this
 congr 1
 omega
end
theorem wm {h:HF}{n:Nat}{len:Nat}{S:List (List UInt8)}(r:Sl h n 1 (.slice a len cap) (strs S))(hj:S[j]?=some s):∃b off,a=some ⟨b,off,none⟩∧b<3*n∧j<len∧At h b (off+j*1) [.string ⟨⟨s⟩⟩]:=by
 have hjl:=(List.getElem?_eq_some_iff.1 hj).1
 have hlen:=wz r
 obtain ⟨b,off,x,cs,rfl,hb,hx,hc,hcap,hle,he⟩:=r.inv zo
 refine ⟨b,off,rfl,hb,zo,⟨x,cs,hx,hc,by show off+j*1+1≤_;omega,?_⟩⟩
 show (cs.drop (off+j*1)).take 1=_
 have h1:(strs S)[j]?=some (.string ⟨⟨s⟩⟩):=by rw [strs,List.getElem?_map,hj];rfl
 have h2:=sO he h1
 rw [Nat.mul_one]
 have h3:off+j<cs.length:=zo
 rw [List.drop_eq_getElem_cons h3]
 rw [List.getElem?_eq_getElem h3] at h2
 injection h2 with h2
 rw [h2]
 rfl
def ratP (c:List Value)(q:Rat)(h:HF)(n:Nat):Prop:=∃b a l k d e f g,c=[.bool b,.slice a l k,.bool d,.slice e f g]∧IW h n b a l k q.num∧IW h n d e f g (denZ q)
theorem ratP.stay:Stay ratP:=⟨fun _ _ _ _ _ _ ⟨b,a,l,k,d,e,f,g,e1,i,j⟩ x hn=>⟨b,a,l,k,d,e,f,g,e1,i.ext x hn,j.ext x hn⟩⟩
def numP (c:List Value)(q:Rat)(h:HF)(n:Nat):Prop:=∃b a l k d e f g,c=[.bool b,.slice a l k,.bool d,.slice e f g]∧UI h n b a l k q.num∧UI h n d e f g (denZ q)
theorem numP.stay:Stay numP:=⟨fun _ _ _ _ _ _ ⟨b,a,l,k,d,e,f,g,e1,i,j⟩ x hn=>⟨b,a,l,k,d,e,f,g,e1,i.ext x hn,j.ext x hn⟩⟩
def QS (h:HF)(n:Nat)(v:Value)(l:List Rat):Prop:=RS 4 ratP h n v l
def NS (h:HF)(n:Nat)(v:Value)(l:List Rat):Prop:=RS 4 numP h n v l
section
variable {h h':HF}{n n':Nat}
theorem QS.ext {l:List Rat}(r:QS h n v l)(x:Ext n h h')(hn:n≤n'):QS h' n' v l:=RS.ext' ratP.stay r x hn
theorem NS.ext {l:List Rat}(r:NS h n v l)(x:Ext n h h')(hn:n≤n'):NS h' n' v l:=RS.ext' numP.stay r x hn
theorem QS.len {len:Nat}{l:List Rat}(r:QS h n (.slice a len cap) l):len=l.length:=RS.len' zd r
theorem NS.len {len:Nat}{l:List Rat}(r:NS h n (.slice a len cap) l):len=l.length:=RS.len' zd r
theorem QS.at {len:Nat}{l:List Rat}(r:QS h n (.slice a len cap) l)(hj:l[j]?=some q):∃bb off b a2 l2 k d e f g,a=some ⟨bb,off,none⟩∧bb<3*n∧j<len∧At h bb (off+j*4) [.bool b,.slice a2 l2 k,.bool d,.slice e f g]∧IW h n b a2 l2 k q.num∧IW h n d e f g (denZ q):=by
 obtain ⟨bb,off,c,h1,h2,h3,h4,_,b,a2,l2,k,d,e,f,g,rfl,i,j⟩:=RS.at' zd r hj
 exact ⟨bb,off,b,a2,l2,k,d,e,f,g,h1,h2,h3,h4,i,j⟩
theorem NS.at {len:Nat}{l:List Rat}(r:NS h n (.slice a len cap) l)(hj:l[j]?=some q):∃bb off b a2 l2 k d e f g,a=some ⟨bb,off,none⟩∧bb<3*n∧j<len∧At h bb (off+j*4) [.bool b,.slice a2 l2 k,.bool d,.slice e f g]∧UI h n b a2 l2 k q.num∧UI h n d e f g (denZ q):=by
 obtain ⟨bb,off,c,h1,h2,h3,h4,_,b,a2,l2,k,d,e,f,g,rfl,i,j⟩:=RS.at' zd r hj
 exact ⟨bb,off,b,a2,l2,k,d,e,f,g,h1,h2,h3,h4,i,j⟩
end
section
variable {X:CtxF}{ops r:List Oper}{t:TF}{h:HF}{n:Nat}{w:List Nat}{Q:SV→Prop}{o:Oper}{d:Tmp}
theorem zdf {x i:Operand}{len sz:Nat}(hw:zh ops t o=true∧o.dst=some d∧zn X.nt (some d)=true∧o.op=.indexAddr ty x i∧X.E.und ty=some (.slice e)∧X.E.inf e=some (sz,bt,z)∧evF t x=.slice aq len cap∧evF t i=.int ik (j:Int)∧aq=some ⟨b,off,none⟩)(hr:j<len)(k:EO X ops r ⟨upd t d (.pointer (some ⟨b,off+j*sz,none⟩)),h,n,w⟩ Q):EO X ops (o::r) ⟨t,h,n,w⟩ Q:=by
 obtain ⟨hw,hd,hn,ho,hu,hi,hx,hj,ha⟩:=hw
 subst ha
 exact pt ⟨hw,hd,hn,ho,hu,hi,hx,hj⟩ zo k
end
section
variable {X:CtxF}{ops r:List Oper}{ms:List Nat}{i m:Nat}{t:TF}{h:HF}{n:Nat}{w:List Nat}{al ld:List (Nat×Nat)}{ef:List (Nat×HF×List Nat)}{Q:SV→Prop}{o:Oper}{d:Tmp}
theorem zdg {x:Operand}{len sz:Nat}(hw:zh ops t o=true)(hd:o.dst=some d)(hn:zn X.nt (some d)=true)(ho:o.op=.indexAddr ty x y)(hu:X.E.und ty=some (.slice e))(hi:X.E.inf e=some (sz,bt,z))
  (hx:evF t x=.slice aq len cap)(hj:evF t y=.int ik (j:Int))(ha:aq=some ⟨b,off,none⟩)(hr:j<len)(k:ED X ops r ms (i+1) ⟨⟨upd t d (.pointer (some ⟨b,off+j*sz,none⟩)),h,n,w⟩,al,ld,ef⟩ Q):ED X ops (o::r) (m::ms) i ⟨⟨t,h,n,w⟩,al,ld,ef⟩ Q:=by
 subst ha
 refine yG hw hd hn (by rw [ho];rfl) ?_ k
 have h1:(0:Int)≤(j:Int)∧(j:Int)<(len:Int):=zo
 rw [ho]
 show yB X.E ty (evF t x) (evF t y)=_
 rw [hx,hj]
 simp only [yB,hu,hi,if_pos h1,wF,Int.toNat_natCast]
end
theorem QS.x {h h':HF}{n n':Nat}{l:List Rat}(r:QS h n v l)(t:Tx n h n' h'):QS h' n' v l:=r.ext t.2 t.1
theorem NS.x {h h':HF}{n n':Nat}{l:List Rat}(r:NS h n v l)(t:Tx n h n' h'):NS h' n' v l:=r.ext t.2 t.1
theorem At.x {h h':HF}{n n' o:Nat}(a:At h b o c)(t:Tx n h n' h')(hb:b<3*n):At h' b o c:=a.ext t.2 hb
theorem At.lG {h:HF}{o sz:Nat}{r:List Value}(L:List Value)(a:At h b o c)(ha:GL.isAgg env ty=some true)(hi:env.inf ty=some (sz,bt,z))(hc:c.drop k=L++r)(hl:L.length=sz)(h1:0<L.length:=by exact Nat.succ_pos _):yd env ty h ⟨b,o+k,none⟩=some (.agg L.toArray):=by
 have h2:=congrArg List.length hc
 rw [List.length_drop,List.length_append] at h2
 exact a.ld k ha hi zo (c':=L) (by rw [hc,←hl,List.take_left])
theorem At.l1 {h:HF}{o:Nat}{r:List Value}(a:At h b o c)(ha:GL.isAgg env ty=some true)(hi:env.inf ty=some (1,bt,z))(hc:c.drop k=x1::r):yd env ty h ⟨b,o+k,none⟩=some (.agg #[x1]):=a.lG [x1] ha hi hc rfl
theorem At.l2 {h:HF}{o:Nat}{r:List Value}(a:At h b o c)(ha:GL.isAgg env ty=some true)(hi:env.inf ty=some (2,bt,z))(hc:c.drop k=x1::x2::r):yd env ty h ⟨b,o+k,none⟩=some (.agg #[x1,x2]):=a.lG [x1,x2] ha hi hc rfl
theorem At.l3 {h:HF}{o:Nat}{r:List Value}(a:At h b o c)(ha:GL.isAgg env ty=some true)(hi:env.inf ty=some (3,bt,z))(hc:c.drop k=x1::x2::x3::r):yd env ty h ⟨b,o+k,none⟩=some (.agg #[x1,x2,x3]):=a.lG [x1,x2,x3] ha hi hc rfl
theorem At.l4 {h:HF}{o:Nat}{r:List Value}(a:At h b o c)(ha:GL.isAgg env ty=some true)(hi:env.inf ty=some (4,bt,z))(hc:c.drop k=x1::x2::x3::x4::r):yd env ty h ⟨b,o+k,none⟩=some (.agg #[x1,x2,x3,x4]):=a.lG [x1,x2,x3,x4] ha hi hc rfl
theorem At.l5 {h:HF}{o:Nat}{r:List Value}(a:At h b o c)(ha:GL.isAgg env ty=some true)(hi:env.inf ty=some (5,bt,z))(hc:c.drop k=x1::x2::x3::x4::x5::r):yd env ty h ⟨b,o+k,none⟩=some (.agg #[x1,x2,x3,x4,x5]):=a.lG [x1,x2,x3,x4,x5] ha hi hc rfl
theorem At.l10 {h:HF}{o:Nat}{r:List Value}(a:At h b o c)(ha:GL.isAgg env ty=some true)(hi:env.inf ty=some (10,bt,z))(hc:c.drop k=x1::x2::x3::x4::x5::x6::x7::x8::x9::x10::r):yd env ty h ⟨b,o+k,none⟩=some (.agg #[x1,x2,x3,x4,x5,x6,x7,x8,x9,x10]):=a.lG [x1,x2,x3,x4,x5,x6,x7,x8,x9,x10] ha hi hc rfl
theorem At.l11 {h:HF}{o:Nat}{x11:Value}{r:List Value}(a:At h b o c)(ha:GL.isAgg env ty=some true)(hi:env.inf ty=some (11,bt,z))(hc:c.drop k=x1::x2::x3::x4::x5::x6::x7::x8::x9::x10::x11::r):yd env ty h ⟨b,o+k,none⟩=some (.agg #[x1,x2,x3,x4,x5,x6,x7,x8,x9,x10,x11]):=a.lG [x1,x2,x3,x4,x5,x6,x7,x8,x9,x10,x11] ha hi hc rfl
section
variable {X:CtxF}{ops r:List Oper}{t:TF}{h:HF}{n:Nat}{w:List Nat}{Q:SV→Prop}{o:Oper}{d:Tmp}
theorem sI {x0 i0:Operand}{len sz:Nat}(ha:aq=some ⟨b,off,none⟩)(hr:j<len)(k:EO X ops r ⟨upd t d (.pointer (some ⟨b,off+j*sz,none⟩)),h,n,w⟩ Q)(hw:zh ops t o=true:=by exact rfl)(hd:o.dst=some d:=by exact rfl)(hn:zn X.nt (some d)=true:=by exact rfl)(ho:o.op=.indexAddr ty x0 i0:=by exact rfl)(hu:X.E.und ty=some (.slice e):=by exact rfl)(hi:X.E.inf e=some (sz,bt,z):=by exact rfl)(hx:evF t x0=.slice aq len cap:=by exact rfl)(hj:evF t i0=.int ik (j:Int):=by exact rfl):EO X ops (o::r) ⟨t,h,n,w⟩ Q:=zdf ⟨hw,hd,hn,ho,hu,hi,hx,hj,ha⟩ hr k
theorem sL {x0:Operand}{o0:Nat}(a:At h0 b o0 c)(hb:b<3*n0)(k0:Nat)(k:EO X ops r ⟨upd t d v,h,n,w⟩ Q)(hw:zh ops t o=true:=by exact rfl)(hd:o.dst=some d:=by exact rfl)(hn:zn X.nt (some d)=true:=by exact rfl)(ho:o.op=.load ty x0:=by exact rfl)(hx:evF t x0=.pointer (some ⟨b,o0+k0,none⟩):=by exact rfl)(tx:Tx n0 h0 n h:=by exact zx)(hv:At h b o0 c→yd X.E ty h ⟨b,o0+k0,none⟩=some v:=by intro a;first|exact a.ld1 _ rfl rfl|exact a.l1 rfl rfl rfl|exact a.l2 rfl rfl rfl|exact a.l3 rfl rfl rfl|exact a.l4 rfl rfl rfl|exact a.l5 rfl rfl rfl|exact a.l10 rfl rfl rfl|exact a.l11 rfl rfl rfl):EO X ops (o::r) ⟨t,h,n,w⟩ Q:=zV ⟨hw,hd,hn,ho,hx⟩ (hv (a.x tx hb)) k
end
section
variable {X:CtxF}{ops r:List Oper}{ms:List Nat}{i m:Nat}{t:TF}{h:HF}{n:Nat}{w:List Nat}{al ld:List (Nat×Nat)}{ef:List (Nat×HF×List Nat)}{Q:SV→Prop}{o:Oper}{d:Tmp}
theorem dI {x0 i0:Operand}{len sz:Nat}(ha:aq=some ⟨b,off,none⟩)(hr:j<len)(k:ED X ops r ms (i+1) ⟨⟨upd t d (.pointer (some ⟨b,off+j*sz,none⟩)),h,n,w⟩,al,ld,ef⟩ Q)(hw:zh ops t o=true:=by exact rfl)(hd:o.dst=some d:=by exact rfl)(hn:zn X.nt (some d)=true:=by exact rfl)(ho:o.op=.indexAddr ty x0 i0:=by exact rfl)(hu:X.E.und ty=some (.slice e):=by exact rfl)(hi:X.E.inf e=some (sz,bt,z):=by exact rfl)(hx:evF t x0=.slice aq len cap:=by exact rfl)(hj:evF t i0=.int ik (j:Int):=by exact rfl):ED X ops (o::r) (m::ms) i ⟨⟨t,h,n,w⟩,al,ld,ef⟩ Q:=zdg hw hd hn ho hu hi hx hj ha hr k
theorem dL {x0:Operand}{n3 o0:Nat}(a:At h0 b o0 c)(hb:b<3*n0)(k0:Nat)(k:ED X ops r ms (i+1) ⟨⟨upd t d v,h,n,w⟩,al,(i,b)::ld,ef⟩ Q)(hw:zh ops t o=true:=by exact rfl)(hd:o.dst=some d:=by exact rfl)(hn:zn X.nt (some d)=true:=by exact rfl)(ho:o.op=.load ty x0:=by exact rfl)(hx:evF t x0=.pointer (some ⟨b,o0+k0,none⟩):=by exact rfl){g:HF}(hr:xK m ef i h=(u,g):=by exact rfl)(tx:Tx n0 h0 n3 g:=by exact zx)(hv:At g b o0 c→yd X.E ty g ⟨b,o0+k0,none⟩=some v:=by intro a;first|exact a.ld1 _ rfl rfl|exact a.l1 rfl rfl rfl|exact a.l2 rfl rfl rfl|exact a.l3 rfl rfl rfl|exact a.l4 rfl rfl rfl|exact a.l5 rfl rfl rfl|exact a.l10 rfl rfl rfl|exact a.l11 rfl rfl rfl)(h1:xp u b ef=true:=by exact rfl)(h2:uE m b al=true:=by exact rfl):ED X ops (o::r) (m::ms) i ⟨⟨t,h,n,w⟩,al,ld,ef⟩ Q:=z9 ⟨hw,hd,hn,ho,hx,hr⟩ (hv (a.x tx hb)) ⟨h1,h2⟩ k
end
end
section
variable {x:Operand}
section
variable {X:CtxF}{ops r:List Oper}{t:TF}{h:HF}{n:Nat}{w:List Nat}{Q:SV→Prop}{o:Oper}{d:Tmp}
theorem vu {a b:List UInt8}(c:Bool)(hw:zh ops t o=true∧o.dst=some d∧zn X.nt (some d)=true∧o.op=.binOp .eql ty x y ty'∧evF t x=.string ⟨⟨a⟩⟩∧evF t y=.string ⟨⟨b⟩⟩)(hr:(a==b)=c)
  (k:EO X ops r ⟨upd t d (.bool c),h,n,w⟩ Q):EO X ops (o::r) ⟨t,h,n,w⟩ Q:=by
 obtain ⟨hw,hd,hn,ho,hx,hy⟩:=hw
 refine zI ⟨hw,hd,hn,(by rw [ho];rfl)⟩ ?_ k
 rw [ho]
 show binE X.E .eql ty (evF t x) (evF t y)=_
 rw [hx,hy,←hr]
 rfl
theorem zex {a b:List UInt8}(c:Bool)(hw:zh ops t o=true)(hd:o.dst=some d)(hn:zn X.nt (some d)=true)(ho:o.op=.binOp .neq ty x y ty')(hx:evF t x=.string ⟨⟨a⟩⟩)(hy:evF t y=.string ⟨⟨b⟩⟩)(hr:(!(a==b))=c)
  (k:EO X ops r ⟨upd t d (.bool c),h,n,w⟩ Q):EO X ops (o::r) ⟨t,h,n,w⟩ Q:=by
 refine zI ⟨hw,hd,hn,(by rw [ho];rfl)⟩ ?_ k
 rw [ho]
 show binE X.E .neq ty (evF t x) (evF t y)=_
 rw [hx,hy,←hr]
 rfl
end
def VX (C:CalF)(f:FuncId)(args:List Value)(h:HF)(n:Nat)(P:Value→Prop):Prop:=CF C f args h n fun v h' n' w=>w=[]∧n≤n'∧Ext n h h'∧P v
theorem yy {P:Value→Prop}{e:Ex}{t:TF}{h:HF}{n:Nat}{a a2:Tmp}{e1:TypeId}(u:Value)(he:su e=true∧fn.results.toList=[.cell a ty,.tmp a2]∧t a=.pointer (some ⟨b,0,none⟩)∧t a2=u∧GL.isAgg env ty=some true∧env.inf ty=some (sz,bt,z))(hb:h' b=some (.row cs e1))(hl:cs.length=sz)(hn:n≤n')(hx:Ext n h h')(hp:P (.tuple #[.agg cs.toArray,u])):RetH fn (fun v h' n' w=>w=[]∧n≤n'∧Ext n h h'∧P v) e ⟨t,h',n',[]⟩:=by
 obtain ⟨he,hr,ha,ha2,hg,hi⟩:=he
 refine retH [.agg cs.toArray,u] ⟨he,?_,rfl⟩ ⟨rfl,hn,hx,hp⟩
 rw [hr]
 have l1:=yo ⟨hg,hi⟩ hb rfl (show 0+sz≤cs.length by omega) (show (cs.drop 0).take sz=cs by rw [List.drop_zero,List.take_of_length_le zo])
 simp only [resF,ha,ha2,l1]
theorem mE (k:Nat)(h:HF)(n:Nat)(s:List UInt8):VF (cal (k+1)) 88 [.string ⟨⟨s⟩⟩,.string ⟨⟨[45]⟩⟩] h n fun v=>v=.bool (zP s):=by
 refine zB (fn:=Tryz.f88) R4 ?_
 refine zN ?_
 repeat refine zR ?_
 refine zN ?_
 cases s with
 |nil=>
  refine zM ?_
  refine st_I (ik:=.i64) (a:=0) R5 ?_
  refine zM ?_
  refine st_I (ik:=.i64) (a:=1) R5 ?_
  repeat refine zR ?_
  refine zN ?_
  exact retF _ rfl (zi rfl) R2 rfl
 |cons x s=>
  refine zM ?_
  refine st_I (ik:=.i64) (a:=((x::s).length:Int)) R5 ?_
  refine zM ?_
  refine st_I (ik:=.i64) (a:=1) R5 ?_
  refine nE R6 (by rw [List.length_cons];omega) ?_
  refine zM ?_
  refine zM ?_
  refine zM ?_
  refine st_I (ik:=.i64) (a:=1) R5 ?_
  refine tC (s:=x::s) (j:=1) R8 (by simp) ?_
  refine zM ?_
  refine vu (a:=[x]) (b:=[45]) (x==45) R6 (by simp) ?_
  repeat refine zR ?_
  refine zN ?_
  exact retF _ rfl (zi rfl) R2 (by show Value.bool _=Value.bool _;simp [zP])
theorem mq (h:zP s=true):1≤s.length:=by
 unfold zP at h
 cases s with
 |nil=>simp at h
 |cons=>simp
theorem fZ (k:Nat)(h:HF)(n:Nat)(s:List UInt8):VF (cal (k+2)) 120 [.string ⟨⟨s⟩⟩,.string ⟨⟨[45]⟩⟩] h n fun v=>v=.tuple #[.string ⟨⟨yw s⟩⟩,.bool (zP s)]:=by
 refine zB (fn:=Tryz.f120) R4 ?_
 refine zN ?_
 repeat refine zR ?_
 refine zN ?_
 refine zM ?_
 refine zM ?_
 refine ya _ R5 (mE k h n s) ?_
 rintro _ rfl
 by_cases hm:zP s=true
 ·rw [hm]
  repeat refine zR ?_
  refine zN ?_
  rw [za rfl]
  refine zN ?_
  refine zM ?_
  refine zM ?_
  refine st_I (ik:=.i64) (a:=1) R5 ?_
  refine vt (s:=s) (j:=1) R8 (mq hm) ?_
  repeat refine zR ?_
  refine zN ?_
  refine retF [.string ⟨⟨s.drop 1⟩⟩,.bool true] rfl rfl R2 ?_
  unfold yw
  rw [if_pos hm]
  rfl
 rw [Bool.eq_false_iff.2 hm]
 repeat refine zR ?_
 refine zN ?_
 rw [ze rfl]
 refine zN ?_
 repeat refine zR ?_
 refine zN ?_
 refine retF [.string ⟨⟨s⟩⟩,.bool false] rfl rfl R2 ?_
 unfold yw
 rw [if_neg hm]
 rfl
theorem aD (k:Nat)(h:HF)(n:Nat)(s:List UInt8):VF (cal (k+3)) 85 [.string ⟨⟨s⟩⟩,.string ⟨⟨[45]⟩⟩] h n fun v=>v=.tuple #[.string ⟨⟨yw s⟩⟩,.bool (zP s)]:=by
 refine zB (fn:=Tryz.f85) R4 ?_
 refine zN ?_
 repeat refine zR ?_
 refine zN ?_
 refine zM ?_
 refine zM ?_
 refine ya _ R5 (fZ k h n s) ?_
 rintro _ rfl
 repeat refine zR ?_
 refine zN ?_
 exact retF [.string ⟨⟨yw s⟩⟩,.bool (zP s)] rfl rfl R2 rfl
theorem av (s:List UInt8):∃T D,s.takeWhile dig=T∧s.dropWhile dig=D∧s=T++D∧(∀b∈T,dig b=true)∧(D=[]∨∃x D',D=x::D'∧dig x=false):=by
 refine ⟨_,_,rfl,rfl,List.takeWhile_append_dropWhile.symm,vp,?_⟩
 cases hd:s.dropWhile dig with
 |nil=>exact .inl rfl
 |cons x D'=>exact .inr ⟨x,D',rfl,by
   have:=List.head?_dropWhile_not dig s
   rw [hd] at this
   simpa using this⟩
theorem rt (k:Nat)(h:HF)(n:Nat)(s:List UInt8)(hs:s.length<1000000):VF (cal (k+1)) 86 [.string ⟨⟨s⟩⟩] h n fun v=>v=.tuple #[.string ⟨⟨s.takeWhile dig⟩⟩,.string ⟨⟨s.dropWhile dig⟩⟩]:=by
 refine zB (fn:=Tryz.f86) R4 ?_
 obtain ⟨T,D,hT,hD,hTD,hall,hnd⟩:=av s
 rw [hT,hD]
 clear hT hD
 have hlen:s.length=T.length+D.length:=by rw [hTD,List.length_append]
 refine zN ?_
 repeat refine zR ?_
 refine zN ?_
 repeat refine zR ?_
 refine zN ?_
 refine z8 (α:=Nat) (fun m=>[(0,.string ⟨⟨s⟩⟩),(4,.int .i64 (m:Int))]) (fun m h' n' w=>h=h'∧n=n'∧w=[]∧m≤T.length) (fun m=>T.length-m) 0 ⟨rfl,rfl,trivial⟩ ⟨rfl,rfl,rfl,Nat.zero_le _⟩ (by show T.length-0<LL;unfold LL;omega) ?_
 rintro m t _ _ _ ⟨rfl,rfl,rfl,hm⟩
 refine zN ?_
 refine zM ?_
 refine zM ?_
 refine st_I (ik:=.i64) (a:=(s.length:Int)) R5 ?_
 have fin:∀t':TF,t' 0=.string ⟨⟨s⟩⟩→m=T.length→True:=fun _ _ _=>trivial
 by_cases hmT:m=T.length
 ·have htake:s.take m=T:=by rw [hTD,hmT,List.take_left' rfl]
  have hdrop:s.drop m=D:=by rw [hTD,hmT,List.drop_left' rfl]
  rcases hnd with rfl|⟨x,D',rfl,hx⟩
  ·rw [List.length_nil] at hlen
   repeat refine zR ?_
   refine zN ?_
   rw [za rfl]
   refine zN ?_
   rw [xF rfl]
   refine zM ?_
   refine zM ?_
   refine tC (s:=s) (j:=m) R8 zo ?_
   refine zM ?_
   refine zM ?_
   refine vt (s:=s) (j:=m) R8 zo ?_
   rw [htake,hdrop]
   repeat refine zR ?_
   refine zN ?_
   exact retF [.string ⟨⟨T⟩⟩,.string ⟨⟨[]⟩⟩] rfl rfl R2 rfl
  rw [List.length_cons] at hlen
  have hb:s[m]?=some x:=by rw [hTD,hmT,List.getElem?_append_right (Nat.le_refl _),Nat.sub_self];rfl
  have hx':¬(48≤x.toNat∧x.toNat≤57):=fun h=>by rw [qJ.2 h] at hx;cases hx
  refine nD R6 zo ?_
  refine zM ?_
  refine zM ?_
  refine zM ?_
  refine yq (j:=m) R8 hb ?_
  by_cases hx1:48≤x.toNat
  ·refine qg R6 zo ?_
   repeat refine zR ?_
   refine yq (j:=m) R8 hb ?_
   repeat refine zR ?_
   refine zN ?_
   rw [za rfl]
   refine zN ?_
   rw [xF rfl]
   refine zM ?_
   refine zM ?_
   refine tC (s:=s) (j:=m) R8 zo ?_
   refine zM ?_
   refine zM ?_
   refine vt (s:=s) (j:=m) R8 zo ?_
   rw [htake,hdrop]
   repeat refine zR ?_
   refine zN ?_
   exact retF [.string ⟨⟨T⟩⟩,.string ⟨⟨x::D'⟩⟩] rfl rfl R2 rfl
  refine pr R6 zo ?_
  repeat refine zR ?_
  refine zN ?_
  rw [za rfl]
  refine zN ?_
  rw [xF rfl]
  refine zM ?_
  refine zM ?_
  refine tC (s:=s) (j:=m) R8 zo ?_
  refine zM ?_
  refine zM ?_
  refine vt (s:=s) (j:=m) R8 zo ?_
  rw [htake,hdrop]
  repeat refine zR ?_
  refine zN ?_
  exact retF [.string ⟨⟨T⟩⟩,.string ⟨⟨x::D'⟩⟩] rfl rfl R2 rfl
 obtain ⟨x,hx⟩:∃x,T[m]?=some x:=⟨T[m]'zo,List.getElem?_eq_getElem zo⟩
 have hb:s[m]?=some x:=by rw [hTD,List.getElem?_append_left zo];exact hx
 have hx1:=qJ.1 (hall x (List.mem_of_getElem? hx))
 refine nD R6 zo ?_
 refine zM ?_
 refine zM ?_
 refine zM ?_
 refine yq (j:=m) R8 hb ?_
 refine qg R6 zo ?_
 repeat refine zR ?_
 refine yq (j:=m) R8 hb ?_
 repeat refine zR ?_
 refine zN ?_
 rw [ze rfl]
 refine zN ?_
 repeat refine zR ?_
 refine zN ?_
 exact goOn (m+1) (by show T.length-(m+1)<T.length-m;omega) ⟨rfl,rfl,trivial⟩ ⟨rfl,rfl,rfl,by show m+1≤_;omega⟩
def spP (mi:Bool)(m r:List UInt8):List UInt8×List UInt8×Bool:=
 if m=[48] then (m,[],!mi&&r.isEmpty)
 else if m=[]∨m.head?=some 48 then (m,[],false)
 else if r=[] then (m,[],true)
 else if r.head?≠some 47 then (m,[],false)
 else (m,(r.drop 1).takeWhile dig,((r.drop 1).dropWhile dig).isEmpty&& !((r.drop 1).takeWhile dig).isEmpty&&((r.drop 1).takeWhile dig).head? != some 48&&(r.drop 1).takeWhile dig != [49])
theorem ze0 (s:List UInt8):spl s=spP (zP s) ((yw s).takeWhile dig) ((yw s).dropWhile dig):=rfl
theorem kI {x:UInt8}{l:List UInt8}{c:UInt8}(h:x.toNat≠c.toNat):(x::l).head?≠some c:=fun e=>h (by
 have:x=c:=by simpa using e
 rw [this])
theorem pZ (k:Nat)(h:HF)(n:Nat)(s:List UInt8)(hs:s.length<1000000):VX (cal (k+4)) 49 [.string ⟨⟨s⟩⟩] h n fun v=>v=.tuple #[.agg #[.bool (zP s),.string ⟨⟨(spl s).1⟩⟩,.string ⟨⟨(spl s).2.1⟩⟩],.bool (spl s).2.2]:=by
 refine zv (fn:=Tryz.f49) R4 ?_
 rw [ze0]
 have hbl:=eG s
 refine zN ?_
 refine yR R5 ?_
 repeat refine zR ?_
 refine zN ?_
 refine yR R5 ?_
 refine zN ?_
 generalize hh:upd (upd h (3*n+2) _) (3*(n+1)+2) _=h1
 have hr2:∃e,h1 (3*n+2)=some (.row [.bool false,.string ⟨⟨[]⟩⟩,.string ⟨⟨[]⟩⟩] e):=⟨_,by rw [←hh,zj zo,zg];rfl⟩
 have hr4:∃e,h1 (3*(n+1)+2)=some (.row [.bool false,.string ⟨⟨[]⟩⟩,.string ⟨⟨[]⟩⟩] e):=⟨_,by rw [←hh,zg];rfl⟩
 obtain ⟨e2,hr2⟩:=hr2
 obtain ⟨e4,hr4⟩:=hr4
 have hx:Ext n h h1:=fun b hb=>by rw [←hh,zj zo,zj zo]
 clear hh
 refine zM ?_
 refine ya _ R5 (aD k h1 (n+1+1) s) ?_
 rintro _ rfl
 generalize yw s=B at hbl ⊢
 generalize zP s=mi
 repeat refine zR ?_
 refine zN ?_
 repeat refine zR ?_
 refine ym (cs:=[.bool mi]) R8 hr4 zb (by show 3*n≤3*(n+1)+2;omega) ?_
 refine zN ?_
 generalize hh:upd h1 (3*(n+1)+2) _=h2
 replace hr2:h2 (3*n+2)=some (.row [.bool false,.string ⟨⟨[]⟩⟩,.string ⟨⟨[]⟩⟩] e2):=by rw [←hh,zj zo];exact hr2
 replace hr4:h2 (3*(n+1)+2)=some (.row [.bool mi,.string ⟨⟨[]⟩⟩,.string ⟨⟨[]⟩⟩] e4):=by rw [←hh,zg];rfl
 replace hx:Ext n h h2:=fun b hb=>by rw [←hh,zj zo,hx b hb]
 clear hh
 refine zM ?_
 refine ya _ R5 (rt (k+2) h2 (n+1+1) B zo) ?_
 rintro _ rfl
 have hRl:(B.dropWhile dig).length≤B.length:=(List.dropWhile_sublist dig).length_le
 generalize B.takeWhile dig=M
 generalize B.dropWhile dig=R at hRl ⊢
 repeat refine zR ?_
 refine ym (cs:=[.string ⟨⟨M⟩⟩]) R8 hr4 zb (by show 3*n≤3*(n+1)+2;omega) ?_
 generalize hh:upd h2 (3*(n+1)+2) _=h3
 replace hr2:h3 (3*n+2)=some (.row [.bool false,.string ⟨⟨[]⟩⟩,.string ⟨⟨[]⟩⟩] e2):=by rw [←hh,zj zo];exact hr2
 replace hr4:h3 (3*(n+1)+2)=some (.row [.bool mi,.string ⟨⟨M⟩⟩,.string ⟨⟨[]⟩⟩] e4):=by rw [←hh,zg];rfl
 replace hx:Ext n h h3:=fun b hb=>by rw [←hh,zj zo,hx b hb]
 clear hh
 repeat refine zR ?_
 refine zN ?_
 repeat refine zR ?_
 refine zO R6 hr4 (v:=.string ⟨⟨M⟩⟩) R2 ?_
 have ldT:yd env 95 h3 ⟨3*(n+1)+2,0,none⟩=some (.agg #[.bool mi,.string ⟨⟨M⟩⟩,.string ⟨⟨[]⟩⟩]):=yo R2 hr4 rfl zb rfl
 by_cases h48:M=[48]
 ·refine vu true R6 (by rw [h48];rfl) ?_
  repeat refine zR ?_
  refine zN ?_
  rw [ze rfl]
  refine zN ?_
  refine zV (v:=.agg #[.bool mi,.string ⟨⟨M⟩⟩,.string ⟨⟨[]⟩⟩]) R5 ldT ?_
  cases mi with
  |true=>
   repeat refine zR ?_
   refine zX [.bool true,.string ⟨⟨M⟩⟩,.string ⟨⟨[]⟩⟩] R8 hr2 rfl (by show 3*n≤3*n+2;omega) ?_
   repeat refine zR ?_
   refine zN ?_
   refine yy (.bool false) R6 (zg _ _ _) rfl zo (fun b hb=>(zj zo).trans (hx b hb)) ?_
   rw [show spP true M R=(M,[],false) from by unfold spP;rw [if_pos h48];rfl]
  |false=>
   cases R with
   |nil=>
    repeat refine zR ?_
    refine zX [.bool false,.string ⟨⟨M⟩⟩,.string ⟨⟨[]⟩⟩] R8 hr2 rfl (by show 3*n≤3*n+2;omega) ?_
    repeat refine zR ?_
    refine zN ?_
    refine yy (.bool true) R6 (zg _ _ _) rfl zo (fun b hb=>(zj zo).trans (hx b hb)) ?_
    rw [show spP false M []=(M,[],true) from by unfold spP;rw [if_pos h48];rfl]
   |cons z R=>
    repeat refine zR ?_
    refine zX [.bool false,.string ⟨⟨M⟩⟩,.string ⟨⟨[]⟩⟩] R8 hr2 rfl (by show 3*n≤3*n+2;omega) ?_
    repeat refine zR ?_
    refine zN ?_
    refine yy (.bool false) R6 (zg _ _ _) rfl zo (fun b hb=>(zj zo).trans (hx b hb)) ?_
    rw [show spP false M (z::R)=(M,[],false) from by unfold spP;rw [if_pos h48];rfl]
 refine vu false R6 (by simpa using h48) ?_
 repeat refine zR ?_
 refine zN ?_
 rw [za rfl]
 refine zN ?_
 repeat refine zR ?_
 refine zO R6 hr4 (v:=.string ⟨⟨M⟩⟩) R2 ?_
 have bad:∀t':TF,spP mi M R=(M,[],false)→True:=fun _ _=>trivial
 cases M with
 |nil=>
  repeat refine zR ?_
  refine zN ?_
  rw [ze rfl]
  refine zN ?_
  refine zV (v:=.agg #[.bool mi,.string ⟨⟨[]⟩⟩,.string ⟨⟨[]⟩⟩]) R5 ldT ?_
  refine zX [.bool mi,.string ⟨⟨[]⟩⟩,.string ⟨⟨[]⟩⟩] R8 hr2 rfl (by show 3*n≤3*n+2;omega) ?_
  repeat refine zR ?_
  refine zN ?_
  refine yy (.bool false) R6 (zg _ _ _) rfl zo (fun b hb=>(zj zo).trans (hx b hb)) ?_
  rw [show spP mi [] R=([],[],false) from by unfold spP;rw [if_neg h48,if_pos (.inl rfl)]]
 |cons y M=>
 repeat refine zR ?_
 refine zO R6 hr4 (v:=.string ⟨⟨y::M⟩⟩) R2 ?_
 refine yq (s:=y::M) (j:=0) R8 rfl ?_
 by_cases hy:y.toNat=48
 ·have hy':y=48:=UInt8.toNat_inj.1 hy
  repeat refine zR ?_
  refine zN ?_
  rw [ze rfl]
  refine zN ?_
  refine zV (v:=.agg #[.bool mi,.string ⟨⟨y::M⟩⟩,.string ⟨⟨[]⟩⟩]) R5 ldT ?_
  refine zX [.bool mi,.string ⟨⟨y::M⟩⟩,.string ⟨⟨[]⟩⟩] R8 hr2 rfl (by show 3*n≤3*n+2;omega) ?_
  repeat refine zR ?_
  refine zN ?_
  refine yy (.bool false) R6 (zg _ _ _) rfl zo (fun b hb=>(zj zo).trans (hx b hb)) ?_
  rw [show spP mi (y::M) R=(y::M,[],false) from by unfold spP;rw [if_neg h48,if_pos (.inr (by rw [hy'];rfl))]]
 have hy2:¬(y::M=[]∨(y::M).head?=some 48):=by
  rintro (h|h)
  ·cases h
  exact kI (c:=48) hy h
 repeat refine zR ?_
 refine zN ?_
 rw [za rfl]
 refine zN ?_
 cases R with
 |nil=>
  repeat refine zR ?_
  refine zN ?_
  rw [ze rfl]
  refine zN ?_
  refine zV (v:=.agg #[.bool mi,.string ⟨⟨y::M⟩⟩,.string ⟨⟨[]⟩⟩]) R5 ldT ?_
  refine zX [.bool mi,.string ⟨⟨y::M⟩⟩,.string ⟨⟨[]⟩⟩] R8 hr2 rfl (by show 3*n≤3*n+2;omega) ?_
  repeat refine zR ?_
  refine zN ?_
  refine yy (.bool true) R6 (zg _ _ _) rfl zo (fun b hb=>(zj zo).trans (hx b hb)) ?_
  rw [show spP mi (y::M) []=(y::M,[],true) from by unfold spP;rw [if_neg h48,if_neg hy2,if_pos rfl]]
 |cons z R=>
 repeat refine zR ?_
 refine zN ?_
 rw [za rfl]
 refine zN ?_
 refine zM ?_
 refine yq (s:=z::R) (j:=0) R8 rfl ?_
 by_cases hz:z.toNat=47
 case neg=>
  repeat refine zR ?_
  refine zN ?_
  rw [ze rfl]
  refine zN ?_
  refine zV (v:=.agg #[.bool mi,.string ⟨⟨y::M⟩⟩,.string ⟨⟨[]⟩⟩]) R5 ldT ?_
  refine zX [.bool mi,.string ⟨⟨y::M⟩⟩,.string ⟨⟨[]⟩⟩] R8 hr2 rfl (by show 3*n≤3*n+2;omega) ?_
  repeat refine zR ?_
  refine zN ?_
  refine yy (.bool false) R6 (zg _ _ _) rfl zo (fun b hb=>(zj zo).trans (hx b hb)) ?_
  rw [show spP mi (y::M) (z::R)=(y::M,[],false) from by unfold spP;rw [if_neg h48,if_neg hy2,if_neg (by simp),if_pos (kI (c:=47) hz)]]
 have hsp:spP mi (y::M) (z::R)=(y::M,R.takeWhile dig,(R.dropWhile dig).isEmpty&& !(R.takeWhile dig).isEmpty&&(R.takeWhile dig).head? != some 48&&R.takeWhile dig != [49]):=by
  have hz':z=47:=UInt8.toNat_inj.1 hz
  unfold spP
  rw [if_neg h48,if_neg hy2,if_neg (by simp),if_neg (by rw [hz'];simp)]
  rfl
 rw [hsp]
 rw [List.length_cons] at hRl
 repeat refine zR ?_
 refine zN ?_
 rw [za rfl]
 refine zN ?_
 refine zM ?_
 refine vt (s:=z::R) (j:=1) R8 (by simp) ?_
 rw [show (z::R).drop 1=R from rfl]
 refine ya _ R5 (rt (k+2) h3 (n+1+1) R zo) ?_
 rintro _ rfl
 generalize R.takeWhile dig=D
 generalize R.dropWhile dig=E
 repeat refine zR ?_
 refine ym (cs:=[.string ⟨⟨D⟩⟩]) R8 hr4 zb (by show 3*n≤3*(n+1)+2;omega) ?_
 generalize hh:upd h3 (3*(n+1)+2) _=h4
 replace hr2:h4 (3*n+2)=some (.row [.bool false,.string ⟨⟨[]⟩⟩,.string ⟨⟨[]⟩⟩] e2):=by rw [←hh,zj zo];exact hr2
 replace hr4:h4 (3*(n+1)+2)=some (.row [.bool mi,.string ⟨⟨y::M⟩⟩,.string ⟨⟨D⟩⟩] e4):=by rw [←hh,zg];rfl
 replace hx:Ext n h h4:=fun b hb=>by rw [←hh,zj zo,hx b hb]
 clear hh ldT
 repeat refine zR ?_
 refine zN ?_
 refine zu [0,0,2,6,14,30,62,126,254,510,1022,2046,4094,8190,16382,32766,65534,131070,262142,32767,1048575] rfl ?_
 refine z9 (v:=.agg #[.bool mi,.string ⟨⟨y::M⟩⟩,.string ⟨⟨D⟩⟩]) R6 (yo R2 hr4 rfl zb rfl) R2 ?_
 cases E with
 |cons x E=>
  repeat (first|refine z9 R6 (zU rfl hr4 R2) R2 ?_|refine zD ?_)
  refine ui (cs:=[.bool mi,.string ⟨⟨y::M⟩⟩,.string ⟨⟨D⟩⟩]) R8 hr2 zb (by show 3*n≤3*n+2;omega) rfl rfl rfl ?_
  repeat refine zD ?_
  refine zN ?_
  exact yy (.bool false) (cs:=[.bool mi,.string ⟨⟨y::M⟩⟩,.string ⟨⟨D⟩⟩]) R6 (zg _ _ _) rfl zo (fun b hb=>(zj zo).trans (hx b hb)) rfl
 |nil=>
 cases D with
 |nil=>
  repeat (first|refine z9 R6 (zU rfl hr4 R2) R2 ?_|refine zD ?_)
  refine ui (cs:=[.bool mi,.string ⟨⟨y::M⟩⟩,.string ⟨⟨[]⟩⟩]) R8 hr2 zb (by show 3*n≤3*n+2;omega) rfl rfl rfl ?_
  repeat refine zD ?_
  refine zN ?_
  exact yy (.bool false) (cs:=[.bool mi,.string ⟨⟨y::M⟩⟩,.string ⟨⟨[]⟩⟩]) R6 (zg _ _ _) rfl zo (fun b hb=>(zj zo).trans (hx b hb)) rfl
 |cons u D=>
 by_cases hu:u.toNat=48
 ·have hu':u=48:=UInt8.toNat_inj.1 hu
  repeat (first|refine z9 R6 (zU rfl hr4 R2) R2 ?_|refine zD ?_)
  refine ui (cs:=[.bool mi,.string ⟨⟨y::M⟩⟩,.string ⟨⟨u::D⟩⟩]) R8 hr2 zb (by show 3*n≤3*n+2;omega) rfl rfl rfl ?_
  repeat refine zD ?_
  refine zN ?_
  refine yy (.bool false) (cs:=[.bool mi,.string ⟨⟨y::M⟩⟩,.string ⟨⟨u::D⟩⟩]) R6 (zg _ _ _) rfl zo (fun b hb=>(zj zo).trans (hx b hb)) ?_
  rw [hu'];rfl
 have hu':((u::D).head? != some 48)=true:=by
  have:=kI (l:=D) (c:=48) hu
  simpa using this
 repeat (first|refine z9 R6 (zU rfl hr4 R2) R2 ?_|refine zD ?_)
 refine ui (cs:=[.bool mi,.string ⟨⟨y::M⟩⟩,.string ⟨⟨u::D⟩⟩]) R8 hr2 zb (by show 3*n≤3*n+2;omega) rfl rfl (kq (by intro x hx;simp at hx;rcases hx with rfl|rfl|rfl|rfl<;>show 3*(n+1)+2≠3*n+2<;>omega)) ?_
 repeat refine zD ?_
 refine zN ?_
 refine yy (.bool (u::D != [49])) (cs:=[.bool mi,.string ⟨⟨y::M⟩⟩,.string ⟨⟨u::D⟩⟩]) R6 (zg _ _ _) rfl zo (fun b hb=>(zj zo).trans (hx b hb)) ?_
 rw [hu'];rfl
end
def dotR:List Rat→List Rat→Rat
 |x::xs,y::ys=>x*y+dotR xs ys
 |_,_=>0
theorem oQ (ys:List Rat):dotR [] ys=0:=by cases ys<;>rfl
theorem mO:∀{xs ys:List Rat} {x y:Rat},xs.length=ys.length→dotR (xs++[x]) (ys++[y])=dotR xs ys+x*y:=by
 intro xs
 induction xs with
 |nil=>
  intro ys x y h
  cases ys with
  |nil=>show x*y+0=0+x*y;rw [Rat.add_zero,Rat.zero_add]
  |cons _ _=>cases h
 |cons a xs ih=>
  intro ys x y h
  cases ys with
  |nil=>cases h
  |cons b ys=>
   show a*b+dotR (xs++[x]) (ys++[y])=a*b+dotR xs ys+x*y
   rw [ih (by simpa using h),Rat.add_assoc]
theorem yV {l:List α}{d:α}(h:l[j]?=some d):l.take (j+1)=l.take j++[d]:=by
 rw [List.take_add_one,h];rfl
theorem wD {x y:Rat}(hx:xs[j]?=some x)(hy:ys[j]?=some y):dotR (xs.take (j+1)) (ys.take (j+1))=dotR (xs.take j) (ys.take j)+x*y:=by
 rw [yV hx,yV hy]
 have h1:=(List.getElem?_eq_some_iff.1 hx).1
 have h2:=(List.getElem?_eq_some_iff.1 hy).1
 exact mO (by rw [List.length_take,List.length_take];omega)
theorem ai {a:Nat}(hx:∀q∈xs,Sz a q)(hy:∀q∈ys,Sz b q):∀j,j≤xs.length→j≤ys.length→Sz (1+j*(a+b+1)) (dotR (xs.take j) (ys.take j)):=by
 intro j
 induction j with
 |zero=>intro _ _;rw [List.take_zero,oQ];exact Sz.zero _ zo
 |succ j ih=>
  intro h1 h2
  have e1:=List.getElem?_eq_getElem (l:=xs) (i:=j) zo
  have e2:=List.getElem?_eq_getElem (l:=ys) (i:=j) zo
  rw [wD e1 e2]
  refine ((ih zo zo).add ((hx _ (List.mem_of_getElem? e1)).mul (hy _ (List.mem_of_getElem? e2)))).mono ?_
  rw [Nat.succ_mul];omega
theorem zg6 (k:Nat)(h:HF)(n:Nat)(s:List UInt8)(hs:s.length<1000000):CX (cal (k+4)) 49 [.string ⟨⟨s⟩⟩] h n fun v _ _=>∃neg m d ok,v=.tuple #[.agg #[.bool neg,.string ⟨⟨m⟩⟩,.string ⟨⟨d⟩⟩],.bool ok]∧neg=zP s∧spl s=(m,d,ok):=by
 refine xU (pZ k h n s hs) ?_
 rintro v h' n' w ⟨h1,h2,h3,rfl⟩
 exact ⟨h1,h2,h3,_,_,_,_,rfl,rfl,rfl⟩
theorem ck (k:Nat)(h:HF)(n:Nat)(hs:AllD s)(hl:s.length≤570):CX (cal (k+6)) 50 [.string ⟨⟨s⟩⟩] h n (IV ((dval s:Nat):Int)):=by
 refine xU (qn k h n hs hl) ?_
 rintro v h' n' w ⟨a,l,c,L,rfl,⟨h1,h2,h3,h4,h5⟩,h6⟩
 refine ⟨h1,h2,h3,_,_,_,_,rfl,?_,L,h4,h5,?_⟩
 ·rw [decide_eq_false];omega
 rw [h6];omega
theorem Frm.len {m d:List UInt8}(h:Frm s m d):m.length≤s.length∧d.length≤s.length:=by
 have:=congrArg List.length h.eq
 simp only [List.length_append] at this
 refine ⟨zo,?_⟩
 by_cases hd:d=[]
 ·subst hd;exact Nat.zero_le _
 rw [if_neg hd,List.length_cons] at this;omega
theorem oP {m:List UInt8}(h:AllD m)(hl:m.length≤600):((dval m:Nat):Int).natAbs<BW:=by
 rw [Int.natAbs_natCast]
 refine Nat.lt_of_lt_of_le (uf h) (Nat.le_trans (Nat.pow_le_pow_right zd hl) ?_)
 unfold BW
 decide+kernel
theorem dQ {m d:List UInt8}(h:spl s=(m,d,false)):¬wi s:=by
 rw [tL,h]
 rintro ⟨h1,_⟩
 cases h1
theorem vi {m d:List UInt8}(h:spl s=(m,d,true))(hd:d=[]):wi s∧(zk s).num=(if zP s then -(dval m:Int) else dval m)∧denZ (zk s)=0:=by
 obtain ⟨q,h1,h2,h3⟩:=(uP h).rat (.inl hd)
 rw [tI h1]
 rw [if_pos hd] at h3
 exact ⟨⟨q,h1⟩,h2,yf.2 h3⟩
theorem uw {m d:List UInt8}(h:spl s=(m,d,true))(hd:¬d=[])(hg:Nat.gcd (dval m) (dval d)=1):wi s∧(zk s).num=(if zP s then -(dval m:Int) else dval m)∧denZ (zk s)=((dval d:Nat):Int):=by
 have hf:=uP h
 obtain ⟨q,h1,h2,h3⟩:=hf.rat (.inr hg)
 rw [tI h1]
 rw [if_neg hd] at h3
 refine ⟨⟨q,h1⟩,h2,?_⟩
 rw [←h3]
 refine xO (mt yf.1 fun e=>?_)
 rcases hf.den with h4|⟨h4,h5⟩
 ·exact hd h4
 have:=sH hf.dd hd h4
 rw [←h3,e,gi] at this
 exact h5 this.symm
theorem so {m d:List UInt8}(h:spl s=(m,d,true))(hd:¬d=[])(hg:¬Nat.gcd (dval m) (dval d)=1):¬wi s:=by
 rw [tL,h]
 rintro ⟨_,h1|h1⟩
 ·exact hd h1
 exact hg h1
section
variable {s:List UInt8}{h:HF}{b n:Nat}
def TL (s:List UInt8):Prop:=s.length<1000000∧∀m d,spl s=(m,d,true)→m.length≤570∧d.length≤570
theorem TL.of (h:s.length<500):TL s:=⟨zo,fun m d e=>by have:=(uP e).len;omega⟩
theorem zhd (k:Nat)(g:GG h n)(hs:TL s):CX (cal (k+9)) 37 [.string ⟨⟨s⟩⟩] h n fun v h' n'=>∃b a l c d e f g ok,v=.tuple #[.agg #[.bool b,.slice a l c,.bool d,.slice e f g],.bool ok]∧IW h' n' b a l c (zk s).num∧IW h' n' d e f g (denZ (zk s))∧(ok=true↔wi s):=by
 refine zv (fn:=Tryz.f37) R4 ?_
 refine zG ?_
 refine sA ?_
 intro h11 p11 x11
 refine zG ?_
 refine sC (zg6 _ _ _ s hs.1) ?_
 rintro _ h12 n12 ⟨neg12,m12,d12,ok12,rfl,z12,w12⟩ y12 x12
 cases ok12
 ·refine zG ?_
  refine sA ?_
  intro h13 p13 x13
  refine sS [.bool neg12,.string ⟨⟨m12⟩⟩,.string ⟨⟨d12⟩⟩] ?_
  intro h14 p14 o14
  refine zG ?_
  refine sT #[.bool false,.slice none 0 0,.bool false,.slice none 0 0] ?_
  refine sS [.bool false,.slice none 0 0,.bool false,.slice none 0 0] ?_
  intro h15 p15 o15
  refine zq ?_
  exact ⟨_,_,_,_,_,_,_,_,_,rfl,(IW.zero _ _).as (by rw [xV (dQ w12)];rfl),(IW.zero _ _).as (by rw [xV (dQ w12)];rfl),⟨fun hq=>(by cases hq),fun hq=>absurd hq (dQ w12)⟩⟩
 have f12:=uP w12
 have fl12:=hs.2 _ _ w12
 refine zG ?_
 refine sA ?_
 intro h16 p16 x16
 refine sS [.bool neg12,.string ⟨⟨m12⟩⟩,.string ⟨⟨d12⟩⟩] ?_
 intro h17 p17 o17
 refine zG ?_
 refine sC (ck _ _ _ f12.dm zo) ?_
 rintro _ h18 n18 ⟨b18,a18,l18,c18,rfl,i18⟩ y18 x18
 refine sT #[.bool b18,.slice a18 l18 c18,.bool false,.slice none 0 0] ?_
 refine sA ?_
 intro h19 p19 x19
 refine sS [.bool b18,.slice a18 l18 c18,.bool false,.slice none 0 0] ?_
 intro h20 p20 o20
 refine zG ?_
 cases neg12
 ·refine zG ?_
  by_cases q21:d12=[]
  ·refine vu true R6 (by simp [q21]) ?_
   refine zG ?_
   refine sS [.bool b18,.slice a18 l18 c18,.bool false,.slice none 0 0] ?_
   intro h22 p22 o22
   refine zq ?_
   exact ⟨_,_,_,_,_,_,_,_,_,rfl,(i18.t zt).as (by rw [(vi w12 q21).2.1,←z12];rfl),(IW.zero _ _).as (vi w12 q21).2.2.symm,⟨fun _=>(vi w12 q21).1,fun _=>rfl⟩⟩
  refine vu false R6 (by simp [q21]) ?_
  refine zG ?_
  refine sC (ck _ _ _ f12.dd zo) ?_
  rintro _ h23 n23 ⟨b23,a23,l23,c23,rfl,i23⟩ y23 x23
  refine zG ?_
  refine sS (b:=3*n18+2) (off:=2) [.bool b18,.slice a18 l18 c18,.bool b23,.slice a23 l23 c23] ?_
  intro h24 p24 o24
  refine zG ?_
  refine sC (gcdX _ (g.x zx) (i18.t zt) (i23.t zt) (oP f12.dm zo) (oP f12.dd zo)) ?_
  rintro _ h25 n25 ⟨b25,a25,l25,c25,rfl,i25⟩ y25 x25
  refine sC (uK _ i25) ?_
  rintro _ h26 n26 ⟨b26,rfl,bq26⟩ y26 x26
  rcases bvs bq26 with ⟨rfl,q26⟩|⟨rfl,q26⟩
  ·refine zG ?_
   refine sT #[.bool false,.slice none 0 0,.bool false,.slice none 0 0] ?_
   refine sS [.bool false,.slice none 0 0,.bool false,.slice none 0 0] ?_
   intro h27 p27 o27
   refine zq ?_
   exact ⟨_,_,_,_,_,_,_,_,_,rfl,(IW.zero _ _).as (by rw [xV (so w12 q21 (by have:=q26;simp only [Int.natAbs_neg,Int.natAbs_natCast] at this;omega))];rfl),(IW.zero _ _).as (by rw [xV (so w12 q21 (by have:=q26;simp only [Int.natAbs_neg,Int.natAbs_natCast] at this;omega))];rfl),⟨fun hq=>(by cases hq),fun hq=>absurd hq (so w12 q21 (by have:=q26;simp only [Int.natAbs_neg,Int.natAbs_natCast] at this;omega))⟩⟩
  refine zG ?_
  refine sS [.bool b18,.slice a18 l18 c18,.bool b23,.slice a23 l23 c23] ?_
  intro h28 p28 o28
  refine zq ?_
  exact ⟨_,_,_,_,_,_,_,_,_,rfl,(i18.t zt).as (by rw [(uw w12 q21 (by have:=q26;simp only [Int.natAbs_neg,Int.natAbs_natCast] at this;omega)).2.1,←z12];rfl),(i23.t zt).as (uw w12 q21 (by have:=q26;simp only [Int.natAbs_neg,Int.natAbs_natCast] at this;omega)).2.2.symm,⟨fun _=>(uw w12 q21 (by have:=q26;simp only [Int.natAbs_neg,Int.natAbs_natCast] at this;omega)).1,fun _=>rfl⟩⟩
 refine zG ?_
 refine sC (negX _ (i18.t zt)) ?_
 rintro _ h29 n29 ⟨b29,a29,l29,c29,rfl,i29⟩ y29 x29
 refine zG ?_
 refine sS [.bool b29,.slice a29 l29 c29,.bool false,.slice none 0 0] ?_
 intro h30 p30 o30
 refine zG ?_
 by_cases q31:d12=[]
 ·refine vu true R6 (by simp [q31]) ?_
  refine zG ?_
  refine sS [.bool b29,.slice a29 l29 c29,.bool false,.slice none 0 0] ?_
  intro h32 p32 o32
  refine zq ?_
  exact ⟨_,_,_,_,_,_,_,_,_,rfl,(i29.t zt).as (by rw [(vi w12 q31).2.1,←z12];rfl),(IW.zero _ _).as (vi w12 q31).2.2.symm,⟨fun _=>(vi w12 q31).1,fun _=>rfl⟩⟩
 refine vu false R6 (by simp [q31]) ?_
 refine zG ?_
 refine sC (ck _ _ _ f12.dd zo) ?_
 rintro _ h33 n33 ⟨b33,a33,l33,c33,rfl,i33⟩ y33 x33
 refine zG ?_
 refine sS (b:=3*n18+2) (off:=2) [.bool b29,.slice a29 l29 c29,.bool b33,.slice a33 l33 c33] ?_
 intro h34 p34 o34
 refine zG ?_
 refine sC (gcdX _ (g.x zx) (i29.t zt) (i33.t zt) (by rw [Int.natAbs_neg];exact (oP f12.dm zo)) (oP f12.dd zo)) ?_
 rintro _ h35 n35 ⟨b35,a35,l35,c35,rfl,i35⟩ y35 x35
 refine sC (uK _ i35) ?_
 rintro _ h36 n36 ⟨b36,rfl,bq36⟩ y36 x36
 rcases bvs bq36 with ⟨rfl,q36⟩|⟨rfl,q36⟩
 ·refine zG ?_
  refine sT #[.bool false,.slice none 0 0,.bool false,.slice none 0 0] ?_
  refine sS [.bool false,.slice none 0 0,.bool false,.slice none 0 0] ?_
  intro h37 p37 o37
  refine zq ?_
  exact ⟨_,_,_,_,_,_,_,_,_,rfl,(IW.zero _ _).as (by rw [xV (so w12 q31 (by have:=q36;simp only [Int.natAbs_neg,Int.natAbs_natCast] at this;omega))];rfl),(IW.zero _ _).as (by rw [xV (so w12 q31 (by have:=q36;simp only [Int.natAbs_neg,Int.natAbs_natCast] at this;omega))];rfl),⟨fun hq=>(by cases hq),fun hq=>absurd hq (so w12 q31 (by have:=q36;simp only [Int.natAbs_neg,Int.natAbs_natCast] at this;omega))⟩⟩
 refine zG ?_
 refine sS [.bool b29,.slice a29 l29 c29,.bool b33,.slice a33 l33 c33] ?_
 intro h38 p38 o38
 refine zq ?_
 exact ⟨_,_,_,_,_,_,_,_,_,rfl,(i29.t zt).as (by rw [(uw w12 q31 (by have:=q36;simp only [Int.natAbs_neg,Int.natAbs_natCast] at this;omega)).2.1,←z12];rfl),(i33.t zt).as (uw w12 q31 (by have:=q36;simp only [Int.natAbs_neg,Int.natAbs_natCast] at this;omega)).2.2.symm,⟨fun _=>(uw w12 q31 (by have:=q36;simp only [Int.natAbs_neg,Int.natAbs_natCast] at this;omega)).1,fun _=>rfl⟩⟩
theorem zhe (k:Nat)(g:GG h n)(hs:s.length<500):CX (cal (k+9)) 37 [.string ⟨⟨s⟩⟩] h n fun v h' n'=>∃b a l c d e f g ok,v=.tuple #[.agg #[.bool b,.slice a l c,.bool d,.slice e f g],.bool ok]∧IW h' n' b a l c (zk s).num∧IW h' n' d e f g (denZ (zk s))∧(ok=true↔wi s):=zhd k g (.of hs)
def bdOk (s:List UInt8):Prop:=s=[]∨wi s
theorem xM:¬wi []:=by
 rw [tL]
 rintro ⟨h,_⟩
 revert h
 decide
def pairOk (lo hi:List UInt8):Prop:=bdOk lo∧bdOk hi∧(lo=[]∨hi=[]∨zk lo≤zk hi)
theorem se (k:Nat)(g:GG h n)(hs:s.length<500):CX (cal (k+10)) 89 [.string ⟨⟨s⟩⟩] h n fun v h' n'=>∃x b a l c d e f g ok,v=.tuple #[.agg #[.bool x,.bool b,.slice a l c,.bool d,.slice e f g],.bool ok]∧(x=true↔s≠[])∧IW h' n' b a l c (zk s).num∧IW h' n' d e f g (denZ (zk s))∧(ok=true↔bdOk s):=by
 refine zv (fn:=Tryz.f89) R4 ?_
 refine zG ?_
 refine sA ?_
 intro h11 p11 x11
 refine zG ?_
 by_cases q12:s=[]
 ·refine vu true R6 (by simp [q12]) ?_
  refine zG ?_
  refine sT #[.bool false,.bool false,.slice none 0 0,.bool false,.slice none 0 0] ?_
  refine sS [.bool false,.bool false,.slice none 0 0,.bool false,.slice none 0 0] ?_
  intro h13 p13 o13
  refine zq ?_
  exact ⟨_,_,_,_,_,_,_,_,_,_,rfl,⟨fun hq=>(by cases hq),fun hq=>absurd q12 hq⟩,(IW.zero _ _).as (by rw [q12,xV xM];rfl),(IW.zero _ _).as (by rw [q12,xV xM];rfl),⟨fun _=>.inl q12,fun _=>rfl⟩⟩
 refine vu false R6 (by simp [q12]) ?_
 refine zG ?_
 refine sC (zhe _ (g.x zx) hs) ?_
 rintro _ h14 n14 ⟨b14,a14,l14,c14,d14,e14,f14,g14,ok14,rfl,i14,j14,bm14⟩ y14 x14
 rcases bvs bm14 with ⟨rfl,m14⟩|⟨rfl,m14⟩
 ·refine zG ?_
  refine sA ?_
  intro h15 p15 x15
  refine sS [.bool b14,.slice a14 l14 c14,.bool d14,.slice e14 f14 g14] ?_
  intro h16 p16 o16
  refine zG ?_
  refine sT #[.bool true,.bool b14,.slice a14 l14 c14,.bool d14,.slice e14 f14 g14] ?_
  refine zG ?_
  refine sS [.bool true,.bool b14,.slice a14 l14 c14,.bool d14,.slice e14 f14 g14] ?_
  intro h17 p17 o17
  refine zq ?_
  exact ⟨_,_,_,_,_,_,_,_,_,_,rfl,⟨fun _=>q12,fun _=>rfl⟩,(i14.t zt),(j14.t zt),⟨fun hq=>(by cases hq),fun hq=>by rcases hq with hq|hq;exact absurd hq q12;exact absurd hq m14⟩⟩
 refine zG ?_
 refine sA ?_
 intro h18 p18 x18
 refine sS [.bool b14,.slice a14 l14 c14,.bool d14,.slice e14 f14 g14] ?_
 intro h19 p19 o19
 refine zG ?_
 refine sT #[.bool true,.bool b14,.slice a14 l14 c14,.bool d14,.slice e14 f14 g14] ?_
 refine zG ?_
 refine sS [.bool true,.bool b14,.slice a14 l14 c14,.bool d14,.slice e14 f14 g14] ?_
 intro h20 p20 o20
 refine zq ?_
 exact ⟨_,_,_,_,_,_,_,_,_,_,rfl,⟨fun _=>q12,fun _=>rfl⟩,(i14.t zt),(j14.t zt),⟨fun _=>.inr m14,fun _=>rfl⟩⟩
theorem nQ (k:Nat)(g:GG h n){lo hi:List UInt8}(hlo:lo.length<500)(hhi:hi.length<500){a:Nat}(slo:Sz a (zk lo))(shi:Sz b (zk hi))(hab:a+b≤2496):CX (cal (k+11)) 55 [.string ⟨⟨lo⟩⟩,.string ⟨⟨hi⟩⟩] h n fun v h' n'=>∃x1 b1 a1 l1 c1 d1 e1 f1 g1 x2 b2 a2 l2 c2 d2 e2 f2 g2 ok,v=.tuple #[.agg #[.slice none 0 0,.bool x1,.bool b1,.slice a1 l1 c1,.bool d1,.slice e1 f1 g1,.bool x2,.bool b2,.slice a2 l2 c2,.bool d2,.slice e2 f2 g2],.bool ok]∧(ok=true↔pairOk lo hi)∧(ok=true→(x1=true↔lo≠[])∧IW h' n' b1 a1 l1 c1 (zk lo).num∧IW h' n' d1 e1 f1 g1 (denZ (zk lo))∧(x2=true↔hi≠[])∧IW h' n' b2 a2 l2 c2 (zk hi).num∧IW h' n' d2 e2 f2 g2 (denZ (zk hi))):=by
 refine zv (fn:=Tryz.f55) R4 ?_
 refine zG ?_
 refine sA ?_
 intro h11 p11 x11
 refine zG ?_
 refine sC (se _ (g.x zx) hlo) ?_
 rintro _ h12 n12 ⟨ex12,b12,a12,l12,c12,d12,e12,f12,g12,ok12,rfl,v12,i12,j12,bm12⟩ y12 x12
 rcases bvs bm12 with ⟨rfl,m12⟩|⟨rfl,m12⟩
 ·refine zG ?_
  refine sA ?_
  intro h13 p13 x13
  refine sS [.bool ex12,.bool b12,.slice a12 l12 c12,.bool d12,.slice e12 f12 g12] ?_
  intro h14 p14 o14
  refine zG ?_
  refine sC (se _ (g.x zx) hhi) ?_
  rintro _ h15 n15 ⟨ex15,b15,a15,l15,c15,d15,e15,f15,g15,ok15,rfl,v15,i15,j15,bm15⟩ y15 x15
  rcases bvs bm15 with ⟨rfl,m15⟩|⟨rfl,m15⟩
  ·refine zG ?_
   refine sA ?_
   intro h16 p16 x16
   refine sS [.bool ex15,.bool b15,.slice a15 l15 c15,.bool d15,.slice e15 f15 g15] ?_
   intro h17 p17 o17
   refine zG ?_
   refine sT #[.slice none 0 0,.bool false,.bool false,.slice none 0 0,.bool false,.slice none 0 0,.bool false,.bool false,.slice none 0 0,.bool false,.slice none 0 0] ?_
   refine sS [.slice none 0 0,.bool false,.bool false,.slice none 0 0,.bool false,.slice none 0 0,.bool false,.bool false,.slice none 0 0,.bool false,.slice none 0 0] ?_
   intro h18 p18 o18
   refine zq ?_
   exact ⟨_,_,_,_,_,_,_,_,_,_,_,_,_,_,_,_,_,_,_,rfl,⟨fun hq=>(by cases hq),fun hq=>absurd hq.1 m12⟩,fun hq=>(by cases hq)⟩
  refine zG ?_
  refine sA ?_
  intro h19 p19 x19
  refine sS [.bool ex15,.bool b15,.slice a15 l15 c15,.bool d15,.slice e15 f15 g15] ?_
  intro h20 p20 o20
  refine zG ?_
  refine sT #[.slice none 0 0,.bool false,.bool false,.slice none 0 0,.bool false,.slice none 0 0,.bool false,.bool false,.slice none 0 0,.bool false,.slice none 0 0] ?_
  refine sS [.slice none 0 0,.bool false,.bool false,.slice none 0 0,.bool false,.slice none 0 0,.bool false,.bool false,.slice none 0 0,.bool false,.slice none 0 0] ?_
  intro h21 p21 o21
  refine zq ?_
  exact ⟨_,_,_,_,_,_,_,_,_,_,_,_,_,_,_,_,_,_,_,rfl,⟨fun hq=>(by cases hq),fun hq=>absurd hq.1 m12⟩,fun hq=>(by cases hq)⟩
 refine zG ?_
 refine sA ?_
 intro h22 p22 x22
 refine sS [.bool ex12,.bool b12,.slice a12 l12 c12,.bool d12,.slice e12 f12 g12] ?_
 intro h23 p23 o23
 refine zG ?_
 refine sC (se _ (g.x zx) hhi) ?_
 rintro _ h24 n24 ⟨ex24,b24,a24,l24,c24,d24,e24,f24,g24,ok24,rfl,v24,i24,j24,bm24⟩ y24 x24
 rcases bvs bm24 with ⟨rfl,m24⟩|⟨rfl,m24⟩
 ·refine zG ?_
  refine sA ?_
  intro h25 p25 x25
  refine sS [.bool ex24,.bool b24,.slice a24 l24 c24,.bool d24,.slice e24 f24 g24] ?_
  intro h26 p26 o26
  refine zG ?_
  refine sT #[.slice none 0 0,.bool false,.bool false,.slice none 0 0,.bool false,.slice none 0 0,.bool false,.bool false,.slice none 0 0,.bool false,.slice none 0 0] ?_
  refine sS [.slice none 0 0,.bool false,.bool false,.slice none 0 0,.bool false,.slice none 0 0,.bool false,.bool false,.slice none 0 0,.bool false,.slice none 0 0] ?_
  intro h27 p27 o27
  refine zq ?_
  exact ⟨_,_,_,_,_,_,_,_,_,_,_,_,_,_,_,_,_,_,_,rfl,⟨fun hq=>(by cases hq),fun hq=>absurd hq.2.1 m24⟩,fun hq=>(by cases hq)⟩
 refine zG ?_
 refine sA ?_
 intro h28 p28 x28
 refine sS [.bool ex24,.bool b24,.slice a24 l24 c24,.bool d24,.slice e24 f24 g24] ?_
 intro h29 p29 o29
 refine zG ?_
 cases ex12
 ·refine zG ?_
  refine sT #[.slice none 0 0,.bool false,.bool b12,.slice a12 l12 c12,.bool d12,.slice e12 f12 g12,.bool ex24,.bool b24,.slice a24 l24 c24,.bool d24,.slice e24 f24 g24] ?_
  refine sS [.slice none 0 0,.bool false,.bool b12,.slice a12 l12 c12,.bool d12,.slice e12 f12 g12,.bool ex24,.bool b24,.slice a24 l24 c24,.bool d24,.slice e24 f24 g24] ?_
  intro h30 p30 o30
  refine zq ?_
  exact ⟨_,_,_,_,_,_,_,_,_,_,_,_,_,_,_,_,_,_,_,rfl,⟨fun _=>⟨m12,m24,.inl (Classical.byContradiction fun hq=>by cases v12.2 hq)⟩,fun _=>rfl⟩,fun _=>⟨v12,(i12.t zt),(j12.t zt),v24,(i24.t zt),(j24.t zt)⟩⟩
 refine zG ?_
 cases ex24
 ·refine zG ?_
  refine sT #[.slice none 0 0,.bool true,.bool b12,.slice a12 l12 c12,.bool d12,.slice e12 f12 g12,.bool false,.bool b24,.slice a24 l24 c24,.bool d24,.slice e24 f24 g24] ?_
  refine sS [.slice none 0 0,.bool true,.bool b12,.slice a12 l12 c12,.bool d12,.slice e12 f12 g12,.bool false,.bool b24,.slice a24 l24 c24,.bool d24,.slice e24 f24 g24] ?_
  intro h31 p31 o31
  refine zq ?_
  exact ⟨_,_,_,_,_,_,_,_,_,_,_,_,_,_,_,_,_,_,_,rfl,⟨fun _=>⟨m12,m24,.inr (.inl (Classical.byContradiction fun hq=>by cases v24.2 hq))⟩,fun _=>rfl⟩,fun _=>⟨v12,(i12.t zt),(j12.t zt),v24,(i24.t zt),(j24.t zt)⟩⟩
 refine zG ?_
 refine sC ((qN _ (i12.t zt) (j12.t zt) (i24.t zt) (j24.t zt) slo shi zo).cx) ?_
 rintro _ h32 n32 ⟨s32,rfl,q32⟩ y32 x32
 rcases q32 with ⟨rfl,q32⟩|⟨rfl,q32⟩|⟨rfl,q32⟩
 ·refine zG ?_
  refine sT #[.slice none 0 0,.bool true,.bool b12,.slice a12 l12 c12,.bool d12,.slice e12 f12 g12,.bool true,.bool b24,.slice a24 l24 c24,.bool d24,.slice e24 f24 g24] ?_
  refine sS [.slice none 0 0,.bool true,.bool b12,.slice a12 l12 c12,.bool d12,.slice e12 f12 g12,.bool true,.bool b24,.slice a24 l24 c24,.bool d24,.slice e24 f24 g24] ?_
  intro h33 p33 o33
  refine zq ?_
  exact ⟨_,_,_,_,_,_,_,_,_,_,_,_,_,_,_,_,_,_,_,rfl,⟨fun _=>⟨m12,m24,.inr (.inr (Rat.le_of_lt q32))⟩,fun _=>rfl⟩,fun _=>⟨v12,(i12.t zt),(j12.t zt),v24,(i24.t zt),(j24.t zt)⟩⟩
 ·refine zG ?_
  refine sT #[.slice none 0 0,.bool true,.bool b12,.slice a12 l12 c12,.bool d12,.slice e12 f12 g12,.bool true,.bool b24,.slice a24 l24 c24,.bool d24,.slice e24 f24 g24] ?_
  refine sS [.slice none 0 0,.bool true,.bool b12,.slice a12 l12 c12,.bool d12,.slice e12 f12 g12,.bool true,.bool b24,.slice a24 l24 c24,.bool d24,.slice e24 f24 g24] ?_
  intro h34 p34 o34
  refine zq ?_
  exact ⟨_,_,_,_,_,_,_,_,_,_,_,_,_,_,_,_,_,_,_,rfl,⟨fun _=>⟨m12,m24,.inr (.inr (by rw [q32];exact Rat.le_refl))⟩,fun _=>rfl⟩,fun _=>⟨v12,(i12.t zt),(j12.t zt),v24,(i24.t zt),(j24.t zt)⟩⟩
 refine zG ?_
 refine sT #[.slice none 0 0,.bool false,.bool false,.slice none 0 0,.bool false,.slice none 0 0,.bool false,.bool false,.slice none 0 0,.bool false,.slice none 0 0] ?_
 refine sS [.slice none 0 0,.bool false,.bool false,.slice none 0 0,.bool false,.slice none 0 0,.bool false,.bool false,.slice none 0 0,.bool false,.slice none 0 0] ?_
 intro h35 p35 o35
 refine zq ?_
 exact ⟨_,_,_,_,_,_,_,_,_,_,_,_,_,_,_,_,_,_,_,rfl,⟨fun hq=>(by cases hq),fun hq=>by rcases hq.2.2 with hq|hq|hq;exact absurd hq (v12.1 rfl);exact absurd hq (v24.1 rfl);exact absurd hq (Rat.not_le.2 q32)⟩,fun hq=>(by cases hq)⟩
end
section
variable {c cs:List Value}{h h':HF}{B cap j len lo m n n':Nat}{e:TypeId}{v:Value}{a:Option Addr}
structure StayO {D:Type}(P:List Value→D→HF→Nat→Prop):Prop where
 go:∀c d h h' n b cs e,P c d h n→h b=some (.row cs e)→cs.all nu=true→Only b h h'→P c d h' n
theorem ratP.stayO:StayO ratP:=⟨fun _ _ _ _ _ _ _ _ ⟨b,a,l,k,d,e,f,g,e1,i,j⟩ hp hu ho=>⟨b,a,l,k,d,e,f,g,e1,i.only hp hu ho,j.only hp hu ho⟩⟩
theorem numP.stayO:StayO numP:=⟨fun _ _ _ _ _ _ _ _ ⟨b,a,l,k,d,e,f,g,e1,i,j⟩ hp hu ho=>⟨b,a,l,k,d,e,f,g,e1,i.only hp hu ho,j.only hp hu ho⟩⟩
structure Fil {D:Type}(P:List Value→D→HF→Nat→Prop)(h:HF)(n B:Nat)(cs:List Value)(e:TypeId)(S:List D)(j:Nat):Prop where
 row:h B=some (.row cs e)
 len:cs.length=S.length*4
 nus:cs.all nu=true
 rcs:Rec 4 (fun c d=>P c d h n) (cs.take (j*4)) (S.take j)
theorem qb {o:Nat}(h:o+c.length≤cs.length):(zm cs o c).take (o+c.length)=cs.take o++c∧(zm cs o c).length=cs.length:=by
 unfold zm
 constructor
 ·rw [←List.append_assoc,List.take_append_of_le_length (by simp only [List.length_append,List.length_take];omega),List.take_of_length_le (by simp only [List.length_append,List.length_take];omega)]
 simp only [List.length_append,List.length_take,List.length_drop];omega
theorem fE {o:Nat}(h1:cs.all nu=true)(h2:c.all nu=true):(zm cs o c).all nu=true:=by
 unfold zm
 rw [List.all_eq_true] at*
 intro x hx
 simp only [List.mem_append] at hx
 rcases hx with hx|hx|hx
 ·exact h1 x (List.mem_of_mem_take hx)
 ·exact h2 x hx
 exact h1 x (List.mem_of_mem_drop hx)
section
variable {D:Type}{P:List Value→D→HF→Nat→Prop}
theorem Fil.ext (hP:Stay P){S:List D}(f:Fil P h n B cs e S j)(x:Ext n h h')(hn:n≤n')(hB:B<3*n):Fil P h' n' B cs e S j:=
 ⟨(x B hB).trans f.row,f.len,f.nus,f.rcs.mono fun c d hp=>hP.go c d _ _ _ _ hp x hn⟩
theorem Fil.step (hO:StayO P){S:List D}{d:D}(f:Fil P h n B cs e S j)(hj:S[j]?=some d)(hc:c.length=4)(hn:c.all nu=true)(hp:P c d h n):Fil P (upd h B (some (.row (zm cs (j*4) c) e))) n B (zm cs (j*4) c) e S (j+1):=by
 have hjl:=(List.getElem?_eq_some_iff.1 hj).1
 have hlen:j*4+c.length≤cs.length:=by rw [f.len,hc];omega
 obtain ⟨t1,t2⟩:=qb hlen
 have ho:Only B h (upd h B (some (.row (zm cs (j*4) c) e))):=fun b hb=>zj hb
 refine ⟨zg _ _ _,t2.trans f.len,fE f.nus hn,?_⟩
 rw [hc] at t1
 rw [Nat.succ_mul,t1,yV hj]
 exact (f.rcs.mono fun c d hp=>hO.go c d _ _ _ _ _ _ hp f.row f.nus ho).snoc hc (hO.go c d _ _ _ _ _ _ hp f.row f.nus ho)
theorem Fil.start {z:List Value}{S:List D}(hr:h B=some (.row (rep m z) e))(hz:z.length=4)(hu:z.all nu=true)(hm:m=S.length):Fil P h n B (rep m z) e S 0:=by
 refine ⟨hr,by rw [zfa,hz,hm],?_,by rw [Nat.zero_mul,List.take_zero,List.take_zero];exact .nil⟩
 clear hr hm
 induction m with
 |zero=>rfl
 |succ m ih=>rw [rep,List.all_append,hu,ih];rfl
theorem Fil.rs {S:List D}(f:Fil P h n B cs e S S.length)(hB:B<3*n):RS 4 P h n (.slice (some ⟨B,0,none⟩) S.length S.length) S:=by
 have hl:=f.len
 have hr:=f.rcs
 rw [List.take_length,←hl,List.take_length] at hr
 exact ⟨cs,.at_ hB f.row rfl (Nat.le_refl _) zo (by rw [List.drop_zero,List.take_of_length_le zo]),hr⟩
end
def QSL (lo:Nat)(h:HF)(n:Nat)(v:Value)(l:List Rat):Prop:=QS h n v l∧∀ad len cap,v=.slice (some ad) len cap→3*lo≤ad.block∧gro ad.block=false
theorem QSL.ext {l:List Rat}(r:QSL lo h n v l)(x:Ext n h h')(hn:n≤n'):QSL lo h' n' v l:=⟨r.1.ext x hn,r.2⟩
theorem QSL.x {l:List Rat}(r:QSL lo h n v l)(t:Tx n h n' h'):QSL lo h' n' v l:=r.ext t.2 t.1
theorem oq (k:Nat)(g:GG h n){S:List (List UInt8)}(hs:Sl h n 1 (.slice a len cap) (strs S))(hl:∀s∈S,s.length<500)(hb:S.length<1000000):
  CX (cal (k+10)) 54 [.slice a len cap] h n fun v h' n'=>∃a' l' c' ok,v=.tuple #[.slice a' l' c',.bool ok]∧(ok=true↔∀s∈S,wi s)∧(ok=true→QSL n h' n' (.slice a' l' c') (S.map zk)):=by
 refine zv (fn:=Tryz.f54) R4 ?_
 have e1:=wz hs
 subst e1
 refine zN ?_
 repeat refine zR ?_
 refine zN ?_
 repeat refine zR ?_
 refine vv R9 zo ?_
 repeat refine zR ?_
 refine zN ?_
 repeat refine zR ?_
 refine zN ?_
 generalize hh:upd h (3*n+2) _=h1
 have hr1:∃cs,Fil ratP h1 (n+1) (3*n+2) cs 49 (S.map zk) 0:=⟨_,.start (by rw [←hh,zg]) rfl rfl (by rw [List.length_map])⟩
 have hx1:Ext n h h1:=by rw [←hh];exact Ext.upd zo
 clear hh
 refine z8 (α:=Nat) (fun z=>[(4,.slice (some ⟨3*n+2,0,none⟩) S.length S.length),(12,.slice a S.length cap),(13,.int .i64 (S.length:Int)),(14,.int .i64 (z:Int))])
  (fun z h' n' w'=>w'=[]∧n+1≤n'∧Ext n h h'∧(∃cs,Fil ratP h' n' (3*n+2) cs 49 (S.map zk) z)∧z≤S.length∧∀s∈S.take z,wi s) (fun z=>S.length-z)
  0 ⟨rfl,rfl,rfl,rfl,trivial⟩ ⟨rfl,Nat.le_refl _,hx1,hr1,Nat.zero_le _,fun s hs=>absurd hs (by simp)⟩ (by show S.length-0<LL;unfold LL;omega) ?_
 rintro z t h2 n2 _ ⟨rfl,hn2,hx2,⟨cs,hf⟩,hz,hall⟩
 refine zN ?_
 by_cases hze:z=S.length
 ·repeat refine zR ?_
  refine zN ?_
  rw [za rfl]
  refine zN ?_
  repeat refine zR ?_
  refine zN ?_
  rw [hze,List.take_length] at hall
  have hfr:=hf
  rw [hze,←List.length_map (f:=zk)] at hfr
  have hq:=hfr.rs (show 3*n+2<3*n2 by omega)
  rw [List.length_map] at hq
  exact retX [.slice (some ⟨3*n+2,0,none⟩) S.length S.length,.bool true] rfl rfl rfl (show n≤n2 by omega) hx2 ⟨_,_,_,_,rfl,⟨fun _=>hall,fun _=>rfl⟩,fun _=>⟨hq,fun ad l c e=>by cases e;exact ⟨by show 3*n≤3*n+2;omega,zA n⟩⟩⟩
 obtain ⟨s,hsz⟩:∃s,S[z]?=some s:=⟨S[z]'zo,List.getElem?_eq_getElem zo⟩
 have hmem:s∈S:=List.mem_of_getElem? hsz
 repeat refine zR ?_
 refine zN ?_
 rw [ze rfl]
 refine zN ?_
 refine zM ?_
 refine yp (f:=fun s=>Value.string ⟨⟨s⟩⟩) (j:=z) (dv:=s) R7 (hs.ext hx2 (show n≤n2 by omega)) R2 hsz (fun _=>rfl) R4 fun _=>?_
 repeat refine zR ?_
 refine zN ?_
 refine zM ?_
 refine dc rfl rfl rfl rfl rfl (zhe k (g.ext hx2 (show n≤n2 by omega)) (hl s hmem)) ?_
 rintro _ h3 n3 ⟨b,a1,l,c,d,e,f,g1,ok,rfl,i3,j3,hok⟩ hn3 hx3
 repeat refine zR ?_
 refine wI [.bool false,.slice none 0 0,.bool false,.slice none 0 0] R6 ?_
 intro h4 p4 x4
 refine db [.bool b,.slice a1 l c,.bool d,.slice e f g1] R5 p4 rfl rfl rfl zb rfl (by show 3*n≤_;omega) ?_
 intro h5 p5 o5
 have hf4:=(hf.ext ratP.stay hx3 hn3 zo).ext ratP.stay x4 zs zo
 have x5:Ext n3 h4 h5:=fun b hb=>o5 b zo
 have i5:=(i3.ext x4 zs).only p4 rfl o5
 have j5:=(j3.ext x4 zs).only p4 rfl o5
 have hf5:Fil ratP h5 (n3+1) (3*n+2) cs 49 (S.map zk) z:=⟨(o5 _ zo).trans hf4.row,hf4.len,hf4.nus,hf4.rcs.mono fun c d hp=>ratP.stayO.go c d _ _ _ _ _ _ hp p4 rfl o5⟩
 have hx15:Ext n h h5:=fun b hb=>(x5 b zo).trans ((x4 b zo).trans ((hx3 b zo).trans (hx2 b hb)))
 repeat refine zR ?_
 refine zN ?_
 cases ok with
 |false=>
  repeat refine zR ?_
  refine zN ?_
  rw [ze rfl]
  refine zN ?_
  repeat refine zR ?_
  refine zN ?_
  exact retX [.slice none 0 0,.bool false] rfl rfl rfl (show n≤n3+1 by omega) hx15 ⟨_,_,_,_,rfl,⟨fun h=>absurd h (by simp),fun h=>hok.2 (h s hmem)⟩,fun h=>absurd h (by simp)⟩
 |true=>
 repeat refine zR ?_
 refine zN ?_
 rw [za rfl]
 refine zN ?_
 refine zM ?_
 refine zM ?_
 refine zV (v:=.agg #[.bool b,.slice a1 l c,.bool d,.slice e f g1]) R5 (yo R2 p5 rfl zb rfl) ?_
 refine zdf (aq:=some ⟨3*n+2,0,none⟩) (j:=z) R9 zo ?_
 refine ym (b:=3*n+2) (off:=z*4) (cs:=[.bool b,.slice a1 l c,.bool d,.slice e f g1]) ⟨rfl,rfl,rfl,rfl,(by show Value.pointer (some ⟨3*n+2,0+z*4,none⟩)=_;rw [Nat.zero_add]),rfl,rfl,rfl⟩ hf5.row (by rw [hf5.len,List.length_map];omega) (by show 3*n≤_;omega) ?_
 have hf6:=hf5.step ratP.stayO (j:=z) (c:=[.bool b,.slice a1 l c,.bool d,.slice e f g1]) (by rw [List.getElem?_map,hsz];rfl) rfl rfl ⟨_,_,_,_,_,_,_,_,rfl,i5,j5⟩
 refine zN ?_
 repeat refine zR ?_
 refine zN ?_
 refine goOn (z+1) (by show S.length-(z+1)<S.length-z;omega) ⟨rfl,rfl,rfl,rfl,trivial⟩ ⟨rfl,by show n+1≤n3+1;omega,fun b hb=>(zj zo).trans (hx15 b hb),⟨_,hf6⟩,by show z+1≤S.length;omega,?_⟩
 intro s' hs'
 rw [yV hsz] at hs'
 rcases List.mem_append.1 hs' with h'|h'
 ·exact hall s' h'
 rw [List.mem_singleton.1 h'];exact hok.1 rfl
end
def nJ (a:Nat→Nat→Rat)(k:Nat):Nat→Nat→Rat:=fun i j=>if k<i∧k<j then a i j-a i k/a k k*a k j else a i j
def psdA (n:Nat):Nat→Nat→(Nat→Nat→Rat)→Prop
 |0,_,_=>True
 |m+1,k,a=>0≤a k k∧(a k k=0→∀i,k<i→i<n→a i k=0)∧psdA n m (k+1) (nJ a k)
theorem ft {a:Nat→Nat→Rat}(h:a k k=0):nJ a k=a:=by
 funext i j
 unfold nJ
 split
 ·rw [h,Rat.div_def,Rat.inv_zero,Rat.mul_zero,Rat.zero_mul,Rat.sub_eq_add_neg,Rat.neg_zero,Rat.add_zero]
 rfl
def TabR (n:Nat)(T:Nat→Nat→Int)(bf:Int)(s:Nat→Rat)(a:Nat→Nat→Rat)(k:Nat):Prop:=∀i j,k≤i→i<n→k≤j→j<n→(T i j:Rat)=bf*s i*a i j
theorem wP {x:Int}:((x:Rat)=0)↔x=0:=by
 constructor
 ·intro h
  have:(x:Rat)=((0:Int):Rat):=h
  exact Rat.intCast_inj.1 this
 rintro rfl;rfl
theorem rL {T:Nat→Nat→Int}{s:Nat→Rat}{a:Nat→Nat→Rat}(h:TabR n T bf s a k)(hb:0<bf)(hs:∀i,0<s i)(h1:k≤i)(h2:i<n)(h3:k≤j)(h4:j<n):T i j=0↔a i j=0:=by
 have e:=h i j h1 h2 h3 h4
 have hb':(bf:Rat)≠0:=fun e=>by have:=wP.1 e;omega
 have hs':=hs i
 rw [←wP,e]
 constructor
 ·intro h
  rcases Rat.mul_eq_zero.1 h with h|h
  ·rcases Rat.mul_eq_zero.1 h with h|h
   ·exact absurd h hb'
   rw [h] at hs';exact absurd hs' zd
  exact h
 intro h;rw [h,Rat.mul_zero]
def yS (T:Nat→Nat→Int)(k:Nat)(bf:Int):Nat→Nat→Int:=fun i j=>if k<i then (T k k*T i j-T i k*T k j).tdiv bf else T i j
theorem dw {T:Nat→Nat→Int}{s:Nat→Rat}{a:Nat→Nat→Rat}(h:TabR n T bf s a k)(hb:0<bf)(hk:k<n)(hp:T k k≠0)(hd:∀i j,k<i→i<n→k<j→j<n→bf∣T k k*T i j-T i k*T k j):TabR n (yS T k bf) (T k k) s (nJ a k) (k+1):=by
 intro i j h1 h2 h3 h4
 have hki:k<i:=h1
 have hkj:k<j:=h3
 unfold yS nJ
 rw [if_pos hki,if_pos ⟨hki,hkj⟩]
 obtain ⟨q,hq⟩:=hd i j hki h2 hkj h4
 have hb':(bf:Rat)≠0:=fun e=>by have:=wP.1 e;omega
 have e1:=h k k (Nat.le_refl _) hk (Nat.le_refl _) hk
 have e2:=h i j zo h2 zo h4
 have e3:=h i k zo h2 (Nat.le_refl _) hk
 have e4:=h k j (Nat.le_refl _) hk zo h4
 have hp':(T k k:Rat)≠0:=fun e=>hp (wP.1 e)
 have ha:a k k≠0:=fun e=>hp' (by rw [e1,e,Rat.mul_zero])
 rw [hq,Int.mul_tdiv_cancel_left _ zo]
 have hq':((T k k:Rat)*T i j-T i k*T k j)=bf*q:=by
  have:=congrArg (fun x:Int=>(x:Rat)) hq
  simpa [Rat.intCast_sub,Rat.intCast_mul] using this
 rw [e2,e3,e4] at hq'
 have hc:a i k/a k k*a k k=a i k:=Rat.div_mul_cancel ha
 generalize a i k/a k k=c at hc ⊢
 generalize (T k k:Rat)=t at*
 generalize (q:Rat)=q at*
 generalize (bf:Rat)=b at*
 have:b*q=b*(t*s i*(a i j-c*a k j)):=by
  rw [←hq',e1,←hc]
  grind
 grind
inductive LdS (n:Nat) (T0:Nat→Nat→Int):Nat→(Nat→Nat→Int)→Int→Prop
 |zero:LdS n T0 0 T0 1
 |skip {k T bf} (h:LdS n T0 k T bf) (h0:∀i,k≤i→i<n→T i k=0):LdS n T0 (k+1) T bf
 |clear {k T bf} (h:LdS n T0 k T bf) (hp:T k k≠0) (hk:k<n):LdS n T0 (k+1) (yS T k bf) (T k k)
def det3 (T:Nat→Nat→Int):Int:=T 0 0*(T 1 1*T 2 2-T 1 2*T 2 1)-T 0 1*(T 1 0*T 2 2-T 1 2*T 2 0)+T 0 2*(T 1 0*T 2 1-T 1 1*T 2 0)
theorem gI (T:Nat→Nat→Int):(T 0 0*T 1 1-T 1 0*T 0 1)*(T 0 0*T 2 2-T 2 0*T 0 2)-(T 0 0*T 2 1-T 2 0*T 0 1)*(T 0 0*T 1 2-T 1 0*T 0 2)=T 0 0*det3 T:=by unfold det3;grind
theorem xa {T:Nat→Nat→Int}(h:k<i):yS T k 1 i j=T k k*T i j-T i k*T k j:=by
 unfold yS;rw [if_pos h,Int.tdiv_one]
theorem LdS.dvd {T0 T:Nat→Nat→Int}(hn:n≤3)(h:LdS n T0 k T bf):∀i j,k<i→i<n→k<j→j<n→bf∣T k k*T i j-T i k*T k j:=by
 intro i j h1 h2 h3 h4
 cases h with
 |zero=>exact Int.one_dvd _
 |skip h _=>
  cases h with
  |zero=>exact Int.one_dvd _
  |skip=>omega
  |clear=>omega
 |clear h hp hk=>
  cases h with
  |zero=>
   have hi:i=2:=zo
   have hj:j=2:=zo
   subst hi hj
   show T0 0 0∣yS T0 0 1 1 1*yS T0 0 1 2 2-yS T0 0 1 2 1*yS T0 0 1 1 2
   rw [xa zo,xa zo,xa zo,xa zo,gI]
   exact Int.dvd_mul_right _ _
  |skip=>omega
  |clear=>omega
def bndT (M:Nat):Nat→Nat
 |0=>M
 |1=>2*(M*M)
 |_=>6*(M*(M*M))
theorem tV {a b c d:Int}(ha:a.natAbs≤M)(hb:b.natAbs≤M)(hc:c.natAbs≤M)(hd:d.natAbs≤M):(a*b-c*d).natAbs≤2*(M*M):=by
 have h1:=Int.natAbs_sub_le (a*b) (c*d)
 rw [Int.natAbs_mul,Int.natAbs_mul] at h1
 have h2:=Nat.mul_le_mul ha hb
 have h3:=Nat.mul_le_mul hc hd
 omega
theorem sX {a b:Int}(ha:a.natAbs≤M)(hb:b.natAbs≤N):(a*b).natAbs≤M*N:=by
 rw [Int.natAbs_mul];exact Nat.mul_le_mul ha hb
theorem zc7 {T:Nat→Nat→Int}(h:∀i j,i<3→j<3→(T i j).natAbs≤M):(det3 T).natAbs≤6*(M*(M*M)):=by
 have a0:=sX (h 0 0 zo zo) (tV (h 1 1 zo zo) (h 2 2 zo zo) (h 1 2 zo zo) (h 2 1 zo zo))
 have a1:=sX (h 0 1 zo zo) (tV (h 1 0 zo zo) (h 2 2 zo zo) (h 1 2 zo zo) (h 2 0 zo zo))
 have a2:=sX (h 0 2 zo zo) (tV (h 1 0 zo zo) (h 2 1 zo zo) (h 1 1 zo zo) (h 2 0 zo zo))
 unfold det3
 generalize T 0 0*_=x at*
 generalize T 0 1*_=y at*
 generalize T 0 2*_=z at*
 have e:M*(2*(M*M))=2*(M*(M*M)):=by rw [Nat.mul_left_comm]
 rw [e] at a0 a1 a2
 omega
theorem zcq {T:Nat→Nat→Int}(h:k<i):yS T k bf i j=(T k k*T i j-T i k*T k j).tdiv bf:=by
 unfold yS;rw [if_pos h]
theorem mU {T:Nat→Nat→Int}(h:i≤k):yS T k bf i j=T i j:=by
 unfold yS;rw [if_neg zo]
theorem qR (h:1≤M):M≤bndT M 1∧bndT M 1≤bndT M 2∧M≤bndT M 2:=by
 have h1:M*1≤M*M:=Nat.mul_le_mul_left M h
 have h2:M*M*1≤M*M*M:=Nat.mul_le_mul_left (M*M) h
 rw [Nat.mul_assoc M M M] at h2
 show M≤2*(M*M)∧2*(M*M)≤6*(M*(M*M))∧M≤6*(M*(M*M))
 omega
theorem aI {T:Nat→Nat→Int}(hk:k<n)(h1:1≤M)(hM:∀i j,i<n→j<n→(T i j).natAbs≤M):∀i j,i<n→j<n→(yS T k 1 i j).natAbs≤bndT M 1:=by
 intro i j hi hj
 by_cases h:k<i
 ·rw [xa h]
  exact tV (hM _ _ hk hk) (hM _ _ hi hj) (hM _ _ hi hk) (hM _ _ hk hj)
 rw [mU zo]
 exact Nat.le_trans (hM _ _ hi hj) (qR h1).1
theorem LdS.bound {T0 T:Nat→Nat→Int}(hn:n≤3)(h1:1≤M)(hM:∀i j,i<n→j<n→(T0 i j).natAbs≤M)(h:LdS n T0 k T bf)(hk:k<n):(∀i j,i<n→j<n→(T i j).natAbs≤bndT M k)∧bf.natAbs≤bndT M 1∧(k≤1→bf.natAbs≤M):=by
 obtain ⟨m1,m2,m3⟩:=qR h1
 have o1:(1:Int).natAbs≤bndT M 1:=Nat.le_trans h1 m1
 have c1:∀k,k<n→∀i j,i<n→j<n→(yS T0 k 1 i j).natAbs≤bndT M 1:=fun k hk=>aI hk h1 hM
 cases h with
 |zero=>exact ⟨hM,o1,fun _=>h1⟩
 |skip h _=>
  cases h with
  |zero=>exact ⟨fun i j hi hj=>Nat.le_trans (hM i j hi hj) m1,o1,fun _=>h1⟩
  |skip h _=>
   cases h with
   |zero=>exact ⟨fun i j hi hj=>Nat.le_trans (hM i j hi hj) m3,o1,fun _=>h1⟩
   |skip=>omega
   |clear=>omega
  |clear h hp hk0=>
   cases h with
   |zero=>exact ⟨fun i j hi hj=>Nat.le_trans (c1 0 hk0 i j hi hj) m2,Nat.le_trans (hM 0 0 hk0 hk0) m1,fun h=>by omega⟩
   |skip=>omega
   |clear=>omega
 |clear h hp hk0=>
  cases h with
  |zero=>exact ⟨c1 0 hk0,Nat.le_trans (hM 0 0 hk0 hk0) m1,fun _=>hM 0 0 hk0 hk0⟩
  |skip h _=>
   cases h with
   |zero=>exact ⟨fun i j hi hj=>Nat.le_trans (c1 1 hk0 i j hi hj) m2,Nat.le_trans (hM 1 1 hk0 hk0) m1,fun h=>by omega⟩
   |skip=>omega
   |clear=>omega
  |clear h hp0 hk1=>
   cases h with
   |zero=>
    refine ⟨fun i j hi hj=>?_,c1 0 hk1 1 1 hk0 hk0,fun h=>by omega⟩
    by_cases hi1:i≤1
    ·rw [mU hi1]
     exact Nat.le_trans (c1 0 hk1 i j hi hj) m2
    have hi2:i=2:=zo
    subst hi2
    have key:∀j,yS (yS T0 0 1) 1 (T0 0 0) 2 j=(yS T0 0 1 1 1*yS T0 0 1 2 j-yS T0 0 1 2 1*yS T0 0 1 1 j).tdiv (T0 0 0):=fun j=>zcq zo
    rw [key]
    have hj3:j=0∨j=1∨j=2:=zo
    rcases hj3 with rfl|rfl|rfl
    ·rw [xa (T:=T0) (i:=2) (j:=0) zo,xa (T:=T0) (i:=1) (j:=0) zo]
     rw [Int.mul_comm (T0 2 0),Int.sub_self,Int.mul_comm (T0 1 0),Int.sub_self,Int.mul_zero,Int.mul_zero,Int.sub_self,Int.zero_tdiv]
     exact Nat.zero_le _
    ·rw [Int.mul_comm (yS T0 0 1 2 1),Int.sub_self,Int.zero_tdiv]
     exact Nat.zero_le _
    rw [xa zo,xa zo,xa zo,xa zo,gI,Int.mul_tdiv_cancel_left _ hp0]
    exact zc7 fun i j hi hj=>hM i j zo zo
   |skip=>omega
   |clear=>omega
structure LdI (n:Nat)(T0:Nat→Nat→Int)(s:Nat→Rat)(a0:Nat→Nat→Rat)(k:Nat)(T:Nat→Nat→Int)(bf:Int)(a:Nat→Nat→Rat):Prop where
 tab:TabR n T bf s a k
 ls:LdS n T0 k T bf
 pos:0<bf
 eq:psdA n n 0 a0↔psdA n (n-k) k a
section
variable {n k:Nat}{T0 T:Nat→Nat→Int}{s:Nat→Rat}{a0 a:Nat→Nat→Rat}{bf:Int}
theorem LdI.start (h:TabR n T0 1 s a0 0):LdI n T0 s a0 0 T0 1 a0:=⟨h,.zero,by decide,Iff.rfl⟩
theorem LdI.done (h:LdI n T0 s a0 k T bf a)(hk:k=n):psdA n n 0 a0:=by
 rw [h.eq,hk,Nat.sub_self];trivial
theorem LdI.unf (h:LdI n T0 s a0 k T bf a)(hk:k<n):psdA n n 0 a0↔(0≤a k k∧(a k k=0→∀i,k<i→i<n→a i k=0)∧psdA n (n-(k+1)) (k+1) (nJ a k)):=by
 rw [h.eq,show n-k=(n-(k+1))+1 by omega]
 exact Iff.rfl
theorem LdI.neg (h:LdI n T0 s a0 k T bf a)(hk:k<n)(hn:a k k<0):¬psdA n n 0 a0:=by
 rw [h.unf hk]
 exact fun h=>Rat.not_lt.2 h.1 hn
theorem LdI.skip (h:LdI n T0 s a0 k T bf a)(hs:∀i,0<s i)(hk:k<n)(hz:a k k=0)(ht:∀i,k<i→i<n→T i k=0):LdI n T0 s a0 (k+1) T bf a:=by
 refine ⟨fun i j h1 h2 h3 h4=>h.tab i j zo h2 zo h4,h.ls.skip fun i h1 h2=>?_,h.pos,?_⟩
 ·rcases Nat.lt_or_eq_of_le h1 with h1|rfl
  ·exact ht i h1 h2
  exact (rL h.tab h.pos hs (Nat.le_refl _) hk (Nat.le_refl _) hk).2 hz
 rw [h.unf hk,ft hz]
 constructor
 ·exact fun h=>h.2.2
 exact fun h'=>⟨by rw [hz];exact Rat.le_refl,fun _ i hi hin=>(rL h.tab h.pos hs zo hin (Nat.le_refl _) hk).1 (ht i hi hin),h'⟩
theorem LdI.pivot (h:LdI n T0 s a0 k T bf a)(hs:∀i,0<s i)(hk:k<n)(hp:0<a k k):0<T k k:=by
 have e:=h.tab k k (Nat.le_refl _) hk (Nat.le_refl _) hk
 have hb:(0:Rat)<bf:=Rat.intCast_pos.2 h.pos
 have:(0:Rat)<T k k:=by rw [e];exact Rat.mul_pos (Rat.mul_pos hb (hs k)) hp
 exact Rat.intCast_pos.1 this
theorem LdI.step (hn:n≤3)(h:LdI n T0 s a0 k T bf a)(hs:∀i,0<s i)(hk:k<n)(hp:0<a k k):LdI n T0 s a0 (k+1) (yS T k bf) (T k k) (nJ a k):=by
 have hT:=h.pivot hs hk hp
 refine ⟨dw h.tab h.pos hk zo (h.ls.dvd hn),h.ls.clear zo hk,hT,?_⟩
 rw [h.unf hk]
 constructor
 ·exact fun h=>h.2.2
 exact fun h'=>⟨Rat.le_of_lt hp,fun e=>absurd hp (by rw [e];decide),h'⟩
theorem LdI.value (h:LdI n T0 s a0 k T bf a){D:Int}(hD:0<D)(hs:∀i,s i=(D:Rat)){i j:Nat}(h1:k≤i)(h2:i<n)(h3:k≤j)(h4:j<n):a i j=(T i j:Rat)/((bf*D:Int):Rat):=by
 have e:=h.tab i j h1 h2 h3 h4
 rw [hs i] at e
 have hb:(bf:Rat)≠0:=fun e=>by have:=wP.1 e;have:=h.pos;omega
 have hd:(D:Rat)≠0:=fun e=>by have:=wP.1 e;omega
 rw [e,Rat.intCast_mul,Rat.div_def,Rat.mul_comm _ (a i j),Rat.mul_assoc,Rat.mul_inv_cancel _ (fun e=>(Rat.mul_eq_zero.1 e).elim hb hd),Rat.mul_one]
end
def YF (C:CalF)(l:Nat)(args:List Value)(h:HF)(n:Nat)(P:HF→Nat→List Nat→Prop):Prop:=∃h' n' w,C.yl l args h n=some (.bool true,h',n',w)∧P h' n' w
theorem YF.mono {C:CalF}{h:HF}{n:Nat}{P P':HF→Nat→List Nat→Prop}(hc:YF C l args h n P)(hp:∀h' n' w,P h' n' w→P' h' n' w):YF C l args h n P':=by
 obtain ⟨h',n',w,h1,h2⟩:=hc
 exact ⟨h',n',w,h1,hp _ _ _ h2⟩
section
variable {X:CtxF}{ops r:List Oper}{t:TF}{h:HF}{n:Nat}{w:List Nat}{Q:SV→Prop}{o:Oper}{d:Tmp}
end
structure YS (C:CalF)(l:Nat)(W:Nat→Prop)(args:Nat→List Value)(K:Nat)(I:Nat→HF→Nat→Prop):Prop where
 step:∀k h n,k<K→I k h n→YF C l (args k) h n fun h' n' w=>I (k+1) h' n'∧n≤n'∧(∀c,c<3*n→¬W c→h' c=h c)∧∀c∈w,W c∨3*n≤c
theorem zc6:∀(l w:List Nat),∀c∈addW n0 l w,(c∈l∧c<3*n0)∨c∈w:=by
 intro l
 induction l with
 |nil=>intro w c hc;exact Or.inr hc
 |cons b l ih=>
  intro w c hc
  unfold addW at hc
  cases hb:Nat.ble (3*n0) b with
  |true=>
   simp only [hb] at hc
   rcases ih w c hc with ⟨h1,h2⟩|h1
   ·exact Or.inl ⟨List.mem_cons_of_mem _ h1,h2⟩
   exact Or.inr h1
  |false=>
   simp only [hb] at hc
   have hlt:b<3*n0:=by
    rcases Nat.lt_or_ge b (3*n0) with h|h
    ·exact h
    rw [Nat.ble_eq_true_of_le h] at hb;cases hb
   rcases ih (b::w) c hc with ⟨h1,h2⟩|h1
   ·exact Or.inl ⟨List.mem_cons_of_mem _ h1,h2⟩
   rcases List.mem_cons.1 h1 with rfl|h1
   ·exact Or.inl ⟨List.mem_cons_self ..,hlt⟩
   exact Or.inr h1
theorem zap:∀(l w:List Nat),∀c∈w,c∈addW n0 l w:=by
 intro l
 induction l with
 |nil=>intro w c hc;exact hc
 |cons b l ih=>
  intro w c hc
  unfold addW
  cases hb:Nat.ble (3*n0) b with
  |true=>exact ih w c hc
  |false=>exact ih (b::w) c (List.mem_cons_of_mem _ hc)
theorem jA {c:Nat}(hc:c<3*n0):∀{l w:List Nat},c∈l→c∈addW n0 l w:=by
 intro l
 induction l with
 |nil=>intro w h;exact absurd h List.not_mem_nil
 |cons b l ih=>
  intro w h
  unfold addW
  cases hb:Nat.ble (3*n0) b with
  |true=>
   rcases List.mem_cons.1 h with rfl|h
   ·have:=Nat.le_of_ble_eq_true hb;omega
   exact ih h
  |false=>
   rcases List.mem_cons.1 h with rfl|h
   ·exact zap l _ _ (List.mem_cons_self ..)
   exact ih h
section
variable {N bt cap j off:Nat}{α:Type}{c cs:List Value}{e ty:TypeId}{x:Operand}{z:Value}
def tabL {α:Type}(N:Nat)(T:Nat→Nat→α):List α:=(List.range (N*N)).map fun m=>T (m/N) (m%N)
theorem zhx {i:Nat}(hi:i<N)(hj:j<N):i*N+j<N*N:=by
 have h:=Nat.mul_le_mul_right N (show i+1≤N from hi)
 rw [Nat.add_mul,Nat.one_mul] at h
 omega
theorem bj {i:Nat}(hj:j<N):(i*N+j)/N=i∧(i*N+j)%N=j:=
 ⟨by rw [Nat.add_comm,Nat.add_mul_div_right _ _ zo,Nat.div_eq_of_lt hj,Nat.zero_add],by rw [Nat.add_comm,Nat.add_mul_mod_self_right,Nat.mod_eq_of_lt hj]⟩
theorem zaw {i:Nat}{T:Nat→Nat→α}(hi:i<N)(hj:j<N):(tabL N T)[i*N+j]?=some (T i j):=by
 unfold tabL
 rw [List.getElem?_map,List.getElem?_range (zhx hi hj)]
 show some (T ((i*N+j)/N) ((i*N+j)%N))=_
 rw [(bj hj).1,(bj hj).2]
structure KP {D:Type}(sz:Nat)(P:List Value→D→HF→Nat→Prop):Prop where
 t:∀{c d h n h' n'},P c d h n→Tr n h n' h'→P c d h' n'
 c:∀{c d h n},P c d h n→c.length=sz∧c.all nu=true∧ones c=true
def OR {D:Type}(sz:Nat)(P:List Value→D→HF→Nat→Prop)(h:HF)(n b:Nat)(ds:List D):Prop:=b<3*n∧∃C e,h b=some (.row C e)∧C.all nu=true∧Rec sz (fun c d=>P c d h n) C ds
theorem Rec.set2 {D:Type}{sz:Nat}{P:List Value→D→Prop}{ds:List D}(r:Rec sz P cs ds){d:D}(hc:c.length=sz)(hp:P c d):∀{j:Nat},j<ds.length→Rec sz P (zm cs (j*sz) c) (ds.set j d):=by
 induction r with
 |nil=>intro j hj;cases hj
 | @cons c1 cs d1 ds hl hp1 hr ih=>
  intro j hj
  cases j with
  |zero=>
   have e:zm (c1++cs) (0*sz) c=c++cs:=by
    unfold zm
    rw [Nat.zero_mul,List.take_zero,List.nil_append,Nat.zero_add,hc,←hl,List.drop_left]
   rw [e]
   exact .cons hc hp hr
  |succ j=>
   have e:zm (c1++cs) ((j+1)*sz) c=c1++zm cs (j*sz) c:=by
    have e2:(j+1)*sz=c1.length+j*sz:=by rw [Nat.succ_mul,hl,Nat.add_comm]
    unfold zm
    rw [e2,List.take_append,List.take_of_length_le zo,Nat.add_sub_cancel_left,List.append_assoc,Nat.add_assoc,List.drop_append,List.drop_eq_nil_of_le zo,List.nil_append,Nat.add_sub_cancel_left]
   rw [e]
   exact .cons hl hp1 (ih (by simpa using hj))
theorem js {o:Nat}(h:cs.all nu=true)(hc:c.all nu=true):(zm cs o c).all nu=true:=by
 rw [List.all_eq_true] at*
 intro x hx
 unfold zm at hx
 rcases List.mem_append.1 hx with hx|hx
 ·exact h x (List.mem_of_mem_take hx)
 rcases List.mem_append.1 hx with hx|hx
 ·exact hc x hx
 exact h x (List.mem_of_mem_drop hx)
section
variable {D:Type}{sz:Nat}{P:List Value→D→HF→Nat→Prop}{h h':HF}{n n' b:Nat}{ds:List D}
theorem OR.go (o:OR sz P h n b ds)(kp:KP sz P)(t:Tr n h n' h')(e:h' b=h b):OR sz P h' n' b ds:=by
 obtain ⟨hb,C,e1,h1,h2,h3⟩:=o
 exact ⟨by have:=t.1;omega,C,e1,e.trans h1,h2,h3.mono fun _ _ r=>kp.t r t⟩
theorem OR.ext (o:OR sz P h n b ds)(kp:KP sz P)(x:Ext n h h')(hn:n≤n'):OR sz P h' n' b ds:=o.go kp ⟨hn,fun c hc=>.inl (x c hc)⟩ (x b o.1)
theorem OR.xx (o:OR sz P h n b ds)(kp:KP sz P)(t:Tx n h n' h'):OR sz P h' n' b ds:=o.ext kp t.2 t.1
theorem OR.as {ds':List D}(o:OR sz P h n b ds)(e:ds=ds'):OR sz P h n b ds':=e▸o
theorem OR.get {d:D}(o:OR sz P h n b ds)(hj:ds[j]?=some d)(ho:off=j*sz):∃c,P c d h n∧c.length=sz∧At h b off c:=by
 obtain ⟨hb,C,e1,h1,h2,h3⟩:=o
 obtain ⟨c,g1,g2,g3,g4⟩:=h3.get hj
 subst ho
 exact ⟨c,g2,g1,⟨_,C,h1,rfl,zo,by rw [g1];exact g3⟩⟩
theorem OR.set {d:D}{C:List Value}(o:OR sz P h n b ds)(kp:KP sz P)(hC:h b=some (.row C e))(hj:j<ds.length)(r:P c d h n)(h1:h' b=some (.row (zm C (j*sz) c) e))(ho:Only b h h'):OR sz P h' n b (ds.set j d)∧Sto b h h':=by
 obtain ⟨hb,C2,e2,h2,h3,h4⟩:=o
 rw [hC] at h2
 cases h2
 have hs:Sto b h h':=⟨ho,_,_,hC,h3⟩
 have t:Tr n h n h':=Tr.s hs (Tr.refl _ _)
 obtain ⟨c1,c2,_⟩:=kp.c r
 exact ⟨⟨hb,_,_,h1,js h3 c2,(h4.mono fun _ _ r=>kp.t r t).set2 c1 (kp.t r t) hj⟩,hs⟩
theorem OR.len (o:OR sz P h n b ds):∃C e,h b=some (.row C e)∧C.length=ds.length*sz:=by
 obtain ⟨hb,C,e1,h1,h2,h3⟩:=o
 exact ⟨C,e1,h1,h3.len⟩
theorem OR.sl (o:OR sz P h n b ds){len:Nat}(hl:len=ds.length)(hc:len≤cap):RS sz P h n (.slice (some ⟨b,0,none⟩) len cap) ds:=by
 obtain ⟨hb,C,e1,h1,h2,h3⟩:=o
 have:=h3.len
 subst hl
 exact ⟨C,.at_ hb h1 rfl hc zo (by rw [List.drop_zero,List.take_of_length_le zo]),h3⟩
theorem OR.fill {L:Nat}{z:List Value}{d:D}(hb:b<3*n)(h1:h b=some (.row (rep L z) e))(kp:KP sz P)(hz:P z d h n):OR sz P h n b (List.replicate L d):=by
 refine ⟨hb,_,_,h1,?_,?_⟩
 ·clear h1
  induction L with
  |zero=>rfl
  |succ L ih=>show List.all (z++rep L z) nu=true;rw [List.all_append,ih,(kp.c hz).2.1];rfl
 clear h1
 induction L with
 |zero=>exact .nil
 |succ L ih=>exact .cons (kp.c hz).1 hz ih
end
def Ty1 (h:HF)(b:Nat)(e:TypeId):Prop:=∃C,h b=some (.row C e)
def intP (c:List Value)(z:Int)(h:HF)(n:Nat):Prop:=∃b a l k,c=[.bool b,.slice a l k]∧IW h n b a l k z
theorem intP.kp:KP 2 intP:=⟨fun ⟨b,a,l,k,e,i⟩ t=>⟨b,a,l,k,e,i.t t⟩,fun ⟨b,a,l,k,e,i⟩=>by subst e;exact ⟨rfl,rfl,rfl⟩⟩
theorem ratP.kp:KP 4 ratP:=⟨fun ⟨b,a,l,k,d,e,f,g,e1,i,j⟩ t=>⟨b,a,l,k,d,e,f,g,e1,i.t t,j.t t⟩,fun ⟨b,a,l,k,d,e,f,g,e1,i,j⟩=>by subst e1;exact ⟨rfl,rfl,rfl⟩⟩
theorem numP.kp:KP 4 numP:=⟨fun ⟨b,a,l,k,d,e,f,g,e1,i,j⟩ t=>⟨b,a,l,k,d,e,f,g,e1,i.t t,j.t t⟩,fun ⟨b,a,l,k,d,e,f,g,e1,i,j⟩=>by subst e1;exact ⟨rfl,rfl,rfl⟩⟩
abbrev OZ (h:HF)(n b:Nat)(zs:List Int):Prop:=OR 2 intP h n b zs
theorem OR.el {h:HF}{n b i:Nat}{T:Nat→Nat→Int}(o:OZ h n b (tabL N T))(hi:i<N)(hj:j<N):∃b1 a1 l1 c1,At h b (i*N*2+j*2) [.bool b1,.slice a1 l1 c1]∧IW h n b1 a1 l1 c1 (T i j):=by
 obtain ⟨c,⟨b1,a1,l1,c1,rfl,i1⟩,_,a⟩:=o.get (zaw hi hj) (off:=i*N*2+j*2) (by rw [Nat.add_mul])
 exact ⟨b1,a1,l1,c1,a,i1⟩
section
variable {X:CtxF}{n0:Nat}{ops r:List Oper}{ms:List Nat}{i m:Nat}{t:TF}{h:HF}{n:Nat}{w:List Nat}{al ld:List (Nat×Nat)}{ef:List (Nat×HF×List Nat)}{Q:SV→Prop}{o:Oper}{d:Tmp}
theorem sSx {a:Operand}{b sz:Nat}(c':List Value)(hb:h b=some (.row c e))(k:∀h',h' b=some (.row c' e)→Sto b h h'→EO X ops r ⟨t,h',n,addW n0 [b] w⟩ Q)(hw:zh ops t o=true:=by exact rfl)(hd:o.dst=none:=by exact rfl)(ho:o.op=.store ty a x:=by exact rfl)(hi:X.E.inf ty=some (sz,bt,z):=by exact rfl)(ha:evF t a=.pointer (some ⟨b,off,none⟩):=by exact rfl)(hu:c.all nu=true:=by exact rfl)(hx:zl (evF t x)=cs:=by exact rfl)(hs:cs.length=sz:=by exact rfl)(h1:ones cs=true:=by exact rfl)(hl:off+sz≤c.length:=by exact zb)(hsp:zm c off cs=c':=by exact rfl)(hX:X.n0=n0:=by exact rfl):EO X ops (o::r) ⟨t,h,n,w⟩ Q:=by
 subst hsp hx
 rw [rz hw (by rw [hd];rfl) (by rw [ho];rfl) (by rw [ho];exact wc hi ha hs h1 hb hl),hd,hX]
 exact k _ (zg _ _ _) ⟨fun c hc=>zj hc,_,_,hb,hu⟩
theorem dSx {a:Operand}{b sz:Nat}(c':List Value)(hb:h b=some (.row c e))(k:∀h',h' b=some (.row c' e)→Sto b h h'→ED X ops r ms (i+1) ⟨⟨t,h',n,addW n0 [b] w⟩,al,ld,(i,h,[b])::ef⟩ Q)(hw:zh ops t o=true:=by exact rfl)(hd:o.dst=none:=by exact rfl)(ho:o.op=.store ty a x:=by exact rfl)(hi:X.E.inf ty=some (sz,bt,z):=by exact rfl)(ha:evF t a=.pointer (some ⟨b,off,none⟩):=by exact rfl)(hu:c.all nu=true:=by exact rfl)(hx:zl (evF t x)=cs:=by exact rfl)(hs:cs.length=sz:=by exact rfl)(h1:ones cs=true:=by exact rfl)(hl:off+sz≤c.length:=by exact zb)(hsp:zm c off cs=c':=by exact rfl)(hX:X.n0=n0:=by exact rfl)(g1:xc m ef=true:=by exact rfl)(g2:xA m al=true:=by exact rfl)(g3:z0 m [b] ld=true:=by exact rfl):ED X ops (o::r) (m::ms) i ⟨⟨t,h,n,w⟩,al,ld,ef⟩ Q:=by
 subst hsp hx
 refine iW hw (by rw [hd];rfl) (by rw [ho];rfl) (by rw [ho];exact wc hi ha hs h1 hb hl) g1 g2 g3 (Nat.le_refl _) ?_
 rw [hd,hX]
 exact k _ (zg _ _ _) ⟨fun c hc=>zj hc,_,_,hb,hu⟩
theorem dZ {D:Type}{sz:Nat}{P:List Value→D→HF→Nat→Prop}{a:Operand}{b:Nat}{zs:List D}{q:D}(c:List Value)(og:OR sz P h n b zs)(kp:KP sz P)(hj:j<zs.length)(hoff:off=j*sz)(i1:P c q h n)(k:∀h',OR sz P h' n b (zs.set j q)→Sto b h h'→(∀e,Ty1 h b e→Ty1 h' b e)→ED X ops r ms (i+1) ⟨⟨t,h',n,addW n0 [b] w⟩,al,ld,(i,h,[b])::ef⟩ Q)(hw:zh ops t o=true:=by exact rfl)(hd:o.dst=none:=by exact rfl)(ho:o.op=.store ty a x:=by exact rfl)(hi:X.E.inf ty=some (sz,bt,z):=by exact rfl)(ha:evF t a=.pointer (some ⟨b,off,none⟩):=by exact rfl)(hx:zl (evF t x)=c:=by exact rfl)(h1:xc m ef=true:=by exact rfl)(h2:xA m al=true:=by exact rfl)(h3:z0 m [b] ld=true:=by exact rfl)(hX:X.n0=n0:=by exact rfl):ED X ops (o::r) (m::ms) i ⟨⟨t,h,n,w⟩,al,ld,ef⟩ Q:=by
 have og':=og
 obtain ⟨hb,C,e,y1,y2,y3⟩:=og
 have hlen:=y3.len
 obtain ⟨c1,c2,c3⟩:=kp.c i1
 have hsz:j*sz+sz≤zs.length*sz:=by
  have:=Nat.mul_le_mul_right sz (show j+1≤zs.length from hj)
  rw [Nat.add_mul,Nat.one_mul] at this
  exact this
 subst hoff
 refine iW hw (by rw [hd];rfl) (by rw [ho];rfl) (by rw [ho];exact wc hi ha (by rw [hx];exact c1) (by rw [hx];exact c3) y1 zo) h1 h2 h3 (Nat.le_refl _) ?_
 rw [hd,hx,hX]
 have s:=og'.set (h':=upd h b (some (.row (zm C (j*sz) c) e))) kp y1 hj i1 (zg _ _ _) (fun c hc=>zj hc)
 exact k _ s.1 s.2 fun e2 ⟨C2,h2⟩=>⟨_,by rw [y1] at h2;cases h2;exact zg _ _ _⟩
end
end
section
variable {h' h0:HF}{b n0:Nat}{v v0:Value}{L T:List Nat}{c:List Value}
def BkOf (v:Value)(b:Nat):Prop:=∃o l c,v=.slice (some ⟨b,o,none⟩) l c
def GroU (h:HF)(n:Nat)(v:Value)(T:List Nat):Prop:=Gro h 0 n 129 1 v T.length (u64s T)
theorem GroU.nil {h:HF}{n:Nat}:GroU h n (.slice none 0 0) []:=Gro.nil
structure AU (h0:HF)(n0:Nat)(v0:Value)(h:HF)(n:Nat)(w:List Nat)(v:Value)(T:List Nat):Prop where
 hn:n0≤n
 keep:Keep v0 n0 h0 h
 hw:∀b∈w,BkOf v0 b
 g:GroU h n v T
 or:v=v0∨yO n0 v
 wd:WdD T
theorem AU.refl (g:GroU h0 n0 v0 T)(hT:WdD T):AU h0 n0 v0 h0 n0 [] v0 T:=⟨Nat.le_refl _,fun _ _ _=>rfl,fun b hb=>absurd hb List.not_mem_nil,g,Or.inl rfl,hT⟩
theorem AU.trans {h1 h2:HF}{n1 n2:Nat}{w1 w2:List Nat}{v1 v2:Value}{T1 T2:List Nat}(a:AU h0 n0 v0 h1 n1 w1 v1 T1)(b:AU h1 n1 v1 h2 n2 w2 v2 T2):AU h0 n0 v0 h2 n2 (addW n0 w2 w1) v2 T2:=by
 have hn:=a.hn
 refine ⟨Nat.le_trans a.hn b.hn,fun k hk hne=>(b.keep k zo fun o l c e=>?_).trans (a.keep k hk hne),fun k hk=>?_,b.g,?_,b.wd⟩
 ·rcases a.or with h|h
  ·exact hne o l c (h▸e)
  rw [e] at h;have h:3*n0≤k:=h;omega
 ·rcases yu.1 hk with h|⟨h,h3⟩
  ·exact a.hw k h
  obtain ⟨o,l,c,e⟩:=b.hw k h
  rcases a.or with h4|h4
  ·exact ⟨o,l,c,h4▸e⟩
  rw [e] at h4;have h4:3*n0≤k:=h4;omega
 rcases b.or with h|h
 ·rw [h];exact a.or
 right
 cases v2 with
 |slice ad l c=>
  cases ad with
  |none=>trivial
  |some ad=>have h:3*n1≤ad.block:=h;show 3*n0≤ad.block;omega
 |_=>trivial
theorem AU.sl {h:HF}{n:Nat}{w:List Nat}{u:Value}(a:AU h0 n0 v0 h n w v T)(s:Sl h0 n0 1 u c)(ho:∀b,BkOf v0 b→Off b u):Sl h n 1 u c:=
 s.keep (fun ad l cap ev=>by
  have hb:=s.below
  subst ev
  refine a.keep ad.block hb fun o l' c' e=>?_
  have:=ho ad.block ⟨o,l',c',e⟩
  exact this rfl) a.hn
theorem AU.off {h:HF}{n:Nat}{w:List Nat}{u:Value}(a:AU h0 n0 v0 h n w v T)(s:Sl h0 n0 1 u c)(ho:∀b,BkOf v0 b→Off b u):∀b,BkOf v b→Off b u:=by
 rintro b ⟨o,l,k,rfl⟩
 rcases a.or with e|hf
 ·exact ho b ⟨o,l,k,e.symm⟩
 have hf:3*n0≤b:=hf
 exact s.below.off hf
theorem GroU.row {h:HF}{n:Nat}(g:GroU h n v T)(h0:T.length≠0):∃b,v=.slice (some ⟨b,0,none⟩) T.length T.length∧gro b=true∧b<3*n∧h b=some (.row (u64s T) 129):=by
 obtain ⟨b,h1,h2,_,h4,h5,_⟩:=Gro.inv2 g h0
 exact ⟨b,h1,h2,h4,h5⟩
theorem AU.row {w:List Nat}(hgb:gro b=true)(hb:b<3*n0)(hx:ExtT n0 b h0 h')(hw:∀c∈w,c=b)(hr:h' b=some (.row (u64s L) 129))(hl:L.length=T.length)(hL:WdD L):AU h0 n0 (.slice (some ⟨b,0,none⟩) T.length T.length) h' n0 w (.slice (some ⟨b,0,none⟩) T.length T.length) L:=by
 refine ⟨Nat.le_refl _,fun k hk hne=>hx k hk fun e=>hne 0 T.length T.length (by rw [e]),fun c hc=>⟨0,T.length,T.length,by rw [hw c hc]⟩,?_,.inl rfl,hL⟩
 rw [←hl]
 exact .at_ hgb zo hb hr (by rw [zF,Nat.mul_one]) (vh _)
section
variable {X:CtxF}{ops r:List Oper}{t:TF}{h:HF}{n:Nat}{w:List Nat}{Q:SV→Prop}{o:Oper}{d:Tmp}
end
end
section
variable {c cl cs:List Value}{h':HF}{b cap j l n' sz:Nat}{v:Value}{a:Option Addr}{e:TypeId}
structure SideD where
 A:List Rat
 lo:List UInt8
 hi:List UInt8
def vR (lo:Nat)(c:List Value)(d:SideD)(h:HF)(n:Nat):Prop:=∃aA lA kA x1 b1 a1 l1 c1 d1 e1 f1 g1 x2 b2 a2 l2 c2 d2 e2 f2 g2,c=[.slice aA lA kA,.bool x1,.bool b1,.slice a1 l1 c1,.bool d1,.slice e1 f1 g1,.bool x2,.bool b2,.slice a2 l2 c2,.bool d2,.slice e2 f2 g2]∧QSL lo h n (.slice aA lA kA) d.A∧(x1=true↔d.lo≠[])∧IW h n b1 a1 l1 c1 (zk d.lo).num∧IW h n d1 e1 f1 g1 (denZ (zk d.lo))∧(x2=true↔d.hi≠[])∧IW h n b2 a2 l2 c2 (zk d.hi).num∧IW h n d2 e2 f2 g2 (denZ (zk d.hi))
theorem vR.stay (lo:Nat):Stay (vR lo):=⟨fun _ _ _ _ _ _ ⟨aA,lA,kA,x1,b1,a1,l1,c1,d1,e1,f1,g1,x2,b2,a2,l2,c2,d2,e2,f2,g2,h0,h1,h2,h3,h4,h5,h6,h7⟩ x hn=>⟨aA,lA,kA,x1,b1,a1,l1,c1,d1,e1,f1,g1,x2,b2,a2,l2,c2,d2,e2,f2,g2,h0,h1.ext x hn,h2,h3.ext x hn,h4.ext x hn,h5,h6.ext x hn,h7.ext x hn⟩⟩
theorem vR.nus {lo:Nat}{d:SideD}{h:HF}{n:Nat}(s:vR lo c d h n):c.all nu=true∧ones c=true∧c.length=11:=by
 obtain ⟨aA,lA,kA,x1,b1,a1,l1,c1,d1,e1,f1,g1,x2,b2,a2,l2,c2,d2,e2,f2,g2,rfl,_⟩:=s
 exact ⟨rfl,rfl,rfl⟩
def Chg (lo n:Nat)(h h':HF):Prop:=∀b,b<3*n→h' b=h b∨((b<3*lo∨gro b=true)∧∃cs e,h b=some (.row cs e)∧cs.all nu=true)
theorem Sl.chgG {lo:Nat}{h:HF}{n:Nat}(s:Sl h n 1 v cl)(hcl:∀x∈cl,nu x=false)(hc:Chg lo n h h')(hn:n≤n'):Sl h' n' 1 v cl:=by
 cases s with
 |nil ha=>exact .nil (vD ha hn)
 | @at_ b2 off len cap x cs2 c2 hb hx hc2 hcap hl he=>
  rcases hc b2 hb with h1|⟨_,cs,e,hp,hu⟩
  ·exact .at_ zo (h1.trans hx) hc2 hcap hl he
  by_cases h0:len=0
  ·subst h0
   have:cl=[]:=by rw [←he];simp
   subst this
   exact .nil (.inr ⟨_,_,_,rfl,zo⟩)
  exfalso
  rw [hp] at hx
  cases hx
  injection hc2 with hc2
  subst hc2
  have hL:cl.length=len:=by rw [←he,List.length_take,List.length_drop];omega
  obtain ⟨d,L',rfl⟩:∃d L',cl=d::L':=by
   cases cl with
   |nil=>exact absurd hL.symm h0
   |cons d L'=>exact ⟨d,L',rfl⟩
  have hm:d∈cs:=by
   have:d∈(cs.drop off).take (len*1):=by rw [he];exact List.mem_cons_self
   exact List.mem_of_mem_drop (List.mem_of_mem_take this)
  have:=List.all_eq_true.1 hu _ hm
  rw [hcl d List.mem_cons_self] at this
  cases this
theorem IW.chg {lo:Nat}{h:HF}{n:Nat}{b:Bool}{c:Nat}{x:Int}(i:IW h n b a l c x)(hc:Chg lo n h h')(hn:n≤n'):IW h' n' b a l c x:=by
 obtain ⟨e,L,h1,h2,h3⟩:=i
 exact ⟨e,L,h1.chgG (fun x hx=>by obtain ⟨d,_,rfl⟩:=List.mem_map.1 hx;rfl) hc hn,h2,h3⟩
theorem QSL.chg {lo:Nat}{h:HF}{n:Nat}{l:List Rat}(r:QSL lo h n v l)(hc:Chg lo n h h')(hn:n≤n'):QSL lo h' n' v l:=by
 obtain ⟨⟨cells,h1,h2⟩,h3⟩:=r
 refine ⟨⟨cells,?_,h2.mono fun c d ⟨b,a,l,k,d,e,f,g,e1,i,j⟩=>⟨b,a,l,k,d,e,f,g,e1,i.chg hc hn,j.chg hc hn⟩⟩,h3⟩
 cases h1 with
 |nil ha=>exact .nil (vD ha hn)
 |at_ hb hx hcs hcap hl he=>
  refine .at_ zo ?_ hcs hcap hl he
  have:=h3 _ _ _ rfl
  rcases hc _ hb with h4|⟨h4|h4,_⟩
  ·exact h4.trans hx
  ·have h5:=this.1;simp only at h5;omega
  have h5:=this.2;simp only at h5;rw [h5] at h4;cases h4
theorem vR.chg {lo:Nat}{d:SideD}{h:HF}{n:Nat}(s:vR lo c d h n)(hc:Chg lo n h h')(hn:n≤n'):vR lo c d h' n':=by
 obtain ⟨aA,lA,kA,x1,b1,a1,l1,c1,d1,e1,f1,g1,x2,b2,a2,l2,c2,d2,e2,f2,g2,h0,h1,h2,h3,h4,h5,h6,h7⟩:=s
 exact ⟨aA,lA,kA,x1,b1,a1,l1,c1,d1,e1,f1,g1,x2,b2,a2,l2,c2,d2,e2,f2,g2,h0,h1.chg hc hn,h2,h3.chg hc hn,h4.chg hc hn,h5,h6.chg hc hn,h7.chg hc hn⟩
theorem Gro.same {lo n len:Nat}{h:HF}{C:List Value}(g:Gro h lo n e sz v len C)(hs:∀b,3*lo≤b→b<3*n→gro b=true→h' b=h b):Gro h' lo n e sz v len C:=by
 cases g with
 |nil=>exact .nil
 |at_ hg hlo hb hr hl ho=>exact .at_ hg hlo hb ((hs _ hlo hb hg).trans hr) hl ho
structure GSL (lo:Nat)(h:HF)(n:Nat)(v:Value)(ds:List SideD):Prop where
 ex:∃C,Gro h lo n 107 11 v ds.length C∧Rec 11 (fun c d=>vR lo c d h n) C ds∧C.all nu=true
theorem GSL.nil (lo:Nat)(h:HF)(n:Nat):GSL lo h n (.slice none 0 0) []:=⟨[],.nil,.nil,rfl⟩
theorem GSL.ext {lo:Nat}{h:HF}{n:Nat}{ds:List SideD}(g:GSL lo h n v ds)(x:Ext n h h')(hn:n≤n'):GSL lo h' n' v ds:=by
 obtain ⟨C,h1,h2,h3⟩:=g.ex
 exact ⟨C,h1.ext x hn,h2.mono fun c d hp=>(vR.stay lo).go c d _ _ _ _ hp x hn,h3⟩
theorem GSL.x {lo:Nat}{h:HF}{n:Nat}{ds:List SideD}(g:GSL lo h n v ds)(t:Tx n h n' h'):GSL lo h' n' v ds:=g.ext t.2 t.1
theorem GSL.st {lo:Nat}{h:HF}{n:Nat}{ds:List SideD}(g:GSL lo h n v ds)(hp:h b=some (.row cs e))(hu:cs.all nu=true)(ho:Only b h h')(hb:b<3*lo):GSL lo h' n v ds:=by
 obtain ⟨C,h1,h2,h3⟩:=g.ex
 have hc:Chg lo n h h':=fun k hk=>by
  by_cases e2:k=b
  ·subst e2;exact .inr ⟨.inl hb,cs,e,hp,hu⟩
  exact .inl (ho k e2)
 exact ⟨C,h1.same fun k hk _ _=>ho k zo,h2.mono fun c d s=>s.chg hc (Nat.le_refl _),h3⟩
theorem GSL.sto {lo:Nat}{h:HF}{n:Nat}{ds:List SideD}(g:GSL lo h n v ds)(o:Sto b h h')(hb:b<3*lo):GSL lo h' n v ds:=by
 obtain ⟨o,_,_,hp,hu⟩:=o
 exact g.st hp hu o hb
theorem Keep.chg {lo n len:Nat}{h:HF}{C:List Value}(k:Keep v n h h')(g:Gro h lo n e sz v len C)(hu:C.all nu=true):Chg lo n h h':=fun b hb=>by
 cases g with
 |nil=>exact .inl (k b hb fun o l c e=>by cases e)
 | @at_ b2 _ _ hg hlo hb2 hr hl ho2=>
  by_cases e2:b=b2
  ·subst e2;exact .inr ⟨.inr hg,_,_,hr,hu⟩
  exact .inl (k b hb fun o l c e=>by cases e;exact e2 rfl)
theorem QSL.st {lo:Nat}{h:HF}{n:Nat}{l:List Rat}(g:QSL lo h n v l)(hp:h b=some (.row cs e))(hu:cs.all nu=true)(ho:Only b h h')(hb:b<3*lo):QSL lo h' n v l:=
 g.chg (fun k hk=>by
  by_cases e2:k=b
  ·subst e2;exact .inr ⟨.inl hb,cs,e,hp,hu⟩
  ·exact .inl (ho k e2)) (Nat.le_refl _)
theorem QSL.sto {lo:Nat}{h:HF}{n:Nat}{l:List Rat}(g:QSL lo h n v l)(o:Sto b h h')(hb:b<3*lo):QSL lo h' n v l:=by
 obtain ⟨o,_,_,hp,hu⟩:=o
 exact g.st hp hu o hb
theorem QSL.lo {lo lo':Nat}{h:HF}{n:Nat}{l:List Rat}(r:QSL lo h n v l)(hl:lo'≤lo):QSL lo' h n v l:=⟨r.1,fun ad len cap e=>⟨by have:=(r.2 ad len cap e).1;omega,(r.2 ad len cap e).2⟩⟩
theorem QSL.nil (lo:Nat)(h:HF)(n:Nat):QSL lo h n (.slice none 0 0) []:=⟨⟨[],.nil (.inl rfl),.nil⟩,fun ad len cap e=>by cases e⟩
theorem vR.lo {lo lo':Nat}{d:SideD}{h:HF}{n:Nat}(s:vR lo c d h n)(hl:lo'≤lo):vR lo' c d h n:=by
 obtain ⟨aA,lA,kA,x1,b1,a1,l1,c1,d1,e1,f1,g1,x2,b2,a2,l2,c2,d2,e2,f2,g2,h0,h1,h2,h3,h4,h5,h6,h7⟩:=s
 exact ⟨aA,lA,kA,x1,b1,a1,l1,c1,d1,e1,f1,g1,x2,b2,a2,l2,c2,d2,e2,f2,g2,h0,h1.lo hl,h2,h3,h4,h5,h6,h7⟩
theorem GSL.app {lo:Nat}{h:HF}{n:Nat}{v':Value}{ds:List SideD}{d:SideD}{C:List Value}(h1:Gro h lo n 107 11 v ds.length C)(h2:Rec 11 (fun c d=>vR lo c d h n) C ds)(h3:C.all nu=true)(s:vR lo c d h n)(k:Keep v n h h')(g:Gro h' lo (n+1) 107 11 v' (ds.length+1) (C++c)):GSL lo h' (n+1) v' (ds++[d]):=by
 have hc:=k.chg h1 h3
 refine ⟨C++c,by rw [List.length_append];exact g,(h2.mono fun c d s=>s.chg hc zs).snoc s.nus.2.2 (s.chg hc zs),?_⟩
 rw [List.all_append,h3,s.nus.1]
 rfl
def SDS (h:HF)(n:Nat)(v:Value)(ds:List SideD):Prop:=RS 11 (vR 0) h n v ds
theorem GSL.sds {lo:Nat}{h:HF}{n:Nat}{ds:List SideD}(g:GSL lo h n v ds):SDS h n v ds:=by
 obtain ⟨C,h1,h2,h3⟩:=g.ex
 exact ⟨C,h1.sl,h2.mono fun c d s=>s.lo (Nat.zero_le _)⟩
theorem SDS.ext {h:HF}{n:Nat}{l:List SideD}(r:SDS h n v l)(x:Ext n h h')(hn:n≤n'):SDS h' n' v l:=RS.ext' (vR.stay 0) r x hn
theorem SDS.x {h:HF}{n:Nat}{l:List SideD}(r:SDS h n v l)(t:Tx n h n' h'):SDS h' n' v l:=r.ext t.2 t.1
theorem SDS.len {h:HF}{n:Nat}{len:Nat}{l:List SideD}(r:SDS h n (.slice a len cap) l):len=l.length:=RS.len' zd r
theorem SDS.at {h:HF}{n:Nat}{len:Nat}{l:List SideD}{d:SideD}(r:SDS h n (.slice a len cap) l)(hj:l[j]?=some d):∃bb off aA lA kA x1 b1 a1 l1 c1 d1 e1 f1 g1 x2 b2 a2 l2 c2 d2 e2 f2 g2,a=some ⟨bb,off,none⟩∧bb<3*n∧j<len∧At h bb (off+j*11) [.slice aA lA kA,.bool x1,.bool b1,.slice a1 l1 c1,.bool d1,.slice e1 f1 g1,.bool x2,.bool b2,.slice a2 l2 c2,.bool d2,.slice e2 f2 g2]∧QS h n (.slice aA lA kA) d.A∧(x1=true↔d.lo≠[])∧IW h n b1 a1 l1 c1 (zk d.lo).num∧IW h n d1 e1 f1 g1 (denZ (zk d.lo))∧(x2=true↔d.hi≠[])∧IW h n b2 a2 l2 c2 (zk d.hi).num∧IW h n d2 e2 f2 g2 (denZ (zk d.hi)):=by
 obtain ⟨bb,off,c,p1,p2,p3,p4,_,aA,lA,kA,x1,b1,a1,l1,c1,d1,e1,f1,g1,x2,b2,a2,l2,c2,d2,e2,f2,g2,rfl,h1,h2,h3,h4,h5,h6,h7⟩:=RS.at' zd r hj
 exact ⟨bb,off,aA,lA,kA,x1,b1,a1,l1,c1,d1,e1,f1,g1,x2,b2,a2,l2,c2,d2,e2,f2,g2,p1,p2,p3,p4,h1.1,h2,h3,h4,h5,h6,h7⟩
section
variable {X:CtxF}{ops r:List Oper}{t:TF}{h:HF}{n:Nat}{w:List Nat}{Q:SV→Prop}{o:Oper}{d:Tmp}
theorem wG (cs:List Value){c:Nat}(hw:zh ops t o=true∧o.dst=some d∧zn X.nt (some d)=true∧cls o.op=2∧mkE X.E o.op (evF t)=some ⟨cs,e,false,some (l,c)⟩)
  (k:∀h',h' (3*n+2)=some (.row cs e)→Ext n h h'→EO X ops r ⟨upd t d (.slice (some ⟨3*n+2,0,none⟩) l c),h',n+1,w⟩ Q):EO X ops (o::r) ⟨t,h,n,w⟩ Q:=by obtain ⟨hw,hd,hn,hc,hm⟩:=hw;exact ny ⟨hw,hd,hn,hc,hm⟩ (k _ (zg _ _ _) (Ext.upd zo))
end
theorem Gro.other {lo n len:Nat}{h:HF}{u:Value}{C:List Value}(g:Gro h lo n e sz v len C)(hk:Keep u n h h')(ha:Apt v u):Gro h' lo n e sz v len C:=by
 cases g with
 |nil=>exact .nil
 |at_ hg hlo hb hr hl ho=>exact .at_ hg hlo hb (by rw [hk _ hb fun o l c e=>ha _ _ _ _ _ _ rfl e rfl];exact hr) hl ho
end
section
variable {h h':HF}{b cap j lo n n' sz:Nat}{v:Value}{a:Option Addr}{ds:List SideD}{e:TypeId}
structure RowD where
 A:List (List UInt8)
 lo:List UInt8
 hi:List UInt8
structure LPD where
 obj:List (List UInt8)
 rows:List RowD
 lower:List (List UInt8)
 upper:List (List UInt8)
def rowP (c:List Value)(d:RowD)(h:HF)(n:Nat):Prop:=∃a l k,c=[.slice a l k,.string ⟨⟨d.lo⟩⟩,.string ⟨⟨d.hi⟩⟩]∧Sl h n 1 (.slice a l k) (strs d.A)
theorem rowP.stay:Stay rowP:=⟨fun _ _ _ _ _ _ ⟨a,l,k,e,s⟩ x hn=>⟨a,l,k,e,s.ext x hn⟩⟩
def RWS (h:HF)(n:Nat)(v:Value)(ds:List RowD):Prop:=RS 3 rowP h n v ds
theorem RWS.ext {l:List RowD}(r:RWS h n v l)(x:Ext n h h')(hn:n≤n'):RWS h' n' v l:=RS.ext' rowP.stay r x hn
theorem RWS.x {l:List RowD}(r:RWS h n v l)(t:Tx n h n' h'):RWS h' n' v l:=r.ext t.2 t.1
theorem RWS.len {len:Nat}{l:List RowD}(r:RWS h n (.slice a len cap) l):len=l.length:=RS.len' zd r
theorem RWS.at {len:Nat}{l:List RowD}{d:RowD}(r:RWS h n (.slice a len cap) l)(hj:l[j]?=some d):∃bb off a2 l2 k2,a=some ⟨bb,off,none⟩∧bb<3*n∧j<len∧At h bb (off+j*3) [.slice a2 l2 k2,.string ⟨⟨d.lo⟩⟩,.string ⟨⟨d.hi⟩⟩]∧Sl h n 1 (.slice a2 l2 k2) (strs d.A):=by
 obtain ⟨bb,off,c,p1,p2,p3,p4,_,a2,l2,k2,rfl,s⟩:=RS.at' zd r hj
 exact ⟨bb,off,a2,l2,k2,p1,p2,p3,p4,s⟩
structure VLP (p:LPD):Prop where
 n1:1≤p.obj.length
 n2:p.obj.length≤64
 ll:p.lower.length=p.obj.length
 lu:p.upper.length=p.obj.length
 lr:p.rows.length≤64
 ob:∀s∈p.obj,wi s
 bd:∀(j:Nat) lo hi,p.lower[j]?=some lo→p.upper[j]?=some hi→pairOk lo hi
 rw:∀r∈p.rows,pairOk r.lo r.hi∧(∀s∈r.A,wi s)∧r.A.length=p.obj.length
def Txt (a:Nat)(s:List UInt8):Prop:=s.length<500∧Sz a (zk s)
structure LPB (a:Nat)(p:LPD):Prop where
 ob:∀s∈p.obj,Txt a s
 lw:∀s∈p.lower,Txt a s
 up:∀s∈p.upper,Txt a s
 rl:∀r∈p.rows,Txt a r.lo∧Txt a r.hi∧r.A.length<1000000∧∀s∈r.A,Txt a s
 n1:p.obj.length<1000000
 n2:p.rows.length<1000000
 n3:p.lower.length<1000000
 n4:p.upper.length<1000000
noncomputable def rowS (r:RowD):SideD:=⟨r.A.map zk,r.lo,r.hi⟩
noncomputable def rE (p:LPD):List SideD:=p.rows.map rowS
def xQ (p:LPD):List SideD:=List.zipWith (fun lo hi=>⟨[],lo,hi⟩) p.lower p.upper
theorem qO {p:LPD}{lo hi:List UInt8}(h1:p.lower[j]?=some lo)(h2:p.upper[j]?=some hi):(xQ p)[j]?=some ⟨[],lo,hi⟩:=by
 unfold xQ
 rw [List.getElem?_zipWith,h1,h2]
theorem ca {p:LPD}{r:RowD}(h1:p.rows[j]?=some r):(rE p)[j]?=some (rowS r):=by
 unfold rE
 rw [List.getElem?_map,h1];rfl
theorem GSL.extB {B:List Nat}(g:GSL lo h n v ds)(x:ExtB n B h h')(hn:n≤n')(hB:∀b∈B,b<3*lo∧∃cs e,h b=some (.row cs e)∧cs.all nu=true):GSL lo h' n' v ds:=by
 obtain ⟨C,h1,h2,h3⟩:=g.ex
 have hc:Chg lo n h h':=fun k hk=>by
  by_cases e2:k∈B
  ·obtain ⟨h4,h5⟩:=hB k e2;exact .inr ⟨.inl h4,h5⟩
  exact .inl (x k hk e2)
 have h4:=h1.same (h':=h') fun k hk hk2 _=>x k hk2 fun e2=>by have:=(hB k e2).1;omega
 refine ⟨C,?_,h2.mono fun c d s=>s.chg hc hn,h3⟩
 exact h4.ext (Ext.refl n h') hn
theorem Keep.blk {len:Nat}{C:List Value}(k:Keep v n h h')(g:Gro h lo n e sz v len C)(hb:gro b=false)(hl:b<3*n):h' b=h b:=by
 refine k b hl fun o l c e=>?_
 cases g with
 |nil=>cases e
 |at_ hg hlo hb2 hr hl ho=>cases e;rw [hg] at hb;cases hb
end
section
variable {b bt bytes cap l len n0 off:Nat}{W:List Nat}{sT ty xT:TypeId}{hi x:Operand}{z:Value}{c cs:List Value}{ik:IntKind}
def GR {D:Type}(sz:Nat)(P:List Value→D→HF→Nat→Prop)(lo:Nat)(h:HF)(n:Nat)(e:TypeId)(v:Value)(ds:List D):Prop:=∃C,Gro h lo n e sz v ds.length C∧Rec sz (fun c d=>P c d h n) C ds∧C.all nu=true
section
variable {D:Type}{sz:Nat}{P:List Value→D→HF→Nat→Prop}{lo n n':Nat}{h h':HF}{e:TypeId}{v:Value}{ds:List D}
theorem GR.nil:GR sz P lo h n e (.slice none 0 0) ([]:List D):=⟨[],.nil,.nil,rfl⟩
theorem GR.as {ds':List D}(g:GR sz P lo h n e v ds)(e':ds=ds'):GR sz P lo h n e v ds':=e'▸g
theorem GR.go (g:GR sz P lo h n e v ds)(kp:KP sz P)(t:Tr n h n' h')(hk:∀b,BkOf v b→h' b=h b):GR sz P lo h' n' e v ds:=by
 obtain ⟨C,g1,g2,g3⟩:=g
 refine ⟨C,?_,g2.mono fun _ _ r=>kp.t r t,g3⟩
 generalize ds.length=L at g1
 cases g1 with
 |nil=>exact .nil
 |at_ hg hlo hb hr hl ho=>exact .at_ hg hlo (by have:=t.1;omega) ((hk _ ⟨_,_,_,rfl⟩).trans hr) hl ho
theorem GR.bk (g:GR sz P lo h n e v ds):∀b,BkOf v b→3*lo≤b∧b<3*n∧gro b=true∧Nur (h b):=by
 obtain ⟨C,g1,g2,g3⟩:=g
 generalize ds.length=L at g1
 rintro b ⟨o,l,c,rfl⟩
 cases g1 with
 |at_ hg hlo hb hr hl ho=>exact ⟨hlo,hb,hg,.row hr g3⟩
theorem GR.shape (g:GR sz P lo h n e v ds){L:Nat}(hL:ds.length=L):∃a,v=.slice a L L:=by
 obtain ⟨C,g1,g2,g3⟩:=g
 subst hL
 obtain ⟨a,e,_⟩:=g1.shape
 exact ⟨a,e⟩
theorem GR.or (g:GR sz P lo h n e v ds){L:Nat}(hL:ds.length=L)(h0:L≠0):∃b,v=.slice (some ⟨b,0,none⟩) L L∧gro b=true∧3*lo≤b∧OR sz P h n b ds∧Ty1 h b e:=by
 obtain ⟨C,g1,g2,g3⟩:=g
 rw [hL] at g1
 cases g1 with
 |nil=>exact absurd rfl h0
 |at_ hg hlo hb hr hl ho=>exact ⟨_,rfl,hg,hlo,⟨hb,_,_,hr,g3,g2⟩,_,hr⟩
theorem OR.gr (o:OR sz P h n b ds)(kp:KP sz P)(ht:Ty1 h b e)(hg:gro b=true)(hlo:3*lo≤b){L:Nat}(hL:ds.length=L):GR sz P lo h n e (.slice (some ⟨b,0,none⟩) L L) ds:=by
 obtain ⟨hb,C,e2,h1,h2,h3⟩:=o
 obtain ⟨C2,h4⟩:=ht
 rw [h4] at h1
 cases h1
 subst hL
 have hon:ones C=true:=by
  clear h4 h2
  induction h3 with
  |nil=>rfl
  |cons hl hp hr ih=>exact yX (kp.c hp).2.2 ih
 exact ⟨_,.at_ hg hlo hb h4 h3.len hon,h3,h2⟩
end
theorem rF {m i:Nat}{r:List (Nat×Nat)}(hm:m.testBit i=true)(k:z0 m W r=true):z0 m W ((i,b)::r)=true:=by
 unfold z0
 rw [hm,Bool.true_or]
 exact k
section
variable {X:CtxF}{ops r:List Oper}{ms:List Nat}{i m:Nat}{t:TF}{h:HF}{n:Nat}{w:List Nat}{al ld:List (Nat×Nat)}{ef:List (Nat×HF×List Nat)}{Q:SV→Prop}{o:Oper}{d:Tmp}
theorem dGA {D:Type}{sz:Nat}{P:List Value→D→HF→Nat→Prop}{e:TypeId}{s:Operand}{lo:Nat}{ds:List D}{q:D}{v:Value}(c:List Value)(g:GR sz P lo h n e v ds)(kp:KP sz P)(p:P c q h n)(hx:argS h sz (evF t x) 1 c)(hlen:ds.length<1000000)(hlo:lo≤n)(hld:∀W:List Nat,(∀b∈W,3*lo≤b)→z0 m W ld=true)
  (k:∀v' h' W,(∀b∈W,3*lo≤b)→GR sz P lo h' (n+1) e v' (ds++[q])→Tr n h (n+1) h'→Exa lo h h'→(∀b,b<3*n→¬BkOf v b→h' b=h b)→(∀b,BkOf v' b→3*n≤b)→ED X ops r ms (i+1) ⟨⟨upd t d v',h',n+1,addW n0 W w⟩,al,ld,(i,h,W)::ef⟩ Q)
  (hw:zh ops t o=true:=by exact rfl)(hd:o.dst=some d:=by exact rfl)(hn:zn X.nt (some d)=true:=by exact rfl)(ho:o.op=.call {callee:=.builtin .append,args:=#[s,x],argTypes:=#[sT,xT]}:=by exact rfl)(hv:evF t s=v:=by exact rfl)(hxT:(match X.E.und xT with|some (.int _)=>false|none=>false|_=>true)=true:=by exact rfl)(hu:X.E.und sT=some (.slice e):=by exact rfl)(hi:X.E.inf e=some (sz,bytes,z):=by exact rfl)(hz:(zl z).length=sz:=by exact rfl)(h1:1≤sz∧1≤bytes∧bytes≤1000:=by decide)(g1:xc m ef=true:=by exact rfl)(g2:xA m al=true:=by exact rfl)(hX:X.n0=n0:=by exact rfl):ED X ops (o::r) (m::ms) i ⟨⟨t,h,n,w⟩,al,ld,ef⟩ Q:=by
 have hg:=g
 obtain ⟨C,gr,rc,nu⟩:=g
 subst hv
 obtain ⟨c1,c2,c3⟩:=kp.c p
 have hb:(ds.length+1)*bytes≤1099511627776:=Nat.le_trans (Nat.mul_le_mul (show ds.length+1≤1000000 by omega) h1.2.2) zd
 obtain ⟨v',h',W,h2,h3,h4,h6,h5,h7⟩:=sU hu hi hz ⟨h1.1,h1.2.1⟩ gr hx (Nat.le_refl _) hb (by rw [Nat.one_mul];exact c1) c3 hlo
 refine mN hw hd hn ho hxT h2 g1 g2 (hld W h5) zs ?_
 rw [hX]
 have hk:∀b,b<3*n→¬BkOf (evF t s) b→h' b=h b:=fun b hb hn=>h6 b hb fun o l c e=>hn ⟨o,l,c,e⟩
 have hT:Tr n h (n+1) h':=⟨Nat.le_succ _,fun b hb=>by
  by_cases hB:BkOf (evF t s) b
  ·exact .inr (hg.bk b hB).2.2.2
  ·exact .inl (hk b hb hB)⟩
 refine k v' h' W h5 ⟨C++c,by rw [List.length_append];exact h3,(rc.mono fun _ _ r=>kp.t r hT).snoc c1 (kp.t p hT),by rw [List.all_append,nu,c2];rfl⟩ hT ⟨h4⟩ hk fun b ⟨o,l,cc,e⟩=>?_
 subst e
 exact h7
theorem sSn {a:Operand}{sz:Nat}{e:TypeId}(c':List Value)(k:∀h',h' b=some (.row c' e)→Sto b h h'→EO X ops r ⟨t,h',n,w⟩ Q)(hw:zh ops t o=true:=by exact rfl)(hd:o.dst=none:=by exact rfl)(ho:o.op=.store ty a x:=by exact rfl)(hi:X.E.inf ty=some (sz,bt,z):=by exact rfl)(ha:evF t a=.pointer (some ⟨b,off,none⟩):=by exact rfl)(hb:h b=some (.row c e):=by exact zp)(hu:c.all nu=true:=by exact rfl)(hx:zl (evF t x)=cs:=by exact rfl)(hs:cs.length=sz:=by exact rfl)(h1:ones cs=true:=by exact rfl)(hl:off+sz≤c.length:=by exact zb)(hsp:zm c off cs=c':=by exact rfl)(hX:X.n0=n0:=by exact rfl)(hnew:3*n0≤b:=by omega):EO X ops (o::r) ⟨t,h,n,w⟩ Q:=
 sSx c' hb (fun h' p q=>by rw [wM hnew];exact k h' p q) hw hd ho hi ha hu hx hs h1 hl hsp hX
theorem dMs {e:TypeId}(cs:List Value){c:Nat}(k:∀h',h' (3*n+2)=some (.row cs e)→Ext n h h'→ED X ops r ms (i+1) ⟨⟨upd t d (.slice (some ⟨3*n+2,0,none⟩) l c),h',n+1,w⟩,(i,3*n+2)::al,ld,ef⟩ Q)(hw:zh ops t o=true:=by exact rfl)(hd:o.dst=some d:=by exact rfl)(hn:zn X.nt (some d)=true:=by exact rfl)(hc:cls o.op=2:=by exact rfl)(hm:mkE X.E o.op (evF t)=some ⟨cs,e,false,some (l,c)⟩:=by exact rfl):ED X ops (o::r) (m::ms) i ⟨⟨t,h,n,w⟩,al,ld,ef⟩ Q:=
 zh7 hw hd hn hc hm (k _ (zg _ _ _) (Ext.upd (show 3*n≤3*n+2 by omega)))
end
theorem vM {l w:List Nat}{p:Nat→Prop}(h1:∀c∈l,p c)(h2:∀c∈w,p c):∀c∈addW n0 l w,p c:=fun c hc=>by
 rcases zc6 _ _ c hc with ⟨h,_⟩|h
 ·exact h1 c h
 exact h2 c h
theorem RS.sub {D:Type}{sz:Nat}{P:List Value→D→HF→Nat→Prop}(hsz:0<sz){h:HF}{n:Nat}{l:List D}(q:RS sz P h n (.slice (some ⟨b,off,none⟩) len cap) l){m c cap':Nat}(hm:m+c≤len)(hc:c≤cap'):RS sz P h n (.slice (some ⟨b,off+m*sz,none⟩) c cap') ((l.drop m).take c):=by
 have hlen:=q.len' hsz
 obtain ⟨cells,s,r⟩:=q
 by_cases h0:len=0
 ·have hc0:c=0:=zo
  have hb:=s.below
  subst hc0
  rw [List.take_zero]
  exact ⟨[],.nil (.inr ⟨_,_,_,rfl,hb⟩),.nil⟩
 obtain ⟨_,_,x,cs,e,hb,hx,hcs,hcap,hle,he⟩:=s.inv h0
 injection e with e
 injection e with e1 e2
 subst e1 e2
 have hmc:=Nat.mul_le_mul_right sz hm
 rw [Nat.add_mul] at hmc
 refine ⟨(cells.drop (m*sz)).take (c*sz),.at_ hb hx hcs hc zo (zeu he zo),?_⟩
 have hd:∀{m:Nat} {cells:List Value} {l:List D},Rec sz (fun c d=>P c d h n) cells l→Rec sz (fun c d=>P c d h n) (cells.drop (m*sz)) (l.drop m):=by
  intro m
  induction m with
  |zero=>intro cells l r;rw [Nat.zero_mul];exact r
  |succ m ih=>
   intro cells l r
   cases r with
   |nil=>rw [List.drop_nil,List.drop_nil];exact .nil
   | @cons c1 cs1 d1 ds1 hl hp hr=>
    rw [List.drop_succ_cons,Nat.succ_mul,Nat.add_comm (m*sz) sz,←List.drop_drop,List.drop_left' hl]
    exact ih hr
 have ht:∀{c:Nat} {cells:List Value} {l:List D},Rec sz (fun c d=>P c d h n) cells l→Rec sz (fun c d=>P c d h n) (cells.take (c*sz)) (l.take c):=by
  intro c
  induction c with
  |zero=>intro cells l r;rw [Nat.zero_mul,List.take_zero,List.take_zero];exact .nil
  |succ c ih=>
   intro cells l r
   cases r with
   |nil=>rw [List.take_nil,List.take_nil];exact .nil
   | @cons c1 cs1 d1 ds1 hl hp hr=>
    rw [List.take_succ_cons,Nat.succ_mul,Nat.add_comm (c*sz) sz,List.take_append,List.take_of_length_le zo,hl,Nat.add_sub_cancel_left]
    exact .cons hl hp (ih hr)
 exact ht (hd r)
theorem QS.sub {h:HF}{n:Nat}{l:List Rat}(q:QS h n (.slice (some ⟨b,off,none⟩) len cap) l){m c cap':Nat}(hm:m+c≤len)(hc:c≤cap'):QS h n (.slice (some ⟨b,off+m*4,none⟩) c cap') ((l.drop m).take c):=RS.sub zd q hm hc
section
variable {X:CtxF}{ops r:List Oper}{ms:List Nat}{i m:Nat}{t:TF}{h:HF}{n:Nat}{w:List Nat}{al ld:List (Nat×Nat)}{ef:List (Nat×HF×List Nat)}{Q:SV→Prop}{o:Oper}{d:Tmp}
theorem sG {e:TypeId}{sz:Nat}{j:Int}(mm:Nat)(hw:zh ops t o=true∧o.dst=some d∧zn X.nt (some d)=true∧o.op=.slice ty x none (some hi) none∧X.E.und ty=some (.slice e)∧X.E.inf e=some (sz,bt,z))
  (hx:evF t x=.slice (some ⟨b,off,none⟩) len cap)(hj:evF t hi=.int ik j)(hm:j=(mm:Int))(hr:mm≤cap)(k:ED X ops r ms (i+1) ⟨⟨upd t d (.slice (some ⟨b,off,none⟩) mm cap),h,n,w⟩,al,ld,ef⟩ Q):ED X ops (o::r) (m::ms) i ⟨⟨t,h,n,w⟩,al,ld,ef⟩ Q:=by
 obtain ⟨hw,hd,hn,ho,hu,hi'⟩:=hw
 refine yG hw hd hn (by rw [ho];rfl) ?_ k
 rw [ho]
 subst hm
 show yW X.E ty (evF t x) none (some (evF t hi))=_
 rw [hx,hj]
 have h1:(0:Int)≤(mm:Int)∧(mm:Int)≤cap:=zo
 have h2:(gro b&&(Nat.ble 1 0&&Nat.ble cap 0))=false:=by cases gro b<;>rfl
 simp only [yW,hu,hi',bnd,if_pos h1,Int.toNat_natCast,h2,me,Nat.sub_zero]
end
end
section
variable {b bt j k n0 nt off sz:Nat}{e ty:TypeId}{ik ik':IntKind}{z:Value}{D:Type}{x:Operand}
theorem aE {n:Nat}:(ctx k n nt).n0=n:=rfl
section
variable {X:CtxF}{ops r:List Oper}{t:TF}{h:HF}{n:Nat}{w:List Nat}{Q:SV→Prop}{o:Oper}{d:Tmp}
theorem sMk {l c:Operand}{L:Nat}(zs:List Value)(k:∀h',h' (3*n+2)=some (.row (rep L zs) e)→Ext n h h'→EO X ops r ⟨upd t d (.slice (some ⟨3*n+2,0,none⟩) L L),h',n+1,w⟩ Q)(hL:L≤1000)(hw:zh ops t o=true:=by exact rfl)(hd:o.dst=some d:=by exact rfl)(hn:zn X.nt (some d)=true:=by exact rfl)(ho:o.op=.makeSlice ty l c:=by exact rfl)(hu:X.E.und ty=some (.slice e):=by exact rfl)(hi:X.E.inf e=some (sz,bt,z):=by exact rfl)(hz:zl z=zs:=by exact rfl)(hl:evF t l=.int ik (L:Int):=by exact rfl)(hc:evF t c=.int ik' (L:Int):=by exact rfl)(hs:zs.length=sz:=by exact rfl)(hb:bt≤1000:=by exact Nat.le_of_ble_eq_true rfl):EO X ops (o::r) ⟨t,h,n,w⟩ Q:=
 vv ⟨hw,hd,hn,ho,hu,hi,hl,hc,(by rw [hz];exact hs)⟩ ⟨Nat.le_refl _,Nat.le_trans (Nat.mul_le_mul hL hb) zd,zo⟩ (k _ (by rw [←hz];exact zg _ _ _) (Ext.upd zo))
end
section
variable {X:CtxF}{ops r:List Oper}{ms:List Nat}{i m:Nat}{t:TF}{h:HF}{n:Nat}{w:List Nat}{al ld:List (Nat×Nat)}{ef:List (Nat×HF×List Nat)}{Q:SV→Prop}{o:Oper}{d:Tmp}
theorem dZn {P:List Value→D→HF→Nat→Prop}{a:Operand}{zs:List D}{q:D}(c:List Value)(og:OR sz P h n b zs)(kp:KP sz P)(hj:j<zs.length)(hoff:off=j*sz)(i1:P c q h n)(hnew:3*n0≤b)(k:∀h',OR sz P h' n b (zs.set j q)→Sto b h h'→ED X ops r ms (i+1) ⟨⟨t,h',n,w⟩,al,ld,(i,h,[b])::ef⟩ Q)(hw:zh ops t o=true:=by exact rfl)(hd:o.dst=none:=by exact rfl)(ho:o.op=.store ty a x:=by exact rfl)(hi:X.E.inf ty=some (sz,bt,z):=by exact rfl)(ha:evF t a=.pointer (some ⟨b,off,none⟩):=by exact rfl)(hx:zl (evF t x)=c:=by exact rfl)(h1:xc m ef=true:=by exact rfl)(h2:xA m al=true:=by exact rfl)(h3:z0 m [b] ld=true:=by exact rfl)(hX:X.n0=n0:=by exact rfl):ED X ops (o::r) (m::ms) i ⟨⟨t,h,n,w⟩,al,ld,ef⟩ Q:=
 dZ c og kp hj hoff i1 (fun h' o' s' _=>by rw [wM hnew];exact k h' o' s') hw hd ho hi ha hx h1 h2 h3 hX
end
theorem dR (k:Nat)(h:HF)(n:Nat):CX (cal (k+3)) 58 [.int .i64 1] h n (QV 1):=by
 refine zv (fn:=Tryz.f58) R4 ?_
 refine zG ?_
 refine sA ?_
 intro h1 p1 x1
 refine zG ?_
 refine sC (zbs _ _ _) ?_
 rintro _ h2 n2 ⟨b2,a2,l2,c2,rfl,i2⟩ y2 x2
 refine sT #[.bool b2,.slice a2 l2 c2,.bool false,.slice none 0 0] ?_
 refine sS [.bool b2,.slice a2 l2 c2,.bool false,.slice none 0 0] ?_
 intro h3 p3 o3
 refine zq ?_
 exact ⟨_,_,_,_,_,_,_,_,rfl,(i2.t zt:IW _ _ _ _ _ _ 1),IW.zero _ _⟩
end
section
section
variable {D:Type}{sz:Nat}{P:List Value→D→Prop}
theorem Rec.app {cs cs':List Value}{ds ds':List D}(r:Rec sz P cs ds)(s:Rec sz P cs' ds'):Rec sz P (cs++cs') (ds++ds'):=by
 induction r with
 |nil=>exact s
 |cons hl hp hr ih=>rw [List.append_assoc];exact .cons hl hp ih
end
section
variable {X:CtxF}{ops r:List Oper}{ms:List Nat}{i m:Nat}{t:TF}{h:HF}{n:Nat}{w:List Nat}{al ld:List (Nat×Nat)}{ef:List (Nat×HF×List Nat)}{Q:SV→Prop}{o:Oper}{d:Tmp}
theorem sGA {D:Type}{sz:Nat}{P:List Value→D→HF→Nat→Prop}{xT sT e:TypeId}{s x:Operand}{lo bytes:Nat}{z:Value}{ds:List D}{v:Value}{n0:Nat}(c:List Value)(qs:List D)(g:GR sz P lo h n e v ds)(kp:KP sz P)(rc:Rec sz (fun c d=>P c d h n) c qs)(hu:c.all nu=true∧ones c=true){ux:Value}(hx:argS h sz ux qs.length c)(hm:1≤qs.length)(hlen:ds.length+qs.length<1000000)(hlo:n0≤lo∧lo≤n)
  (k:∀v' h',GR sz P lo h' (n+1) e v' (ds++qs)→Tr n h (n+1) h'→Ext lo h h'→(∀b,b<3*n→¬BkOf v b→h' b=h b)→(∀b,BkOf v' b→3*n≤b)→EO X ops r ⟨upd t d v',h',n+1,w⟩ Q)
  (hw:zh ops t o=true:=by exact rfl)(hd:o.dst=some d:=by exact rfl)(hn:zn X.nt (some d)=true:=by exact rfl)(ho:o.op=.call {callee:=.builtin .append,args:=#[s,x],argTypes:=#[sT,xT]}:=by exact rfl)(hv:evF t s=v:=by exact rfl)(hux:evF t x=ux:=by exact rfl)(hxT:(match X.E.und xT with|some (.int _)=>false|none=>false|_=>true)=true:=by exact rfl)(hus:X.E.und sT=some (.slice e):=by exact rfl)(hi:X.E.inf e=some (sz,bytes,z):=by exact rfl)(hz:(zl z).length=sz:=by exact rfl)(h1:1≤sz∧1≤bytes∧bytes≤1000:=by decide)(hX:X.n0=n0:=by exact rfl):EO X ops (o::r) ⟨t,h,n,w⟩ Q:=by
 have hg:=g
 obtain ⟨C,gr,rc0,nu0⟩:=g
 subst hv hux
 have hb:(ds.length+qs.length)*bytes≤1099511627776:=Nat.le_trans (Nat.mul_le_mul (show ds.length+qs.length≤1000000 by omega) h1.2.2) zd
 obtain ⟨v',h',W,h2,h3,h4,h6,h5,h7⟩:=sU hus hi hz ⟨h1.1,h1.2.1⟩ gr hx hm hb rc.len hu.2 hlo.2
 refine yK ⟨hw,hd,hn,ho,hxT⟩ h2 ?_
 rw [hX,z6 fun b hb=>by have:=h5 b hb;omega]
 have hk:∀b,b<3*n→¬BkOf (evF t s) b→h' b=h b:=fun b hb hn=>h6 b hb fun o l c e=>hn ⟨o,l,c,e⟩
 have hT:Tr n h (n+1) h':=⟨Nat.le_succ _,fun b hb=>by
  by_cases hB:BkOf (evF t s) b
  ·exact .inr (hg.bk b hB).2.2.2
  ·exact .inl (hk b hb hB)⟩
 refine k v' h' ⟨C++c,by rw [List.length_append];exact h3,(rc0.mono fun _ _ r=>kp.t r hT).app (rc.mono fun _ _ r=>kp.t r hT),by rw [List.all_append,nu0,hu.1];rfl⟩ hT h4 hk fun b ⟨o,l,cc,e⟩=>?_
 subst e
 exact h7
end
end
def pOps (E:Env):List Oper→List Nat→Nat→List Nat→Bool
 |[],_,_,_=>true
 |o::r,m::ms,i,es=>match o.op with
  | .store _ _ _=>es.all (fun j=>m.testBit j)&&pOps E r ms (i+1) (i::es)
  |_=>(qOp E o.op&& !(Nat.beq (cls o.op) 1))&&pOps E r ms (i+1) es
 |_::_,[],_,_=>false
theorem zaj {m:Nat}:∀{ef:List (Nat×HF×List Nat)},(∀y∈ef,m.testBit y.1=true)→xc m ef=true:=by
 intro ef
 induction ef with
 |nil=>intro _;rfl
 |cons y ef ih=>
  intro h
  obtain ⟨j,g⟩:=y
  unfold xc
  rw [h (j,g) (by simp)]
  exact ih fun z hz=>h z (by simp [hz])
theorem zcf {X:CtxF}{ops:List Oper}:∀(l:List Oper) (ms:List Nat) (i:Nat) (s:SV) (ef:List (Nat×HF×List Nat)) (es:List Nat),(∀y∈ef,y.1∈es)→pOps X.E l ms i es=true→zQ X ops l ms i ⟨s,[],[],ef⟩=seqF X ops l s:=by
 intro l
 induction l with
 |nil=>intro ms i s ef es _ _;simp [zQ,seqF]
 |cons o l ih=>
  intro ms i s ef es hes hp
  cases ms with
  |nil=>simp [pOps] at hp
  |cons m ms=>
   unfold pOps at hp
   unfold zQ seqF
   simp only
   split at hp
   ·rename_i ty a x ho
    rw [Bool.and_eq_true] at hp
    cases hw:zh ops s.t o with
    |false=>
     simp only
     congr 1
     funext s1
     exact ih ms (i+1) s1 ef (i::es) (fun y hy=>List.mem_cons_of_mem _ (hes y hy)) hp.2
    |true=>
     simp only
     have hc:cls o.op=3:=by rw [ho];rfl
     unfold tO opF
     have hef:xc m ef=true:=zaj fun y hy=>List.all_eq_true.1 hp.1 _ (hes y hy)
     simp only [hc,hef,xA,Bool.and_self]
     unfold pe
     have e1:effF X.E o.op (evF s.t) s.h s.n=vN X.E ty (evF s.t a) (evF s.t x) s.h s.n:=by rw [ho];rfl
     rw [e1]
     cases he:vN X.E ty (evF s.t a) (evF s.t x) s.h s.n with
     |none=>rfl
     |some r=>
      obtain ⟨v,h',n',W,rfl⟩:=nr he
      have en:=dG he
      subst en
      simp only
      have hok:z0 m W []=true:=rfl
      unfold xq
      split
      ·simp only [hok,Nat.ble_eq_true_of_le (Nat.le_refl _),Bool.and_self]
       refine ih ms (i+1) _ _ (i::es) (fun y hy=>?_) hp.2
       rcases List.mem_cons.1 hy with rfl|hy
       ·exact List.mem_cons_self
       exact List.mem_cons_of_mem _ (hes y hy)
      rfl
   rw [Bool.and_eq_true,Bool.and_eq_true] at hp
   cases hw:zh ops s.t o with
   |false=>
    simp only
    congr 1
    funext s1
    exact ih ms (i+1) s1 ef es hes hp.2
   |true=>
    simp only
    unfold tO opF
    rcases cj hp.1.1 with hlt|⟨t,d,x,k,ho,hk⟩
    ·cases hc:cls o.op with
     |zero=>
      simp only [hc]
      cases yg X.E o.op (evF s.t) with
      |none=>rfl
      |some v=>
       simp only
       congr 1
       funext s1
       exact ih ms (i+1) s1 ef es hes hp.2
     |succ c=>
      cases c with
      |zero=>rw [hc] at hp;simp at hp
      |succ c=>omega
    have hc:cls o.op=4:=by rw [ho];rfl
    have hm:mkE X.E o.op (evF s.t)=none:=by rw [ho];exact u4 hk _
    simp only [hc,hm]
    cases hpu:yg X.E o.op (evF s.t) with
    |none=>
     rw [ho]
     simp only [wX hk]
    |some v=>
     rw [ho]
     simp only [wX hk]
     congr 1
     funext s1
     exact ih ms (i+1) s1 ef es hes hp.2
theorem qX {X:CtxF}{id:Nat}{ops:Array Oper}{s:SV}{Q:Ex→SV→Prop}(hq:pOps X.E ops.toList (xk ops.toList []) 0 []=true):EC X (.region id ops true) s Q↔EO X ops.toList ops.toList s (Q .normal):=by
 unfold EC EO
 rw [yT]
 have key:zQ X ops.toList ops.toList (xk ops.toList []) 0 ⟨s,[],[],[]⟩=seqF X ops.toList ops.toList s:=zcf _ _ _ _ _ _ (fun y hy=>absurd hy List.not_mem_nil) hq
 rw [key]
 cases h:seqF X ops.toList ops.toList s with
 |none=>simp
 |some r=>simp only [wU];simp
section
variable {ty ty':TypeId}{x y:Operand}{s:List UInt8}{i j m:Nat}{ik ik':IntKind}
def yv:List UInt8:=[48,48,48,49,48,50,48,51,48,52,48,53,48,54,48,55,48,56,48,57,49,48,49,49,49,50,49,51,49,52,49,53,49,54,49,55,49,56,49,57,50,48,50,49,50,50,50,51,50,52,50,53,50,54,50,55,50,56,50,57,51,48,51,49,51,50,51,51,51,52,51,53,51,54,51,55,51,56,51,57,52,48,52,49,52,50,52,51,52,52,52,53,52,54,52,55,52,56,52,57,53,48,53,49,53,50,53,51,53,52,53,53,53,54,53,55,53,56,53,57,54,48,54,49,54,50,54,51,54,52,54,53,54,54,54,55,54,56,54,57,55,48,55,49,55,50,55,51,55,52,55,53,55,54,55,55,55,56,55,57,56,48,56,49,56,50,56,51,56,52,56,53,56,54,56,55,56,56,56,57,57,48,57,49,57,50,57,51,57,52,57,53,57,54,57,55,57,56,57,57]
theorem wb (m:Nat)(hm:m<100):∃b1 b2,yv[m*2]?=some b1∧yv[m*2+1]?=some b2∧b1.toNat=48+m/10∧b2.toNat=48+m%10∧(yv.drop (m*2)).take 2=[b1,b2]:=by
 have h:∀i:Fin 100,(match yv[i.val*2]?,yv[i.val*2+1]? with|some b1,some b2=>decide (b1.toNat=48+i.val/10∧b2.toNat=48+i.val%10∧(yv.drop (i.val*2)).take 2=[b1,b2])|_,_=>false)=true:=by decide+kernel
 have:=h ⟨m,hm⟩
 simp only at this
 split at this
 ·rename_i b1 b2 h1 h2
  have h3:=of_decide_eq_true this
  exact ⟨b1,b2,h1,h2,h3.1,h3.2.1,h3.2.2⟩
 cases this
section
variable {X:CtxF}{ops r:List Oper}{t:TF}{h:HF}{n:Nat}{w:List Nat}{Q:SV→Prop}{o:Oper}{d:Tmp}
theorem nw {i l:Operand}(hw:zh ops t o=true∧o.dst=some d∧zn X.nt (some d)=true∧o.op=.slice ty x (some i) (some l) none∧X.E.und ty=some .string∧evF t x=.string ⟨⟨s⟩⟩∧evF t i=.int ik (j:Int)∧evF t l=.int ik' (m:Int))(hl:j≤m∧m≤s.length)
  (k:EO X ops r ⟨upd t d (.string ⟨⟨(s.drop j).take (m-j)⟩⟩),h,n,w⟩ Q):EO X ops (o::r) ⟨t,h,n,w⟩ Q:=by
 obtain ⟨hw,hd,hn,ho,hu,hx,hj,hm⟩:=hw
 refine zI ⟨hw,hd,hn,(by rw [ho];rfl)⟩ ?_ k
 rw [ho]
 show yW X.E ty (evF t x) (some (evF t i)) (some (evF t l))=_
 rw [hx,hj,hm]
 have h1:(0:Int)≤(j:Int)∧(j:Int)≤(m:Int):=zo
 have h2:(0:Int)≤(m:Int)∧(m:Int)≤(s.length:Int):=zo
 simp only [yW,hu,bnd,if_pos h1,if_pos h2,Int.toNat_natCast]
end
section
variable {X:CtxF}{ops r:List Oper}{t:TF}{h:HF}{n:Nat}{w:List Nat}{Q:SV→Prop}{o:Oper}{d:Tmp}
theorem fg {a s:Nat}(hw:zh ops t o=true)(hd:o.dst=some d)(hn:zn X.nt (some d)=true)(ho:o.op=.binOp .shr ty x y ty')(hx:evF t x=.int .i64 (a:Int))(hy:evF t y=.int ik (s:Int))(hs:s≤64)
  (k:EO X ops r ⟨upd t d (.int .i64 ((a/2^s:Nat):Int)),h,n,w⟩ Q):EO X ops (o::r) ⟨t,h,n,w⟩ Q:=by
 refine zI ⟨hw,hd,hn,(by rw [ho];rfl)⟩ ?_ k
 rw [ho]
 show binE X.E .shr ty (evF t x) (evF t y)=_
 rw [hx,hy]
 have hb:¬(s:Int)<0:=zo
 have e:min (s:Int).toNat (IntKind.bits .i64)=s:=by simp [IntKind.bits];omega
 simp only [binE,isSh,shE,if_neg hb,e]
 rw [Int.fdiv_eq_ediv_of_nonneg _ (Int.le_of_lt (Int.pow_pos zd)),show (2:Int)^s=((2^s:Nat):Int) from by simp]
 rfl
end
theorem fW (h:i<10):decT i=[UInt8.ofNat (48+i)]:=by
 have hd:(UInt8.ofNat (48+i)).toNat=48+i:=vC h
 by_cases h0:i=0
 ·subst h0;rfl
 have:=sH (d:=[UInt8.ofNat (48+i)]) (fun b hb=>by rw [List.mem_singleton.1 hb,hd];omega) (by simp) (by
  intro e
  injection e with e
  have:=congrArg UInt8.toNat e
  rw [hd] at this
  have h48:(48:UInt8).toNat=48:=rfl
  omega)
 rw [←this]
 congr 1
 show i=10*0+((UInt8.ofNat (48+i)).toNat-48)
 rw [hd];omega
theorem zci {b1 b2:UInt8}(h1:10≤i∧i<100)(e1:b1.toNat=48+i/10)(e2:b2.toNat=48+i%10):decT i=[b1,b2]:=by
 have:=sH (d:=[b1,b2]) (fun b hb=>by
  simp only [List.mem_cons,List.not_mem_nil,or_false] at hb
  rcases hb with rfl|rfl<;>omega) (by simp) (by
  intro e
  injection e with e
  have:=congrArg UInt8.toNat e
  have h48:(48:UInt8).toNat=48:=rfl
  omega)
 rw [←this]
 congr 1
 show i=10*(10*0+(b1.toNat-48))+(b2.toNat-48)
 omega
def zf7:List UInt8:=[48,49,50,51,52,53,54,55,56,57,97,98,99,100,101,102,103,104,105,106,107,108,109,110,111,112,113,114,115,116,117,118,119,120,121,122]
theorem zf6 (m:Nat)(hm:m<10):(zf7.drop m).take 1=[UInt8.ofNat (48+m)]:=by
 have h:∀i:Fin 10,(zf7.drop i.val).take 1=[UInt8.ofNat (48+i.val)]:=by decide+kernel
 exact h ⟨m,hm⟩
theorem oe (k:Nat)(h:HF)(n:Nat)(hi:i<100):VF (cal (k+1)) 100 [.int .i64 (i:Int)] h n fun v=>v=.string ⟨⟨decT i⟩⟩:=by
 refine zB (fn:=Tryz.f100) R4 ?_
 refine zN ?_
 repeat refine zR ?_
 refine zN ?_
 by_cases h10:i<10
 ·repeat refine zR ?_
  refine zN ?_
  rw [ze rfl]
  refine zN ?_
  refine zM ?_
  refine zM ?_
  refine zR ?_
  refine nw (s:=zf7) (j:=i) (m:=i+1) R8 ⟨zo,by show i+1≤36;omega⟩ ?_
  rw [show i+1-i=1 by omega,zf6 i h10,←fW h10]
  refine zM ?_
  refine zN ?_
  exact retF _ rfl (zi rfl) R2 rfl
 repeat refine zR ?_
 refine zN ?_
 rw [za rfl]
 refine zN ?_
 obtain ⟨b1,b2,_,_,e1,e2,e3⟩:=wb i hi
 refine zM ?_
 refine st_mul (a:=(i:Int)) (b:=2) rfl rfl rfl rfl rfl rfl zo ?_
 refine zM ?_
 refine st_mul (a:=(i:Int)) (b:=2) rfl rfl rfl rfl rfl rfl zo ?_
 refine zR ?_
 refine nw (s:=yv) (j:=i*2) (m:=i*2+2) R8 ⟨zo,by show i*2+2≤200;omega⟩ ?_
 rw [show i*2+2-i*2=2 by omega,e3,←zci zo e1 e2]
 refine zM ?_
 refine zN ?_
 exact retF _ rfl (zi rfl) R2 rfl
theorem gF (k:Nat)(h:HF)(n:Nat)(b:Bool):VF (cal (k+1)) 129 [.bool b] h n fun v=>v=.int .i64 (if b then 1 else 0):=by
 refine zB (fn:=Tryz.f129) R4 ?_
 refine zN ?_
 repeat refine zR ?_
 refine zN ?_
 repeat refine zR ?_
 refine zN ?_
 cases b
 ·rw [za rfl]
  refine zN ?_
  repeat refine zR ?_
  refine zN ?_
  exact retF _ rfl (zi rfl) R2 rfl
 rw [ze rfl]
 refine zN ?_
 repeat refine zR ?_
 refine zN ?_
 exact retF _ rfl (zi rfl) R2 rfl
theorem zbv (k:Nat)(h:HF)(n:Nat)(hm:m≤64):VF (cal (k+1)) 127 [.int .i64 (m:Int)] h n fun v=>v=.int .i64 ((m*78913/262144:Nat):Int):=by
 refine zB (fn:=Tryz.f127) R4 ?_
 refine zN ?_
 refine zM ?_
 refine zN ?_
 refine zM ?_
 refine st_mul (a:=(m:Int)) (b:=78913) rfl rfl rfl rfl rfl rfl zo ?_
 refine fg (a:=m*78913) (s:=18) rfl rfl rfl rfl rfl rfl zo ?_
 refine zM ?_
 refine zN ?_
 exact retF _ rfl (zi rfl) R2 rfl
theorem zhq (hm:m<20):GK.p10[0+(m:Int).toNat*1]?=some (.int .u64 ((10^m:Nat):Int)):=by
 rw [show 0+(m:Int).toNat*1=m from zo]
 have h:∀i:Fin 20,(match GK.p10[i.val]? with|some (.int .u64 x)=>decide (x=((10^i.val:Nat):Int))|_=>false)=true:=by decide+kernel
 have:=h ⟨m,hm⟩
 simp only at this
 split at this
 ·rename_i x hx
  rw [hx,of_decide_eq_true this]
 cases this
theorem fH (hm:m≤64):m*78913/262144<20∧2^m≤10^(m*78913/262144+1)∧10^(m*78913/262144)≤5*2^m:=by
 have h:∀i:Fin 65,decide (i.val*78913/262144<20∧2^i.val≤10^(i.val*78913/262144+1)∧10^(i.val*78913/262144)≤5*2^i.val)=true:=by decide+kernel
 exact of_decide_eq_true (h ⟨m,zo⟩)
theorem wL (k:Nat){h:HF}(hG:GK.G h)(n:Nat){x:Nat}(hx:x<18446744073709551616)(h0:x≠0):VF (cal (k+2)) 101 [.int .u64 (x:Int)] h n fun v=>∃m:Nat,v=.int .i64 (m:Int)∧1≤m∧m≤20∧x<10^m∧10^(m-1)≤x:=by
 refine zB (fn:=Tryz.f101) R4 ?_
 refine zN ?_
 repeat refine zR ?_
 refine zN ?_
 refine zM ?_
 refine ya _ R5 (iG k _ _ hx) ?_
 rintro _ ⟨m,rfl,hm,hm1,hm2⟩
 refine ya _ R5 (zbv k _ _ hm) ?_
 rintro _ rfl
 obtain ⟨s1,s2,s3⟩:=fH hm
 have s4:=hm2 h0
 generalize m*78913/262144=q at s1 s2 s3 ⊢
 refine zM ?_
 refine zN ?_
 refine zM ?_
 refine zM ?_
 refine zM ?_
 refine lT R8 ⟨Int.natCast_nonneg _,Int.ofNat_lt.2 s1⟩ ?_
 refine zO R6 hG.2.1 (v:=.int .u64 ((10^q:Nat):Int)) ⟨rfl,(zhq s1)⟩ ?_
 by_cases hge:10^q≤x
 ·refine nE R6 (Int.ofNat_le.2 hge) ?_
  refine ya _ R5 (gF (k+1) _ _ true) ?_
  rintro _ rfl
  refine vP (a:=(q:Int)) (b:=1) R6 zo ?_
  refine zM ?_
  refine zN ?_
  exact retF _ rfl (zi rfl) R2 ⟨q+1,rfl,zo,zo,Nat.lt_of_lt_of_le hm1 s2,hge⟩
 refine jN R6 (fun hh=>hge (Int.ofNat_le.1 hh)) ?_
 refine ya _ R5 (gF (k+1) _ _ false) ?_
 rintro _ rfl
 refine vP (a:=(q:Int)) (b:=0) R6 zo ?_
 rw [Int.add_zero]
 refine zM ?_
 refine zN ?_
 have hq0:1≤q:=by
  rcases Nat.eq_zero_or_pos q with h|h
  ·subst h;rw [Nat.pow_zero] at hge;omega
  exact h
 refine retF _ rfl (zi rfl) R2 ⟨q,rfl,hq0,zo,zo,?_⟩
 obtain ⟨p,rfl⟩:∃p,q=p+1:=⟨q-1,zo⟩
 rw [Nat.pow_succ] at s3
 show 10^p≤x
 omega
end
section
variable {h h0:HF}{B U cap i m n:Nat}{e:TypeId}{c c0:List Value}{w:List Nat}
def Dg (c:List Value)(o L U i:Nat):Prop:=∀j,i≤j→j<L→c[o+j]?=some (.int .u8 ((48+U/10^(L-1-j)%10:Nat):Int))
structure FbI (h0:HF)(B:Nat)(e:TypeId)(o L U:Nat)(c0:List Value)(h:HF)(w:List Nat)(c:List Value)(i:Nat):Prop where
 w1:∀b∈w,b=B
 w2:w=[]→h=h0
 oth:Only B h0 h
 row:h B=some (.row c e)
 len:c.length=c0.length
 dg:Dg c o L U i
 out:∀k,(k<o∨o+L≤k)→c[k]?=c0[k]?
theorem FbI.put {o L:Nat}{v:Nat}(f:FbI h0 B e o L U c0 h w c i)(hi:i=m+1)(hL:i≤L)(hl:o+L≤c0.length)(hv:v=48+U/10^(L-i)%10):FbI h0 B e o L U c0 (upd h B (some (.row (c.set (o+m) (.int .u8 (v:Int))) e))) (B::w) (c.set (o+m) (.int .u8 (v:Int))) m:=by
 refine ⟨fun b hb=>?_,fun h=>(by cases h),fun b hb=>(zj hb).trans (f.oth b hb),zg _ _ _,by rw [List.length_set,f.len],fun j h1 h2=>?_,fun k hk=>?_⟩
 ·rcases List.mem_cons.1 hb with h|h
  ·exact h
  exact f.w1 b h
 ·by_cases e2:j=m
  ·subst e2
   rw [List.getElem?_set_self (by rw [f.len];omega),hv,show L-1-j=L-i by omega]
  rw [List.getElem?_set_ne zo]
  exact f.dg j zo h2
 rw [List.getElem?_set_ne zo]
 exact f.out k hk
def FbP (h:HF)(n B:Nat)(e:TypeId)(o L U:Nat)(c0:List Value)(h':HF)(n':Nat)(w:List Nat):Prop:=n'=n∧(∀b∈w,b=B)∧∃c,FbI h B e o L U c0 h' w c 0
theorem oN (k:Nat){o L:Nat}(hB:B<3*n)(hrow:h B=some (.row c0 e))(hl:o+L≤c0.length)(hL:1≤L∧L≤20)(hU:U<10^L)(hU2:U<18446744073709551616):
  CF (cal (k+1)) 102 [.slice (some ⟨B,o,none⟩) L cap,.int .u64 (U:Int)] h n fun _ h' n' w=>FbP h n B e o L U c0 h' n' w:=by
 refine pi (fn:=Tryz.f102) R4 ?_
 have f0:FbI h B e o L U c0 h [] c0 L:=⟨fun b hb=>absurd hb List.not_mem_nil,fun _=>rfl,fun _ _=>rfl,hrow,rfl,fun j h1 h2=>absurd h1 zo,fun _ _=>rfl⟩
 refine zN ?_
 repeat refine zR ?_
 refine zN ?_
 refine z8 (α:=Nat×Nat×List Value) (fun z=>[(0,.slice (some ⟨B,o,none⟩) L cap),(1,.int .u64 (z.2.1:Int)),(4,.int .i64 (z.1:Int))])
  (fun z h' n' w=>n=n'∧FbI h B e o L U c0 h' w z.2.2 z.1∧z.1≤L∧z.2.1=U/10^(L-z.1)) (fun z=>z.1) (L,U,c0) ⟨rfl,rfl,rfl,trivial⟩ ⟨rfl,f0,Nat.le_refl _,by show U=U/10^(L-L);rw [Nat.sub_self,Nat.pow_zero,Nat.div_one]⟩ (by show L<LL;unfold LL;omega) ?_
 rintro ⟨i,u,c⟩ t h1 _ w ⟨rfl,f1,hi,hu⟩
 have f1:FbI h B e o L U c0 h1 w c i:=f1
 have hi:i≤L:=hi
 have hu:u=U/10^(L-i):=hu
 have dg:∀q,U/10^(L-i+q)=u/10^q:=fun q=>by rw [hu,Nat.div_div_eq_div_mul,←Nat.pow_add]
 have hub:u<18446744073709551616:=by rw [hu];exact Nat.lt_of_le_of_lt (Nat.div_le_self _ _) hU2
 have hui:u<10^i:=by
  rw [hu]
  refine Nat.div_lt_of_lt_mul ?_
  rw [←Nat.pow_add,show L-i+i=L by omega]
  exact hU
 refine zN ?_
 by_cases h8:8≤i
 ·repeat refine zR ?_
  refine zN ?_
  rw [ze rfl]
  refine zN ?_
  refine zM ?_
  refine vf (a:=u) (b:=100000000) R6 zo ?_
  refine lW (c:=u%100000000) R7 zo ?_
  refine zM ?_
  refine zN ?_
  refine zM ?_
  refine xv (a:=u) (b:=100000000) R6 ⟨zo,zo⟩ ?_
  refine zM ?_
  refine zN ?_
  generalize hus:u%100000000=us
  refine zM ?_
  refine wo (a:=us) (b:=10000) R6 ⟨zo,zo⟩ ?_
  refine zM ?_
  refine wn (a:=us) (b:=10000) R6 zo ?_
  refine zM ?_
  refine zM ?_
  refine zN ?_
  generalize hlo:us%10000=lo
  generalize hhi:us/10000=hg
  have hm0:lo%100=u%100:=zo
  refine zM ?_
  refine wo (a:=lo) (b:=100) R6 ⟨zo,zo⟩ ?_
  refine xu (a:=lo/100) (b:=2) R6 zo ?_
  refine zM ?_
  refine wn (a:=lo) (b:=100) R6 zo ?_
  refine xu (a:=lo%100) (b:=2) R6 zo ?_
  refine zM ?_
  refine zM ?_
  refine zN ?_
  refine zM ?_
  refine wo (a:=hg) (b:=100) R6 ⟨zo,zo⟩ ?_
  refine xu (a:=hg/100) (b:=2) R6 zo ?_
  refine zM ?_
  refine wn (a:=hg) (b:=100) R6 zo ?_
  refine xu (a:=hg%100) (b:=2) R6 zo ?_
  refine zM ?_
  refine zM ?_
  refine zN ?_
  generalize hm1:lo%100=m1
  generalize hm2:lo/100=m2
  generalize hm3:hg%100=m3
  generalize hm4:hg/100=m4
  have k0:m1%10=u%10∧m1/10=u/10%10:=zo
  have k1:m2%10=u/100%10∧m2/10=u/1000%10:=zo
  have k2:m3%10=u/10000%10∧m3/10=u/100000%10:=zo
  have k3:m4%10=u/1000000%10∧m4/10=u/10000000%10:=zo
  have l1:m1<100∧m2<100∧m3<100∧m4<100:=zo
  clear hm0 hm1 hm2 hm3 hm4 hlo hhi hus
  rw [qX rfl]
  obtain ⟨b1,b2,s1,s2,s3,s4,_⟩:=wb (m1) zo
  refine zM ?_
  refine zM ?_
  refine zR ?_
  refine zM ?_
  refine zM ?_
  refine zR ?_
  refine zM ?_
  refine xh (a:=m1*2) (b:=1) R6 zo ?_
  refine yq (s:=yv) (j:=m1*2+1) R8 s2 ?_
  rw [s4]
  refine zM ?_
  refine yq (s:=yv) (j:=m1*2) R8 s1 ?_
  rw [s3]
  refine yn (j:=i-1) R8 zo ⟨zo,by rw [f1.len];omega⟩ f1.row (by show B<3*n;omega) (fun _=>rfl) R3 (fun _=>rfl) rfl fun _=>?_
  have f2:=f1.put (m:=i-1) (v:=48+(m1)%10) zo zo hl (by rw [←hu,k0.1])
  refine yn (j:=i-2) R8 zo ⟨zo,by rw [f2.len];omega⟩ f2.row (by show B<3*n;omega) (fun _=>rfl) R3 (fun _=>rfl) rfl fun _=>?_
  have f3:=f2.put (m:=i-2) (v:=48+(m1)/10) zo zo hl (by rw [show L-(i-1)=L-i+1 by omega,dg 1,k0.2])
  clear s1 s2 s3 s4
  refine zN ?_
  rw [qX rfl]
  obtain ⟨b1,b2,s1,s2,s3,s4,_⟩:=wb (m2) zo
  refine zM ?_
  refine zM ?_
  refine zR ?_
  refine zM ?_
  refine zM ?_
  refine zR ?_
  refine zM ?_
  refine xh (a:=m2*2) (b:=1) R6 zo ?_
  refine yq (s:=yv) (j:=m2*2+1) R8 s2 ?_
  rw [s4]
  refine zM ?_
  refine yq (s:=yv) (j:=m2*2) R8 s1 ?_
  rw [s3]
  refine yn (j:=i-3) R8 zo ⟨zo,by rw [f3.len];omega⟩ f3.row (by show B<3*n;omega) (fun _=>rfl) R3 (fun _=>rfl) rfl fun _=>?_
  have f4:=f3.put (m:=i-3) (v:=48+(m2)%10) zo zo hl (by rw [show L-(i-2)=L-i+2 by omega,dg 2,k1.1])
  refine yn (j:=i-4) R8 zo ⟨zo,by rw [f4.len];omega⟩ f4.row (by show B<3*n;omega) (fun _=>rfl) R3 (fun _=>rfl) rfl fun _=>?_
  have f5:=f4.put (m:=i-4) (v:=48+(m2)/10) zo zo hl (by rw [show L-(i-3)=L-i+3 by omega,dg 3,k1.2])
  clear s1 s2 s3 s4
  refine zN ?_
  rw [qX rfl]
  obtain ⟨b1,b2,s1,s2,s3,s4,_⟩:=wb (m3) zo
  refine zM ?_
  refine zM ?_
  refine zR ?_
  refine zM ?_
  refine zM ?_
  refine zR ?_
  refine zM ?_
  refine xh (a:=m3*2) (b:=1) R6 zo ?_
  refine yq (s:=yv) (j:=m3*2+1) R8 s2 ?_
  rw [s4]
  refine zM ?_
  refine yq (s:=yv) (j:=m3*2) R8 s1 ?_
  rw [s3]
  refine yn (j:=i-5) R8 zo ⟨zo,by rw [f5.len];omega⟩ f5.row (by show B<3*n;omega) (fun _=>rfl) R3 (fun _=>rfl) rfl fun _=>?_
  have f6:=f5.put (m:=i-5) (v:=48+(m3)%10) zo zo hl (by rw [show L-(i-4)=L-i+4 by omega,dg 4,k2.1])
  refine yn (j:=i-6) R8 zo ⟨zo,by rw [f6.len];omega⟩ f6.row (by show B<3*n;omega) (fun _=>rfl) R3 (fun _=>rfl) rfl fun _=>?_
  have f7:=f6.put (m:=i-6) (v:=48+(m3)/10) zo zo hl (by rw [show L-(i-5)=L-i+5 by omega,dg 5,k2.2])
  clear s1 s2 s3 s4
  refine zN ?_
  rw [qX rfl]
  obtain ⟨b1,b2,s1,s2,s3,s4,_⟩:=wb (m4) zo
  refine zM ?_
  refine zM ?_
  refine zR ?_
  refine zM ?_
  refine zM ?_
  refine zR ?_
  refine zM ?_
  refine xh (a:=m4*2) (b:=1) R6 zo ?_
  refine yq (s:=yv) (j:=m4*2+1) R8 s2 ?_
  rw [s4]
  refine zM ?_
  refine yq (s:=yv) (j:=m4*2) R8 s1 ?_
  rw [s3]
  refine yn (j:=i-7) R8 zo ⟨zo,by rw [f7.len];omega⟩ f7.row (by show B<3*n;omega) (fun _=>rfl) R3 (fun _=>rfl) rfl fun _=>?_
  have f8:=f7.put (m:=i-7) (v:=48+(m4)%10) zo zo hl (by rw [show L-(i-6)=L-i+6 by omega,dg 6,k3.1])
  refine yn (j:=i-8) R8 zo ⟨zo,by rw [f8.len];omega⟩ f8.row (by show B<3*n;omega) (fun _=>rfl) R3 (fun _=>rfl) rfl fun _=>?_
  have f9:=f8.put (m:=i-8) (v:=48+(m4)/10) zo zo hl (by rw [show L-(i-7)=L-i+7 by omega,dg 7,k3.2])
  clear s1 s2 s3 s4
  refine zN ?_
  repeat refine zR ?_
  refine zN ?_
  exact goOn (i-8,u/100000000,_) (by show i-8<i;omega) ⟨rfl,rfl,by show Value.int .i64 _=Value.int .i64 _;congr 1;show (i:Int)-8=((i-8:Nat):Int);omega,trivial⟩ ⟨rfl,f9,by show i-8≤L;omega,by show u/100000000=U/10^(L-(i-8));rw [show L-(i-8)=L-i+8 by omega,dg 8]⟩
 repeat refine zR ?_
 refine zN ?_
 rw [za rfl]
 refine zN ?_
 have hu8:u<100000000:=Nat.lt_of_lt_of_le hui (Nat.pow_le_pow_right zd (show i≤8 by omega))
 refine zM ?_
 refine lW (c:=u) R7 zo ?_
 refine zM ?_
 refine zN ?_
 refine zM ?_
 refine fh R6 ?_
 refine zN ?_
 refine yP (α:=Nat×Nat×List Value) (fun z=>[(0,.slice (some ⟨B,o,none⟩) L cap),(4,.int .i64 (z.1:Int)),(12,.int .u32 (z.2.1:Int))]) (fun z h' n' w=>n=n'∧FbI h B e o L U c0 h' w z.2.2 z.1∧z.1≤L∧z.2.1=U/10^(L-z.1)∧z.2.1<10^z.1∧z.1<4) ?_ ?_
 ·by_cases h4:4≤i
  ·rw [decide_eq_true (show (i:Int)≥4 by omega)]
   rw [ze rfl]
   refine zN ?_
   refine zM ?_
   refine wn (a:=u) (b:=10000) R6 zo ?_
   refine zM ?_
   refine zN ?_
   refine zM ?_
   refine wo (a:=u) (b:=10000) R6 ⟨zo,zo⟩ ?_
   refine zM ?_
   refine zN ?_
   generalize hlo:u%10000=lo
   refine zM ?_
   refine wo (a:=lo) (b:=100) R6 ⟨zo,zo⟩ ?_
   refine xu (a:=lo/100) (b:=2) R6 zo ?_
   refine zM ?_
   refine wn (a:=lo) (b:=100) R6 zo ?_
   refine xu (a:=lo%100) (b:=2) R6 zo ?_
   refine zM ?_
   refine zM ?_
   refine zN ?_
   generalize hm1:lo%100=m1
   generalize hm2:lo/100=m2
   have k0:m1%10=u%10∧m1/10=u/10%10:=zo
   have k1:m2%10=u/100%10∧m2/10=u/1000%10:=zo
   have l1:m1<100∧m2<100:=zo
   clear hm1 hm2 hlo
   rw [qX rfl]
   obtain ⟨b1,b2,s1,s2,s3,s4,_⟩:=wb (m1) zo
   refine zM ?_
   refine zM ?_
   refine zR ?_
   refine zM ?_
   refine zM ?_
   refine zR ?_
   refine zM ?_
   refine xh (a:=m1*2) (b:=1) R6 zo ?_
   refine yq (s:=yv) (j:=m1*2+1) R8 s2 ?_
   rw [s4]
   refine zM ?_
   refine yq (s:=yv) (j:=m1*2) R8 s1 ?_
   rw [s3]
   refine yn (j:=i-1) R8 zo ⟨zo,by rw [f1.len];omega⟩ f1.row (by show B<3*n;omega) (fun _=>rfl) R3 (fun _=>rfl) rfl fun _=>?_
   have f2:=f1.put (m:=i-1) (v:=48+(m1)%10) zo zo hl (by rw [←hu,k0.1])
   refine yn (j:=i-2) R8 zo ⟨zo,by rw [f2.len];omega⟩ f2.row (by show B<3*n;omega) (fun _=>rfl) R3 (fun _=>rfl) rfl fun _=>?_
   have f3:=f2.put (m:=i-2) (v:=48+(m1)/10) zo zo hl (by rw [show L-(i-1)=L-i+1 by omega,dg 1,k0.2])
   clear s1 s2 s3 s4
   refine zN ?_
   rw [qX rfl]
   obtain ⟨b1,b2,s1,s2,s3,s4,_⟩:=wb (m2) zo
   refine zM ?_
   refine zM ?_
   refine zR ?_
   refine zM ?_
   refine zM ?_
   refine zR ?_
   refine zM ?_
   refine xh (a:=m2*2) (b:=1) R6 zo ?_
   refine yq (s:=yv) (j:=m2*2+1) R8 s2 ?_
   rw [s4]
   refine zM ?_
   refine yq (s:=yv) (j:=m2*2) R8 s1 ?_
   rw [s3]
   refine yn (j:=i-3) R8 zo ⟨zo,by rw [f3.len];omega⟩ f3.row (by show B<3*n;omega) (fun _=>rfl) R3 (fun _=>rfl) rfl fun _=>?_
   have f4:=f3.put (m:=i-3) (v:=48+(m2)%10) zo zo hl (by rw [show L-(i-2)=L-i+2 by omega,dg 2,k1.1])
   refine yn (j:=i-4) R8 zo ⟨zo,by rw [f4.len];omega⟩ f4.row (by show B<3*n;omega) (fun _=>rfl) R3 (fun _=>rfl) rfl fun _=>?_
   have f5:=f4.put (m:=i-4) (v:=48+(m2)/10) zo zo hl (by rw [show L-(i-3)=L-i+3 by omega,dg 3,k1.2])
   clear s1 s2 s3 s4
   refine zN ?_
   repeat refine zR ?_
   refine zN ?_
   refine zS (i-4,u/10000,_) ⟨rfl,by show Value.int .i64 _=Value.int .i64 _;congr 1;show (i:Int)-4=((i-4:Nat):Int);omega,rfl,trivial⟩ ⟨rfl,f5,by show i-4≤L;omega,by show u/10000=U/10^(L-(i-4));rw [show L-(i-4)=L-i+4 by omega,dg 4],?_,by show i-4<4;omega⟩
   show u/10000<10^(i-4)
   refine Nat.div_lt_of_lt_mul ?_
   rw [show (10000:Nat)=10^4 from rfl,←Nat.pow_add,show 4+(i-4)=i by omega]
   exact hui
  rw [decide_eq_false (show ¬(i:Int)≥4 by omega)]
  rw [za rfl]
  try refine zN ?_
  exact zS (i,u,c) ⟨rfl,rfl,rfl,trivial⟩ ⟨rfl,f1,hi,hu,hui,by show i<4;omega⟩
 clear f1 hi hu dg hub hui h8 hu8
 rintro ⟨i,u,c⟩ t h1 _ w ⟨rfl,f1,hi,hu,hui,hi4⟩
 have f1:FbI h B e o L U c0 h1 w c i:=f1
 have hi:i≤L:=hi
 have hu:u=U/10^(L-i):=hu
 have hui:u<10^i:=hui
 have hi4:i<4:=hi4
 have dg:∀q,U/10^(L-i+q)=u/10^q:=fun q=>by rw [hu,Nat.div_div_eq_div_mul,←Nat.pow_add]
 have hu4:u<10000:=Nat.lt_of_lt_of_le hui (Nat.pow_le_pow_right zd (show i≤4 by omega))
 refine zN ?_
 refine zM ?_
 refine fh R6 ?_
 refine zN ?_
 refine yP (α:=Nat×Nat×List Value) (fun z=>[(0,.slice (some ⟨B,o,none⟩) L cap),(4,.int .i64 (z.1:Int)),(12,.int .u32 (z.2.1:Int))]) (fun z h' n' w=>n=n'∧FbI h B e o L U c0 h' w z.2.2 z.1∧z.1≤L∧z.2.1=U/10^(L-z.1)∧z.2.1<10^z.1∧z.1<2) ?_ ?_
 ·by_cases h2:2≤i
  ·rw [decide_eq_true (show (i:Int)≥2 by omega)]
   rw [ze rfl]
   refine zN ?_
   refine zM ?_
   refine wn (a:=u) (b:=100) R6 zo ?_
   refine xu (a:=u%100) (b:=2) R6 zo ?_
   refine zM ?_
   refine zN ?_
   refine zM ?_
   refine wo (a:=u) (b:=100) R6 ⟨zo,zo⟩ ?_
   refine zM ?_
   refine zN ?_
   generalize hm1:u%100=m1
   have k0:m1%10=u%10∧m1/10=u/10%10:=zo
   have l1:m1<100:=zo
   clear hm1
   rw [qX rfl]
   obtain ⟨b1,b2,s1,s2,s3,s4,_⟩:=wb (m1) zo
   refine zM ?_
   refine zM ?_
   refine zR ?_
   refine zM ?_
   refine zM ?_
   refine zR ?_
   refine zM ?_
   refine xh (a:=m1*2) (b:=1) R6 zo ?_
   refine yq (s:=yv) (j:=m1*2+1) R8 s2 ?_
   rw [s4]
   refine zM ?_
   refine yq (s:=yv) (j:=m1*2) R8 s1 ?_
   rw [s3]
   refine yn (j:=i-1) R8 zo ⟨zo,by rw [f1.len];omega⟩ f1.row (by show B<3*n;omega) (fun _=>rfl) R3 (fun _=>rfl) rfl fun _=>?_
   have f2:=f1.put (m:=i-1) (v:=48+(m1)%10) zo zo hl (by rw [←hu,k0.1])
   refine yn (j:=i-2) R8 zo ⟨zo,by rw [f2.len];omega⟩ f2.row (by show B<3*n;omega) (fun _=>rfl) R3 (fun _=>rfl) rfl fun _=>?_
   have f3:=f2.put (m:=i-2) (v:=48+(m1)/10) zo zo hl (by rw [show L-(i-1)=L-i+1 by omega,dg 1,k0.2])
   clear s1 s2 s3 s4
   refine zN ?_
   repeat refine zR ?_
   refine zN ?_
   refine zS (i-2,u/100,_) ⟨rfl,by show Value.int .i64 _=Value.int .i64 _;congr 1;show (i:Int)-2=((i-2:Nat):Int);omega,rfl,trivial⟩ ⟨rfl,f3,by show i-2≤L;omega,by show u/100=U/10^(L-(i-2));rw [show L-(i-2)=L-i+2 by omega,dg 2],?_,by show i-2<2;omega⟩
   show u/100<10^(i-2)
   refine Nat.div_lt_of_lt_mul ?_
   rw [show (100:Nat)=10^2 from rfl,←Nat.pow_add,show 2+(i-2)=i by omega]
   exact hui
  rw [decide_eq_false (show ¬(i:Int)≥2 by omega)]
  rw [za rfl]
  try refine zN ?_
  exact zS (i,u,c) ⟨rfl,rfl,rfl,trivial⟩ ⟨rfl,f1,hi,hu,hui,by show i<2;omega⟩
 clear f1 hi hu dg hui hu4 hi4
 rintro ⟨i,u,c⟩ t h1 _ w ⟨rfl,f1,hi,hu,hui,hi2⟩
 have f1:FbI h B e o L U c0 h1 w c i:=f1
 have hi:i≤L:=hi
 have hu:u=U/10^(L-i):=hu
 have hui:u<10^i:=hui
 have hi2:i<2:=hi2
 refine zN ?_
 by_cases h0:i=0
 ·subst h0
  repeat refine zR ?_
  refine zN ?_
  rw [za rfl]
  try refine zN ?_
  refine ⟨rfl,[],rfl,⟨rfl,f1.w1,c,f1⟩,fun hw=>?_⟩
  subst hw
  have:=f1.w2 rfl
  subst this
  exact ⟨rfl,f1.w1,c,f1⟩
 have h1':i=1:=zo
 subst h1'
 have hu10:u<10:=hui
 repeat refine zR ?_
 refine zN ?_
 rw [ze rfl]
 refine zN ?_
 refine zM ?_
 refine zM ?_
 refine xh (a:=48) (b:=u) R6 zo ?_
 refine pu (a:=48+u) R7 ?_
 rw [Nat.mod_eq_of_lt (show 48+u<256 by omega)]
 refine yn (j:=0) R8 rfl ⟨zo,by rw [f1.len];omega⟩ f1.row (by show B<3*n;omega) (fun _=>rfl) R3 (fun _=>rfl) rfl fun _=>?_
 have f2:=f1.put (m:=0) (v:=48+u) rfl hi hl (by rw [←hu,Nat.mod_eq_of_lt hu10])
 refine zN ?_
 exact ⟨rfl,[],rfl,⟨rfl,f2.w1,_,f2⟩,fun hw=>(by cases hw)⟩
end
section
variable {h0:HF}{B U b bt cap i j len sz:Nat}{e ty:TypeId}{c c0 cl:List Value}{hi x:Operand}{z:Value}{ik ik':IntKind}{ji:Int}
theorem gm:∀(L U:Nat),1≤L→U<10^L→10^(L-1)≤U→(decD U).length=L∧∀j,j<L→(decD U)[j]?=some (U/10^(L-1-j)%10):=by
 intro L
 induction L with
 |zero=>intro U h;omega
 |succ L ih=>
  intro U _ h1 h2
  have hp:0<10^L:=Nat.pow_pos zd
  rw [Nat.add_sub_cancel] at h2
  have hd:=xX (V:=U) zo
  by_cases hL:L=0
  ·subst hL
   have e:U/10=0:=by rw [Nat.pow_one] at h1;omega
   rw [e,yZ] at hd
   rw [hd]
   refine ⟨rfl,fun j hj=>?_⟩
   have:j=0:=zo
   subst this
   rw [show 0+1-1-0=0 by omega,Nat.pow_zero,Nat.div_one]
   rfl
  obtain ⟨e1,e2⟩:=ih (U/10) zo (by rw [Nat.pow_succ] at h1;omega) (by
   obtain ⟨q,rfl⟩:∃q,L=q+1:=⟨L-1,zo⟩
   rw [Nat.pow_succ] at h2
   rw [Nat.add_sub_cancel]
   omega)
  rw [hd]
  refine ⟨by rw [List.length_append,e1];rfl,fun j hj=>?_⟩
  by_cases h3:j<L
  ·rw [List.getElem?_append_left zo,e2 j h3,Nat.div_div_eq_div_mul,Nat.mul_comm 10,←Nat.pow_succ,show (L-1-j).succ=L+1-1-j by omega]
  have:j=L:=zo
  subst this
  rw [List.getElem?_append_right zo,e1,Nat.sub_self,Nat.add_sub_cancel,Nat.sub_self,Nat.pow_zero,Nat.div_one]
  rfl
theorem FbI.cells {o L:Nat}{h:HF}{w:List Nat}(f:FbI h0 B e o L U c0 h w c 0)(hl:o+L≤c0.length)(hL:1≤L)(h1:U<10^L)(h2:10^(L-1)≤U):(c.drop o).take L=u8s (decB U):=by
 obtain ⟨e1,e2⟩:=gm L U hL h1 h2
 have hc:=f.len
 refine List.ext_getElem? fun j=>?_
 by_cases hj:j<L
 ·rw [List.getElem?_take_of_lt hj,List.getElem?_drop,f.dg j (Nat.zero_le _) hj]
  unfold u8s decB
  rw [List.getElem?_map,List.getElem?_map,e2 j hj]
  rfl
 rw [List.getElem?_eq_none (by rw [List.length_take,List.length_drop];omega),List.getElem?_eq_none (by rw [tW];unfold decB;rw [List.length_map];omega)]
section
variable {X:CtxF}{ops r:List Oper}{t:TF}{h:HF}{n:Nat}{w:List Nat}{Q:SV→Prop}{o:Oper}{d:Tmp}
theorem qh {lo:Operand}(hw:zh ops t o=true∧o.dst=some d∧zn X.nt (some d)=true∧o.op=.slice ty x (some lo) (some hi) none∧X.E.und ty=some (.array len e)∧X.E.inf e=some (sz,bt,z)∧evF t x=.pointer (some ⟨b,0,none⟩)∧evF t lo=.int ik (i:Int)∧evF t hi=.int ik' ji)(hji:ji=(j:Int))(hb:gro b=false)(hl:i≤j∧j≤len∧i<len)
  (k:EO X ops r ⟨upd t d (.slice (some ⟨b,0+i*sz,none⟩) (j-i) (len-i)),h,n,w⟩ Q):EO X ops (o::r) ⟨t,h,n,w⟩ Q:=by
 obtain ⟨hw,hd,hn,ho,hu,hi',hx,hlo,hhi⟩:=hw
 subst hji
 refine zI ⟨hw,hd,hn,(by rw [ho];rfl)⟩ ?_ k
 rw [ho]
 show yW X.E ty (evF t x) (some (evF t lo)) (some (evF t hi))=_
 rw [hx,hlo,hhi]
 have h1:(0:Int)≤(i:Int)∧(i:Int)≤(j:Int):=zo
 have h2:(0:Int)≤(j:Int)∧(j:Int)≤(len:Int):=zo
 have h3:Nat.beq len i=false:=by
  cases he:Nat.beq len i with
  |false=>rfl
  |true=>have:=Nat.eq_of_beq_eq_true he;omega
 simp only [yW,hu,hi',bnd,if_pos h1,if_pos h2,Int.toNat_natCast,hb,Option.isSome_none,Bool.or_self,offA,h3,wF]
theorem ut (hw:zh ops t o=true∧o.dst=some d∧zn X.nt (some d)=true∧o.op=.slice ty x none (some hi) none∧X.E.und ty=some (.array len e)∧X.E.inf e=some (sz,bt,z)∧evF t x=.pointer (some ⟨b,0,none⟩)∧evF t hi=.int ik' ji)(hji:ji=(j:Int))(hb:gro b=false)(hl:j≤len∧0<len)
  (k:EO X ops r ⟨upd t d (.slice (some ⟨b,0,none⟩) j len),h,n,w⟩ Q):EO X ops (o::r) ⟨t,h,n,w⟩ Q:=by
 obtain ⟨hw,hd,hn,ho,hu,hi',hx,hhi⟩:=hw
 subst hji
 refine zI ⟨hw,hd,hn,(by rw [ho];rfl)⟩ ?_ k
 rw [ho]
 show yW X.E ty (evF t x) none (some (evF t hi))=_
 rw [hx,hhi]
 have h2:(0:Int)≤(j:Int)∧(j:Int)≤(len:Int):=zo
 have h3:Nat.beq len 0=false:=by
  cases he:Nat.beq len 0 with
  |false=>rfl
  |true=>have:=Nat.eq_of_beq_eq_true he;omega
 simp only [yW,hu,hi',bnd,if_pos h2,Int.toNat_natCast,hb,Option.isSome_none,Bool.or_self,offA,h3,wF,Nat.zero_mul,Nat.sub_zero]
end
def intT (x:Int):List UInt8:=(if x<0 then [45] else [])++decT x.natAbs
theorem gc (h:U≠0):(decB U).map UInt8.ofNat=decT U:=by unfold decT;rw [if_neg h]
theorem jH (d:Nat)(l:List Nat):u8s (d::l)=Value.int .u8 (d:Int)::u8s l:=rfl
theorem wq {h:HF}{o L:Nat}(hr:h b=some (.row c e))(hc:(c.drop o).take L=cl)(hl:o+L≤c.length)(hcap:L≤cap):argS h 1 (.slice (some ⟨b,o,none⟩) L cap) L cl:=
 sR (n:=b+1) (.at_ zo hr rfl hcap zo (by rw [Nat.mul_one];exact hc))
theorem bH (k:Nat){h:HF}(hG:GK.G h){n:Nat}(hn:20≤n){x:Int}(hx: -9223372036854775808≤x∧x<9223372036854775808):VF (cal (k+3)) 74 [.int .i64 x,.int .i64 10] h n fun v=>v=.string ⟨⟨intT x⟩⟩:=by
 refine zB (fn:=Tryz.f74) R4 ?_
 refine zN ?_
 repeat refine zR ?_
 refine zN ?_
 repeat refine zR ?_
 refine zN ?_
 rw [ze rfl]
 refine zN ?_
 by_cases hsm:0≤x∧x<100
 ·obtain ⟨i,rfl⟩:∃i:Nat,x=(i:Int):=⟨x.natAbs,zo⟩
  repeat refine zR ?_
  refine zN ?_
  rw [ze rfl]
  refine zN ?_
  refine zM ?_
  refine ya _ R5 (oe (k+1) _ _ zo) ?_
  rintro _ rfl
  refine zM ?_
  refine zN ?_
  refine retF _ rfl (zi rfl) R2 ?_
  show Value.string _=_
  unfold intT
  rw [if_neg zo]
  rfl
 obtain ⟨m,hm⟩:∃m,m=x.natAbs:=⟨_,rfl⟩
 have hm0:m≠0:=zo
 by_cases hneg:x<0
 ·repeat refine zR ?_
  refine zN ?_
  rw [za rfl]
  refine zN ?_
  refine wI (List.replicate 24 (.int .u8 0)) R6 ?_
  intro h1 p1 x1
  refine zN ?_
  refine zM ?_
  refine wf (ik:=.u64) (a:=((18446744073709551616-m:Nat):Int)) R6 ?_ ?_
  ·show some (Value.int .u64 (IntKind.wrap .u64 x))=_
   rw [show x= -(m:Int) from zo,s0 m zo]
  refine zM ?_
  refine zN ?_
  repeat refine zR ?_
  refine zN ?_
  rw [ze rfl]
  refine zN ?_
  refine zM ?_
  refine zI (v:=.int .u64 (m:Int)) R4 ?_ ?_
  ·show some (Value.int .u64 (IntKind.wrap .u64 (0-((18446744073709551616-m:Nat):Int))))=_
   rw [tg _ zo]
   congr 3
   omega
  refine zM ?_
  refine zN ?_
  refine zM ?_
  refine ya _ R5 (wL k (vT hG x1 hn) _ zo hm0) ?_
  rintro _ ⟨L,rfl,hL1,hL2,hU1,hU2⟩
  refine zM ?_
  refine zN ?_
  refine zM ?_
  refine vP (a:=1) (b:=(L:Int)) R6 zo ?_
  refine qh (i:=1) (j:=1+L) R9 zo (zA n) zo ?_
  rw [show 1+L-1=L by omega]
  refine zM ?_
  refine zw _ R5 (oN (k+1) (h:=h1) (n:=n+1) (B:=3*n+2) (o:=1) (L:=L) (U:=m) zo p1 (by rw [List.length_replicate];omega) zo hU1 zo) ?_
  rintro v h2 _ W ⟨rfl,hW,c,f⟩
  rw [z6 fun b hb=>by rw [hW b hb];show 3*n≤_;omega]
  have hcl:c.length=24:=by rw [f.len,List.length_replicate]
  refine zN ?_
  repeat refine zR ?_
  refine zN ?_
  rw [ze rfl]
  refine zN ?_
  refine lT R8 (j:=0) zo ?_
  refine db (b:=3*n+2) (off:=0) (c.set 0 (.int .u8 45)) R5 f.row rfl rfl rfl (by rw [hcl];omega) (splice_one c 0 _ zo) (by show 3*n≤_;omega) ?_
  intro h3 p3 o3
  refine zN ?_
  refine zM ?_
  refine vP (a:=1) (b:=(L:Int)) R6 zo ?_
  refine ut (j:=1+L) R8 zo (zA n) zo ?_
  have hcs:((c.set 0 (.int .u8 45)).drop 0).take (1+L)=u8s (45::decB m):=by
   rw [jH,←f.cells (by rw [List.length_replicate];omega) hL1 hU1 hU2,List.drop_zero]
   cases c with
   |nil=>simp at hcl
   |cons c1 c2=>rw [List.set_cons_zero,Nat.add_comm,List.take_succ_cons,List.drop_succ_cons,List.drop_zero];rfl
  refine qe R5 (tn (B:=45::decB m) R3 (wq p3 hcs (by rw [List.length_set];omega) zo)) ?_
  refine zM ?_
  refine zN ?_
  refine retF _ rfl (zi rfl) R2 ?_
  show Value.string _=_
  unfold intT
  rw [if_pos hneg,←hm,←gc hm0]
  rfl
 repeat refine zR ?_
 refine zN ?_
 rw [za rfl]
 refine zN ?_
 refine wI (List.replicate 24 (.int .u8 0)) R6 ?_
 intro h1 p1 x1
 refine zN ?_
 refine zM ?_
 refine wf (ik:=.u64) (a:=(m:Int)) R6 ?_ ?_
 ·show some (Value.int .u64 (IntKind.wrap .u64 x))=_
  rw [show x=(m:Int) from zo,xC,Nat.mod_eq_of_lt zo]
 refine zM ?_
 refine zN ?_
 repeat refine zR ?_
 refine zN ?_
 rw [za rfl]
 refine zN ?_
 refine zM ?_
 refine ya _ R5 (wL k (vT hG x1 hn) _ zo hm0) ?_
 rintro _ ⟨L,rfl,hL1,hL2,hU1,hU2⟩
 refine zM ?_
 refine zN ?_
 refine zM ?_
 refine vP (a:=1) (b:=(L:Int)) R6 zo ?_
 refine qh (i:=1) (j:=1+L) R9 zo (zA n) zo ?_
 rw [show 1+L-1=L by omega]
 refine zM ?_
 refine zw _ R5 (oN (k+1) (h:=h1) (n:=n+1) (B:=3*n+2) (o:=1) (L:=L) (U:=m) zo p1 (by rw [List.length_replicate];omega) zo hU1 zo) ?_
 rintro v h2 _ W ⟨rfl,hW,c,f⟩
 rw [z6 fun b hb=>by rw [hW b hb];show 3*n≤_;omega]
 have hcl:c.length=24:=by rw [f.len,List.length_replicate]
 refine zN ?_
 repeat refine zR ?_
 refine zN ?_
 rw [za rfl]
 refine zN ?_
 refine zM ?_
 refine vP (a:=1) (b:=(L:Int)) R6 zo ?_
 refine qh (i:=1) (j:=1+L) R9 zo (zA n) zo ?_
 rw [show 1+L-1=L by omega]
 refine qe R5 (tn (B:=decB m) R3 (wq f.row (f.cells (by rw [List.length_replicate];omega) hL1 hU1 hU2) zo zo)) ?_
 refine zM ?_
 refine zN ?_
 refine retF _ rfl (zi rfl) R2 ?_
 show Value.string _=_
 unfold intT
 rw [if_neg hneg,←hm,←gc hm0]
 rfl
theorem pK (k:Nat){h:HF}(hG:GK.G h){n:Nat}(hn:20≤n){x:Int}(hx: -9223372036854775808≤x∧x<9223372036854775808):VF (cal (k+4)) 35 [.int .i64 x,.int .i64 10] h n fun v=>v=.string ⟨⟨intT x⟩⟩:=by
 refine zB (fn:=Tryz.f35) R4 ?_
 refine zN ?_
 refine zM ?_
 refine zN ?_
 refine zM ?_
 refine zM ?_
 refine ya _ R5 (bH k hG hn hx) ?_
 rintro _ rfl
 refine zM ?_
 refine zN ?_
 exact retF _ rfl (zi rfl) R2 rfl
theorem kP (k:Nat){h:HF}(hG:GK.G h){n:Nat}(hn:20≤n){x:Int}(hx: -9223372036854775808≤x∧x<9223372036854775808):VF (cal (k+5)) 46 [.int .i64 x] h n fun v=>v=.string ⟨⟨intT x⟩⟩:=by
 refine zB (fn:=Tryz.f46) R4 ?_
 refine zN ?_
 refine zM ?_
 refine zN ?_
 refine zM ?_
 refine ya _ R5 (pK k hG hn hx) ?_
 rintro _ rfl
 refine zM ?_
 refine zN ?_
 exact retF _ rfl (zi rfl) R2 rfl
end
section
variable {U V b bytes l len lo m n' n0 sz u:Nat}{E:Env}{e sT xT:TypeId}{v v0 z:Value}{T:List Nat}{h' h0:HF}{x:Operand}{a:Option Addr}
def decN (V:Nat):List Nat:=if V=0 then [48] else decB V
theorem qK (V:Nat):decT V=(decN V).map UInt8.ofNat:=by
 unfold decT decN
 split<;>rfl
theorem zf9:∀V,∀d∈decD V,d<10:=by
 intro V
 induction V using Nat.strongRecOn with
 |_ V ih=>
  intro d hd
  by_cases h0:V=0
  ·subst h0;rw [yZ] at hd;exact absurd hd List.not_mem_nil
  rw [xX h0] at hd
  rcases List.mem_append.1 hd with h|h
  ·exact ih (V/10) zo d h
  rw [List.mem_singleton.1 h];omega
theorem zf8 (V:Nat):∀d∈decN V,d<256:=by
 intro d hd
 unfold decN at hd
 split at hd
 ·rw [List.mem_singleton.1 hd];decide
 obtain ⟨q,hq,rfl⟩:=List.mem_map.1 hd
 have:=zf9 V q hq
 show 48+q<256
 omega
theorem jc (V:Nat):decN V≠[]:=by
 unfold decN
 split
 ·simp
 rename_i h
 intro e
 unfold decB at e
 rw [xX h] at e
 simp at e
theorem eC {l:List Nat}(h:∀d∈l,d<256):(l.map UInt8.ofNat).map (fun b:UInt8=>Value.int .u8 (b.toNat:Int))=u8s l:=by
 induction l with
 |nil=>rfl
 |cons d l ih=>
  rw [List.map_cons,List.map_cons,ih fun x hx=>h x (by simp [hx]),jH]
  have:=h d (by simp)
  rw [show (UInt8.ofNat d).toNat=d from by rw [UInt8.toNat_ofNat'];omega]
theorem gJ {h:HF}:argS h 1 (.string ⟨⟨decT V⟩⟩) (decN V).length (u8s (decN V)):=by
 refine ⟨?_,?_⟩
 ·show some (decT V).length=_
  rw [qK,List.length_map]
 show some (((decT V).take (decN V).length).map fun b:UInt8=>Value.int .u8 (b.toNat:Int))=_
 rw [qK,List.take_of_length_le (by rw [List.length_map];exact Nat.le_refl _),eC (zf8 V)]
theorem gk {L:Nat}(hL:1≤L)(h1:U<10^L)(h2:10^(L-1)≤U):(decB U).length=L:=by
 unfold decB
 rw [List.length_map]
 exact (gm L U hL h1 h2).1
def eZ (v:Value)(b:Nat):Prop:=∃o l c,v=.slice (some ⟨b,o,none⟩) l c
def GroT (h:HF)(n:Nat)(v:Value)(T:List Nat):Prop:=Gro h 0 n 5 1 v T.length (u8s T)
theorem qT {h:HF}{n:Nat}{x:Value}{new:List Nat}(hu:E.und sT=some (.slice e))(he:e=5)(hi:E.inf e=some (1,bytes,z))(hz:(zl z).length=1)(h1:1≤bytes)(hg:GroT h n v T)(hx:argS h 1 x m (u8s new))(hm:1≤m)(hl:new.length=m)(hb:(T.length+m)*bytes≤1099511627776):
  ∃v' h' W,yD E h n sT v x=some (.val v' h' (n+1) W)∧GroT h' (n+1) v' (T++new)∧Keep v n h h'∧(∀b∈W,eZ v b)∧yO n v':=by
 subst he
 unfold GroT at*
 have hun:(u8s new).length=m*1:=by rw [tW,hl,Nat.mul_one]
 have eT:T.length+m=(T++new).length:=by rw [List.length_append,hl]
 have eU:u8s T++u8s new=u8s (T++new):=by unfold u8s;rw [List.map_append]
 generalize hT:T.length=tl at hg hb eT
 generalize hc:u8s T=cc at hg eU
 cases hg with
 |nil=>
  refine ⟨_,_,_,append_nil hu hi hz (Nat.le_refl _) h1 hx hm (by rw [Nat.zero_add] at hb;exact hb),?_,fun b hb _=>zj zo,fun b hb=>absurd hb List.not_mem_nil,by show 3*n≤3*n+1;omega⟩
  rw [←eU,←eT,Nat.zero_add,List.nil_append]
  exact .at_ (ub n) zo zo (zg _ _ _) hun (tH _)
 | @at_ b len _ hg2 hlo hb2 hr hl2 ho2=>
  refine ⟨_,_,_,uD hu hi hz (Nat.le_refl _) h1 hx hm hb hg2 hr hl2 (yX ho2 (tH _)) hun,?_,fun k hk hne=>?_,fun k hk=>?_,by show 3*n≤3*n+1;omega⟩
  ·rw [←eU,←eT]
   exact .at_ (ub n) zo zo (zg _ _ _) (by rw [List.length_append,hl2,hun];omega) (yX ho2 (tH _))
  ·rw [zj zo,zj (fun e=>hne 0 tl tl (by rw [e]))]
  rw [List.mem_singleton.1 hk];exact ⟨_,_,_,rfl⟩
structure AS (h0:HF)(n0:Nat)(v0:Value)(h:HF)(n:Nat)(w:List Nat)(v:Value)(T:List Nat):Prop where
 hn:n0≤n
 keep:Keep v0 n0 h0 h
 hw:∀b∈w,eZ v0 b
 g:GroT h n v T
 or:v=v0∨yO n0 v
theorem AS.refl (g:GroT h0 n0 v0 T):AS h0 n0 v0 h0 n0 [] v0 T:=⟨Nat.le_refl _,fun _ _ _=>rfl,fun b hb=>absurd hb List.not_mem_nil,g,Or.inl rfl⟩
theorem AS.ext {h:HF}{n:Nat}{w:List Nat}(a:AS h0 n0 v0 h n w v T)(x:Ext n h h')(hn:n≤n'):AS h0 n0 v0 h' n' w v T:=
 ⟨Nat.le_trans a.hn hn,fun b hb hne=>(x b (by have:=a.hn;omega)).trans (a.keep b hb hne),a.hw,a.g.ext x hn,a.or⟩
theorem AS.only {h:HF}{n:Nat}{w:List Nat}(a:AS h0 n0 v0 h n w v T)(o:Only b h h')(hb:3*n0≤b)(hg:gro b=false):AS h0 n0 v0 h' n w v T:=
 ⟨a.hn,fun k hk hne=>(o k zo).trans (a.keep k hk hne),a.hw,a.g.same fun k _ _ hk=>o k fun e=>(by rw [e,hg] at hk;cases hk),a.or⟩
theorem Gro.blk {n o c:Nat}{h:HF}{C:List Value}(g:Gro h lo n e sz v len C)(hv:v=.slice (some ⟨b,o,none⟩) l c):gro b=true∧b<3*n:=by
 cases g with
 |nil=>cases hv
 |at_ hg hlo hb hr hl ho=>cases hv;exact ⟨hg,hb⟩
theorem AS.trans {h1 h2:HF}{n1 n2:Nat}{w1 w2:List Nat}{v1 v2:Value}{T1 T2:List Nat}(a:AS h0 n0 v0 h1 n1 w1 v1 T1)(b:AS h1 n1 v1 h2 n2 w2 v2 T2):AS h0 n0 v0 h2 n2 (addW n0 w2 w1) v2 T2:=by
 have hn:=a.hn
 refine ⟨Nat.le_trans a.hn b.hn,fun k hk hne=>(b.keep k zo fun o l c e=>?_).trans (a.keep k hk hne),fun k hk=>?_,b.g,?_⟩
 ·rcases a.or with h|h
  ·exact hne o l c (h▸e)
  rw [e] at h;have h:3*n0≤k:=h;omega
 ·rcases yu.1 hk with h|⟨h,h3⟩
  ·exact a.hw k h
  obtain ⟨o,l,c,e⟩:=b.hw k h
  rcases a.or with h4|h4
  ·exact ⟨o,l,c,h4▸e⟩
  rw [e] at h4;have h4:3*n0≤k:=h4;omega
 rcases b.or with h|h
 ·rw [h];exact a.or
 exact .inr (h.mono hn)
section
variable {X:CtxF}{ops r:List Oper}{t:TF}{h:HF}{n:Nat}{w:List Nat}{Q:SV→Prop}{o:Oper}{d:Tmp}
theorem qi {s:Operand}{new:List Nat}(hw:zh ops t o=true∧o.dst=some d∧zn X.nt (some d)=true∧o.op=.call {callee:=.builtin .append,args:=#[s,x],argTypes:=#[sT,xT]}∧(match X.E.und xT with|some (.int _)=>false|none=>false|_=>true)=true∧X.E.und sT=some (.slice e)∧e=5∧X.E.inf e=some (1,bytes,z)∧(zl z).length=1)(h1:1≤bytes)(hs:evF t s=v)(hx:argS h 1 (evF t x) m (u8s new))(hm:1≤m)(hl:new.length=m)(hb:(T.length+m)*bytes≤1099511627776)(a:AS h0 X.n0 v0 h n w v T)
  (k:∀v' h' w',AS h0 X.n0 v0 h' (n+1) w' v' (T++new)→Keep v n h h'→EO X ops r ⟨upd t d v',h',n+1,w'⟩ Q):EO X ops (o::r) ⟨t,h,n,w⟩ Q:=by
 obtain ⟨hw,hd,hn,ho,hxT,hu,he,hi,hz⟩:=hw
 obtain ⟨v',h',W,h2,h3,h4,h5,h6⟩:=qT hu he hi hz h1 a.g hx hm hl hb
 refine yK ⟨hw,hd,hn,ho,hxT⟩ (by rw [hs];exact h2) ?_
 have b:AS h n v h' (n+1) W v' (T++new):=⟨Nat.le_succ _,h4,h5,h3,.inr h6⟩
 exact k v' h' _ (a.trans b) h4
end
theorem GroT.shape {h:HF}{n:Nat}(g:GroT h n v T):∃a,v=.slice a T.length T.length:=by
 obtain ⟨a,e,_⟩:=Gro.shape g
 exact ⟨a,e⟩
theorem GroT.keepB {h:HF}{n:Nat}(g:GroT h n v T)(k:Keep v n h h')(hb:gro b=false)(hl:b<3*n):h' b=h b:=k.blk g hb hl
theorem eI (k:Nat){h:HF}(hG:GK.G h){n:Nat}(hn:20≤n)(hu:u<18446744073709551616)(g:GroT h n (.slice a T.length T.length) T)(hT:T.length<1000000000):CF (cal (k+3)) 104 [.slice a T.length T.length,.int .u64 (u:Int),.int .i64 10] h n fun v h' n' w=>AS h n (.slice a T.length T.length) h' n' w v (T++decN u):=by
 refine zv (fn:=Tryz.f104) R4 ?_
 have a0:=AS.refl g
 have hdl:(decN u).length≤20:=by
  unfold decN
  split
  ·decide
  unfold decB
  rw [List.length_map]
  exact xP 20 u zo
 refine zN ?_
 refine zM ?_
 refine zN ?_
 repeat refine zR ?_
 refine zN ?_
 rw [ze rfl]
 refine zN ?_
 by_cases hsm:u<100
 ·repeat refine zR ?_
  refine zN ?_
  rw [ze rfl]
  refine zN ?_
  refine zM ?_
  refine zM ?_
  refine wA (a:=(u:Int)) R7 zo ?_
  refine ya _ R5 (oe (k+1) _ _ hsm) ?_
  rintro _ rfl
  refine qi R9 zb rfl (gJ (V:=u)) (by have:=jc u;cases hh:decN u with|nil=>exact absurd hh this|cons _ _=>simp) rfl zo a0 ?_
  intro v' h' w' a1 _
  obtain ⟨a',rfl⟩:=a1.g.shape
  refine zM ?_
  refine zN ?_
  exact retH [.slice a' _ _] R3 a1
 have hu0:u≠0:=zo
 repeat refine zR ?_
 refine zN ?_
 rw [za rfl]
 refine zN ?_
 refine wI (List.replicate 24 (.int .u8 0)) R6 ?_
 intro h1 p1 x1
 refine zN ?_
 refine zM ?_
 refine ya _ R5 (wL k (vT hG x1 hn) _ hu hu0) ?_
 rintro _ ⟨L,rfl,hL1,hL2,hU1,hU2⟩
 refine zM ?_
 refine zN ?_
 refine zM ?_
 refine ut (j:=L) R8 rfl (zA n) zo ?_
 refine zM ?_
 refine zw _ R5 (oN (k+1) (h:=h1) (n:=n+1) (B:=3*n+2) (o:=0) (L:=L) (U:=u) zo p1 (by rw [List.length_replicate];omega) zo hU1 zo) ?_
 rintro v h2 _ W ⟨rfl,hW,c,f⟩
 rw [z6 fun b hb=>by rw [hW b hb];show 3*n≤_;omega]
 have hcl:c.length=24:=by rw [f.len,List.length_replicate]
 have a2:=(a0.ext x1 zs).only f.oth zo (zA n)
 have hcs:=f.cells (by rw [List.length_replicate];omega) hL1 hU1 hU2
 have hdn:decN u=decB u:=by unfold decN;rw [if_neg hu0]
 rw [←hdn] at hcs
 refine zN ?_
 refine zM ?_
 refine zM ?_
 refine ut (j:=L) R8 rfl (zA n) zo ?_
 refine qi R9 zb rfl (wq f.row hcs zo zo) hL1 (by rw [hdn];exact gk hL1 hU1 hU2) zo a2 ?_
 intro v' h' w' a3 _
 obtain ⟨a',rfl⟩:=a3.g.shape
 refine zM ?_
 refine zN ?_
 exact retH [.slice a' _ _] R3 a3
theorem jq (k:Nat){h:HF}(hG:GK.G h){n:Nat}(hn:20≤n)(hu:u<18446744073709551616)(g:GroT h n (.slice a T.length T.length) T)(hT:T.length<1000000000):CF (cal (k+4)) 118 [.slice a T.length T.length,.int .u64 (u:Int),.int .i64 10] h n fun v h' n' w=>AS h n (.slice a T.length T.length) h' n' w v (T++decN u):=by
 refine zv (fn:=Tryz.f118) R4 ?_
 refine zN ?_
 refine zM ?_
 refine zN ?_
 refine zM ?_
 refine zM ?_
 refine zM ?_
 refine zw _ R5 (eI k hG hn hu g hT) ?_
 intro v h1 n1 w1 a1
 obtain ⟨a',rfl⟩:=a1.g.shape
 have a2:=(AS.refl g).trans a1
 refine zM ?_
 refine zN ?_
 exact retH [.slice a' _ _] R3 a2
end
section
variable {B b cap len m u:Nat}{c c0 new:List Value}{e':TypeId}{T:List Nat}
section
variable {E:Env}{h:HF}{n:Nat}{sT e:TypeId}{bytes:Nat}{z x:Value}
theorem uC (hu:E.und sT=some (.slice e)∧E.inf e=some (1,bytes,z)∧(zl z).length=1)(h1:1≤bytes)(hx:argS h 1 x m new)(hb:(len+m)*bytes≤1099511627776)(hm:new.length=m∧1≤m)(hc:len+m≤cap)(hr:h b=some (.row c e'))(hl:len+m≤c.length)(ho:ones new=true):
  yD E h n sT (.slice (some ⟨b,0,none⟩) len cap) x=some (.val (.slice (some ⟨b,0,none⟩) (len+m) cap) (upd h b (some (.row (zm c len new) e'))) n [b]):=by
 obtain ⟨hu,hi,hz⟩:=hu
 obtain ⟨hl',hcx⟩:=hx
 have c1:Nat.ble ((len+m)*bytes) 1099511627776=true:=Nat.ble_eq_true_of_le hb
 have c2:Nat.beq (zl z).length 1=true:=by rw [hz];exact Nat.beq_refl _
 have c3:Nat.ble 1 1=true:=rfl
 have c4:Nat.ble 1 bytes=true:=Nat.ble_eq_true_of_le h1
 have c5:Nat.ble (len+m) cap=true:=Nat.ble_eq_true_of_le hc
 have c6:wO h ((⟨b,0,none⟩:Addr).add (len*1)) new=some (upd h b (some (.row (zm c len new) e'))):=by
  rw [wF,Nat.zero_add,Nat.mul_one,ur hr zo ho]
 obtain ⟨v,r,rfl⟩:∃v r,new=v::r:=by
  cases new with
  |nil=>simp at hm;omega
  |cons v r=>exact ⟨v,r,rfl⟩
 simp only [yD,hu,hi,hl',hcx,c1,c2,c3,c4,c5,Bool.and_self,vH,c6]
end
def BufT (T:List Nat)(h:HF)(n B cap:Nat)(e:TypeId)(c0:List Value)(N:List Nat)(v:Value)(h':HF)(n':Nat)(w:List Nat):Prop:=
 v=.slice (some ⟨B,0,none⟩) (T++N).length cap∧n≤n'∧(∀b∈w,b=B)∧(∀b,b<3*n→b≠B→h' b=h b)∧∃c,h' B=some (.row c e)∧c.length=c0.length∧c.take (T++N).length=u8s (T++N)
theorem wJ {N:List Nat}(ht:c.take T.length=u8s T)(hl:T.length+N.length≤c.length):(zm c T.length (u8s N)).take (T++N).length=u8s (T++N)∧(zm c T.length (u8s N)).length=c.length:=by
 have h:=qb (c:=u8s N) (cs:=c) (o:=T.length) (by rw [tW];exact hl)
 rw [tW,ht] at h
 rw [List.length_append]
 exact ⟨h.1.trans (by simp [u8s]),h.2⟩
theorem te (k:Nat){h:HF}(hG:GK.G h){n:Nat}(hn:20≤n){e:TypeId}(hT:c0.take T.length=u8s T)(hB:B<3*n)(hrow:h B=some (.row c0 e))(hc0:cap=c0.length∧T.length+20≤cap∧cap<1000000)(hu:u<18446744073709551616):
  CF (cal (k+3)) 104 [.slice (some ⟨B,0,none⟩) T.length cap,.int .u64 (u:Int),.int .i64 10] h n fun v h' n' w=>BufT T h n B cap e c0 (decN u) v h' n' w:=by
 refine zv (fn:=Tryz.f104) R4 ?_
 have hdl:(decN u).length≤20:=by
  unfold decN
  split
  ·decide
  unfold decB
  rw [List.length_map]
  exact xP 20 u zo
 have hd1:1≤(decN u).length:=by
  have:=jc u
  cases hh:decN u with
  |nil=>exact absurd hh this
  |cons _ _=>simp
 refine zN ?_
 refine zM ?_
 refine zN ?_
 repeat refine zR ?_
 refine zN ?_
 rw [ze rfl]
 refine zN ?_
 by_cases hsm:u<100
 ·repeat refine zR ?_
  refine zN ?_
  rw [ze rfl]
  refine zN ?_
  refine zM ?_
  refine zM ?_
  refine wA (a:=(u:Int)) R7 zo ?_
  refine ya _ R5 (oe (k+1) _ _ hsm) ?_
  rintro _ rfl
  refine yK R5 (uC R3 zb (gJ (V:=u)) zo ⟨tW _,hd1⟩ zo hrow zo (tH _)) ?_
  rw [rZ (by show B<3*n;exact hB)]
  refine zM ?_
  refine zN ?_
  obtain ⟨t1,t2⟩:=wJ (N:=decN u) hT zo
  refine retH [.slice (some ⟨B,0,none⟩) (T.length+(decN u).length) cap] R3 ⟨by rw [List.length_append];rfl,Nat.le_refl _,fun b hb=>List.mem_singleton.1 hb,fun b _ hne=>zj hne,_,zg _ _ _,t2,t1⟩
 have hu0:u≠0:=zo
 repeat refine zR ?_
 refine zN ?_
 rw [za rfl]
 refine zN ?_
 refine wI (List.replicate 24 (.int .u8 0)) R6 ?_
 intro h1 p1 x1
 refine zN ?_
 refine zM ?_
 refine ya _ R5 (wL k (vT hG x1 hn) _ hu hu0) ?_
 rintro _ ⟨L,rfl,hL1,hL2,hU1,hU2⟩
 refine zM ?_
 refine zN ?_
 refine zM ?_
 refine ut (j:=L) R8 rfl (zA n) zo ?_
 refine zM ?_
 refine zw _ R5 (oN (k+1) (h:=h1) (n:=n+1) (B:=3*n+2) (o:=0) (L:=L) (U:=u) zo p1 (by rw [List.length_replicate];omega) zo hU1 zo) ?_
 rintro v h2 _ W ⟨rfl,hW,c,f⟩
 rw [z6 fun b hb=>by rw [hW b hb];show 3*n≤_;omega]
 have hcl:c.length=24:=by rw [f.len,List.length_replicate]
 have hcs:=f.cells (by rw [List.length_replicate];omega) hL1 hU1 hU2
 have hdn:decN u=decB u:=by unfold decN;rw [if_neg hu0]
 rw [←hdn] at hcs
 have hLd:(decN u).length=L:=by rw [hdn];exact gk hL1 hU1 hU2
 have hrow2:h2 B=some (.row c0 e):=(f.oth B zo).trans ((x1 B hB).trans hrow)
 refine zN ?_
 refine zM ?_
 refine zM ?_
 refine ut (j:=L) R8 rfl (zA n) zo ?_
 refine yK R5 (uC R3 zb (wq f.row hcs zo zo) zo ⟨by rw [tW,hLd],hL1⟩ zo hrow2 zo (tH _)) ?_
 rw [rZ (by show B<3*n;exact hB)]
 refine zM ?_
 refine zN ?_
 obtain ⟨t1,t2⟩:=wJ (N:=decN u) hT zo
 refine retH [.slice (some ⟨B,0,none⟩) (T.length+L) cap] R3 ⟨by rw [List.length_append,hLd];rfl,by show n≤n+1;omega,fun b hb=>List.mem_singleton.1 hb,fun b hb hne=>(zj hne).trans ((f.oth b zo).trans (x1 b hb)),_,zg _ _ _,t2,t1⟩
def BufP (h:HF)(n B cap:Nat)(e:TypeId)(c0:List Value)(u:Nat)(v:Value)(h':HF)(n':Nat)(w:List Nat):Prop:=
 v=.slice (some ⟨B,0,none⟩) (decN u).length cap∧n≤n'∧(∀b∈w,b=B)∧(∀b,b<3*n→b≠B→h' b=h b)∧∃c,h' B=some (.row c e)∧c.length=c0.length∧c.take (decN u).length=u8s (decN u)
theorem mX (k:Nat){h:HF}(hG:GK.G h){n:Nat}(hn:20≤n){e:TypeId}(hB:B<3*n)(hrow:h B=some (.row c0 e))(hc0:cap=c0.length∧20≤cap)(hc1:cap<1000000)(hu:u<18446744073709551616):
  CF (cal (k+4)) 118 [.slice (some ⟨B,0,none⟩) 0 cap,.int .u64 (u:Int),.int .i64 10] h n fun v h' n' w=>BufP h n B cap e c0 u v h' n' w:=by
 refine zv (fn:=Tryz.f118) R4 ?_
 refine zN ?_
 refine zM ?_
 refine zN ?_
 refine zM ?_
 refine zM ?_
 refine zM ?_
 refine zw _ R5 (te (T:=[]) k hG hn rfl hB hrow ⟨hc0.1,by simpa using hc0.2,hc1⟩ hu) ?_
 rintro v h1 n1 w1 ⟨rfl,b2,b3,b4,c,b5,b6,b7⟩
 refine zM ?_
 refine zN ?_
 refine retH [.slice (some ⟨B,0,none⟩) (decN u).length cap] R3 ⟨rfl,b2,fun b hb=>?_,b4,c,b5,b6,b7⟩
 rcases yu.1 hb with h|⟨h,_⟩
 ·exact absurd h List.not_mem_nil
 exact b3 b h
end
def padD:Nat→Nat→List Nat
 |0,_=>[]
 |k+1,c=>padD k (c/10)++[c%10]
theorem zcj:∀(k c Q:Nat),c<10^k→Q≠0→decD (c+10^k*Q)=decD Q++padD k c:=by
 intro k
 induction k with
 |zero=>
  intro c Q hc hQ
  have:c=0:=by rw [Nat.pow_zero] at hc;omega
  subst this
  rw [Nat.pow_zero,Nat.one_mul,Nat.zero_add,padD,List.append_nil]
 |succ k ih=>
  intro c Q hc hQ
  rw [Nat.pow_succ] at hc
  have e1:(c+10^(k+1)*Q)/10=c/10+10^k*Q:=by
   rw [Nat.pow_succ,Nat.mul_right_comm,Nat.mul_comm _ 10];omega
  have e2:(c+10^(k+1)*Q)%10=c%10:=by
   rw [Nat.pow_succ,Nat.mul_right_comm,Nat.mul_comm _ 10];omega
  have hp:0<10^(k+1)*Q:=Nat.mul_pos (Nat.pow_pos zd) zo
  rw [xX zo,e1,e2,ih (c/10) Q zo hQ,padD,List.append_assoc]
theorem zfc:∀(k c:Nat),c<10^k→padD k c=List.replicate (k-(decD c).length) 0++decD c:=by
 intro k
 induction k with
 |zero=>
  intro c hc
  have:c=0:=by rw [Nat.pow_zero] at hc;omega
  subst this
  rw [padD,yZ];rfl
 |succ k ih=>
  intro c hc
  rw [Nat.pow_succ] at hc
  rw [padD,ih (c/10) zo]
  by_cases h0:c=0
  ·subst h0
   rw [yZ]
   show List.replicate (k-0) 0++[]++[0]=List.replicate (k+1-0) 0++[]
   rw [List.append_nil,List.append_nil,Nat.sub_zero,Nat.sub_zero,←List.replicate_succ']
  have hd:=xX h0
  rw [hd,List.length_append,List.append_assoc]
  congr 2
  show k-(decD (c/10)).length=k+1-((decD (c/10)).length+1)
  omega
theorem jd {c Q B:Nat}(hB:10^19=B)(hc:c<B)(hQ:Q≠0):decN (c+B*Q)=decN Q++(List.replicate (19-(decN c).length) 48++decN c):=by
 subst hB
 have hpos:0<10^19*Q:=Nat.mul_pos (Nat.pow_pos zd) zo
 generalize hk:(19:Nat)=kk at hc hpos ⊢
 have hp:=zcj kk c Q hc hQ
 have h2:=zfc kk c hc
 have e:decN (c+10^kk*Q)=decB (c+10^kk*Q):=by
  unfold decN
  rw [if_neg zo]
 have eQ:decN Q=decB Q:=by unfold decN;rw [if_neg hQ]
 rw [e,eQ]
 unfold decB
 rw [hp,h2,List.map_append,List.map_append,List.map_replicate]
 congr 1
 by_cases h0:c=0
 ·subst h0
  have e0:decN 0=[48]:=rfl
  rw [e0,yZ]
  show List.replicate (kk-0) (48+0)++[]=List.replicate (kk-1) 48++[48]
  rw [←List.replicate_succ',List.append_nil,←hk]
 have e3:decN c=decB c:=by unfold decN;rw [if_neg h0]
 rw [e3]
 unfold decB
 rw [List.length_map]
theorem fY {c Q:Nat}(hc:c<10000000000000000000)(hQ:Q≠0):decN (c+10000000000000000000*Q)=decN Q++(List.replicate (19-(decN c).length) 48++decN c):=jd zd hc hQ
theorem fX {c:Nat}(hc:c<10000000000000000000):(decN c).length≤19:=by
 unfold decN
 split
 ·decide
 unfold decB
 rw [List.length_map]
 exact xP 19 c (Nat.lt_of_lt_of_le hc zd)
section
variable {B V b bt bytes cx j l len lo lx n' n0 sz:Nat}{e eB sT ty xT:TypeId}{v v0 z:Value}{c cs:List Value}{C L S T W:List Nat}{h' h0:HF}{a ax:Option Addr}{hi x:Operand}{ik':IntKind}{ji:Int}
theorem Gro.inv {h:HF}{n:Nat}(g:Gro h lo n e 1 v len c)(hl:len≠0):∃b,v=.slice (some ⟨b,0,none⟩) len len∧3*lo≤b∧b<3*n∧h b=some (.row c e)∧gro b=true:=by
 cases g with
 |nil=>exact absurd rfl hl
 |at_ hg hlo hb hr hl ho=>exact ⟨_,rfl,hlo,hb,hr,hg⟩
theorem Gro.low {n o c:Nat}{h:HF}{C:List Value}(g:Gro h lo n e sz v len C)(hv:v=.slice (some ⟨b,o,none⟩) l c):3*lo≤b:=by
 cases g with
 |nil=>cases hv
 |at_ hg hlo hb hr hl ho=>cases hv;exact hlo
def CB:Nat:=10000000000000000000
theorem aJ {d:Nat}(hL:WdD L)(hl:L.length≤30)(hV:wv L=d+CB^C.length*V)(h0:V≠0):C.length≤30:=by
 apply Classical.byContradiction
 intro hc
 have h1:CB^31≤CB^C.length:=Nat.pow_le_pow_right zd zo
 have h2:=Nat.le_mul_of_pos_right (CB^C.length) (Nat.pos_of_ne_zero h0)
 have h3:=ws hL
 have h4:18446744073709551616^L.length≤18446744073709551616^30:=Nat.pow_le_pow_right zd hl
 have h5:18446744073709551616^30≤CB^31:=by decide+kernel
 omega
structure TxI (n0:Nat)(v0:Value)(hL:HF)(nL B:Nat)(eB:TypeId)(h:HF)(n:Nat)(w:List Nat)(a:Option Addr)(T:List Nat):Prop where
 hn:nL≤n
 g:GroT h n (.slice a T.length T.length) T
 or:Value.slice a T.length T.length=v0∨yO nL (.slice a T.length T.length)
 hw:∀b∈w,eZ v0 b
 fr:∀b,b<3*nL→b≠B→¬eZ v0 b→h b=hL b
 buf:∃c,h B=some (.row c eB)∧c.length=20
theorem TxI.ext {hL:HF}{nL:Nat}{h:HF}{n:Nat}{w:List Nat}(t:TxI n0 v0 hL nL B eB h n w a T)(x:Ext n h h')(hn:n≤n')(hB:B<3*nL):TxI n0 v0 hL nL B eB h' n' w a T:=by
 have h1:=t.hn
 obtain ⟨c,h2,h3⟩:=t.buf
 exact ⟨zo,t.g.ext x hn,t.or,t.hw,fun b hb hne hv=>(x b zo).trans (t.fr b hb hne hv),c,(x B zo).trans h2,h3⟩
theorem TxI.bufs {hL:HF}{nL:Nat}{h:HF}{n:Nat}{w:List Nat}{c:List Nat}(t:TxI n0 v0 hL nL B eB h n w a T)(hn:n≤n')(hB:B<3*nL)(hgB:gro B=false)(ho:∀b,b<3*n→b≠B→h' b=h b)(hr:h' B=some (.row cs eB))(hc:cs.length=20):TxI n0 v0 hL nL B eB h' n' w a T:=by
 have h1:=t.hn
 refine ⟨zo,?_,t.or,t.hw,fun b hb hne hv=>(ho b zo hne).trans (t.fr b hb hne hv),cs,hr,hc⟩
 have g1:GroT h' n (.slice a T.length T.length) T:=t.g.same fun b _ hb hg=>ho b hb fun e=>by rw [e,hgB] at hg;cases hg
 exact g1.ext (Ext.refl n h') hn
section
variable {X:CtxF}{ops r:List Oper}{t:TF}{h:HF}{n:Nat}{w:List Nat}{Q:SV→Prop}{o:Oper}{d:Tmp}
theorem dP {s:Operand}{hL:HF}{nL:Nat}{m:Nat}{new:List Nat}(hw:zh ops t o=true∧o.dst=some d∧zn X.nt (some d)=true∧o.op=.call {callee:=.builtin .append,args:=#[s,x],argTypes:=#[sT,xT]}∧(match X.E.und xT with|some (.int _)=>false|none=>false|_=>true)=true∧X.E.und sT=some (.slice e)∧e=5∧X.E.inf e=some (1,bytes,z)∧(zl z).length=1)(h1:1≤bytes)(hs:evF t s=.slice a T.length T.length)(hx:argS h 1 (evF t x) m (u8s new))(hm:1≤m)(hl:new.length=m)(hb:(T.length+m)*bytes≤1099511627776)(tx:TxI X.n0 v0 hL nL B eB h n w a T)(hB:B<3*nL)(hgB:gro B=false)(h0:X.n0≤nL)
  (k:∀a' h' w',TxI X.n0 v0 hL nL B eB h' (n+1) w' a' (T++new)→h' B=h B→EO X ops r ⟨upd t d (.slice a' (T++new).length (T++new).length),h',n+1,w'⟩ Q):EO X ops (o::r) ⟨t,h,n,w⟩ Q:=by
 obtain ⟨hw,hd,hn,ho,hxT,hu,he,hi,hz⟩:=hw
 obtain ⟨v',h',W,h2,h3,h4,h5,h6⟩:=qT hu he hi hz h1 tx.g hx hm hl hb
 obtain ⟨a',rfl⟩:=h3.shape
 have hn1:=tx.hn
 have hvb:∀b,b<3*nL→¬eZ v0 b→∀o l c,Value.slice a T.length T.length≠.slice (some ⟨b,o,none⟩) l c:=fun b hb hv o l c e2=>by
  rcases tx.or with h7|h7
  ·exact hv ⟨o,l,c,h7▸e2⟩
  rw [e2] at h7;have h7:3*nL≤b:=h7;omega
 have hBv:h' B=h B:=h4 B zo fun o l c e2=>by have:=(tx.g.blk e2).1;rw [hgB] at this;cases this
 refine yK ⟨hw,hd,hn,ho,hxT⟩ (by rw [hs];exact h2) (k a' h' _ ⟨zo,h3,.inr (h6.mono hn1),fun b hb=>?_,fun b hb hne hv=>(h4 b zo (hvb b hb hv)).trans (tx.fr b hb hne hv),?_⟩ hBv)
 ·rcases yu.1 hb with h|⟨h,h3⟩
  ·exact tx.hw b h
  obtain ⟨o,l,c,e2⟩:=h5 b h
  rcases tx.or with h4|h4
  ·exact ⟨o,l,c,h4▸e2⟩
  rw [e2] at h4;have h4:3*nL≤b:=h4;omega
 obtain ⟨c,q1,q2⟩:=tx.buf
 exact ⟨c,hBv.trans q1,q2⟩
end
theorem TxI.as {hL:HF}{nL:Nat}{h:HF}{n:Nat}{w:List Nat}(t:TxI n0 v0 hL nL B eB h n w a T)(x:Ext n0 h0 hL)(h1:n0≤nL)(hB:3*n0≤B):AS h0 n0 v0 h n w (.slice a T.length T.length) T:=by
 refine ⟨by have:=t.hn;omega,fun b hb hne=>(t.fr b zo zo fun ⟨o,l,c,e⟩=>hne o l c e).trans (x b hb),t.hw,t.g,?_⟩
 rcases t.or with h|h
 ·exact .inl h
 exact .inr (h.mono h1)
theorem G_fr {h:HF}(hG:GK.G h)(hf:∀b,b<60→gro b=false→h' b=h b):GK.G h':=by
 obtain ⟨g1,g2,g3⟩:=hG
 exact ⟨(hf _ zo rfl).trans g1,(hf _ zo rfl).trans g2,(hf _ zo rfl).trans g3⟩
theorem dn {h:HF}{s:Nat}(hr:h b=some (.row (u64s S) e))(hj:S[j]?=some s):At h b (0+j*1) [.int .u64 (s:Int)]:=by
 have hjl:=(List.getElem?_eq_some_iff.1 hj).1
 refine ⟨_,_,hr,rfl,by show 0+j*1+1≤_;rw [zF];omega,?_⟩
 show ((u64s S).drop (0+j*1)).take 1=_
 rw [Nat.zero_add,Nat.mul_one,tk,List.drop_eq_getElem_cons hjl,(List.getElem?_eq_some_iff.1 hj).2]
 rfl
def pQ (C:List Nat)(m:Nat):List Nat:=if m=C.length then [] else decN (dv CB (C.drop m))
theorem zf3 {m c:Nat}(h:C[m]?=some c):dv CB (C.drop m)=c+CB*dv CB (C.drop (m+1)):=by
 have hl:=(List.getElem?_eq_some_iff.1 h).1
 rw [List.drop_eq_getElem_cons hl,(List.getElem?_eq_some_iff.1 h).2]
 rfl
theorem zf2 {C':List Nat}{cl:Nat}(hC:C=C'++[cl])(h0:cl≠0){m:Nat}(hm:m<C.length):dv CB (C.drop m)≠0:=by
 rw [hC,List.drop_append_of_le_length (by rw [hC,List.length_append] at hm;simp at hm;omega),wC]
 show _+CB^_*(cl+CB*0)≠0
 have:0<CB^(C'.drop m).length*(cl+CB*0):=Nat.mul_pos (Nat.pow_pos zd) zo
 omega
theorem gY {C':List Nat}{cl m c:Nat}(hC:C=C'++[cl])(h0:cl≠0)(hc:C[m]?=some c)(hb:c<CB):pQ C m=pQ C (m+1)++(List.replicate ((if m+1=C.length then (decN c).length else 19)-(decN c).length) 48++decN c):=by
 have hl:=(List.getElem?_eq_some_iff.1 hc).1
 unfold pQ
 rw [if_neg zo,zf3 hc]
 by_cases he:m+1=C.length
 ·rw [if_pos he,if_pos he,he,List.drop_length,Nat.sub_self]
  show decN (c+CB*0)=_
  rw [Nat.mul_zero,Nat.add_zero]
  rfl
 rw [if_neg he,if_neg he]
 exact fY hb (zf2 hC h0 zo)
section
variable {X:CtxF}{ops r:List Oper}{ms:List Nat}{i m:Nat}{t:TF}{h:HF}{n:Nat}{w:List Nat}{al ld:List (Nat×Nat)}{ef:List (Nat×HF×List Nat)}{Q:SV→Prop}{o:Oper}{d:Tmp}
theorem zcg (hw:zh ops t o=true∧o.dst=some d∧zn X.nt (some d)=true∧o.op=.slice ty x none (some hi) none∧X.E.und ty=some (.array len e)∧X.E.inf e=some (sz,bt,z)∧evF t x=.pointer (some ⟨b,0,none⟩)∧evF t hi=.int ik' ji∧ji=(j:Int))(hb:gro b=false)(hl:j≤len∧0<len)
  (k:ED X ops r ms (i+1) ⟨⟨upd t d (.slice (some ⟨b,0,none⟩) j len),h,n,w⟩,al,ld,ef⟩ Q):ED X ops (o::r) (m::ms) i ⟨⟨t,h,n,w⟩,al,ld,ef⟩ Q:=by
 obtain ⟨hw,hd,hn,ho,hu,hi',hx,hhi,hji⟩:=hw
 subst hji
 refine yG hw hd hn (by rw [ho];rfl) ?_ k
 rw [ho]
 show yW X.E ty (evF t x) none (some (evF t hi))=_
 rw [hx,hhi]
 have h2:(0:Int)≤(j:Int)∧(j:Int)≤(len:Int):=zo
 have h3:Nat.beq len 0=false:=by
  cases he:Nat.beq len 0 with
  |false=>rfl
  |true=>have:=Nat.eq_of_beq_eq_true he;omega
 simp only [yW,hu,hi',bnd,if_pos h2,Int.toNat_natCast,hb,Option.isSome_none,Bool.or_self,offA,h3,wF,Nat.zero_mul,Nat.sub_zero]
end
theorem gW {q:List Nat}{r:Nat}(hV:wv L=dv CB C+CB^C.length*wv W)(hW:wv W=CB*wv q+r):wv L=dv CB (C++[r])+CB^(C.length+1)*wv q:=by
 rw [hV,hW,wC,Nat.pow_succ]
 show _=dv CB C+CB^C.length*(r+CB*0)+_
 rw [Nat.mul_zero,Nat.add_zero,Nat.mul_add,Nat.mul_assoc,Nat.add_assoc,Nat.add_comm (CB^C.length*r)]
theorem mY (k:Nat){h:HF}(hG:GK.G h){n:Nat}(hn:20≤n)(g:GroT h n (.slice a T.length T.length) T)(hT:T.length<100000000)(hs:Sl h n 1 (.slice ax lx cx) (u64s L))(nL:NW L)(hl:L.length≤30)(h0:L≠[]):
  CF (cal (k+5)) 143 [.slice a T.length T.length,.slice ax lx cx,.int .i64 0] h n fun v h' n' w=>AS h n (.slice a T.length T.length) h' n' w v (T++decN (wv L)):=by
 refine zv (fn:=Tryz.f143) R4 ?_
 have elx:=hs.lenW
 subst elx
 have hlen0:L.length≠0:=fun e=>h0 (List.length_eq_zero_iff.1 e)
 refine zN ?_
 refine zM ?_
 refine zN ?_
 refine zM ?_
 refine zw _ R5 (xR (k+3) hs zo) ?_
 rintro vw h1 n1 _ ⟨rfl,hn1,hx1,hs1,hg1⟩
 obtain ⟨bw,rfl,hbl,hbh,hrw,hgw⟩:=(hg1 h0).inv hlen0
 clear hg1 hs1
 refine zM ?_
 refine zN ?_
 refine zM ?_
 refine zN ?_
 refine z8 (α:=List Nat×List Nat×List Nat×Option Addr) (fun z=>[(0,.slice a T.length T.length),(2,.int .i64 0),(7,.slice (some ⟨bw,0,none⟩) z.1.length L.length),(8,.slice z.2.2.2 z.2.2.1.length z.2.2.1.length)])
  (fun z h' n' w=>w=[]∧n1≤n'∧Ext n h h'∧h' bw=some (.row (u64s (z.1++z.2.1)) 129)∧z.1.length+z.2.1.length=L.length∧NW z.1∧Gro h' n1 n' 129 1 (.slice z.2.2.2 z.2.2.1.length z.2.2.1.length) z.2.2.1.length (u64s z.2.2.1)∧(∀c∈z.2.2.1,c<CB)∧wv L=dv CB z.2.2.1+CB^z.2.2.1.length*wv z.1∧(wv z.1=0→∃C' c,z.2.2.1=C'++[c]∧c≠0)∧z.2.2.1.length≤31) (fun z=>32-z.2.2.1.length)
  (L,[],[],none) ⟨rfl,rfl,rfl,rfl,trivial⟩ ⟨rfl,Nat.le_refl _,hx1,by rw [List.append_nil];exact hrw,rfl,nL,.nil,fun c hc=>absurd hc List.not_mem_nil,by show wv L=0+CB^0*wv L;rw [Nat.pow_zero];omega,fun e=>absurd (nL.zero.1 e) h0,by show 0≤31;omega⟩ (by show 32-0<LL;unfold LL;omega) ?_
 rintro ⟨W,tl,C,a8⟩ t h2 n2 _ ⟨rfl,hn2,hx2,hr2,hlw,nW,hgC,hC,hV,hlast,hC31⟩
 have hr2:h2 bw=some (.row (u64s (W++tl)) 129):=hr2
 have hlw:W.length+tl.length=L.length:=hlw
 have nW:NW W:=nW
 have hgC:Gro h2 n1 n2 129 1 (.slice a8 C.length C.length) C.length (u64s C):=hgC
 have hC:∀c∈C,c<CB:=hC
 have hV:wv L=dv CB C+CB^C.length*wv W:=hV
 have hlast:wv W=0→∃C' c,C=C'++[c]∧c≠0:=hlast
 have hC31:C.length≤31:=hC31
 refine zN ?_
 by_cases hW0:W=[]
 ·subst hW0
  have hVC:wv L=dv CB C:=by rw [hV];show _+_*0=_;omega
  obtain ⟨C',cl,hCl,hcl0⟩:=hlast rfl
  have hCn:C.length≠0:=by rw [hCl,List.length_append];simp
  repeat refine zR ?_
  refine zN ?_
  rw [za rfl]
  refine zN ?_
  refine wI (List.replicate 20 (.int .u8 0)) R6 ?_
  intro hL pL xL
  refine zN ?_
  refine zM ?_
  refine zN ?_
  repeat refine zR ?_
  refine zN ?_
  obtain ⟨eB,pL⟩:∃e,hL (3*n2+2)=some (.row (List.replicate 20 (.int .u8 0)) e):=⟨_,pL⟩
  have hxL:Ext n h hL:=hx2.trans xL zo
  have gC:Gro hL n1 (n2+1) 129 1 (.slice a8 C.length C.length) C.length (u64s C):=hgC.ext xL zs
  obtain ⟨b8,hb8e,hb8l,hb8h,hb8r,hb8g⟩:=gC.inv hCn
  injection hb8e with hb8e
  subst hb8e
  have gT:GroT hL (n2+1) (.slice a T.length T.length) T:=g.ext hxL zo
  have tx0:TxI n (.slice a T.length T.length) hL (n2+1) (3*n2+2) eB hL (n2+1) [] a T:=⟨Nat.le_refl _,gT,.inl rfl,fun b hb=>absurd hb List.not_mem_nil,fun _ _ _ _=>rfl,List.replicate 20 (.int .u8 0),pL,List.length_replicate⟩
  have hv0:∀b,eZ (.slice a T.length T.length) b→gro b=true∧b<3*n:=fun b ⟨o,l,c,e⟩=>g.blk e
  refine z8 (α:=Nat×Option Addr×List Nat) (fun z=>[(0,.slice z.2.1 z.2.2.length z.2.2.length),(2,.int .i64 0),(8,.slice (some ⟨b8,0,none⟩) C.length C.length),(11,.pointer (some ⟨3*n2+2,0,none⟩)),(12,.bool (decide (z.1=C.length))),(13,.int .i64 ((z.1:Int)-1))])
   (fun z h' n' w=>TxI n (.slice a T.length T.length) hL (n2+1) (3*n2+2) eB h' n' w z.2.1 z.2.2∧z.1≤C.length∧z.2.2=T++pQ C z.1∧z.2.2.length≤T.length+19*(C.length-z.1)) (fun z=>z.1)
   (C.length,a,T) ⟨rfl,rfl,rfl,rfl,by show Value.bool true=.bool (decide (C.length=C.length));rw [decide_eq_true rfl],rfl,trivial⟩ ⟨tx0,Nat.le_refl _,by show T=T++pQ C C.length;unfold pQ;rw [if_pos rfl,List.append_nil],Nat.le_add_right _ _⟩ (by show C.length<LL;unfold LL;omega) ?_
  rintro ⟨m,a1,T1⟩ t h3 n3 w3 ⟨tx,hm,hT1,hTl⟩
  have tx:TxI n (.slice a T.length T.length) hL (n2+1) (3*n2+2) eB h3 n3 w3 a1 T1:=tx
  have hm:m≤C.length:=hm
  have hT1:T1=T++pQ C m:=hT1
  have hTl:T1.length≤T.length+19*(C.length-m):=hTl
  have hn3:=tx.hn
  refine zN ?_
  cases m with
  |zero=>
   have hf:decide (0=C.length)=false:=decide_eq_false zo
   rw [hf]
   repeat refine zR ?_
   refine zN ?_
   rw [za rfl]
   refine zN ?_
   refine zM ?_
   refine zN ?_
   rw [za rfl]
   refine zN ?_
   refine zM ?_
   refine zM ?_
   refine zN ?_
   have:=tx.as hxL zo zo
   rw [show T++decN (wv L)=T1 by rw [hT1,hVC];unfold pQ;rw [if_neg zo,List.drop_zero]]
   exact retH [.slice a1 _ _] R3 this
  |succ m=>
   obtain ⟨c,hc⟩:∃c,C[m]?=some c:=⟨C[m]'zo,List.getElem?_eq_getElem zo⟩
   have hcB:c<CB:=hC c (List.mem_of_getElem? hc)
   have hc64:c<18446744073709551616:=Nat.lt_trans hcB zd
   have hD19:=fX hcB
   have hD1:1≤(decN c).length:=by
    have:=jc c
    cases hh:decN c with
    |nil=>exact absurd hh this
    |cons _ _=>simp
   have hr8:h3 b8=some (.row (u64s C) 129):=(tx.fr b8 hb8h (fun e=>by rw [e,zA] at hb8g;cases hb8g) (fun hv=>by have:=(hv0 _ hv).2;omega)).trans hb8r
   have hat:=dn hr8 hc
   have hG3:GK.G h3:=G_fr (vT hG hxL hn) fun b hb hg=>tx.fr b zo zo fun hv=>by have:=(hv0 _ hv).1;rw [hg] at this;cases this
   obtain ⟨cb,hcb,hcbl⟩:=tx.buf
   repeat refine zR ?_
   refine zN ?_
   rw [ze rfl]
   refine zN ?_
   refine zu [0,0,0,6,14,31,63] rfl ?_
   refine zcg (j:=0) R9 (zA n2) zo ?_
   refine zE ?_
   refine zE ?_
   refine zdg rfl rfl rfl rfl rfl rfl (aq:=some ⟨b8,0,none⟩) rfl (j:=m) (by show Value.int .i64 _=Value.int .i64 _;congr 1;omega) rfl zo ?_
   refine z9 (v:=.int .u64 (c:Int)) R6 (hat.ld1 0 rfl rfl) R2 ?_
   refine wV _ R7 (mX k hG3 zo zo hcb ⟨hcbl.symm,zo⟩ zo hc64) ?_
   rintro v4 h4 n4 W4 ⟨rfl,hn4,hW4,ho4,c4,hr4,hl4,hd4⟩
   refine ⟨mc rfl,hn4,?_⟩
   rw [z6 fun b hb=>by rw [hW4 b hb];show 3*n≤_;omega]
   refine zE ?_
   refine zN ?_
   have tx4:=tx.bufs (c:=[]) hn4 zo (zA _) ho4 hr4 (by rw [hl4,hcbl])
   obtain ⟨S,hS⟩:∃S,S=if m+1=C.length then (decN c).length else 19:=⟨_,rfl⟩
   have hSD:(decN c).length≤S∧S≤19:=by rw [hS];split<;>omega
   refine zM ?_
   refine zN ?_
   refine zM ?_
   refine zN ?_
   refine zio [(0,.slice a1 T1.length T1.length),(2,.int .i64 0),(8,.slice (some ⟨b8,0,none⟩) C.length C.length),(11,.pointer (some ⟨3*n2+2,0,none⟩)),(12,.bool (decide (m+1=C.length))),(13,.int .i64 (((m+1:Nat):Int)-1)),(14,.slice (some ⟨3*n2+2,0,none⟩) (decN c).length 20),(15,.int .i64 (S:Int))] (fun h' n' w'=>h4=h'∧n4=n'∧w3=w') ?_ ?_
   ·by_cases hf:m+1=C.length
    ·rw [ze (by show Value.bool (decide (m+1=C.length))=_;rw [decide_eq_true hf])]
     refine zN ?_
     refine zM ?_
     refine zM ?_
     refine zM ?_
     refine zM ?_
     refine st_mul (a:=19) (b:=((m+1:Nat):Int)-1) rfl rfl rfl rfl rfl rfl zo ?_
     refine rb (a:=0) (b:=19*(((m+1:Nat):Int)-1)) R6 zo ?_
     refine st_I (ik:=.i64) (a:=(S:Int)) ⟨rfl,rfl,rfl,rfl,?_⟩ ?_
     ·show some (Value.int .i64 (if (((decN c).length:Nat):Int)<0-19*(((m+1:Nat):Int)-1) then 0-19*(((m+1:Nat):Int)-1) else (((decN c).length:Nat):Int)))=_
      rw [if_neg zo,hS,if_pos hf]
     refine zM ?_
     refine zN ?_
     exact zei ⟨rfl,rfl,rfl,rfl,rfl,rfl,rfl,rfl,trivial⟩ ⟨rfl,rfl,rfl⟩
    rw [za (by show Value.bool (decide (m+1=C.length))=_;rw [decide_eq_false hf])]
    refine zN ?_
    exact zei ⟨rfl,rfl,rfl,rfl,rfl,rfl,rfl,by show Value.int .i64 19=.int .i64 (S:Int);rw [hS,if_neg hf];rfl,trivial⟩ ⟨rfl,rfl,rfl⟩
   rintro t _ _ _ ⟨rfl,rfl,rfl⟩
   refine zN ?_
   refine zM ?_
   refine zM ?_
   refine zM ?_
   refine rb (a:=(S:Int)) (b:=(((decN c).length:Nat):Int)) R6 zo ?_
   obtain ⟨N,hN⟩:∃N,N=S-(decN c).length:=⟨_,rfl⟩
   rw [show (S:Int)-(((decN c).length:Nat):Int)=(N:Int) by omega]
   refine zM ?_
   refine zN ?_
   refine z8 (α:=Nat×Option Addr×List Nat) (fun z=>[(0,.slice z.2.1 z.2.2.length z.2.2.length),(2,.int .i64 0),(8,.slice (some ⟨b8,0,none⟩) C.length C.length),(11,.pointer (some ⟨3*n2+2,0,none⟩)),(12,.bool (decide (m+1=C.length))),(13,.int .i64 (((m+1:Nat):Int)-1)),(14,.slice (some ⟨3*n2+2,0,none⟩) (decN c).length 20),(70,.int .i64 (N:Int)),(71,.int .i64 (z.1:Int))])
    (fun z h' n' w=>TxI n (.slice a T.length T.length) hL (n2+1) (3*n2+2) eB h' n' w z.2.1 z.2.2∧h' (3*n2+2)=h4 (3*n2+2)∧z.1≤N∧z.2.2=T1++List.replicate z.1 48) (fun z=>N-z.1)
    (0,a1,T1) ⟨rfl,rfl,rfl,rfl,rfl,rfl,rfl,rfl,rfl,trivial⟩ ⟨tx4,rfl,Nat.zero_le _,by show T1=T1++[];rw [List.append_nil]⟩ (by show N-0<LL;unfold LL;omega) ?_
   rintro ⟨cnt,a5,T5⟩ t h5 n5 w5 ⟨tx5,hb5,hcnt,hT5⟩
   have tx5:TxI n (.slice a T.length T.length) hL (n2+1) (3*n2+2) eB h5 n5 w5 a5 T5:=tx5
   have hcnt:cnt≤N:=hcnt
   have hT5:T5=T1++List.replicate cnt 48:=hT5
   have hl5:T5.length=T1.length+cnt:=by rw [hT5,List.length_append,List.length_replicate]
   have hn5:=tx5.hn
   refine zN ?_
   by_cases hlt:cnt<N
   ·repeat refine zR ?_
    refine zN ?_
    rw [ze rfl]
    refine zN ?_
    refine zM ?_
    refine wG [.int .u8 48] (l:=1) (c:=1) R5 ?_
    intro h6 p6 x6
    refine dP (m:=1) (new:=[48]) R9 zb rfl (yC p6 R2) (Nat.le_refl _) rfl zo (tx5.ext x6 zs zo) zo (zA _) (by show n≤n2+1;omega) ?_
    intro a7 h7 w7 tx7 hb7
    refine zM ?_
    refine zN ?_
    refine zR ?_
    refine zM ?_
    refine zN ?_
    exact goOn (cnt+1,a7,T5++[48]) (by show N-(cnt+1)<N-cnt;omega) ⟨rfl,rfl,rfl,rfl,rfl,rfl,rfl,rfl,rfl,trivial⟩ ⟨tx7,hb7.trans ((x6 _ zo).trans hb5),by show cnt+1≤N;omega,by show T5++[48]=T1++List.replicate (cnt+1) 48;rw [hT5,List.append_assoc,←List.replicate_succ']⟩
   have hcN:cnt=N:=zo
   repeat refine zR ?_
   refine zN ?_
   rw [za rfl]
   refine zN ?_
   refine zM ?_
   refine zM ?_
   refine dP (m:=(decN c).length) (new:=decN c) R9 zb rfl (wq (hb5.trans hr4) (by rw [List.drop_zero];exact hd4) zo zo) hD1 rfl zo tx5 zo (zA _) (by show n≤n2+1;omega) ?_
   intro a7 h7 w7 tx7 hb7
   refine zM ?_
   refine zN ?_
   refine zM ?_
   refine zN ?_
   refine zM ?_
   refine rb (a:=((m+1:Nat):Int)-1) (b:=1) R6 zo ?_
   refine zM ?_
   refine zN ?_
   refine goOn (m,a7,T5++decN c) (by show m<m+1;omega) ⟨rfl,rfl,rfl,rfl,by show Value.bool false=.bool (decide (m=C.length));rw [decide_eq_false zo],by show Value.int .i64 _=Value.int .i64 _;congr 1;omega,trivial⟩ ⟨tx7,by show m≤C.length;omega,?_,?_⟩
   ·show T5++decN c=T++pQ C m
    rw [gY hCl hcl0 hc hcB,hT5,hT1,hcN,hN,hS]
    simp only [List.append_assoc]
   show (T5++decN c).length≤T.length+19*(C.length-m)
   rw [List.length_append]
   omega
 have hWl:W.length≠0:=fun e=>hW0 (List.length_eq_zero_iff.1 e)
 have hwv0:wv W≠0:=fun e=>hW0 (nW.zero.1 e)
 have hC30:=aJ nL.1 hl hV hwv0
 repeat refine zR ?_
 refine zN ?_
 rw [ze rfl]
 refine zN ?_
 refine zM ?_
 refine zN ?_
 repeat refine zR ?_
 refine zN ?_
 refine z8 (α:=Nat×List Nat×Nat) (fun x=>[(0,.slice a T.length T.length),(2,.int .i64 0),(7,.slice (some ⟨bw,0,none⟩) W.length L.length),(8,.slice a8 C.length C.length),(9,.int .u64 (x.2.2:Int)),(10,.int .i64 ((x.1:Int)-1))])
  (fun x h' n' w=>w=[]∧n2=n'∧Only bw h2 h'∧h' bw=some (.row (u64s (W.take x.1++(x.2.1++tl))) 129)∧x.1+x.2.1.length=W.length∧WdD x.2.1∧x.2.2<CB∧wv (W.drop x.1)=CB*wv x.2.1+x.2.2) (fun x=>x.1)
  (W.length,[],0) ⟨rfl,rfl,rfl,rfl,rfl,rfl,trivial⟩ ⟨rfl,rfl,fun _ _=>rfl,by rw [List.take_length,List.nil_append];exact hr2,rfl,WdD.nil,by show 0<CB;decide,by rw [List.drop_length];rfl⟩ (by show W.length<LL;unfold LL;omega) ?_
 rintro ⟨j,q,r⟩ t h3 _ _ ⟨rfl,rfl,ho3,hr3,hjl,hq,hr,hWV⟩
 have hr3:h3 bw=some (.row (u64s (W.take j++(q++tl))) 129):=hr3
 have hjl:j+q.length=W.length:=hjl
 have hq:WdD q:=hq
 have hr:r<CB:=hr
 have hWV:wv (W.drop j)=CB*wv q+r:=hWV
 have hx3:Ext n h h3:=hx2.st ho3 zo
 refine zN ?_
 cases j with
 |succ j=>
  obtain ⟨x,hx⟩:∃x,W[j]?=some x:=⟨W[j]'zo,List.getElem?_eq_getElem zo⟩
  have hx':=nW.1.get hx
  have hsl:Sl h3 n2 1 (.slice (some ⟨bw,0,none⟩) W.length L.length) (u64s (W.take (j+1)++q)):=.at_ zo hr3 rfl zo (by rw [zF];simp;omega) (by
   rw [List.drop_zero,Nat.mul_one,tj,←List.append_assoc,List.take_append_of_le_length (by simp;omega),List.take_of_length_le (by simp;omega)])
  have hget:(W.take (j+1)++q)[j]?=some x:=by rw [List.getElem?_append_left (by simp;omega),List.getElem?_take_of_lt zo,hx]
  repeat refine zR ?_
  refine zN ?_
  rw [ze rfl]
  refine zN ?_
  repeat refine zR ?_
  refine yp (f:=fun d:Nat=>Value.int .u64 (d:Int)) (j:=j) R7 hsl ⟨rfl,zo⟩ hget (fun _=>rfl) R4 fun _=>?_
  refine ya _ R5 (rT (k+1) h3 n2 (y:=CB) hr hx' zd) ?_
  rintro _ rfl
  repeat refine zR ?_
  refine vO (j:=j) (v:=.int .u64 (((r*18446744073709551616+x)/CB:Nat):Int)) R8 zo ⟨zo,by rw [zF];simp;omega⟩ hr3 (by show 3*n≤bw;omega) (fun _=>rfl) R3 (fun _=>rfl) rfl fun _=>?_
  rw [ye,List.set_append_left _ _ (by simp;omega),List.take_add_one,hx,Option.toList_some,List.set_append_right _ _ (by rw [List.length_take];omega),List.length_take,Nat.min_eq_left zo,Nat.sub_self,List.set_cons_zero,List.append_assoc,List.singleton_append]
  repeat refine zR ?_
  refine zN ?_
  repeat refine zR ?_
  refine zN ?_
  obtain ⟨g1,g2⟩:=r7 (V:=wv (W.drop (j+1))) (Vq:=wv q) (r:=r) (a:=x) (d:=CB) zd hWV
  refine goOn (j,(r*18446744073709551616+x)/CB::q,(r*18446744073709551616+x)%CB) (by show j<j+1;omega) ⟨rfl,rfl,rfl,rfl,rfl,by show Value.int .i64 _=Value.int .i64 _;congr 1;omega,trivial⟩ ⟨rfl,rfl,fun b hb=>(zj hb).trans (ho3 b hb),(zg _ _ _).trans (by rw [List.cons_append]),by show j+(_::q).length=_;simp;omega,?_,Nat.mod_lt _ zd,?_⟩
  ·intro y hy
   rcases List.mem_cons.1 hy with rfl|hy
   ·exact df hr hx'
   exact hq y hy
  show wv (W.drop j)=CB*wv (_::q)+_
  rw [lk hx,←g2]
  have:=Nat.div_add_mod (x+18446744073709551616*wv (W.drop (j+1))) CB
  rw [g1] at this
  exact this.symm
 |zero=>
  rw [List.take_zero,List.nil_append] at hr3
  rw [List.drop_zero] at hWV
  have hql:q.length=W.length:=zo
  repeat refine zR ?_
  refine zN ?_
  rw [za rfl]
  refine zN ?_
  refine zM ?_
  have hsq:Sl h3 n2 1 (.slice (some ⟨bw,0,none⟩) W.length L.length) (u64s q):=.at_ zo hr3 rfl zo (by rw [zF];simp;omega) (by
   rw [List.drop_zero,Nat.mul_one,tj,List.take_append_of_le_length zo,List.take_of_length_le zo])
  refine zw _ R5 (xB (k+3) (l:=q) zo (fun _ e=>by injection e with e;rw [←e]) hsq) ?_
  rintro _ h3 n2 _ ⟨rfl,rfl,rfl,rfl,hsq2⟩
  refine zM ?_
  refine zN ?_
  refine zM ?_
  refine zM ?_
  refine wG [.int .u64 (r:Int)] (l:=1) (c:=1) R5 ?_
  intro h4 p4 x4
  have hgC4:Gro h4 n1 (n2+1) 129 1 (.slice a8 C.length C.length) C.length (u64s C):=(hgC.same fun b hb _ _=>ho3 b zo).ext x4 zs
  refine jP (lo:=n1) (m:=1) R8 ⟨Nat.le_of_ble_eq_true rfl,Nat.le_of_ble_eq_true rfl⟩ hgC4 (yC p4 R2) (Nat.le_refl _) zo rfl rfl ⟨by show n≤_;omega,zo⟩ ?_
  intro v5 h5 g5 x5 k5
  obtain ⟨a5,rfl,_⟩:=g5.shape
  have hr5:h5 bw=_:=(x5 bw hbh).trans ((x4 bw zo).trans hr3)
  refine zM ?_
  refine zN ?_
  have hsz:=gW (C:=C) (r:=r) hV hWV
  refine goOn (z5 q,q.drop (z5 q).length++tl,C++[r],a5) (by show 32-(C++[r]).length<32-C.length;rw [List.length_append];show 32-(C.length+1)<_;omega) ⟨rfl,rfl,rfl,by show Value.slice a5 _ _=Value.slice a5 _ _;rw [List.length_append];rfl,trivial⟩ ⟨rfl,by show n1≤n2+1+1;omega,?_,?_,?_,NW.trim hq,?_,?_,?_,?_,?_⟩
  ·exact fun b hb=>(x5 b zo).trans ((x4 b zo).trans (hx3 b hb))
  ·refine hr5.trans ?_
   show some (BF.row (u64s (q++tl)) _)=some (BF.row (u64s (z5 q++(q.drop (z5 q).length++tl))) _)
   rw [←List.append_assoc]
   conv=>rhs;rw [←tX q,List.length_take,Nat.min_eq_left (xZ q),List.take_append_drop]
  ·show (z5 q).length+(q.drop (z5 q).length++tl).length=L.length
   have:=xZ q
   rw [List.length_append,List.length_drop]
   omega
  ·show Gro h5 n1 (n2+1+1) _ 1 (.slice a5 (C++[r]).length (C++[r]).length) (C++[r]).length (u64s (C++[r]))
   rw [wx,List.length_append]
   exact g5
  ·intro c hc
   rcases List.mem_append.1 hc with h|h
   ·exact hC c h
   rw [List.mem_singleton.1 h];exact hr
  ·show wv L=dv CB (C++[r])+CB^(C++[r]).length*wv (z5 q)
   rw [show wv (z5 q)=wv q from rK _ _,List.length_append]
   exact hsz
  ·intro e
   have e:wv (z5 q)=0:=e
   rw [show wv (z5 q)=wv q from rK _ _] at e
   rw [e,Nat.mul_zero,Nat.zero_add] at hWV
   exact ⟨C,r,rfl,zo⟩
  show (C++[r]).length≤31
  rw [List.length_append]
  show C.length+1≤31
  omega
end
section
variable {h h':HF}{cx l lx m n n':Nat}{a ax:Option Addr}{L T:List Nat}{v:Value}
theorem jr (k:Nat)(hG:GK.G h)(hn:20≤n)(g:GroT h n (.slice a T.length T.length) T)(hT:T.length<100000000){ap:Option Addr}{cp:Nat}(hs:Sl h n 1 (.slice ax lx cx) (u64s L))(nL:NW L)(hl:L.length≤30)(h0:L≠[]):
  CF (cal (k+6)) 119 [.slice a T.length T.length,.slice ax lx cx,.int .i64 0,.slice ap 1 cp] h n fun v h' n' w=>AS h n (.slice a T.length T.length) h' n' w v (T++decN (wv L)):=by
 refine zv (fn:=Tryz.f119) R4 ?_
 have elx:=hs.lenW
 subst elx
 refine zN ?_
 refine zM ?_
 refine zN ?_
 repeat refine zR ?_
 refine zN ?_
 repeat refine zR ?_
 refine zN ?_
 rw [ze rfl]
 refine zN ?_
 refine zM ?_
 refine zM ?_
 refine zM ?_
 refine zw _ R5 (mY k hG hn g hT hs nL hl h0) ?_
 intro v h1 n1 w1 a1
 obtain ⟨a',rfl⟩:=a1.g.shape
 have a2:=(AS.refl g).trans a1
 refine zM ?_
 refine zN ?_
 exact retH [.slice a' _ _] R3 a2
theorem qU (k:Nat)(hG:GK.G h)(hn:20≤n)(g:GroT h n (.slice a T.length T.length) T)(hT:T.length<100000000)(hs:Sl h n 1 (.slice ax lx cx) (u64s L))(nL:NW L)(hl:L.length≤30):
  CF (cal (k+7)) 84 [.slice a T.length T.length,.slice ax lx cx] h n fun v h' n' w=>AS h n (.slice a T.length T.length) h' n' w v (T++decN (wv L)):=by
 refine zv (fn:=Tryz.f84) R4 ?_
 have elx:=hs.lenW
 subst elx
 refine zN ?_
 refine zM ?_
 refine zN ?_
 by_cases h0:L=[]
 ·subst h0
  repeat refine zR ?_
  refine zN ?_
  rw [ze rfl]
  refine zN ?_
  refine zM ?_
  refine wG [.int .u8 48] (l:=1) (c:=1) R5 ?_
  intro h1 p1 x1
  refine qi (m:=1) (new:=[48]) R9 zb rfl (yC p1 R2) (Nat.le_refl _) rfl zo ((AS.refl g).ext x1 zs) ?_
  intro v' h' w' a1 _
  obtain ⟨a',rfl⟩:=a1.g.shape
  refine zM ?_
  refine zN ?_
  exact retH [.slice a' _ _] R3 a1
 have hlen0:L.length≠0:=fun e=>h0 (List.length_eq_zero_iff.1 e)
 repeat refine zR ?_
 refine zN ?_
 rw [za rfl]
 refine zN ?_
 by_cases h1:L.length=1
 ·obtain ⟨w,rfl⟩:=List.length_eq_one_iff.1 h1
  have hw64:w<18446744073709551616:=nL.1 w (by simp)
  repeat refine zR ?_
  refine zN ?_
  rw [ze rfl]
  refine zN ?_
  refine zM ?_
  refine zM ?_
  refine yp (f:=fun d:Nat=>Value.int .u64 (d:Int)) (j:=0) (dv:=w) R7 hs R2 rfl (fun _=>rfl) R4 fun _=>?_
  refine zw _ R5 (jq (k+2) hG hn hw64 g zo) ?_
  intro v h1 n1 w1 a1
  obtain ⟨a',rfl⟩:=a1.g.shape
  have a2:=(AS.refl g).trans a1
  refine zM ?_
  refine zN ?_
  rw [sY]
  exact retH [.slice a' _ _] R3 a2
 repeat refine zR ?_
 refine zN ?_
 rw [za rfl]
 refine zN ?_
 refine wG [.int .u64 10000000000000000000] (l:=1) (c:=1) R5 ?_
 intro h1 p1 x1
 refine wG [.slice (some ⟨3*n+2,0,none⟩) 1 1] (l:=1) (c:=1) R5 ?_
 intro h2 p2 x2
 refine zM ?_
 refine zN ?_
 have x12:Ext n h h2:=x1.trans x2 zo
 refine z8 (α:=Nat) (fun _=>[(0,.slice a T.length T.length),(1,.slice ax L.length cx),(5,.slice (some ⟨3*(n+1)+2,0,none⟩) 1 1)]) (fun _ h' n' w=>h2=h'∧n+1+1=n'∧w=[]) (fun z=>z) 0 ⟨rfl,rfl,rfl,trivial⟩ ⟨rfl,rfl,rfl⟩ (by show 0<LL;unfold LL;omega) ?_
 rintro _ t _ _ _ ⟨rfl,rfl,rfl⟩
 refine zN ?_
 repeat refine zR ?_
 refine zN ?_
 rw [za rfl]
 refine zN ?_
 refine zM ?_
 refine zM ?_
 refine zM ?_
 refine zw _ R5 (jr k (vT hG x12 hn) (n:=n+1+1) zo (g.ext x12 zo) hT (hs.ext x12 zo) nL hl h0) ?_
 intro v h3 n3 w3 a1
 obtain ⟨a',rfl⟩:=a1.g.shape
 have a2:=((AS.refl g).ext x12 zo).trans a1
 refine zM ?_
 refine zN ?_
 exact retH [.slice a' _ _] R3 a2
def intN (x:Int):List Nat:=(if x<0 then [45] else [])++decN x.natAbs
theorem bh (x:Int):(intN x).map UInt8.ofNat=intT x:=by
 unfold intN intT
 rw [List.map_append,←qK]
 congr 1
 split<;>rfl
theorem IW.few {b:Bool}{c:Nat}{x:Int}(i:IW h n b a l c x)(hx:x.natAbs<2^m)(hm:m≤1920):∃L,Sl h n 1 (.slice a l c) (u64s L)∧NW L∧L.length≤30∧wv L=x.natAbs:=by
 obtain ⟨_,L,h1,h2,h3⟩:=i
 refine ⟨L,h1,h2,h2.len_le (k:=30) ?_,h3⟩
 rw [h3]
 refine Nat.lt_of_lt_of_le hx (Nat.le_trans (Nat.pow_le_pow_right zd hm) ?_)
 decide+kernel
theorem zes {o:Nat}(hm:m≠0)(hl:L.length=m)(h:((u8s T).drop o).take m=u64s L):False:=by
 obtain ⟨d,L',rfl⟩:∃d L',L=d::L':=by
  cases L with
  |nil=>exact absurd hl.symm hm
  |cons d L'=>exact ⟨d,L',rfl⟩
 have h1:Value.int .u64 (d:Int)∈((u8s T).drop o).take m:=by rw [h];exact List.mem_cons_self
 have h2:=List.mem_of_mem_drop (List.mem_of_mem_take h1)
 obtain ⟨q,_,e⟩:=List.mem_map.1 h2
 cases e
theorem Sl.kept {u:Value}(s:Sl h n 1 v (u64s L))(k:Keep u n h h')(g:GroT h n u T)(hn:n≤n'):Sl h' n' 1 v (u64s L):=by
 generalize hL:u64s L=cl at s
 cases s with
 |nil ha=>exact .nil (vD ha hn)
 | @at_ b off len cap x cs c2 hb hx hc hcap hl he=>
  by_cases h0:len=0
  ·subst h0
   have:cl=[]:=by rw [←he];simp
   subst this
   exact .nil (.inr ⟨_,_,_,rfl,zo⟩)
  refine .at_ zo ((k b hb fun o l c e=>?_).trans hx) hc hcap hl he
  unfold GroT at g
  generalize T.length=tl at g
  generalize hT:u8s T=tc at g
  cases g with
  |nil=>cases e
  |at_ hg hlo hb2 hr hl2 ho=>
   cases e
   rw [hr] at hx
   cases hx
   injection hc with hc
   subst hc
   have hll:L.length=len*1:=by
    have:=congrArg List.length he
    rw [←hL,zF,List.length_take,List.length_drop] at this
    omega
   rw [←hT,←hL] at he
   exact zes zo hll he
theorem qS (k:Nat)(hG:GK.G h)(hn:20≤n)(g:GroT h n (.slice a T.length T.length) T)(hT:T.length<10000000){b:Bool}{x:Int}(i:IW h n b ax lx cx x)(hx:x.natAbs<2^m)(hm:m≤1920):
  CF (cal (k+8)) 48 [.agg #[.bool b,.slice ax lx cx],.slice a T.length T.length] h n fun v h' n' w=>AS h n (.slice a T.length T.length) h' n' w v (T++intN x):=by
 refine zv (fn:=Tryz.f48) R4 ?_
 refine zN ?_
 refine nl [.bool b,.slice ax lx cx] R5 ?_
 intro h1 p1 x1
 have i1:=i.ext x1 zs
 obtain ⟨L,hs,nL,hl,hv⟩:=i1.few hx hm
 have a1:=(AS.refl g).ext x1 zs
 refine zM ?_
 refine zN ?_
 refine zM ?_
 refine zV (v:=.bool b) R5 (zU rfl p1 R2) ?_
 refine zN ?_
 cases b
 ·have hx0:=i.ge
  rw [za rfl]
  refine zN ?_
  refine zM ?_
  refine zM ?_
  refine zV (v:=.slice ax lx cx) R5 (zU rfl p1 R2) ?_
  refine zw _ R5 (qU k (vT hG x1 hn) (n:=n+1) zo a1.g zo hs nL hl) ?_
  intro v h3 n3 w3 a2
  obtain ⟨a',rfl⟩:=a2.g.shape
  have a3:=a1.trans a2
  rw [hv] at a3
  refine zM ?_
  refine zN ?_
  rw [show intN x=decN x.natAbs by unfold intN;rw [if_neg zo];rfl]
  exact retH [.slice a' _ _] R3 (by rw [hv];exact a3)
 have hx0:=i.lt
 rw [ze rfl]
 refine zN ?_
 refine zM ?_
 refine wG [.int .u8 45] (l:=1) (c:=1) R5 ?_
 intro h2 p2 x2
 have p12:h2 (3*n+2)=_:=(x2 _ zo).trans p1
 refine qi (m:=1) (new:=[45]) R9 zb rfl (yC p2 R2) (Nat.le_refl _) rfl zo (a1.ext x2 zs) ?_
 intro v' h3 w3 a2 k3
 obtain ⟨a',rfl⟩:=a2.g.shape
 have gg:GroT h2 (n+1+1) (.slice a T.length T.length) T:=(g.ext x1 zs).ext x2 zs
 have p13:h3 (3*n+2)=_:=(gg.keepB k3 (zA n) zo).trans p12
 have hG3:GK.G h3:=G_fr (vT hG (x1.trans x2 zs) hn) fun b hb hg=>gg.keepB k3 hg zo
 have hs3:Sl h3 (n+1+1+1) 1 (.slice ax lx cx) (u64s L):=(hs.ext x2 zs).kept k3 gg zs
 refine zM ?_
 refine zN ?_
 refine zM ?_
 refine zM ?_
 refine zV (v:=.slice ax lx cx) R5 (zU rfl p13 R2) ?_
 refine zw _ R5 (qU k hG3 (n:=n+1+1+1) zo a2.g (by rw [List.length_append];simp;omega) hs3 nL hl) ?_
 intro v h4 n4 w4 a4
 obtain ⟨a5,rfl⟩:=a4.g.shape
 have a6:=a2.trans a4
 rw [hv] at a6
 refine zM ?_
 refine zN ?_
 rw [show T++intN x=T++[45]++decN x.natAbs by unfold intN;rw [if_pos hx0,List.append_assoc]]
 exact retH [.slice a5 _ _] R3 (by rw [hv];exact a6)
end
section
variable {h h0:HF}{cx l lx m n n0:Nat}{a ax:Option Addr}{T w:List Nat}{v:Value}{q:Rat}
theorem GroT.text (g:GroT h n (.slice a T.length T.length) T):argS h 1 (.slice a T.length T.length) T.length (u8s T):=sR (Gro.sl g)
theorem GroT.nil (h:HF)(n:Nat):GroT h n (.slice none ([]:List Nat).length ([]:List Nat).length) []:=Gro.nil
theorem zck:∀(m V:Nat),V<2^m→(decD V).length≤m:=by
 intro m
 induction m with
 |zero=>(intro V h;have:V=0:=by simpa using h);subst this;simp [decD]
 |succ m ih=>
  intro V h
  by_cases h0:V=0
  ·subst h0;simp [decD]
  rw [decD]
  simp only [h0,if_false,↓reduceDIte,↓reduceIte,List.length_cons,List.length_append,List.length_singleton,List.length_nil]
  have:=ih (V/10) (by rw [Nat.pow_succ] at h;omega)
  omega
theorem zb4 {x:Int}(h:x.natAbs<2^m):(intN x).length≤m+2:=by
 have h1:(decN x.natAbs).length≤m+1:=by
  unfold decN
  split
  ·simp
  have:=zck m _ h
  simp only [decB,List.length_map,List.length_reverse]
  omega
 unfold intN
 rw [List.length_append]
 split<;>simp<;>omega
theorem AS.w_nil {c:Nat}(a:AS h0 n0 (.slice none l c) h n w v T):w=[]:=by
 cases w with
 |nil=>rfl
 |cons b w=>
  obtain ⟨o,l,c,e⟩:=a.hw b List.mem_cons_self
  cases e
theorem dE (k:Nat)(hG:GK.G h)(hn:20≤n){b:Bool}{x:Int}(i:IW h n b ax lx cx x)(hx:x.natAbs<2^m)(hm:m≤1920):
  VF (cal (k+9)) 47 [.agg #[.bool b,.slice ax lx cx]] h n fun v=>v=.string ⟨⟨intT x⟩⟩:=by
 refine zB (fn:=Tryz.f47) R4 ?_
 refine zN ?_
 refine nl [.bool b,.slice ax lx cx] R5 ?_
 intro h1 p1 x1
 have i1:=i.ext x1 zs
 refine zM ?_
 refine zN ?_
 refine zV (v:=.agg #[.bool b,.slice ax lx cx]) R5 (yo R2 p1 rfl zb rfl) ?_
 refine zw _ R5 (qS k (vT hG x1 hn) (n:=n+1) zo (GroT.nil h1 (n+1)) (by show 0<10000000;omega) i1 hx hm) ?_
 intro v h2 n2 w2 a2
 obtain ⟨a',rfl⟩:=a2.g.shape
 have hw2:=a2.w_nil
 subst hw2
 refine qe R5 (tn (B:=[]++intN x) R3 a2.g.text) ?_
 refine zM ?_
 refine zN ?_
 refine retF _ rfl (zi rfl) R2 ?_
 show Value.string _=_
 rw [List.nil_append,bh]
theorem nk {w:Nat}(hw:w≤9223372036854775808)(h0:0<w):IntKind.wrap .i64 ((18446744073709551616-w:Nat):Int)= -(w:Int):=by
 simp only [IntKind.wrap,IntKind.signed,IntKind.bits]
 simp
 omega
theorem zb5 (k:Nat){b:Bool}{x:Int}(i:IW h n b ax lx cx x):
  VF (cal (k+1)) 45 [.agg #[.bool b,.slice ax lx cx]] h n fun v=>∃y ok,v=.tuple #[.int .i64 y,.bool ok]∧(ok=true→y=x∧ -9223372036854775808≤x∧x<9223372036854775808):=by
 refine zB (fn:=Tryz.f45) R4 ?_
 obtain ⟨eb,L,hs,nL,hv⟩:=i
 have elx:=hs.lenW
 subst elx
 refine zN ?_
 refine nl [.bool b,.slice ax L.length cx] R5 ?_
 intro h1 p1 x1
 have hs1:=hs.ext x1 zs
 refine zM ?_
 refine zM ?_
 refine zN ?_
 refine zM ?_
 refine zV (v:=.slice ax L.length cx) R5 (zU rfl p1 R2) ?_
 by_cases h0:L=[]
 ·subst h0
  have hx0:x=0:=by
   have:x.natAbs=0:=hv.symm.trans rfl
   omega
  repeat refine zR ?_
  refine zN ?_
  rw [ze rfl]
  refine zN ?_
  repeat refine zR ?_
  refine zN ?_
  exact retF [.int .i64 0,.bool true] rfl (yF rfl (yF rfl rd)) R2 ⟨_,_,rfl,fun _=>⟨hx0.symm,zo,zo⟩⟩
 have hl0:L.length≠0:=fun e=>h0 (List.length_eq_zero_iff.1 e)
 obtain ⟨w,L',rfl⟩:∃w L',L=w::L':=by
  cases L with
  |nil=>exact absurd rfl h0
  |cons w L'=>exact ⟨w,L',rfl⟩
 have hw64:w<18446744073709551616:=nL.1 w (by simp)
 repeat refine zR ?_
 refine zN ?_
 rw [za rfl]
 refine zN ?_
 refine zM ?_
 refine zV (v:=.slice ax (w::L').length cx) R5 (zU rfl p1 R2) ?_
 refine yp (f:=fun d:Nat=>Value.int .u64 (d:Int)) (j:=0) (dv:=w) R7 hs1 R2 rfl (fun _=>rfl) R4 fun _=>?_
 refine zM ?_
 refine zN ?_
 refine zM ?_
 refine zV (v:=.slice ax (w::L').length cx) R5 (zU rfl p1 R2) ?_
 by_cases h1:L'=[]
 ·subst h1
  rw [sY] at hv
  have hw0:w≠0:=nL.last (l:=[])
  refine zM ?_
  refine jM R6 (by show ¬(((1:Nat):Int)>1);omega) ?_
  refine zM ?_
  refine zN ?_
  rw [za rfl]
  refine zN ?_
  refine zM ?_
  refine zV (v:=.bool b) R5 (zU rfl p1 R2) ?_
  cases b
  ·have hx0:0≤x:=Int.not_lt.1 (of_decide_eq_false eb.symm)
   repeat refine zR ?_
   refine zN ?_
   rw [za rfl]
   refine zN ?_
   refine zM ?_
   refine zV (v:=.bool false) R5 (zU rfl p1 R2) ?_
   by_cases hlt:w≤9223372036854775807
   ·refine zM ?_
    refine zM ?_
    refine zM ?_
    refine qg R6 zo ?_
    refine zM ?_
    refine zM ?_
    refine zN ?_
    rw [ze rfl]
    refine zN ?_
    refine zM ?_
    refine wA (a:=(w:Int)) R7 zo ?_
    refine zM ?_
    refine zM ?_
    refine zN ?_
    exact retF [.int .i64 (w:Int),.bool true] rfl (yF rfl (yF rfl rd)) R2 ⟨_,_,rfl,fun _=>⟨zo,zo,zo⟩⟩
   refine zM ?_
   refine zM ?_
   refine zM ?_
   refine pr R6 zo ?_
   refine zM ?_
   refine zM ?_
   refine zN ?_
   rw [za rfl]
   refine zN ?_
   refine zM ?_
   refine zM ?_
   refine zN ?_
   exact retF [.int .i64 0,.bool false] rfl (yF rfl (yF rfl rd)) R2 ⟨_,_,rfl,fun e=>by cases e⟩
  have hx0:x<0:=of_decide_eq_true eb.symm
  by_cases hlt:w≤9223372036854775808
  ·refine zM ?_
   refine zM ?_
   refine qg R6 zo ?_
   refine zM ?_
   refine zM ?_
   refine zN ?_
   rw [ze rfl]
   refine zN ?_
   refine zM ?_
   refine zI (v:=.int .u64 ((18446744073709551616-w:Nat):Int)) R4 (cF hw64 hw0) ?_
   refine wf (ik:=.i64) (a:= -(w:Int)) R6 (by show some (Value.int .i64 (IntKind.wrap .i64 _))=_;rw [nk hlt zo]) ?_
   refine zM ?_
   refine zM ?_
   refine zN ?_
   exact retF [.int .i64 (-(w:Int)),.bool true] rfl (yF rfl (yF rfl rd)) R2 ⟨_,_,rfl,fun _=>⟨zo,zo,zo⟩⟩
  refine zM ?_
  refine zM ?_
  refine pr R6 zo ?_
  refine zM ?_
  refine zM ?_
  refine zN ?_
  rw [za rfl]
  refine zN ?_
  refine zM ?_
  refine zV (v:=.bool true) R5 (zU rfl p1 R2) ?_
  repeat refine zR ?_
  refine zN ?_
  rw [za rfl]
  refine zN ?_
  refine zM ?_
  refine zM ?_
  refine zN ?_
  exact retF [.int .i64 0,.bool false] rfl (yF rfl (yF rfl rd)) R2 ⟨_,_,rfl,fun e=>by cases e⟩
 have hl2:2≤(w::L').length:=by
  cases L' with
  |nil=>exact absurd rfl h1
  |cons _ _=>simp
 refine zM ?_
 refine jL R6 zo ?_
 refine zM ?_
 refine zN ?_
 rw [ze rfl]
 refine zN ?_
 refine zM ?_
 refine zM ?_
 refine zN ?_
 exact retF [.int .i64 0,.bool false] rfl (yF rfl (yF rfl rd)) R2 ⟨_,_,rfl,fun e=>by cases e⟩
theorem sf (h:denZ q=0):ratT q=intT q.num:=by
 unfold ratT intT
 rw [if_pos (yf.1 h),List.append_nil]
theorem nR (h:¬denZ q=0):ratT q=(intN q.num++[47]++intN (denZ q)).map UInt8.ofNat:=by
 rw [List.map_append,List.map_append,bh,bh,xO h]
 unfold ratT intT
 rw [if_neg (mt yf.2 h),if_neg (show ¬((q.den:Nat):Int)<0 by omega)]
 simp only [List.append_assoc,Int.natAbs_natCast]
 rfl
theorem vX (k:Nat)(hG:GK.G h)(hn:20≤n){b d:Bool}{e:Option Addr}{c f g:Nat}(i:IW h n b a l c q.num)(j:IW h n d e f g (denZ q))(hq:Sz m q)(hm:m≤1920):
  VF (cal (k+10)) 17 [.agg #[.bool b,.slice a l c,.bool d,.slice e f g]] h n fun v=>v=.string ⟨⟨ratT q⟩⟩:=by
 refine zB (fn:=Tryz.f17) R4 ?_
 refine zN ?_
 refine nl [.bool b,.slice a l c,.bool d,.slice e f g] R5 ?_
 intro h1 p1 x1
 have i1:=i.ext x1 zs
 have j1:=j.ext x1 zs
 have hG1:=vT hG x1 hn
 refine zM ?_
 refine zN ?_
 refine zM ?_
 refine zV (v:=.agg #[.bool d,.slice e f g]) R5 (yo R2 p1 rfl zb rfl) ?_
 refine ya _ R5 (iJ (k+8) j1) ?_
 rintro _ ⟨z,rfl,hz⟩
 refine zN ?_
 cases z
 ·have hz:¬denZ q=0:=fun e=>by cases hz.2 e
  rw [za rfl]
  refine zN ?_
  refine zM ?_
  refine zV (v:=.agg #[.bool b,.slice a l c]) R5 (yo R2 p1 rfl zb rfl) ?_
  refine zw _ R5 (qS (k+1) hG1 (n:=n+1) zo (GroT.nil h1 (n+1)) (by show 0<10000000;omega) i1 hq.1 hm) ?_
  intro v h2 n2 w2 a2
  obtain ⟨a',rfl⟩:=a2.g.shape
  have hw2:=a2.w_nil
  subst hw2
  have x2:Ext (n+1) h1 h2:=fun b hb=>a2.keep b hb fun o l c e=>by cases e
  have hn2:=a2.hn
  refine wG [.int .u8 47] (l:=1) (c:=1) R5 ?_
  intro h3 p3 x3
  have gT:GroT h3 (n2+1) _ _:=a2.g.ext x3 zs
  have hln:(intN q.num).length≤1922:=Nat.le_trans (zb4 hq.1) zo
  have hA:AS h (ctx (k+9) n 0).n0 (.slice none 0 0) h3 (n2+1) [] _ ([]++intN q.num):=⟨by show n≤n2+1;omega,fun b hb _=>(x3 b (by have hb:b<3*n:=hb;omega)).trans ((x2 b (by have hb:b<3*n:=hb;omega)).trans (x1 b hb)),fun b hb=>absurd hb List.not_mem_nil,gT,by rcases a2.or with h|h;exact .inl h;exact .inr (h.mono (Nat.le_succ n))⟩
  refine qi (m:=1) (new:=[47]) R9 zb rfl (yC p3 R2) (Nat.le_refl _) rfl (by show (([]++intN q.num).length+1)*1≤_;rw [List.nil_append];omega) hA ?_
  intro v' h4 w4 a4 k4
  obtain ⟨a5,rfl⟩:=a4.g.shape
  have hw4:=a4.w_nil
  subst hw4
  have p4:h4 (3*n+2)=_:=(gT.keepB k4 (zA n) zo).trans ((x3 _ zo).trans ((x2 _ zo).trans p1))
  have x13:Ext (n+1) h1 h3:=x2.trans x3 zo
  have hG3:GK.G h3:=vT hG1 x13 zo
  have hG4:GK.G h4:=G_fr hG3 fun b hb hg=>gT.keepB k4 hg zo
  obtain ⟨ej,Lj,hsj,nLj,hvj⟩:=j1.ext x13 (show n+1≤n2+1 by omega)
  have j4:IW h4 (n2+1+1) d e f g (denZ q):=⟨ej,Lj,hsj.kept k4 gT zs,nLj,hvj⟩
  refine zM ?_
  refine zN ?_
  refine zM ?_
  refine zV (v:=.agg #[.bool d,.slice e f g]) R5 (yo R2 p4 rfl zb rfl) ?_
  refine zM ?_
  refine zw _ R5 (qS (k+1) hG4 (n:=n2+1+1) zo a4.g (by rw [List.length_append,List.nil_append];simp;omega) j4 (by rw [xO hz,Int.natAbs_natCast];exact hq.2) hm) ?_
  intro v h5 n5 w5 a6
  obtain ⟨a7,rfl⟩:=a6.g.shape
  have hw5:addW (ctx (k+9) n 0).n0 w5 []=[]:=(a4.trans a6).w_nil
  refine qe R5 (tn (B:=[]++intN q.num++[47]++intN (denZ q)) R3 a6.g.text) ?_
  refine zM ?_
  refine zN ?_
  refine retF _ rfl (zi rfl) ⟨rfl,hw5⟩ ?_
  show Value.string _=_
  rw [List.nil_append,nR hz]
 have hz:denZ q=0:=hz.1 rfl
 rw [ze rfl]
 refine zN ?_
 refine zM ?_
 refine zV (v:=.agg #[.bool b,.slice a l c]) R5 (yo R2 p1 rfl zb rfl) ?_
 refine ya _ R5 (zb5 (k+8) i1) ?_
 rintro _ ⟨y,ok,rfl,hy⟩
 refine zM ?_
 refine zM ?_
 refine zM ?_
 refine zM ?_
 refine zM ?_
 refine zN ?_
 refine zM ?_
 refine zN ?_
 cases ok
 ·rw [za rfl]
  refine zN ?_
  refine zM ?_
  refine zV (v:=.agg #[.bool b,.slice a l c]) R5 (yo R2 p1 rfl zb rfl) ?_
  refine ya _ R5 (dE k hG1 (n:=n+1) zo i1 hq.1 hm) ?_
  rintro _ rfl
  refine zM ?_
  refine zN ?_
  exact retF _ rfl (zi rfl) R2 (by rw [sf hz];rfl)
 obtain ⟨rfl,hy1,hy2⟩:=hy rfl
 rw [ze rfl]
 refine zN ?_
 refine zM ?_
 refine ya _ R5 (kP (k+4) hG1 (n:=n+1) zo ⟨hy1,hy2⟩) ?_
 rintro _ rfl
 refine zM ?_
 refine zN ?_
 exact retF _ rfl (zi rfl) R2 (by rw [sf hz];rfl)
end
section
variable {D:Type}{b bt cap j l len off sz:Nat}{e ty ty':TypeId}{x y:Operand}{z:Value}{ss:List (List UInt8)}{a:Option Addr}{q:Rat}{qs:List Rat}
section
variable {X:CtxF}{n0:Nat}{ops r:List Oper}{ms:List Nat}{i m:Nat}{t:TF}{h:HF}{n:Nat}{w:List Nat}{Q:SV→Prop}{o:Oper}{d:Tmp}
theorem sZ {P:List Value→D→HF→Nat→Prop}{a:Operand}{zs:List D}{q:D}(c:List Value)(og:OR sz P h n b zs)(kp:KP sz P)(hj:j<zs.length)(hoff:off=j*sz)(i1:P c q h n)(k:∀h',OR sz P h' n b (zs.set j q)→Sto b h h'→EO X ops r ⟨t,h',n,addW n0 [b] w⟩ Q)(hw:zh ops t o=true:=by exact rfl)(hd:o.dst=none:=by exact rfl)(ho:o.op=.store ty a x:=by exact rfl)(hi:X.E.inf ty=some (sz,bt,z):=by exact rfl)(ha:evF t a=.pointer (some ⟨b,off,none⟩):=by exact rfl)(hx:zl (evF t x)=c:=by exact rfl)(hX:X.n0=n0:=by exact rfl):EO X ops (o::r) ⟨t,h,n,w⟩ Q:=by
 have og':=og
 obtain ⟨hb,C,e,y1,y2,y3⟩:=og
 have hlen:=y3.len
 obtain ⟨c1,c2,c3⟩:=kp.c i1
 have hsz:j*sz+sz≤zs.length*sz:=by
  have:=Nat.mul_le_mul_right sz (show j+1≤zs.length from hj)
  rw [Nat.add_mul,Nat.one_mul] at this
  exact this
 subst hoff
 rw [rz hw (by rw [hd];rfl) (by rw [ho];rfl) (by rw [ho];exact wc hi ha (by rw [hx];exact c1) (by rw [hx];exact c3) y1 zo),hd,hx,hX]
 have s:=og'.set (h':=upd h b (some (.row (zm C (j*sz) c) e))) kp y1 hj i1 (zg _ _ _) (fun c hc=>zj hc)
 exact k _ s.1 s.2
theorem sZn {P:List Value→D→HF→Nat→Prop}{a:Operand}{zs:List D}{q:D}(c:List Value)(og:OR sz P h n b zs)(kp:KP sz P)(hj:j<zs.length)(hoff:off=j*sz)(i1:P c q h n)(hnew:3*n0≤b)(k:∀h',OR sz P h' n b (zs.set j q)→Sto b h h'→EO X ops r ⟨t,h',n,w⟩ Q)(hw:zh ops t o=true:=by exact rfl)(hd:o.dst=none:=by exact rfl)(ho:o.op=.store ty a x:=by exact rfl)(hi:X.E.inf ty=some (sz,bt,z):=by exact rfl)(ha:evF t a=.pointer (some ⟨b,off,none⟩):=by exact rfl)(hx:zl (evF t x)=c:=by exact rfl)(hX:X.n0=n0:=by exact rfl):EO X ops (o::r) ⟨t,h,n,w⟩ Q:=
 sZ c og kp hj hoff i1 (fun h' o' s'=>by rw [wM hnew];exact k h' o' s') hw hd ho hi ha hx hX
end
section
variable {X:CtxF}{ops r:List Oper}{t:TF}{h:HF}{n:Nat}{w:List Nat}{Q:SV→Prop}{o:Oper}{d:Tmp}
theorem sQ {a b:List UInt8}(v:Bool)(hv:(a==b)=v)(k:EO X ops r ⟨upd t d (.bool v),h,n,w⟩ Q)(hw:zh ops t o=true:=by exact rfl)(hd:o.dst=some d:=by exact rfl)(hn:zn X.nt (some d)=true:=by exact rfl)(ho:o.op=.binOp .eql ty x y ty':=by exact rfl)(hx:evF t x=.string ⟨⟨a⟩⟩:=by exact rfl)(hy:evF t y=.string ⟨⟨b⟩⟩:=by exact rfl):EO X ops (o::r) ⟨t,h,n,w⟩ Q:=
 zI (v:=.bool v) ⟨hw,hd,hn,(by rw [ho];rfl)⟩ (by rw [ho];show binE X.E .eql ty (evF t x) (evF t y)=_;rw [hx,hy];show some (Value.bool (a==b))=_;rw [hv]) k
end
section
variable {X:CtxF}{ops r:List Oper}{ms:List Nat}{i m:Nat}{t:TF}{h:HF}{n:Nat}{w:List Nat}{al ld:List (Nat×Nat)}{ef:List (Nat×HF×List Nat)}{Q:SV→Prop}{o:Oper}{d:Tmp}
end
def strP (c:List Value)(s:List UInt8)(_:HF)(_:Nat):Prop:=c=[.string ⟨⟨s⟩⟩]
theorem strP.kp:KP 1 strP:=⟨fun e _=>e,fun e=>by cases e;exact ⟨rfl,rfl,rfl⟩⟩
theorem Rec.strsE {C:List Value}{h:HF}{n:Nat}(r:Rec 1 (fun c s=>strP c s h n) C ss):C=strs ss:=by
 induction r with
 |nil=>rfl
 |cons h1 h2 h3 ih=>rw [ih,h2];rfl
theorem Rec.ofStrs (ss:List (List UInt8))(h:HF)(n:Nat):Rec 1 (fun c s=>strP c s h n) (strs ss) ss:=by
 induction ss with
 |nil=>exact .nil
 |cons s ss ih=>exact .cons (c:=[.string ⟨⟨s⟩⟩]) rfl rfl ih
abbrev OT (h:HF)(n b:Nat)(ss:List (List UInt8)):Prop:=OR 1 strP h n b ss
theorem OT.sl {h:HF}{n:Nat}(o:OT h n b ss)(hl:len=ss.length)(hc:len≤cap):Sl h n 1 (.slice (some ⟨b,0,none⟩) len cap) (strs ss):=by
 obtain ⟨C,s,r⟩:=OR.sl o hl hc
 exact r.strsE▸s
theorem OT.row {h:HF}{n:Nat}(o:OT h n b ss):∃e,h b=some (.row (strs ss) e):=by
 obtain ⟨_,C,e,h1,_,r⟩:=o
 exact ⟨e,r.strsE▸h1⟩
theorem OT.of {h:HF}{n:Nat}(hb:b<3*n)(h1:h b=some (.row (Go.Proofs.YtdcfbgmbaniglaaGreatDoor.strs ss) e)):OT h n b ss:=by
 refine ⟨hb,_,_,h1,?_,Rec.ofStrs ss h n⟩
 rw [List.all_eq_true]
 intro x hx
 obtain ⟨s,_,rfl⟩:=List.mem_map.1 hx
 rfl
theorem dF (k:Nat){h:HF}{n:Nat}(g:GG h n){b d:Bool}{e:Option Addr}{c f g1:Nat}(i:IW h n b a l c q.num)(j:IW h n d e f g1 (denZ q)){m:Nat}(hq:Sz m q)(hm:m≤1920):CX (cal (k+10)) 17 [.agg #[.bool b,.slice a l c,.bool d,.slice e f g1]] h n fun v _ _=>v=.string ⟨⟨ratT q⟩⟩:=(vX k g.1 g.2 i j hq hm).cx
theorem pW (k:Nat){h:HF}{n:Nat}(g:GG h n){L:Nat}(iq:QS h n (.slice a L cap) qs)(hL:L≤1000){m:Nat}(hz:∀q∈qs,Sz m q)(hm:m≤1920):
  CX (cal (k+11)) 26 [.slice a L cap] h n fun v h' n'=>∃b ss,v=.slice (some ⟨b,0,none⟩) L L∧3*n≤b∧OT h' n' b ss∧ss.length=L:=by
 have lq:=iq.len
 refine zv (fn:=Tryz.f26) R4 ?_
 refine zG ?_
 refine sMk (L:=L) [.string ⟨⟨[]⟩⟩] ?_ hL
 intro h1 p1 x1
 refine zG ?_
 have o1:OT h1 (n+1) (3*n+2) (List.replicate L []):=OR.fill zo p1 strP.kp rfl
 obtain ⟨B,hB⟩:∃B,B=3*n+2:=⟨_,rfl⟩
 rw [←hB] at o1 ⊢
 clear p1
 refine sF (α:=Nat×List (List UInt8)) (fun z=>[(2,.slice none 0 0),(3,.slice (some ⟨B,0,none⟩) L L),(9,.slice a L cap),(10,.int .i64 (L:Int)),(11,.int .i64 (z.1:Int))])
  (fun z h' n' w'=>w'=[]∧n+1≤n'∧Ext n h h'∧OT h' n' B z.2∧z.2.length=L∧z.1≤L) (fun z=>L-z.1) (0,List.replicate L []) ⟨rfl,Nat.le_refl _,x1,o1,List.length_replicate,Nat.zero_le _⟩ ?_
 rintro ⟨j,ss⟩ t h2 n2 _ ⟨rfl,y2,X2,o2,l2,hj⟩
 have y2:n+1≤n2:=y2
 have o2:OT h2 n2 B ss:=o2
 have l2:ss.length=L:=l2
 have hj:j≤L:=hj
 refine zG ?_
 by_cases q2:(j:Int)<(L:Int)
 ·refine zG ?_
  obtain ⟨d3,g3⟩:∃d,(qs)[j]?=some d:=⟨_,List.getElem?_eq_getElem zo⟩
  obtain ⟨k3,u3,b3,a3,l3,c3,d3',e3,f3,w3,e3',m3,r3,t3,i3,j3⟩:=QS.at iq g3
  refine sI e3' r3 ?_
  refine sL t3 m3 0 ?_
  refine sA ?_
  intro h4 p4 x4
  refine zG ?_
  refine sS [.bool b3,.slice a3 l3 c3,.bool d3',.slice e3 f3 w3] ?_
  intro h5 p5 o5
  refine zG ?_
  refine sC (dF _ (g.x zx) (i3.x zx) (j3.x zx) (hz _ (List.mem_of_getElem? g3)) hm) ?_
  rintro _ h6 n6 rfl y6 x6
  refine sI (j:=j) rfl zo ?_
  have o6:OT h6 n6 B ss:=o2.xx strP.kp zx
  refine sZn (n0:=n) (j:=j) (q:=ratT d3) [.string ⟨⟨ratT d3⟩⟩] o6 strP.kp zo (show (0:Nat)+j*1=j*1 by omega) rfl zo ?_
  intro h7 o7 s7
  refine zG ?_
  exact sK (j+1,ss.set j (ratT d3)) ⟨rfl,zo,fun c hc=>(s7.1 c zo).trans ((show h6 c=h2 c by
   have e0:h2 c=h2 c:=rfl
   exact zp).trans (X2 c hc)),o7,by rw [List.length_set];exact l2,by show j+1≤L;omega⟩
 refine zG ?_
 refine zq ?_
 exact ⟨_,_,rfl,zo,o2,l2⟩
end
end Go.Proofs.YtdcfbgmbaniglaaGreatDoor
