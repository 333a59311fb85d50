import Derived.Test.YtlmbghgklnmlkaaGreatDoorBndC
set_option maxHeartbeats 8000000
set_option linter.unusedVariables false
set_option linter.unusedSimpArgs false
namespace Go.Proofs.YtlmbghgklnmlkaaGreatDoor
open Go Go.GL
section
variable {b cx cy fx gx lx ly m m' n:Nat}{q:Rat}{h:HF}{ax ay ex:Option Addr}{dx sx sy:Bool}
theorem vv {x y:Int}(h:x.natAbs<m):(x.tdiv y).natAbs<m:=by
 rw [Int.natAbs_tdiv]
 exact Nat.lt_of_le_of_lt (Nat.div_le_self _ _) h
theorem uv {x y:Int}{a:Nat}(hx:x.natAbs<2^a)(hy:y.natAbs<2^b):(x*y).natAbs<2^(a+b):=by
 rw [Int.natAbs_mul,Nat.pow_add]
 exact Nat.mul_lt_mul'' hx hy
theorem gG {x y:Int}{a:Nat}(hx:x.natAbs<2^a)(hy:y.natAbs<2^b)(h:a+b≤2496):(x*y).natAbs<BW:=wi (uv hx hy) h
theorem mM {x y:Int}(hx:x.natAbs<2^m)(hy:y.natAbs<2^m):(x+y).natAbs<2^(m+1):=by
 rw [Nat.pow_succ]
 omega
theorem iK {x y u v:Int}{a:Nat}(hx:x.natAbs<2^a)(hy:y.natAbs<2^b)(hu:u.natAbs<2^b)(hv:v.natAbs<2^a)(h:a+b+1≤2496):(x*y+u*v).natAbs<BW:=
 wi (mM (uv hx hy) (by rw [Nat.add_comm a b];exact uv hu hv)) h
theorem aH {x y u:Int}{a:Nat}(hx:x.natAbs<2^a)(hy:y.natAbs<2^b)(hu:u.natAbs<2^b)(h:a+b+1≤2496):(x*y+u).natAbs<BW:=
 wi (mM (uv hx hy) (Nat.lt_of_lt_of_le hu (Nat.pow_le_pow_right zd zo))) h
theorem bM {x y:Int}(hx:x.natAbs<m)(h0:¬x=0):((Nat.gcd x.natAbs y.natAbs:Nat):Int).natAbs<m:=by
 rw [Int.natAbs_natCast]
 exact Nat.lt_of_le_of_lt (Nat.gcd_le_left _ zo) hx
theorem za6 {x y:Int}(hy:y.natAbs<m)(h0:¬y=0):((Nat.gcd x.natAbs y.natAbs:Nat):Int).natAbs<m:=by
 rw [Int.natAbs_natCast]
 exact Nat.lt_of_le_of_lt (Nat.gcd_le_right _ zo) hy
theorem zc1 {x y:Int}(h:¬x=0):((Nat.gcd x.natAbs y.natAbs:Nat):Int)≠0:=by
 have:=Nat.gcd_pos_of_pos_left (n:=y.natAbs) (m:=x.natAbs) zo
 omega
theorem za5 {x y:Int}(h:¬y=0):((Nat.gcd x.natAbs y.natAbs:Nat):Int)≠0:=by
 have:=Nat.gcd_pos_of_pos_right (m:=x.natAbs) (n:=y.natAbs) zo
 omega
theorem zcu:(1:Int).natAbs<BW:=wi (e:=1) zd zd
theorem szB {x:Int}(h:x.natAbs<BW:=by first|assumption|exact vv ‹_› |exact gG ‹_› ‹_› zo|exact gG ‹_› (vv ‹_›) zo|exact gG (vv ‹_›) (vv ‹_›) zo|exact iK ‹_› (vv ‹_›) ‹_› (vv ‹_›) zo|exact iK ‹_› ‹_› ‹_› ‹_› zo|exact aH ‹_› ‹_› ‹_› zo|exact bM ‹_› ‹_› |exact bM (iK ‹_› (vv ‹_›) ‹_› (vv ‹_›) zo) ‹_› |exact za6 ‹_› ‹_› |exact zcu):x.natAbs<BW:=h
theorem szN {x:Int}(h:x≠0:=by first|assumption|exact zc1 ‹_› |exact za5 ‹_› |omega):x≠0:=h
def Sz (m:Nat)(q:Rat):Prop:=q.num.natAbs<2^m∧q.den<2^m
theorem Sz.z (h:Sz m q):(denZ q).natAbs<2^m:=by
 unfold denZ
 split
 ·exact Nat.two_pow_pos m
 rw [Int.natAbs_natCast];exact h.2
theorem Sz.mono (h:Sz m q)(hm:m≤m'):Sz m' q:=⟨Nat.lt_of_lt_of_le h.1 (Nat.pow_le_pow_right zd hm),Nat.lt_of_lt_of_le h.2 (Nat.pow_le_pow_right zd hm)⟩
theorem rQ {x:Int}{g:Nat}(h:x.natAbs<m):(x/(g:Int)).natAbs<m:=by
 refine Nat.lt_of_le_of_lt ?_ h
 exact Int.natAbs_ediv_le_natAbs _ _
theorem Sz.add {a:Nat}{x y:Rat}(hx:Sz a x)(hy:Sz b y):Sz (a+b+1) (x+y):=by
 refine ⟨?_,?_⟩
 ·rw [wX]
  refine rQ (mM (uv hx.1 (by rw [Int.natAbs_natCast];exact hy.2)) ?_)
  rw [Nat.add_comm a b]
  exact uv hy.1 (by rw [Int.natAbs_natCast];exact hx.2)
 rw [wY]
 refine Nat.lt_of_le_of_lt (Nat.div_le_self _ _) (Nat.lt_of_lt_of_le (Nat.mul_lt_mul'' hx.2 hy.2) ?_)
 rw [←Nat.pow_add]
 exact Nat.pow_le_pow_right zd zo
theorem Sz.mul {a:Nat}{x y:Rat}(hx:Sz a x)(hy:Sz b y):Sz (a+b) (x*y):=by
 refine ⟨?_,?_⟩
 ·rw [ur]
  exact rQ (uv hx.1 hy.1)
 rw [ut]
 refine Nat.lt_of_le_of_lt (Nat.div_le_self _ _) ?_
 rw [Nat.pow_add]
 exact Nat.mul_lt_mul'' hx.2 hy.2
theorem Sz.neg {a:Nat}{x:Rat}(hx:Sz a x):Sz a (-x):=⟨by rw [Rat.neg_num,Int.natAbs_neg];exact hx.1,by rw [Rat.neg_den];exact hx.2⟩
theorem Sz.zero (a:Nat)(h:1≤a):Sz a 0:=⟨Nat.two_pow_pos a,Nat.lt_of_lt_of_le (by decide:(1:Nat)<2^1) (Nat.pow_le_pow_right zd h)⟩
def QV (q:Rat)(v:Value)(h:HF)(n:Nat):Prop:=∃b a l c d e f g,v=.agg #[.bool b,.slice a l c,.bool d,.slice e f g]∧IW h n b a l c q.num∧IW h n d e f g (denZ q)
theorem QV.zero (h:HF)(n:Nat):QV 0 (.agg #[.bool false,.slice none 0 0,.bool false,.slice none 0 0]) h n:=⟨_,_,_,_,_,_,_,_,rfl,IW.zero h n,IW.zero h n⟩
theorem td (k:Nat){bx:Bool}{x:Int}{b_y:Bool}{y:Int}(ix:IW h n bx ax lx cx x)(iy:IW h n b_y ay ly cy y)(hx:x.natAbs<BW)(hy:y.natAbs<BW):CX (cal (k+4)) 100 [.agg #[.bool bx,.slice ax lx cx],.agg #[.bool b_y,.slice ay ly cy]] h n fun v _ _=>∃s:Int,v=.int .i64 s∧(s= -1∧x<y∨s=0∧x=y∨s=1∧y<x):=(fN k ix iy hx hy).cx
theorem zc4 (k:Nat)(h:HF)(n:Nat):CX (cal (k+1)) 142 [.int .u64 1] h n (WV 1):=zc3 k h n (w:=1) zd
theorem zd3 (k:Nat)(h:HF)(n:Nat):CX (cal (k+2)) 101 [.int .i64 1] h n (IV 1):=by
 refine zn (fn:=Tryz.f101) R4 ?_
 refine zG ?_
 refine sA ?_
 intro h11 p11 x11
 refine zG ?_
 refine xH R6 (ik:=.u64) (a:=1) rfl ?_
 refine sC (zc4 _ _ _) ?_
 rintro _ h12 n12 ⟨a12,l12,c12,rfl,i12⟩ y12 x12
 refine sT #[.bool false,.slice a12 l12 c12] ?_
 refine sS [.bool false,.slice a12 l12 c12] ?_
 intro h13 p13 o13
 refine zq ?_
 exact ⟨_,_,_,_,rfl,rfl,(i12.t zt)⟩
theorem dH (k:Nat){x:Rat}(ix:IW h n sx ax lx cx x.num)(jx:IW h n dx ex fx gx (denZ x)):VF (cal (k+2)) 62 [.agg #[.bool sx,.slice ax lx cx,.bool dx,.slice ex fx gx]] h n fun v=>∃b:Bool,v=.bool b∧(b=true↔x=0):=by
 refine zu (fn:=Tryz.f62) R4 ?_
 refine zG ?_
 refine sB [.bool sx,.slice ax lx cx,.bool dx,.slice ex fx gx] ?_
 intro h11 p11 x11
 refine zG ?_
 refine sC (xg _ (ix.t zt)) ?_
 rintro _ h12 n12 ⟨b12,rfl,bq12⟩ y12 x12
 rcases bvs bq12 with ⟨rfl,q12⟩|⟨rfl,q12⟩
 ·refine zf ?_
  exact zno fun hq=>absurd (Rat.num_eq_zero.2 hq) q12
 refine zf ?_
 exact zye (Rat.num_eq_zero.1 q12)
theorem zcf (k:Nat){x:Rat}(ix:IW h n sx ax lx cx x.num)(jx:IW h n dx ex fx gx (denZ x)):VF (cal (k+2)) 82 [.agg #[.bool sx,.slice ax lx cx,.bool dx,.slice ex fx gx]] h n fun v=>∃s:Int,v=.int .i64 s∧(s= -1∧x.num<0∨s=0∧x.num=0∨s=1∧0<x.num):=by
 refine zu (fn:=Tryz.f82) R4 ?_
 refine zG ?_
 refine sB [.bool sx,.slice ax lx cx,.bool dx,.slice ex fx gx] ?_
 intro h11 p11 x11
 refine zG ?_
 refine sC (zdx _ (ix.t zt)) ?_
 rintro _ h12 n12 ⟨s12,rfl,q12⟩ y12 x12
 rcases q12 with ⟨rfl,q12⟩|⟨rfl,q12⟩|⟨rfl,q12⟩
 ·refine zf ?_
  exact ⟨_,rfl,zo⟩
 ·refine zf ?_
  exact ⟨_,rfl,zo⟩
 refine zf ?_
 exact ⟨_,rfl,zo⟩
theorem gQ (k:Nat){x:Rat}(ix:IW h n sx ax lx cx x.num)(jx:IW h n dx ex fx gx (denZ x)):CX (cal (k+2)) 62 [.agg #[.bool sx,.slice ax lx cx,.bool dx,.slice ex fx gx]] h n (BV (x=0)):=(dH k ix jx).cx
theorem gb (k:Nat){x:Rat}(ix:IW h n sx ax lx cx x.num)(jx:IW h n dx ex fx gx (denZ x)):CX (cal (k+2)) 82 [.agg #[.bool sx,.slice ax lx cx,.bool dx,.slice ex fx gx]] h n (SV3 x.num):=(zcf k ix jx).cx
theorem denQ (k:Nat){x:Rat}(ix:IW h n sx ax lx cx x.num)(jx:IW h n dx ex fx gx (denZ x)):CX (cal (k+3)) 98 [.agg #[.bool sx,.slice ax lx cx,.bool dx,.slice ex fx gx]] h n (IV (x.den:Int)):=by
 refine zn (fn:=Tryz.f98) R4 ?_
 refine zG ?_
 refine sB [.bool sx,.slice ax lx cx,.bool dx,.slice ex fx gx] ?_
 intro h11 p11 x11
 refine sA ?_
 intro h12 p12 x12
 refine zG ?_
 refine sC (xg _ (jx.t zt)) ?_
 rintro _ h13 n13 ⟨b13,rfl,bq13⟩ y13 x13
 rcases bvs bq13 with ⟨rfl,q13⟩|⟨rfl,q13⟩
 ·refine zG ?_
  refine sS [.bool dx,.slice ex fx gx] ?_
  intro h14 p14 o14
  refine zq ?_
  exact ⟨_,_,_,_,rfl,(jx.t zt).as (wz q13)⟩
 refine zG ?_
 refine sC (zd3 _ _ _) ?_
 rintro _ h15 n15 ⟨b15,a15,l15,c15,rfl,i15⟩ y15 x15
 refine sS [.bool b15,.slice a15 l15 c15] ?_
 intro h16 p16 o16
 refine zq ?_
 exact ⟨_,_,_,_,rfl,(i15.t zt).as (by rw [yo.1 q13];rfl)⟩
theorem pj (k:Nat){x:Int}{y:Int}(ix:IW h n sx ax lx cx x)(iy:IW h n sy ay ly cy y)(hN:q.num=x)(hD:(q.den:Int)=y):CX (cal (k+2)) 96 [.agg #[.bool sx,.slice ax lx cx],.agg #[.bool sy,.slice ay ly cy]] h n (QV q):=by
 refine zn (fn:=Tryz.f96) R4 ?_
 refine zG ?_
 refine sB [.bool sx,.slice ax lx cx] ?_
 intro h11 p11 x11
 refine sB [.bool sy,.slice ay ly cy] ?_
 intro h12 p12 x12
 refine sA ?_
 intro h13 p13 x13
 refine zG ?_
 refine sC (qL _ (iy.t zt)) ?_
 rintro _ h14 n14 ⟨b14,rfl,bq14⟩ y14 x14
 rcases bvs bq14 with ⟨rfl,q14⟩|⟨rfl,q14⟩
 ·refine zG ?_
  refine sT #[.bool sx,.slice ax lx cx,.bool sy,.slice ay ly cy] ?_
  refine sS [.bool sx,.slice ax lx cx,.bool sy,.slice ay ly cy] ?_
  intro h15 p15 o15
  refine zq ?_
  exact ⟨_,_,_,_,_,_,_,_,rfl,(ix.t zt).as (hN.symm),(iy.t zt).as (((wz (mt yo.1 (by have:=hD;omega))).trans hD).symm)⟩
 refine zG ?_
 refine sT #[.bool sx,.slice ax lx cx,.bool false,.slice none 0 0] ?_
 refine sS [.bool sx,.slice ax lx cx,.bool false,.slice none 0 0] ?_
 intro h16 p16 o16
 refine zq ?_
 exact ⟨_,_,_,_,_,_,_,_,rfl,(ix.t zt).as (hN.symm),(IW.zero _ _).as ((yo.2 (by have:=hD;omega)).symm)⟩
theorem pH (k:Nat){x:Int}{y:Int}(g:GG h n)(ix:IW h n sx ax lx cx x)(iy:IW h n sy ay ly cy y)(hx:x.natAbs<BW)(hy:y.natAbs<BW)(hy0:¬y=0):CX (cal (k+9)) 97 [.agg #[.bool sx,.slice ax lx cx],.agg #[.bool sy,.slice ay ly cy]] h n fun v h' n'=>∃b a l c g d e f,v=.tuple #[.agg #[.bool b,.slice a l c],.agg #[.bool g,.slice d e f]]∧IW h' n' b a l c (x.tdiv ((Nat.gcd x.natAbs y.natAbs:Nat):Int))∧IW h' n' g d e f (y.tdiv ((Nat.gcd x.natAbs y.natAbs:Nat):Int)):=by
 refine zn (fn:=Tryz.f97) R4 ?_
 refine zG ?_
 refine sB [.bool sx,.slice ax lx cx] ?_
 intro h11 p11 x11
 refine sB [.bool sy,.slice ay ly cy] ?_
 intro h12 p12 x12
 refine sA ?_
 intro h13 p13 x13
 refine sA ?_
 intro h14 p14 x14
 refine zG ?_
 refine sC (qL _ (iy.t zt)) ?_
 rintro _ h15 n15 ⟨b15,rfl,bq15⟩ y15 x15
 rcases bvs bq15 with ⟨rfl,q15⟩|⟨rfl,q15⟩
 ·refine zG ?_
  refine sC (gcdX _ (g.t zt) (ix.t zt) (iy.t zt) szB szB) ?_
  rintro _ h16 n16 ⟨b16,a16,l16,c16,rfl,i16⟩ y16 x16
  refine sA ?_
  intro h17 p17 x17
  refine sS [.bool b16,.slice a16 l16 c16] ?_
  intro h18 p18 o18
  refine zG ?_
  refine zB [0,0,3,0,0,31,63,127] rfl ?_
  refine zH ?_
  refine dC (quoX _ (ix.t zt) (i16.t zt) szB szB szN) ?_
  rintro _ h19 n19 ⟨b19,a19,l19,c19,rfl,i19⟩ y19 x19
  refine zH ?_
  refine dC (quoX _ (iy.t zt) (i16.t zt) szB szB szN) ?_
  rintro _ h20 n20 ⟨b20,a20,l20,c20,rfl,i20⟩ y20 x20
  refine dS [.bool b19,.slice a19 l19 c19] ?_
  intro h21 p21 o21
  refine dS [.bool b20,.slice a20 l20 c20] ?_
  intro h22 p22 o22
  refine zq ?_
  exact ⟨_,_,_,_,_,_,_,_,rfl,(i19.t zt),(i20.t zt)⟩
 refine zG ?_
 refine zB [0,0,1,7] rfl ?_
 refine zH ?_
 refine dS [.bool sx,.slice ax lx cx] ?_
 intro h23 p23 o23
 refine dS [.bool sy,.slice ay ly cy] ?_
 intro h24 p24 o24
 refine zq ?_
 exact ⟨_,_,_,_,_,_,_,_,rfl,(ix.t zt).as (by rw [q15];simp),(iy.t zt).as (by rw [q15];simp)⟩
theorem et {x y:Rat}(hx:¬denZ x=0)(hy:¬denZ y=0)(h:x.num*((denZ y).tdiv ((Nat.gcd (denZ x).natAbs (denZ y).natAbs:Nat):Int))+y.num*((denZ x).tdiv ((Nat.gcd (denZ x).natAbs (denZ y).natAbs:Nat):Int))=0):x+y=0:=by
 obtain ⟨d,l,r,N,s,a,e1,e2,e3,e4,e5⟩:=AddS.mk' hx hy
 rw [e4] at h
 rw [←Rat.num_eq_zero,a.res.1,h,Int.zero_tdiv]
theorem pM {x y:Rat}(hx:¬denZ x=0)(hy:¬denZ y=0):(x+y).num=(x.num*((denZ y).tdiv ((Nat.gcd (denZ x).natAbs (denZ y).natAbs:Nat):Int))+y.num*((denZ x).tdiv ((Nat.gcd (denZ x).natAbs (denZ y).natAbs:Nat):Int))).tdiv ((Nat.gcd (x.num*((denZ y).tdiv ((Nat.gcd (denZ x).natAbs (denZ y).natAbs:Nat):Int))+y.num*((denZ x).tdiv ((Nat.gcd (denZ x).natAbs (denZ y).natAbs:Nat):Int))).natAbs (((Nat.gcd (denZ x).natAbs (denZ y).natAbs:Nat):Int)).natAbs:Nat):Int)∧((x+y).den:Int)=((denZ x).tdiv ((Nat.gcd (denZ x).natAbs (denZ y).natAbs:Nat):Int))*((denZ y).tdiv ((Nat.gcd (x.num*((denZ y).tdiv ((Nat.gcd (denZ x).natAbs (denZ y).natAbs:Nat):Int))+y.num*((denZ x).tdiv ((Nat.gcd (denZ x).natAbs (denZ y).natAbs:Nat):Int))).natAbs (((Nat.gcd (denZ x).natAbs (denZ y).natAbs:Nat):Int)).natAbs:Nat):Int)):=by
 obtain ⟨d,l,r,N,s,a,e1,e2,e3,e4,e5⟩:=AddS.mk' hx hy
 rw [e4,e5 N rfl,e3]
 refine ⟨a.res.1,?_⟩
 rw [a.res.2,Int.natCast_mul,wz hy,qX]
theorem kx {x y:Rat}(hx:¬denZ x=0)(hy:¬denZ y=0)(h:((Nat.gcd (denZ x).natAbs (denZ y).natAbs:Nat):Int)=1):(x+y).num=x.num*((denZ y).tdiv ((Nat.gcd (denZ x).natAbs (denZ y).natAbs:Nat):Int))+y.num*((denZ x).tdiv ((Nat.gcd (denZ x).natAbs (denZ y).natAbs:Nat):Int))∧((x+y).den:Int)=denZ x*denZ y:=by
 have h4:=pM hx hy
 rw [h] at h4 ⊢
 have e:(1:Int).natAbs=1:=rfl
 rw [e,Nat.gcd_one_right,show ((1:Nat):Int)=1 from rfl,Int.tdiv_one,Int.tdiv_one,Int.tdiv_one] at h4
 rw [Int.tdiv_one,Int.tdiv_one]
 exact h4
theorem addQ (k:Nat){x:Rat}{dy:Bool}{ey:Option Addr}{fy gy:Nat}{y:Rat}(g:GG h n)(ix:IW h n sx ax lx cx x.num)(jx:IW h n dx ex fx gx (denZ x))(iy:IW h n sy ay ly cy y.num)(jy:IW h n dy ey fy gy (denZ y)){a:Nat}(hx:Sz a x)(hy:Sz b y)(hab:a+b+1≤2496):CX (cal (k+9)) 48 [.agg #[.bool sx,.slice ax lx cx,.bool dx,.slice ex fx gx],.agg #[.bool sy,.slice ay ly cy,.bool dy,.slice ey fy gy]] h n (QV (x+y)):=by
 obtain ⟨hxn,hxd⟩:x.num.natAbs<2^a∧(denZ x).natAbs<2^a:=⟨hx.1,hx.z⟩
 obtain ⟨hyn,hyd⟩:y.num.natAbs<2^b∧(denZ y).natAbs<2^b:=⟨hy.1,hy.z⟩
 have hxn1:=wi hxn zo
 have hxd1:=wi hxd zo
 have hyn1:=wi hyn zo
 have hyd1:=wi hyd zo
 refine zn (fn:=Tryz.f48) R4 ?_
 refine zG ?_
 refine sB [.bool sx,.slice ax lx cx,.bool dx,.slice ex fx gx] ?_
 intro h11 p11 x11
 refine sB [.bool sy,.slice ay ly cy,.bool dy,.slice ey fy gy] ?_
 intro h12 p12 x12
 refine sA ?_
 intro h13 p13 x13
 refine zG ?_
 refine sC (xg _ (jx.t zt)) ?_
 rintro _ h14 n14 ⟨b14,rfl,bq14⟩ y14 x14
 rcases bvs bq14 with ⟨rfl,q14⟩|⟨rfl,q14⟩
 ·refine zG ?_
  refine sC (xg _ (jx.t zt)) ?_
  rintro _ h15 n15 ⟨b15,rfl,bq15⟩ y15 x15
  rcases bvs bq15 with ⟨rfl,q15⟩|⟨rfl,q15⟩
  ·refine zG ?_
   refine sC (xg _ (jy.t zt)) ?_
   rintro _ h16 n16 ⟨b16,rfl,bq16⟩ y16 x16
   rcases bvs bq16 with ⟨rfl,q16⟩|⟨rfl,q16⟩
   ·refine zG ?_
    refine sC (gcdX _ (g.t zt) (jx.t zt) (jy.t zt) szB szB) ?_
    rintro _ h17 n17 ⟨b17,a17,l17,c17,rfl,i17⟩ y17 x17
    refine sA ?_
    intro h18 p18 x18
    refine sS [.bool b17,.slice a17 l17 c17] ?_
    intro h19 p19 o19
    refine zG ?_
    refine zB [0,1,0,7,0,16,0,127,0,0,1023,2047] rfl ?_
    refine zH ?_
    refine dC (quoX _ (jy.t zt) (i17.t zt) szB szB szN) ?_
    rintro _ h20 n20 ⟨b20,a20,l20,c20,rfl,i20⟩ y20 x20
    refine zH ?_
    refine dC (quoX _ (jx.t zt) (i17.t zt) szB szB szN) ?_
    rintro _ h21 n21 ⟨b21,a21,l21,c21,rfl,i21⟩ y21 x21
    refine dB [.bool false,.slice none 0 0] ?_
    intro h22 p22 x22
    refine dB [.bool false,.slice none 0 0] ?_
    intro h23 p23 x23
    refine dS [.bool b20,.slice a20 l20 c20] ?_
    intro h24 p24 o24
    refine dS [.bool b21,.slice a21 l21 c21] ?_
    intro h25 p25 o25
    refine zG ?_
    refine zB [0,1,0,7,0,16,0,127,255,0,1023] rfl ?_
    refine zH ?_
    refine dC (mulX _ (ix.t zt) (i20.t zt) szB szB) ?_
    rintro _ h26 n26 ⟨b26,a26,l26,c26,rfl,i26⟩ y26 x26
    refine zH ?_
    refine dC (mulX _ (iy.t zt) (i21.t zt) szB szB) ?_
    rintro _ h27 n27 ⟨b27,a27,l27,c27,rfl,i27⟩ y27 x27
    refine dC (addX _ (i26.t zt) i27 szB szB) ?_
    rintro _ h28 n28 ⟨b28,a28,l28,c28,rfl,i28⟩ y28 x28
    refine dB [.bool false,.slice none 0 0] ?_
    intro h29 p29 x29
    refine dS [.bool b28,.slice a28 l28 c28] ?_
    intro h30 p30 o30
    refine zG ?_
    refine sC (xg _ (i28.t zt)) ?_
    rintro _ h31 n31 ⟨b31,rfl,bq31⟩ y31 x31
    rcases bvs bq31 with ⟨rfl,q31⟩|⟨rfl,q31⟩
    ·refine zG ?_
     refine sC (qL _ (i17.t zt)) ?_
     rintro _ h32 n32 ⟨b32,rfl,bq32⟩ y32 x32
     rcases bvs bq32 with ⟨rfl,q32⟩|⟨rfl,q32⟩
     ·refine zG ?_
      refine sC (gcdX _ (g.t zt) (i28.t zt) (i17.t zt) szB szB) ?_
      rintro _ h33 n33 ⟨b33,a33,l33,c33,rfl,i33⟩ y33 x33
      refine sA ?_
      intro h34 p34 x34
      refine sS [.bool b33,.slice a33 l33 c33] ?_
      intro h35 p35 o35
      refine zG ?_
      refine zB [0,0,3,0,0,16,0,119,255,511,1023] rfl ?_
      refine zH ?_
      refine dC (quoX _ (i28.t zt) (i33.t zt) szB szB szN) ?_
      rintro _ h36 n36 ⟨b36,a36,l36,c36,rfl,i36⟩ y36 x36
      refine zH ?_
      refine dC (quoX _ (jy.t zt) (i33.t zt) szB szB szN) ?_
      rintro _ h37 n37 ⟨b37,a37,l37,c37,rfl,i37⟩ y37 x37
      refine dC (mulX _ (i21.t zt) i37 szB szB) ?_
      rintro _ h38 n38 ⟨b38,a38,l38,c38,rfl,i38⟩ y38 x38
      refine dC (pj _ (i36.t zt) i38 (pM q15 q16).1 (pM q15 q16).2) ?_
      rintro _ h39 n39 ⟨b39,a39,l39,c39,d39,e39,f39,g39,rfl,i39,j39⟩ y39 x39
      refine dS [.bool b39,.slice a39 l39 c39,.bool d39,.slice e39 f39 g39] ?_
      intro h40 p40 o40
      refine zq ?_
      exact ⟨_,_,_,_,_,_,_,_,rfl,(i39.t zt),(j39.t zt)⟩
     refine zG ?_
     refine zB [0,0,2,0,8,30,63,127] rfl ?_
     refine zH ?_
     refine dC (mulX _ (jx.t zt) (jy.t zt) szB szB) ?_
     rintro _ h41 n41 ⟨b41,a41,l41,c41,rfl,i41⟩ y41 x41
     refine dC (pj _ (i28.t zt) i41 (kx q15 q16 q32).1 (kx q15 q16 q32).2) ?_
     rintro _ h42 n42 ⟨b42,a42,l42,c42,d42,e42,f42,g42,rfl,i42,j42⟩ y42 x42
     refine dS [.bool b42,.slice a42 l42 c42,.bool d42,.slice e42 f42 g42] ?_
     intro h43 p43 o43
     refine zq ?_
     exact ⟨_,_,_,_,_,_,_,_,rfl,(i42.t zt),(j42.t zt)⟩
    refine zG ?_
    refine sT #[.bool false,.slice none 0 0,.bool false,.slice none 0 0] ?_
    refine sS [.bool false,.slice none 0 0,.bool false,.slice none 0 0] ?_
    intro h44 p44 o44
    refine zq ?_
    exact (show x+y=0 from et (q14) (q16) q31)▸QV.zero _ _
   refine zG ?_
   refine zB [0,1,0,4,15,0,32,127,0,256,1023,2047] rfl ?_
   refine zH ?_
   refine dC (mulX _ (iy.t zt) (jx.t zt) szB szB) ?_
   rintro _ h45 n45 ⟨b45,a45,l45,c45,rfl,i45⟩ y45 x45
   refine zH ?_
   refine dC (addX _ i45 (ix.t zt) szB szB) ?_
   rintro _ h46 n46 ⟨b46,a46,l46,c46,rfl,i46⟩ y46 x46
   refine zH ?_
   refine dT #[.bool b46,.slice a46 l46 c46,.bool dx,.slice ex fx gx] ?_
   refine dS [.bool b46,.slice a46 l46 c46,.bool dx,.slice ex fx gx] ?_
   intro h47 p47 o47
   refine zq ?_
   exact ⟨_,_,_,_,_,_,_,_,rfl,(i46.t zt).as ((ai q15 q16).1.symm),(jx.t zt).as ((ai q15 q16).2.symm)⟩
  exact absurd q15 q14
 refine zG ?_
 refine sC (xg _ (jy.t zt)) ?_
 rintro _ h48 n48 ⟨b48,rfl,bq48⟩ y48 x48
 rcases bvs bq48 with ⟨rfl,q48⟩|⟨rfl,q48⟩
 ·refine zG ?_
  refine sC (xg _ (jx.t zt)) ?_
  rintro _ h49 n49 ⟨b49,rfl,bq49⟩ y49 x49
  rcases bvs bq49 with ⟨rfl,q49⟩|⟨rfl,q49⟩
  ·exact absurd q14 q49
  refine zG ?_
  refine zB [0,1,0,4,15,0,32,127,0,256,1023,2047] rfl ?_
  refine zH ?_
  refine dC (mulX _ (ix.t zt) (jy.t zt) szB szB) ?_
  rintro _ h50 n50 ⟨b50,a50,l50,c50,rfl,i50⟩ y50 x50
  refine zH ?_
  refine dC (addX _ i50 (iy.t zt) szB szB) ?_
  rintro _ h51 n51 ⟨b51,a51,l51,c51,rfl,i51⟩ y51 x51
  refine zH ?_
  refine dT #[.bool b51,.slice a51 l51 c51,.bool dy,.slice ey fy gy] ?_
  refine dS [.bool b51,.slice a51 l51 c51,.bool dy,.slice ey fy gy] ?_
  intro h52 p52 o52
  refine zq ?_
  exact ⟨_,_,_,_,_,_,_,_,rfl,(i51.t zt).as ((eu q14 q48).1.symm),(jy.t zt).as ((eu q14 q48).2.symm)⟩
 refine zG ?_
 refine sC (addX _ (ix.t zt) (iy.t zt) szB szB) ?_
 rintro _ h53 n53 ⟨b53,a53,l53,c53,rfl,i53⟩ y53 x53
 refine sT #[.bool b53,.slice a53 l53 c53,.bool false,.slice none 0 0] ?_
 refine sS [.bool b53,.slice a53 l53 c53,.bool false,.slice none 0 0] ?_
 intro h54 p54 o54
 refine zq ?_
 exact ⟨_,_,_,_,_,_,_,_,rfl,(i53.t zt).as ((aj q14 q48).1.symm),(IW.zero _ _).as ((aj q14 q48).2.symm)⟩
theorem bD {x y:Rat}(hx:denZ x=0)(hy:denZ y=0):(x*y).num=x.num*y.num∧denZ (x*y)=0:=by
 rw [yo] at*
 have h1:=ur x y
 have h2:=ut x y
 rw [hx,hy] at h1 h2
 simp at h1 h2
 exact ⟨h1,h2⟩
theorem ph (x y:Rat):(x*y).num=(x.num.tdiv ((Nat.gcd x.num.natAbs ((y.den:Int)).natAbs:Nat):Int))*(y.num.tdiv ((Nat.gcd y.num.natAbs ((x.den:Int)).natAbs:Nat):Int))∧((x*y).den:Int)=((x.den:Int).tdiv ((Nat.gcd y.num.natAbs ((x.den:Int)).natAbs:Nat):Int))*((y.den:Int).tdiv ((Nat.gcd x.num.natAbs ((y.den:Int)).natAbs:Nat):Int)):=by
 simp only [Int.natAbs_natCast,qX]
 have h:=zar x y
 rw [Int.tdiv_eq_ediv_of_dvd (Int.ofNat_dvd_left.2 (Nat.gcd_dvd_left _ _)),Int.tdiv_eq_ediv_of_dvd (Int.ofNat_dvd_left.2 (Nat.gcd_dvd_left _ _))]
 refine ⟨h.1,?_⟩
 rw [h.2,Int.natCast_mul]
theorem mulQ (k:Nat){x:Rat}{dy:Bool}{ey:Option Addr}{fy gy:Nat}{y:Rat}(g:GG h n)(ix:IW h n sx ax lx cx x.num)(jx:IW h n dx ex fx gx (denZ x))(iy:IW h n sy ay ly cy y.num)(jy:IW h n dy ey fy gy (denZ y)){a:Nat}(hx:Sz a x)(hy:Sz b y)(hab:a+b≤2496):CX (cal (k+10)) 49 [.agg #[.bool sx,.slice ax lx cx,.bool dx,.slice ex fx gx],.agg #[.bool sy,.slice ay ly cy,.bool dy,.slice ey fy gy]] h n (QV (x*y)):=by
 obtain ⟨hxn,hxd⟩:x.num.natAbs<2^a∧(denZ x).natAbs<2^a:=⟨hx.1,hx.z⟩
 obtain ⟨hyn,hyd⟩:y.num.natAbs<2^b∧(denZ y).natAbs<2^b:=⟨hy.1,hy.z⟩
 have hxn1:=wi hxn zo
 have hxd1:=wi hxd zo
 have hyn1:=wi hyn zo
 have hyd1:=wi hyd zo
 have hxp:=x.den_pos
 have hyp:=y.den_pos
 have hxe:((x.den:Int)).natAbs<2^a:=hx.2
 have hye:((y.den:Int)).natAbs<2^b:=hy.2
 have hxe1:=wi hxe zo
 have hye1:=wi hye zo
 refine zn (fn:=Tryz.f49) R4 ?_
 refine zG ?_
 refine sB [.bool sx,.slice ax lx cx,.bool dx,.slice ex fx gx] ?_
 intro h11 p11 x11
 refine sB [.bool sy,.slice ay ly cy,.bool dy,.slice ey fy gy] ?_
 intro h12 p12 x12
 refine sA ?_
 intro h13 p13 x13
 refine zG ?_
 refine sC (xg _ (ix.t zt)) ?_
 rintro _ h14 n14 ⟨b14,rfl,bq14⟩ y14 x14
 rcases bvs bq14 with ⟨rfl,q14⟩|⟨rfl,q14⟩
 ·refine zG ?_
  refine sC (xg _ (iy.t zt)) ?_
  rintro _ h15 n15 ⟨b15,rfl,bq15⟩ y15 x15
  rcases bvs bq15 with ⟨rfl,q15⟩|⟨rfl,q15⟩
  ·refine zG ?_
   refine sC (xg _ (jx.t zt)) ?_
   rintro _ h16 n16 ⟨b16,rfl,bq16⟩ y16 x16
   rcases bvs bq16 with ⟨rfl,q16⟩|⟨rfl,q16⟩
   ·refine zG ?_
    refine zB [0,1,0,4,15,31,63,63,0,0,895,2047] rfl ?_
    refine zH ?_
    refine dC (denQ _ (iy.t zt) (jy.t zt)) ?_
    rintro _ h17 n17 ⟨b17,a17,l17,c17,rfl,i17⟩ y17 x17
    refine dC (pH _ (g.t zt) (ix.t zt) i17 szB szB zo) ?_
    rintro _ h18 n18 ⟨b18,a18,l18,c18,g18,d18,e18,f18,rfl,i18,j18⟩ y18 x18
    refine zH ?_
    refine dB [.bool false,.slice none 0 0] ?_
    intro h19 p19 x19
    refine dB [.bool false,.slice none 0 0] ?_
    intro h20 p20 x20
    refine dS [.bool b18,.slice a18 l18 c18] ?_
    intro h21 p21 o21
    refine dS [.bool g18,.slice d18 e18 f18] ?_
    intro h22 p22 o22
    refine zG ?_
    refine zB [0,1,0,4,15,31,63,63,0,0,895,2047] rfl ?_
    refine zH ?_
    refine dC (denQ _ (ix.t zt) (jx.t zt)) ?_
    rintro _ h23 n23 ⟨b23,a23,l23,c23,rfl,i23⟩ y23 x23
    refine dC (pH _ (g.t zt) (iy.t zt) i23 szB szB zo) ?_
    rintro _ h24 n24 ⟨b24,a24,l24,c24,g24,d24,e24,f24,rfl,i24,j24⟩ y24 x24
    refine zH ?_
    refine dB [.bool false,.slice none 0 0] ?_
    intro h25 p25 x25
    refine dB [.bool false,.slice none 0 0] ?_
    intro h26 p26 x26
    refine dS [.bool b24,.slice a24 l24 c24] ?_
    intro h27 p27 o27
    refine dS [.bool g24,.slice d24 e24 f24] ?_
    intro h28 p28 o28
    refine zG ?_
    refine zB [0,0,3,0,0,31,63,127] rfl ?_
    refine zH ?_
    refine dC (mulX _ (i18.t zt) (i24.t zt) szB szB) ?_
    rintro _ h29 n29 ⟨b29,a29,l29,c29,rfl,i29⟩ y29 x29
    refine zH ?_
    refine dC (mulX _ (j24.t zt) (j18.t zt) szB szB) ?_
    rintro _ h30 n30 ⟨b30,a30,l30,c30,rfl,i30⟩ y30 x30
    refine dC (pj _ (i29.t zt) i30 (ph x y).1 (ph x y).2) ?_
    rintro _ h31 n31 ⟨b31,a31,l31,c31,d31,e31,f31,g31,rfl,i31,j31⟩ y31 x31
    refine dS [.bool b31,.slice a31 l31 c31,.bool d31,.slice e31 f31 g31] ?_
    intro h32 p32 o32
    refine zq ?_
    exact ⟨_,_,_,_,_,_,_,_,rfl,(i31.t zt),(j31.t zt)⟩
   refine zG ?_
   refine sC (xg _ (jy.t zt)) ?_
   rintro _ h33 n33 ⟨b33,rfl,bq33⟩ y33 x33
   rcases bvs bq33 with ⟨rfl,q33⟩|⟨rfl,q33⟩
   ·refine zG ?_
    refine zB [0,1,0,4,15,31,63,63,0,0,895,2047] rfl ?_
    refine zH ?_
    refine dC (denQ _ (iy.t zt) (jy.t zt)) ?_
    rintro _ h34 n34 ⟨b34,a34,l34,c34,rfl,i34⟩ y34 x34
    refine dC (pH _ (g.t zt) (ix.t zt) i34 szB szB zo) ?_
    rintro _ h35 n35 ⟨b35,a35,l35,c35,g35,d35,e35,f35,rfl,i35,j35⟩ y35 x35
    refine zH ?_
    refine dB [.bool false,.slice none 0 0] ?_
    intro h36 p36 x36
    refine dB [.bool false,.slice none 0 0] ?_
    intro h37 p37 x37
    refine dS [.bool b35,.slice a35 l35 c35] ?_
    intro h38 p38 o38
    refine dS [.bool g35,.slice d35 e35 f35] ?_
    intro h39 p39 o39
    refine zG ?_
    refine zB [0,1,0,4,15,31,63,63,0,0,895,2047] rfl ?_
    refine zH ?_
    refine dC (denQ _ (ix.t zt) (jx.t zt)) ?_
    rintro _ h40 n40 ⟨b40,a40,l40,c40,rfl,i40⟩ y40 x40
    refine dC (pH _ (g.t zt) (iy.t zt) i40 szB szB zo) ?_
    rintro _ h41 n41 ⟨b41,a41,l41,c41,g41,d41,e41,f41,rfl,i41,j41⟩ y41 x41
    refine zH ?_
    refine dB [.bool false,.slice none 0 0] ?_
    intro h42 p42 x42
    refine dB [.bool false,.slice none 0 0] ?_
    intro h43 p43 x43
    refine dS [.bool b41,.slice a41 l41 c41] ?_
    intro h44 p44 o44
    refine dS [.bool g41,.slice d41 e41 f41] ?_
    intro h45 p45 o45
    refine zG ?_
    refine zB [0,0,3,0,0,31,63,127] rfl ?_
    refine zH ?_
    refine dC (mulX _ (i35.t zt) (i41.t zt) szB szB) ?_
    rintro _ h46 n46 ⟨b46,a46,l46,c46,rfl,i46⟩ y46 x46
    refine zH ?_
    refine dC (mulX _ (j41.t zt) (j35.t zt) szB szB) ?_
    rintro _ h47 n47 ⟨b47,a47,l47,c47,rfl,i47⟩ y47 x47
    refine dC (pj _ (i46.t zt) i47 (ph x y).1 (ph x y).2) ?_
    rintro _ h48 n48 ⟨b48,a48,l48,c48,d48,e48,f48,g48,rfl,i48,j48⟩ y48 x48
    refine dS [.bool b48,.slice a48 l48 c48,.bool d48,.slice e48 f48 g48] ?_
    intro h49 p49 o49
    refine zq ?_
    exact ⟨_,_,_,_,_,_,_,_,rfl,(i48.t zt),(j48.t zt)⟩
   refine zG ?_
   refine sC (mulX _ (ix.t zt) (iy.t zt) szB szB) ?_
   rintro _ h50 n50 ⟨b50,a50,l50,c50,rfl,i50⟩ y50 x50
   refine sT #[.bool b50,.slice a50 l50 c50,.bool false,.slice none 0 0] ?_
   refine sS [.bool b50,.slice a50 l50 c50,.bool false,.slice none 0 0] ?_
   intro h51 p51 o51
   refine zq ?_
   exact ⟨_,_,_,_,_,_,_,_,rfl,(i50.t zt).as ((bD q16 q33).1.symm),(IW.zero _ _).as ((bD q16 q33).2.symm)⟩
  refine zG ?_
  refine sT #[.bool false,.slice none 0 0,.bool false,.slice none 0 0] ?_
  refine sS [.bool false,.slice none 0 0,.bool false,.slice none 0 0] ?_
  intro h52 p52 o52
  refine zq ?_
  exact (show x*y=0 from by rw [Rat.num_eq_zero.1 q15,Rat.mul_zero])▸QV.zero _ _
 refine zG ?_
 refine sT #[.bool false,.slice none 0 0,.bool false,.slice none 0 0] ?_
 refine sS [.bool false,.slice none 0 0,.bool false,.slice none 0 0] ?_
 intro h53 p53 o53
 refine zq ?_
 exact (show x*y=0 from by rw [Rat.num_eq_zero.1 q14,Rat.zero_mul])▸QV.zero _ _
theorem rY {s:Int}{a b c A B C:Prop}(e:(a→A)∧(b→B)∧(c→C))(q:s= -1∧a∨s=0∧b∨s=1∧c):s= -1∧A∨s=0∧B∨s=1∧C:=by
 rcases q with q|q|q
 ·exact .inl ⟨q.1,e.1 q.2⟩
 ·exact .inr (.inl ⟨q.1,e.2.1 q.2⟩)
 exact .inr (.inr ⟨q.1,e.2.2 q.2⟩)
theorem s9 {x y:Rat}:(x.num*(y.den:Int)<y.num*(x.den:Int)→x<y)∧(x.num*(y.den:Int)=y.num*(x.den:Int)→x=y)∧(y.num*(x.den:Int)<x.num*(y.den:Int)→y<x):=⟨(pF x y).1.2,(pF x y).2.1.2,(pF x y).2.2.2⟩
theorem fR {x y:Rat}(hx:denZ x=0)(hy:denZ y=0):(x.num<y.num→x<y)∧(x.num=y.num→x=y)∧(y.num<x.num→y<x):=by
 have:=s9 (x:=x) (y:=y)
 rw [yo.1 hx,yo.1 hy] at this
 simpa using this
theorem kn {x y:Rat}(h:x.num<0∧0≤y.num∨x.num≤0∧0<y.num∨y.num<0∧0≤x.num∨y.num≤0∧0<x.num):(x.num<y.num→x<y)∧(x.num=y.num→x=y)∧(y.num<x.num→y<x):=by
 have hc:=s9 (x:=x) (y:=y)
 have h1:=x.den_pos
 have h2:=y.den_pos
 refine ⟨fun hl=>hc.1 ?_,fun hl=>by omega,fun hl=>hc.2.2 ?_⟩
 ·rcases Int.lt_or_le x.num 0 with hx|hx
  ·have a1:=Int.mul_neg_of_neg_of_pos hx (show (0:Int)<y.den by omega)
   have a2:=Int.mul_nonneg (show 0≤y.num by omega) (show (0:Int)≤x.den by omega)
   omega
  have:x.num=0:=zo
  rw [this,Int.zero_mul]
  exact Int.mul_pos zo zo
 rcases Int.lt_or_le y.num 0 with hx|hx
 ·have a1:=Int.mul_neg_of_neg_of_pos hx (show (0:Int)<x.den by omega)
  have a2:=Int.mul_nonneg (show 0≤x.num by omega) (show (0:Int)≤y.den by omega)
  omega
 have:y.num=0:=zo
 rw [this,Int.zero_mul]
 exact Int.mul_pos zo zo
theorem wJ (k:Nat){x:Rat}{dy:Bool}{ey:Option Addr}{fy gy:Nat}{y:Rat}(ix:IW h n sx ax lx cx x.num)(jx:IW h n dx ex fx gx (denZ x))(iy:IW h n sy ay ly cy y.num)(jy:IW h n dy ey fy gy (denZ y)){a:Nat}(hx:Sz a x)(hy:Sz b y)(hab:a+b≤2496):VF (cal (k+6)) 51 [.agg #[.bool sx,.slice ax lx cx,.bool dx,.slice ex fx gx],.agg #[.bool sy,.slice ay ly cy,.bool dy,.slice ey fy gy]] h n fun v=>∃s:Int,v=.int .i64 s∧(s= -1∧x<y∨s=0∧x=y∨s=1∧y<x):=by
 obtain ⟨hxn,hxd⟩:x.num.natAbs<2^a∧(denZ x).natAbs<2^a:=⟨hx.1,hx.z⟩
 obtain ⟨hyn,hyd⟩:y.num.natAbs<2^b∧(denZ y).natAbs<2^b:=⟨hy.1,hy.z⟩
 have hxn1:=wi hxn zo
 have hxd1:=wi hxd zo
 have hyn1:=wi hyn zo
 have hyd1:=wi hyd zo
 have hxp:=x.den_pos
 have hyp:=y.den_pos
 have hxe:((x.den:Int)).natAbs<2^a:=hx.2
 have hye:((y.den:Int)).natAbs<2^b:=hy.2
 have hxe1:=wi hxe zo
 have hye1:=wi hye zo
 refine zu (fn:=Tryz.f51) R4 ?_
 refine zG ?_
 refine sB [.bool sx,.slice ax lx cx,.bool dx,.slice ex fx gx] ?_
 intro h11 p11 x11
 refine sB [.bool sy,.slice ay ly cy,.bool dy,.slice ey fy gy] ?_
 intro h12 p12 x12
 refine zG ?_
 refine zB [0,1,3,7,15,31,63,127,255,511,1023,511,4095,8191,16383] rfl ?_
 refine zH ?_
 refine dC (xg _ (jx.t zt)) ?_
 rintro _ h13 n13 ⟨b13,rfl,bq13⟩ y13 x13
 rcases bvs bq13 with ⟨rfl,q13⟩|⟨rfl,q13⟩
 ·refine zH ?_
  refine dC (gb _ (ix.t zt) (jx.t zt)) ?_
  rintro _ h14 n14 ⟨s14,rfl,q14⟩ y14 x14
  refine zH ?_
  refine dC (gb _ (iy.t zt) (jy.t zt)) ?_
  rintro _ h15 n15 ⟨s15,rfl,q15⟩ y15 x15
  by_cases q16:s14=s15
  ·refine zJ ?_
   refine zB [0,1,0,4,15,0,32,0,159,511,1023,2047] rfl ?_
   refine zH ?_
   refine dC (denQ _ (iy.t zt) (jy.t zt)) ?_
   rintro _ h17 n17 ⟨b17,a17,l17,c17,rfl,i17⟩ y17 x17
   refine dC (mulX _ (ix.t zt) i17 szB szB) ?_
   rintro _ h18 n18 ⟨b18,a18,l18,c18,rfl,i18⟩ y18 x18
   refine zH ?_
   refine dC (denQ _ (ix.t zt) (jx.t zt)) ?_
   rintro _ h19 n19 ⟨b19,a19,l19,c19,rfl,i19⟩ y19 x19
   refine dC (mulX _ (iy.t zt) i19 szB szB) ?_
   rintro _ h20 n20 ⟨b20,a20,l20,c20,rfl,i20⟩ y20 x20
   refine dC (td _ (i18.t zt) i20 szB szB) ?_
   rintro _ h21 n21 ⟨s21,rfl,q21⟩ y21 x21
   refine zf ?_
   exact ⟨_,rfl,rY (s9) q21⟩
  refine zJ ?_
  refine sC (td _ (ix.t zt) (iy.t zt) szB szB) ?_
  rintro _ h22 n22 ⟨s22,rfl,q22⟩ y22 x22
  refine zf ?_
  exact ⟨_,rfl,rY (kn zo) q22⟩
 refine zH ?_
 refine dC (xg _ (jy.t zt)) ?_
 rintro _ h23 n23 ⟨b23,rfl,bq23⟩ y23 x23
 rcases bvs bq23 with ⟨rfl,q23⟩|⟨rfl,q23⟩
 ·refine zH ?_
  refine dC (gb _ (ix.t zt) (jx.t zt)) ?_
  rintro _ h24 n24 ⟨s24,rfl,q24⟩ y24 x24
  refine zH ?_
  refine dC (gb _ (iy.t zt) (jy.t zt)) ?_
  rintro _ h25 n25 ⟨s25,rfl,q25⟩ y25 x25
  by_cases q26:s24=s25
  ·refine zJ ?_
   refine zB [0,1,0,4,15,0,32,0,159,511,1023,2047] rfl ?_
   refine zH ?_
   refine dC (denQ _ (iy.t zt) (jy.t zt)) ?_
   rintro _ h27 n27 ⟨b27,a27,l27,c27,rfl,i27⟩ y27 x27
   refine dC (mulX _ (ix.t zt) i27 szB szB) ?_
   rintro _ h28 n28 ⟨b28,a28,l28,c28,rfl,i28⟩ y28 x28
   refine zH ?_
   refine dC (denQ _ (ix.t zt) (jx.t zt)) ?_
   rintro _ h29 n29 ⟨b29,a29,l29,c29,rfl,i29⟩ y29 x29
   refine dC (mulX _ (iy.t zt) i29 szB szB) ?_
   rintro _ h30 n30 ⟨b30,a30,l30,c30,rfl,i30⟩ y30 x30
   refine dC (td _ (i28.t zt) i30 szB szB) ?_
   rintro _ h31 n31 ⟨s31,rfl,q31⟩ y31 x31
   refine zf ?_
   exact ⟨_,rfl,rY (s9) q31⟩
  refine zJ ?_
  refine sC (td _ (ix.t zt) (iy.t zt) szB szB) ?_
  rintro _ h32 n32 ⟨s32,rfl,q32⟩ y32 x32
  refine zf ?_
  exact ⟨_,rfl,rY (kn zo) q32⟩
 refine zJ ?_
 refine sC (td _ (ix.t zt) (iy.t zt) szB szB) ?_
 rintro _ h33 n33 ⟨s33,rfl,q33⟩ y33 x33
 refine zf ?_
 exact ⟨_,rfl,rY (fR q13 q23) q33⟩
end
section
theorem zI {S:List (List UInt8)}{h:HF}{n:Nat}{a:Option Addr}{len cap:Nat}(hs:Sl h n 1 (.slice a len cap) (strs S)):len=S.length:=by
 obtain ⟨a',len',cap',e,hl⟩:=hs.len
 injection e with e1 e2 e3
 rw [eJ] at hl
 omega
theorem zah (m:Nat)(l:List Value):(rep m l).length=m*l.length:=by
 induction m with
 |zero=>simp [rep]
 |succ m ih=>rw [rep,List.length_append,ih,Nat.succ_mul];omega
end
section
variable {h':HF}{bb l m n':Nat}{a:Option Addr}{cs:List Value}{e:TypeId}{L:List Nat}{q:Rat}
def UW (h:HF)(n:Nat)(a:Option Addr)(l c m:Nat):Prop:=∃L,Sl h n 1 (.slice a l c) (u32s L)∧Norm L∧val L=m
theorem UW.ext {h:HF}{n:Nat}{c:Nat}(i:UW h n a l c m)(e:Ext n h h')(hn:n≤n'):UW h' n' a l c m:=by
 obtain ⟨L,h1,h2,h3⟩:=i
 exact ⟨L,h1.ext e hn,h2,h3⟩
theorem UW.only {h:HF}{n:Nat}{c:Nat}(i:UW h n a l c m)(hp:h bb=some (.row cs e))(hu:cs.all nu=true)(ho:Only bb h h'):UW h' n a l c m:=by
 obtain ⟨L,h1,h2,h3⟩:=i
 exact ⟨L,h1.only32 hp hu ho,h2,h3⟩
theorem UW.t {h:HF}{n:Nat}{c:Nat}(i:UW h n a l c m)(t:Tr n h n' h'):UW h' n' a l c m:=by
 obtain ⟨L,h1,h2,h3⟩:=i
 exact ⟨L,h1.trG (fun x hx=>by obtain ⟨d,_,rfl⟩:=List.mem_map.1 hx;rfl) t,h2,h3⟩
theorem UW.x {h:HF}{n:Nat}{c:Nat}(i:UW h n a l c m)(t:Tx n h n' h'):UW h' n' a l c m:=i.ext t.2 t.1
theorem UW.zero {h:HF}{n:Nat}{c:Nat}(i:UW h n a l c m):l=0↔m=0:=by
 obtain ⟨L,h1,h2,h3⟩:=i
 have e:=h1.lenU
 rw [←h3,h2.zero,←List.length_eq_zero_iff,e]
theorem UW.nil (h:HF)(n:Nat):UW h n none 0 0 0:=⟨[],.nil (.inl rfl),Norm.nil,rfl⟩
def UI (h:HF)(n:Nat)(b:Bool)(a:Option Addr)(l c:Nat)(x:Int):Prop:=b=decide (x<0)∧UW h n a l c x.natAbs
theorem UI.ext {h:HF}{n:Nat}{b:Bool}{c:Nat}{x:Int}(i:UI h n b a l c x)(e:Ext n h h')(hn:n≤n'):UI h' n' b a l c x:=⟨i.1,i.2.ext e hn⟩
theorem UI.only {h:HF}{n:Nat}{b:Bool}{c:Nat}{x:Int}(i:UI h n b a l c x)(hp:h bb=some (.row cs e))(hu:cs.all nu=true)(ho:Only bb h h'):UI h' n b a l c x:=⟨i.1,i.2.only hp hu ho⟩
theorem UI.t {h:HF}{n:Nat}{b:Bool}{c:Nat}{x:Int}(i:UI h n b a l c x)(t:Tr n h n' h'):UI h' n' b a l c x:=⟨i.1,i.2.t t⟩
theorem UI.x {h:HF}{n:Nat}{b:Bool}{c:Nat}{x:Int}(i:UI h n b a l c x)(t:Tx n h n' h'):UI h' n' b a l c x:=i.ext t.2 t.1
theorem UI.as {h:HF}{n:Nat}{b:Bool}{c:Nat}{x y:Int}(i:UI h n b a l c x)(e:x=y):UI h n b a l c y:=e▸i
theorem UI.lt {h:HF}{n:Nat}{c:Nat}{x:Int}(i:UI h n true a l c x):x<0:=of_decide_eq_true i.1.symm
theorem UI.ge {h:HF}{n:Nat}{c:Nat}{x:Int}(i:UI h n false a l c x):0≤x:=Int.not_lt.1 (of_decide_eq_false i.1.symm)
theorem UI.zero (h:HF)(n:Nat):UI h n false none 0 0 0:=⟨rfl,UW.nil h n⟩
def NQ (q:Rat)(v:Value)(h:HF)(n:Nat):Prop:=∃b a l c d e f g,v=.agg #[.bool b,.slice a l c,.bool d,.slice e f g]∧UI h n b a l c q.num∧UI h n d e f g (denZ q)
theorem NQ.zero (h:HF)(n:Nat):NQ 0 (.agg #[.bool false,.slice none 0 0,.bool false,.slice none 0 0]) h n:=⟨_,_,_,_,_,_,_,_,rfl,UI.zero h n,UI.zero h n⟩
theorem Norm.len800 (h:Norm L)(hb:val L<BW):L.length≤800:=by
 refine h.len_pow (Nat.lt_of_lt_of_le hb ?_)
 unfold BW
 decide+kernel
theorem UI.r {h:HF}{n:Nat}{b:Bool}{c:Nat}{x:Int}(i:UI h n b a l c x):∃L,IntR h n (.bool b) (.slice a l c) x L:=by
 obtain ⟨e,L,h1,h2,h3⟩:=i
 exact ⟨L,by rw [e],h1,h2,h3⟩
theorem NQ.r {h:HF}{n:Nat}{b d:Bool}{e:Option Addr}{c f g:Nat}(i:UI h n b a l c q.num)(j:UI h n d e f g (denZ q)):∃ln ld,RatR h n (.bool b) (.slice a l c) (.bool d) (.slice e f g) q ln ld∧(∀m,Sz m q→m≤2496→ln.length≤800∧ld.length≤800):=by
 obtain ⟨ln,hi⟩:=i.r
 obtain ⟨e2,ld,h1,h2,h3⟩:=j
 refine ⟨ln,ld,⟨hi,?_,h1,h2,?_⟩,fun m hm hl=>⟨hi.norm.len800 (by rw [hi.val];exact wi hm.1 hl),h2.len800 (by rw [h3];exact wi hm.z hl)⟩⟩
 ·rw [e2];unfold denZ;split<;>simp
 rw [h3];unfold denZ;split<;>simp
section
variable (k:Nat){h:HF}{n:Nat}{a1 a2:Option Addr}{l1 c1 l2 c2 x y:Nat}
end
end
end Go.Proofs.YtlmbghgklnmlkaaGreatDoor
namespace Go.Proofs.YtlmbghgklnmlkaaGreatDoor
variable {s:List UInt8}{V b:Nat}
def dig (b:UInt8):Bool:=decide (48≤b.toNat∧b.toNat≤57)
theorem rT {b:UInt8}:dig b=true↔48≤b.toNat∧b.toNat≤57:=by unfold dig;simp
theorem AllD.all:AllD s↔∀b∈s,dig b=true:=by
 unfold AllD
 constructor
 ·exact fun h b hb=>rT.2 (h b hb)
 exact fun h b hb=>rT.1 (h b hb)
theorem wR {p:UInt8→Bool}:∀b∈s.takeWhile p,p b=true:=by
 induction s with
 |nil=>intro b hb;simp at hb
 |cons x s ih=>
  intro b hb
  rw [List.takeWhile_cons] at hb
  split at hb
  ·rename_i h
   rcases List.mem_cons.1 hb with rfl|hb
   ·exact h
   exact ih b hb
  simp at hb
theorem uR {a r:List UInt8}(ha:AllD a)(hr:r=[]∨∃x r',r=x::r'∧dig x=false):(a++r).takeWhile dig=a∧(a++r).dropWhile dig=r:=by
 induction a with
 |nil=>
  rcases hr with rfl|⟨x,r',rfl,hx⟩
  ·exact ⟨rfl,rfl⟩
  simp [List.takeWhile_cons,List.dropWhile_cons,hx]
 |cons b a ih=>
  have hb:dig b=true:=rT.2 (ha b (by simp))
  have:=ih fun c hc=>ha c (by simp [hc])
  simp only [List.cons_append,List.takeWhile_cons,List.dropWhile_cons,hb,if_true]
  exact ⟨by rw [this.1],this.2⟩
theorem mS {a b:UInt8}(h:a.toNat=b.toNat):a=b:=UInt8.toNat_inj.1 h
theorem kc {b:UInt8}(h:48≤b.toNat∧b.toNat≤57):UInt8.ofNat (48+(b.toNat-48))=b:=by
 apply mS
 rw [w8 zo]
 omega
theorem fG {d:List UInt8}(hd:AllD d)(h0:d≠[])(h1:d.head?≠some 48):dval d≠0∧(decB (dval d)).map UInt8.ofNat=d:=by
 induction hl:d.length generalizing d with
 |zero=>exact absurd (List.length_eq_zero_iff.1 hl) h0
 |succ m ih=>
  obtain ⟨i,b,rfl⟩:∃i b,d=i++[b]:=⟨d.dropLast,d.getLast h0,(List.dropLast_concat_getLast h0).symm⟩
  have hb:=hd b (by simp)
  rw [u9]
  by_cases hi:i=[]
  ·subst hi
   have hb0:b.toNat≠48:=fun e=>h1 (by show some b=some 48;rw [mS (a:=b) (b:=48) e])
   have e0:dval []=0:=rfl
   rw [e0]
   refine ⟨zo,?_⟩
   rw [oS zo (.inr zo)]
   have:decB 0=[]:=by unfold decB;rw [yM];rfl
   rw [this,List.nil_append,List.map_cons,List.map_nil,kc hb]
   rfl
  obtain ⟨h2,h3⟩:=ih (d:=i) (fun c hc=>hd c (by simp [hc])) hi (by
   cases i with
   |nil=>exact absurd rfl hi
   |cons x i=>simpa using h1) (by simpa using hl)
  refine ⟨zo,?_⟩
  rw [oS zo (.inl h2),List.map_append,h3,List.map_cons,List.map_nil,kc hb]
theorem tS {d:List UInt8}(hd:AllD d)(h0:d≠[])(h1:d.head?≠some 48):decT (dval d)=d:=by
 obtain ⟨h2,h3⟩:=fG hd h0 h1
 unfold decT
 rw [if_neg h2,h3]
theorem ke:decT 1=[49]:=tS (d:=[49]) (fun b hb=>by rw [List.mem_singleton.1 hb];decide) (by simp) (by simp)
theorem fI (h:V≠0):((decB V).map UInt8.ofNat).head?≠some 48:=by
 induction V using Nat.strongRecOn with
 |ind V ih=>
  have e:decB V=decB (V/10)++[48+V%10]:=by
   unfold decB
   rw [xA h]
   simp
  rw [e]
  by_cases h2:V/10=0
  ·have:decB (V/10)=[]:=by unfold decB;rw [h2,yM];rfl
   rw [this]
   intro he
   simp only [List.nil_append,List.map_cons,List.map_nil,List.head?_cons,Option.some.injEq] at he
   have:=w8 (c:=V%10) zo
   rw [he] at this
   have e48:(48:UInt8).toNat=48:=rfl
   omega
  have:=ih (V/10) zo h2
  cases hd:(decB (V/10)).map UInt8.ofNat with
  |nil=>
   have h5:=(s7 (V/10)).2
   rw [hd] at h5
   exact absurd h5.symm h2
  |cons x l=>
   rw [List.map_append,hd]
   rw [hd] at this
   simpa using this
theorem oR (h:V≠0):(decT V).head?≠some 48:=by
 unfold decT
 rw [if_neg h]
 exact fI h
theorem kf {a:Nat}(h:decT a=decT b):a=b:=by
 rw [←(xO a).2.1,h,(xO b).2.1]
def spl (s:List UInt8):List UInt8×List UInt8×Bool:=
 let b:=yX s
 let m:=b.takeWhile dig
 let r:=b.dropWhile dig
 if m=[48] then (m,[],!zO s&&r.isEmpty)
 else if m=[]∨m.head?=some 48 then (m,[],false)
 else if r=[] then (m,[],true)
 else if r.head?≠some 47 then (m,[],false)
 else
  let d:=(r.drop 1).takeWhile dig
  let r2:=(r.drop 1).dropWhile dig
  (m,d,r2.isEmpty&& !d.isEmpty&&d.head? != some 48&&d != [49])
theorem jY (s:List UInt8):(yX s).takeWhile dig++(yX s).dropWhile dig=yX s:=List.takeWhile_append_dropWhile
theorem zao:s=(if zO s then [45] else [])++yX s:=by
 unfold yX
 by_cases h:zO s=true
 ·rw [if_pos h,if_pos h]
  unfold zO at h
  cases s with
  |nil=>simp at h
  |cons x s=>
   have:x=45:=by simpa using h
   subst this
   rfl
 rw [if_neg h,if_neg h]
 rfl
structure Frm (s:List UInt8)(m d:List UInt8):Prop where
 dm:AllD m
 m0:m≠[]
 dd:AllD d
 lead:m=[48]∧zO s=false∧d=[]∨m.head?≠some 48
 den:d=[]∨d.head?≠some 48∧d≠[49]
 eq:s=(if zO s then [45] else [])++(m++(if d=[] then [] else 47::d))
theorem tr {m d:List UInt8}(h:spl s=(m,d,true)):Frm s m d:=by
 have hb:=jY s
 have hs:=zao (s:=s)
 have hm:AllD ((yX s).takeWhile dig):=AllD.all.2 wR
 unfold spl at h
 simp only at h
 generalize (yX s).takeWhile dig=m0 at*
 generalize (yX s).dropWhile dig=r at*
 split at h
 ·rename_i h48
  simp only [Prod.mk.injEq] at h
  obtain ⟨rfl,rfl,h3⟩:=h
  simp only [Bool.and_eq_true,Bool.not_eq_true',List.isEmpty_iff] at h3
  obtain ⟨h3,rfl⟩:=h3
  refine ⟨hm,by rw [h48];simp,fun b hb=>absurd hb (by simp),.inl ⟨h48,h3,rfl⟩,.inl rfl,?_⟩
  rw [if_pos rfl,hb];exact hs
 split at h
 ·simp at h
 rename_i h48 hne
 have hne1:¬m0=[]:=fun e=>hne (.inl e)
 have hne2:¬m0.head?=some 48:=fun e=>hne (.inr e)
 split at h
 ·rename_i hr
  simp only [Prod.mk.injEq] at h
  obtain ⟨rfl,rfl,_⟩:=h
  refine ⟨hm,hne1,fun b hb=>absurd hb (by simp),.inr hne2,.inl rfl,?_⟩
  subst hr
  rw [if_pos rfl,hb];exact hs
 split at h
 ·simp at h
 rename_i hr h47
 have h47:r.head?=some 47:=Classical.not_not.1 h47
 simp only [Prod.mk.injEq] at h
 obtain ⟨rfl,rfl,h3⟩:=h
 simp only [Bool.and_eq_true,Bool.not_eq_true',List.isEmpty_iff,bne_iff_ne,ne_eq] at h3
 obtain ⟨⟨⟨h3,h4⟩,h5⟩,h6⟩:=h3
 obtain ⟨r',rfl⟩:∃r',r=47::r':=by
  cases r with
  |nil=>simp at h47
  |cons x r=>exact ⟨r,by simp at h47;rw [h47]⟩
 simp only [List.drop_one,List.tail_cons] at h3 h4 h5 h6 ⊢
 have hd:AllD (r'.takeWhile dig):=AllD.all.2 wR
 have hd2:r'.takeWhile dig++r'.dropWhile dig=r':=List.takeWhile_append_dropWhile
 rw [h3,List.append_nil] at hd2
 rw [hd2] at hd h4 h5 h6 ⊢
 have hne:¬r'=[]:=fun e=>by rw [e] at h4;simp at h4
 refine ⟨hm,hne1,hd,.inr hne2,.inr ⟨h5,h6⟩,?_⟩
 rw [if_neg hne,hb];exact hs
theorem sR (q:Rat):spl (ratT q)=(decT q.num.natAbs,(if q.den=1 then [] else decT q.den),true):=by
 obtain ⟨h1,h2⟩:=tF q
 obtain ⟨hd,hv,hne⟩:=xO q.num.natAbs
 obtain ⟨dd,dvv,dne⟩:=xO q.den
 have htw:=uR (a:=decT q.num.natAbs) (r:=if q.den=1 then [] else 47::decT q.den) hd (by
  by_cases h:q.den=1
  ·left;rw [if_pos h]
  ·right;rw [if_neg h];exact ⟨47,_,rfl,rfl⟩)
 have hdw:=uR (a:=decT q.den) (r:=[]) dd (.inl rfl)
 rw [List.append_nil] at hdw
 unfold spl
 simp only
 rw [h2,htw.1,htw.2,h1]
 by_cases h0:q.num=0
 ·have hq:q.den=1:=by
   have:=q.reduced
   rw [h0] at this
   simpa using this
  rw [h0,if_pos hq,if_pos hq]
  rfl
 have hn0:q.num.natAbs≠0:=zo
 have hhd:=oR hn0
 have h48:¬decT q.num.natAbs=[48]:=fun e=>hhd (by rw [e];rfl)
 rw [if_neg h48,if_neg (by rintro (e|e);exact hne e;exact hhd e)]
 by_cases hq:q.den=1
 ·rw [if_pos hq,if_pos rfl,if_pos hq]
 rw [if_neg hq,if_neg (by simp),if_neg (by simp),if_neg hq]
 simp only [List.drop_one,List.tail_cons]
 rw [hdw.1,hdw.2]
 have hd0:q.den≠0:=q.den_nz
 have e1:(decT q.den).isEmpty=false:=by cases h:decT q.den with
  |nil=>exact absurd h dne
  |cons x l=>rfl
 have e2:((decT q.den).head? != some 48)=true:=by rw [bne_iff_ne];exact oR hd0
 have e3:(decT q.den != [49])=true:=by
  rw [bne_iff_ne]
  intro e
  have:dval (decT q.den)=1:=by rw [e];rfl
  rw [dvv] at this
  exact hq this
 rw [e1,e2,e3]
 rfl
theorem Frm.rat {m d:List UInt8}(h:Frm s m d)(hg:d=[]∨Nat.gcd (dval m) (dval d)=1):∃q:Rat,ratT q=s∧q.num=(if zO s then -(dval m:Int) else dval m)∧q.den=(if d=[] then 1 else dval d):=by
 obtain ⟨dm,m0,dd,lead,den,eq⟩:=h
 have hdv:∃D:Nat,D≠0∧D=(if d=[] then 1 else dval d)∧Nat.gcd (dval m) D=1∧(if D=1 then [] else 47::decT D)=(if d=[] then [] else 47::d):=by
  by_cases hd:d=[]
  ·refine ⟨1,by decide,by rw [if_pos hd],Nat.gcd_one_right _,by rw [if_pos rfl,if_pos hd]⟩
  rcases den with h|⟨h1,h2⟩
  ·exact absurd h hd
  have e:=tS dd hd h1
  refine ⟨dval d,(fG dd hd h1).1,by rw [if_neg hd],hg.resolve_left hd,?_⟩
  rw [e,if_neg hd,if_neg]
  intro h
  rw [h] at e
  exact h2 (by rw [←e];exact ke)
 obtain ⟨D,D0,hD,hgD,hDt⟩:=hdv
 refine ⟨⟨if zO s then -(dval m:Int) else dval m,D,D0,?_⟩,?_,rfl,hD⟩
 ·show Nat.Coprime _ _
  unfold Nat.Coprime
  split
  ·rw [Int.natAbs_neg];exact hgD
  exact hgD
 have habs:(if zO s then -(dval m:Int) else dval m).natAbs=dval m:=by
  split
  ·rw [Int.natAbs_neg];rfl
  rfl
 have hm:decT (dval m)=m:=by
  rcases lead with ⟨h,_,_⟩|h
  ·rw [h];rfl
  exact tS dm m0 h
 have hsign:(if (if zO s then -(dval m:Int) else dval m)<0 then [45] else [])=(if zO s then [45] else ([]:List UInt8)):=by
  by_cases hh:zO s=true
  ·rw [if_pos hh,if_pos hh]
   rcases lead with ⟨_,h,_⟩|h
   ·rw [h] at hh;cases hh
   have:=(fG dm m0 h).1
   rw [if_pos zo]
  rw [if_neg hh,if_neg hh,if_neg zo]
 show (if (if zO s then -(dval m:Int) else dval m)<0 then [45] else [])++(decT (if zO s then -(dval m:Int) else dval m).natAbs++(if D=1 then [] else 47::decT D))=s
 rw [hsign,habs,hm,hDt]
 exact eq.symm
theorem rK (s:List UInt8):wu s↔(spl s).2.2=true∧((spl s).2.1=[]∨Nat.gcd (dval (spl s).1) (dval (spl s).2.1)=1):=by
 constructor
 ·rintro ⟨q,rfl⟩
  rw [sR]
  refine ⟨rfl,?_⟩
  by_cases hq:q.den=1
  ·left;show (if q.den=1 then [] else _)=_;rw [if_pos hq]
  right
  show Nat.gcd (dval (decT _)) (dval (if q.den=1 then [] else _))=1
  rw [if_neg hq,(xO _).2.1,(xO _).2.1]
  exact q.reduced
 rintro ⟨h1,h2⟩
 have hf:=tr (s:=s) (m:=(spl s).1) (d:=(spl s).2.1) (by rw [←h1])
 obtain ⟨q,hq,_⟩:=hf.rat h2
 exact ⟨q,hq⟩
end Go.Proofs.YtlmbghgklnmlkaaGreatDoor
namespace Go.Proofs.YtlmbghgklnmlkaaGreatDoor
open Go Go.GL
variable {q:Rat}{s hi:List UInt8}{b bt cap j k n0 off u n' sz:Nat}{c cs:List Value}{e ty ty':TypeId}{v x1 x10 x2 x3 x4 x5 x6 x7 x8 x9 z:Value}{a aq:Option Addr}{S:List (List UInt8)}{ik:IntKind}{y:Operand}{h0 h':HF}{fn:Func}{α:Type}{xs ys:List Rat}
theorem dj {p:Rat}(h:ratT p=ratT q):p=q:=by
 have h1:=sR p
 have h2:=sR q
 rw [h,h2] at h1
 have e1:decT q.num.natAbs=decT p.num.natAbs:=congrArg Prod.fst h1
 have e2:(if q.den=1 then [] else decT q.den)=(if p.den=1 then [] else decT p.den):=congrArg (fun x=>x.2.1) h1
 have m1:=(tF p).1
 have m2:=(tF q).1
 rw [h,m2] at m1
 have a1:=kf e1
 have hs:q.num<0↔p.num<0:=decide_eq_decide.1 m1
 refine Rat.ext zo ?_
 have n1:=(xO p.den).2.2
 have n2:=(xO q.den).2.2
 split at e2<;>split at e2
 ·omega
 ·exact absurd e2.symm n1
 ·exact absurd e2 n2
 exact (kf e2).symm
noncomputable def zm (s:List UInt8):Rat:=open Classical in if h:wu s then h.choose else 0
theorem xM (h:¬wu s):zm s=0:=by unfold zm;rw [dif_neg h]
theorem tL (h:wu s):ratT (zm s)=s:=by unfold zm;rw [dif_pos h];exact h.choose_spec
theorem sV (h:ratT q=s):zm s=q:=dj ((tL ⟨q,h⟩).trans h.symm)
section
end
structure At (h:HF)(b o:Nat)(c:List Value):Prop where
 ex:∃x cs,h b=some x∧x.cells=some cs∧o+c.length≤cs.length∧(cs.drop o).take c.length=c
theorem At.ext {h h':HF}{n o:Nat}(a:At h b o c)(x:Ext n h h')(hb:b<3*n):At h' b o c:=by
 obtain ⟨y,cs,h1,h2,h3,h4⟩:=a.ex
 exact ⟨y,cs,(x b hb).trans h1,h2,h3,h4⟩
theorem At.ld {h:HF}{o:Nat}{c':List Value}{sz:Nat}(a:At h b o c)(k:Nat)(ha:GL.isAgg env ty=some true)(hi:env.inf ty=some (sz,bt,z))(hl:k+sz≤c.length)(hc:(c.drop k).take sz=c'):z7 env ty h ⟨b,o+k,none⟩=some (.agg c'.toArray):=by
 obtain ⟨y,cs,h1,h2,h3,h4⟩:=a.ex
 refine yi ⟨ha,hi⟩ h1 h2 zo ?_
 rw [←hc,←h4,List.drop_take,List.take_take,List.drop_drop]
 congr 1
 omega
theorem At.ld1 {h:HF}{o:Nat}(a:At h b o c)(k:Nat)(ha:GL.isAgg env ty=some false)(hc:c[k]?=some v):z7 env ty h ⟨b,o+k,none⟩=some v:=by
 obtain ⟨y,cs,h1,h2,h3,h4⟩:=a.ex
 exact zX ha h1 ⟨h2,(tW h4 hc)⟩
inductive Rec {D:Type} (sz:Nat) (P:List Value→D→Prop):List Value→List D→Prop
 |nil:Rec sz P [] []
 |cons {c cs:List Value} {d:D} {ds:List D} (hl:c.length=sz) (hp:P c d) (hr:Rec sz P cs ds):Rec sz P (c++cs) (d::ds)
section
variable {D:Type}{sz:Nat}{P P':List Value→D→Prop}
theorem Rec.len {ds:List D}(r:Rec sz P cs ds):cs.length=ds.length*sz:=by
 induction r with
 |nil=>simp
 |cons hl hp hr ih=>rw [List.length_append,ih,hl,List.length_cons,Nat.succ_mul];omega
theorem Rec.mono {ds:List D}(r:Rec sz P cs ds)(hP:∀c d,P c d→P' c d):Rec sz P' cs ds:=by
 induction r with
 |nil=>exact .nil
 |cons hl hp hr ih=>exact .cons hl (hP _ _ hp) ih
theorem Rec.snoc {ds:List D}{d:D}(r:Rec sz P cs ds)(hl:c.length=sz)(hp:P c d):Rec sz P (cs++c) (ds++[d]):=by
 induction r with
 |nil=>
  have:=Rec.cons hl hp (Rec.nil (P:=P) (sz:=sz))
  rw [List.append_nil] at this
  exact this
 |cons hl2 hp2 hr ih=>rw [List.append_assoc];exact .cons hl2 hp2 ih
theorem Rec.get {ds:List D}{d:D}(r:Rec sz P cs ds):∀{j:Nat},ds[j]?=some d→∃c,c.length=sz∧P c d∧(cs.drop (j*sz)).take sz=c∧j*sz+sz≤cs.length:=by
 induction r with
 |nil=>intro j hj;simp at hj
 | @cons c cs d2 ds hl hp hr ih=>
  intro j hj
  cases j with
  |zero=>
   simp at hj
   subst hj
   refine ⟨c,hl,hp,?_,by rw [List.length_append];omega⟩
   rw [Nat.zero_mul,List.drop_zero,←hl,List.take_left]
  |succ j=>
   rw [List.getElem?_cons_succ] at hj
   obtain ⟨c2,h1,h2,h3,h4⟩:=ih hj
   refine ⟨c2,h1,h2,?_,by rw [List.length_append,Nat.succ_mul];omega⟩
   rw [←h3,List.drop_append,List.drop_eq_nil_of_le (by rw [hl,Nat.succ_mul];omega),List.nil_append,Nat.succ_mul,hl,Nat.add_sub_cancel]
end
def RS {D:Type}(sz:Nat)(P:List Value→D→HF→Nat→Prop)(h:HF)(n:Nat)(v:Value)(l:List D):Prop:=∃cells,Sl h n sz v cells∧Rec sz (fun c d=>P c d h n) cells l
structure Stay {D:Type}(P:List Value→D→HF→Nat→Prop):Prop where
 go:∀c d h h' n n',P c d h n→Ext n h h'→n≤n'→P c d h' n'
section
variable {D:Type}{sz:Nat}{P:List Value→D→HF→Nat→Prop}{h h':HF}{n n':Nat}
theorem RS.ext' (hP:Stay P){l:List D}(r:RS sz P h n v l)(x:Ext n h h')(hn:n≤n'):RS sz P h' n' v l:=by
 obtain ⟨cells,h1,h2⟩:=r
 exact ⟨cells,h1.ext x hn,h2.mono fun c d hp=>hP.go c d _ _ _ _ hp x hn⟩
theorem RS.len' (hsz:0<sz){len:Nat}{l:List D}(r:RS sz P h n (.slice a len cap) l):len=l.length:=by
 obtain ⟨cells,h1,h2⟩:=r
 obtain ⟨a',l',c',e,hl⟩:=h1.len
 injection e with e1 e2 e3
 subst e2
 rw [h2.len] at hl
 exact (Nat.eq_of_mul_eq_mul_right hsz hl).symm
theorem RS.at' (hsz:0<sz){len:Nat}{l:List D}{d:D}(r:RS sz P h n (.slice a len cap) l)(hj:l[j]?=some d):∃b off c,a=some ⟨b,off,none⟩∧b<3*n∧j<len∧At h b (off+j*sz) c∧c.length=sz∧P c d h n:=by
 have hlen:=r.len' hsz
 obtain ⟨cells,h1,h2⟩:=r
 have hjl:=(List.getElem?_eq_some_iff.1 hj).1
 obtain ⟨b,off,x,cs,rfl,hb,hx,hc,hcap,hle,he⟩:=h1.inv zo
 obtain ⟨c,e1,e2,e3,e4⟩:=h2.get hj
 refine ⟨b,off,c,rfl,hb,zo,⟨x,cs,hx,hc,?_,?_⟩,e1,e2⟩
 ·have:=h2.len
  rw [←hlen] at this
  omega
 rw [e1,←e3,←he,List.drop_take,List.take_take,List.drop_drop]
 have:=h2.len
 rw [←hlen] at this
 congr 1
 omega
end
theorem xp {h:HF}{n:Nat}{len:Nat}(r:Sl h n 1 (.slice a len cap) (strs S))(hj:S[j]?=some s):∃b off,a=some ⟨b,off,none⟩∧b<3*n∧j<len∧At h b (off+j*1) [.string ⟨⟨s⟩⟩]:=by
 have hjl:=(List.getElem?_eq_some_iff.1 hj).1
 have hlen:=zI r
 obtain ⟨b,off,x,cs,rfl,hb,hx,hc,hcap,hle,he⟩:=r.inv zo
 refine ⟨b,off,rfl,hb,zo,⟨x,cs,hx,hc,by show off+j*1+1≤_;omega,?_⟩⟩
 show (cs.drop (off+j*1)).take 1=_
 have h1:(strs S)[j]?=some (.string ⟨⟨s⟩⟩):=by rw [strs,List.getElem?_map,hj];rfl
 have h2:=tW he h1
 rw [Nat.mul_one]
 have h3:off+j<cs.length:=zo
 rw [List.drop_eq_getElem_cons h3]
 rw [List.getElem?_eq_getElem h3] at h2
 injection h2 with h2
 rw [h2]
 rfl
def ratP (c:List Value)(q:Rat)(h:HF)(n:Nat):Prop:=∃b a l k d e f g,c=[.bool b,.slice a l k,.bool d,.slice e f g]∧IW h n b a l k q.num∧IW h n d e f g (denZ q)
theorem ratP.stay:Stay ratP:=⟨fun _ _ _ _ _ _ ⟨b,a,l,k,d,e,f,g,e1,i,j⟩ x hn=>⟨b,a,l,k,d,e,f,g,e1,i.ext x hn,j.ext x hn⟩⟩
def numP (c:List Value)(q:Rat)(h:HF)(n:Nat):Prop:=∃b a l k d e f g,c=[.bool b,.slice a l k,.bool d,.slice e f g]∧UI h n b a l k q.num∧UI h n d e f g (denZ q)
theorem numP.stay:Stay numP:=⟨fun _ _ _ _ _ _ ⟨b,a,l,k,d,e,f,g,e1,i,j⟩ x hn=>⟨b,a,l,k,d,e,f,g,e1,i.ext x hn,j.ext x hn⟩⟩
def QS (h:HF)(n:Nat)(v:Value)(l:List Rat):Prop:=RS 4 ratP h n v l
def NS (h:HF)(n:Nat)(v:Value)(l:List Rat):Prop:=RS 4 numP h n v l
section
variable {h h':HF}{n n':Nat}
theorem QS.ext {l:List Rat}(r:QS h n v l)(x:Ext n h h')(hn:n≤n'):QS h' n' v l:=RS.ext' ratP.stay r x hn
theorem NS.ext {l:List Rat}(r:NS h n v l)(x:Ext n h h')(hn:n≤n'):NS h' n' v l:=RS.ext' numP.stay r x hn
theorem QS.len {len:Nat}{l:List Rat}(r:QS h n (.slice a len cap) l):len=l.length:=RS.len' zd r
theorem NS.len {len:Nat}{l:List Rat}(r:NS h n (.slice a len cap) l):len=l.length:=RS.len' zd r
theorem QS.at {len:Nat}{l:List Rat}(r:QS h n (.slice a len cap) l)(hj:l[j]?=some q):∃bb off b a2 l2 k d e f g,a=some ⟨bb,off,none⟩∧bb<3*n∧j<len∧At h bb (off+j*4) [.bool b,.slice a2 l2 k,.bool d,.slice e f g]∧IW h n b a2 l2 k q.num∧IW h n d e f g (denZ q):=by
 obtain ⟨bb,off,c,h1,h2,h3,h4,_,b,a2,l2,k,d,e,f,g,rfl,i,j⟩:=RS.at' zd r hj
 exact ⟨bb,off,b,a2,l2,k,d,e,f,g,h1,h2,h3,h4,i,j⟩
theorem NS.at {len:Nat}{l:List Rat}(r:NS h n (.slice a len cap) l)(hj:l[j]?=some q):∃bb off b a2 l2 k d e f g,a=some ⟨bb,off,none⟩∧bb<3*n∧j<len∧At h bb (off+j*4) [.bool b,.slice a2 l2 k,.bool d,.slice e f g]∧UI h n b a2 l2 k q.num∧UI h n d e f g (denZ q):=by
 obtain ⟨bb,off,c,h1,h2,h3,h4,_,b,a2,l2,k,d,e,f,g,rfl,i,j⟩:=RS.at' zd r hj
 exact ⟨bb,off,b,a2,l2,k,d,e,f,g,h1,h2,h3,h4,i,j⟩
end
section
variable {X:CtxF}{ops r:List Oper}{t:TF}{h:HF}{n:Nat}{w:List Nat}{Q:SV→Prop}{o:Oper}{d:Tmp}
theorem be {x i:Operand}{len sz:Nat}(hw:zg ops t o=true∧o.dst=some d∧zj X.nt (some d)=true∧o.op=.indexAddr ty x i∧X.E.und ty=some (.slice e)∧X.E.inf e=some (sz,bt,z)∧evF t x=.slice aq len cap∧evF t i=.int ik (j:Int)∧aq=some ⟨b,off,none⟩)(hr:j<len)(k:EO X ops r ⟨upd t d (.pointer (some ⟨b,off+j*sz,none⟩)),h,n,w⟩ Q):EO X ops (o::r) ⟨t,h,n,w⟩ Q:=by
 obtain ⟨hw,hd,hn,ho,hu,hi,hx,hj,ha⟩:=hw
 subst ha
 exact qy ⟨hw,hd,hn,ho,hu,hi,hx,hj⟩ zo k
end
section
variable {X:CtxF}{ops r:List Oper}{ms:List Nat}{i m:Nat}{t:TF}{h:HF}{n:Nat}{w:List Nat}{al ld:List (Nat×Nat)}{ef:List (Nat×HF×List Nat)}{Q:SV→Prop}{o:Oper}{d:Tmp}
theorem bg {x:Operand}{len sz:Nat}(hw:zg ops t o=true)(hd:o.dst=some d)(hn:zj X.nt (some d)=true)(ho:o.op=.indexAddr ty x y)(hu:X.E.und ty=some (.slice e))(hi:X.E.inf e=some (sz,bt,z))
  (hx:evF t x=.slice aq len cap)(hj:evF t y=.int ik (j:Int))(ha:aq=some ⟨b,off,none⟩)(hr:j<len)(k:ED X ops r ms (i+1) ⟨⟨upd t d (.pointer (some ⟨b,off+j*sz,none⟩)),h,n,w⟩,al,ld,ef⟩ Q):ED X ops (o::r) (m::ms) i ⟨⟨t,h,n,w⟩,al,ld,ef⟩ Q:=by
 subst ha
 refine yA hw hd hn (by rw [ho];rfl) ?_ k
 have h1:(0:Int)≤(j:Int)∧(j:Int)<(len:Int):=zo
 rw [ho]
 show yw X.E ty (evF t x) (evF t y)=_
 rw [hx,hj]
 simp only [yw,hu,hi,if_pos h1,wg,Int.toNat_natCast]
end
theorem QS.x {h h':HF}{n n':Nat}{l:List Rat}(r:QS h n v l)(t:Tx n h n' h'):QS h' n' v l:=r.ext t.2 t.1
theorem NS.x {h h':HF}{n n':Nat}{l:List Rat}(r:NS h n v l)(t:Tx n h n' h'):NS h' n' v l:=r.ext t.2 t.1
theorem At.x {h h':HF}{n n' o:Nat}(a:At h b o c)(t:Tx n h n' h')(hb:b<3*n):At h' b o c:=a.ext t.2 hb
theorem At.lG {h:HF}{o sz:Nat}{r:List Value}(L:List Value)(a:At h b o c)(ha:GL.isAgg env ty=some true)(hi:env.inf ty=some (sz,bt,z))(hc:c.drop k=L++r)(hl:L.length=sz)(h1:0<L.length:=by exact Nat.succ_pos _):z7 env ty h ⟨b,o+k,none⟩=some (.agg L.toArray):=by
 have h2:=congrArg List.length hc
 rw [List.length_drop,List.length_append] at h2
 exact a.ld k ha hi zo (c':=L) (by rw [hc,←hl,List.take_left])
theorem At.l1 {h:HF}{o:Nat}{r:List Value}(a:At h b o c)(ha:GL.isAgg env ty=some true)(hi:env.inf ty=some (1,bt,z))(hc:c.drop k=x1::r):z7 env ty h ⟨b,o+k,none⟩=some (.agg #[x1]):=a.lG [x1] ha hi hc rfl
theorem At.l2 {h:HF}{o:Nat}{r:List Value}(a:At h b o c)(ha:GL.isAgg env ty=some true)(hi:env.inf ty=some (2,bt,z))(hc:c.drop k=x1::x2::r):z7 env ty h ⟨b,o+k,none⟩=some (.agg #[x1,x2]):=a.lG [x1,x2] ha hi hc rfl
theorem At.l3 {h:HF}{o:Nat}{r:List Value}(a:At h b o c)(ha:GL.isAgg env ty=some true)(hi:env.inf ty=some (3,bt,z))(hc:c.drop k=x1::x2::x3::r):z7 env ty h ⟨b,o+k,none⟩=some (.agg #[x1,x2,x3]):=a.lG [x1,x2,x3] ha hi hc rfl
theorem At.l4 {h:HF}{o:Nat}{r:List Value}(a:At h b o c)(ha:GL.isAgg env ty=some true)(hi:env.inf ty=some (4,bt,z))(hc:c.drop k=x1::x2::x3::x4::r):z7 env ty h ⟨b,o+k,none⟩=some (.agg #[x1,x2,x3,x4]):=a.lG [x1,x2,x3,x4] ha hi hc rfl
theorem At.l5 {h:HF}{o:Nat}{r:List Value}(a:At h b o c)(ha:GL.isAgg env ty=some true)(hi:env.inf ty=some (5,bt,z))(hc:c.drop k=x1::x2::x3::x4::x5::r):z7 env ty h ⟨b,o+k,none⟩=some (.agg #[x1,x2,x3,x4,x5]):=a.lG [x1,x2,x3,x4,x5] ha hi hc rfl
theorem At.l10 {h:HF}{o:Nat}{r:List Value}(a:At h b o c)(ha:GL.isAgg env ty=some true)(hi:env.inf ty=some (10,bt,z))(hc:c.drop k=x1::x2::x3::x4::x5::x6::x7::x8::x9::x10::r):z7 env ty h ⟨b,o+k,none⟩=some (.agg #[x1,x2,x3,x4,x5,x6,x7,x8,x9,x10]):=a.lG [x1,x2,x3,x4,x5,x6,x7,x8,x9,x10] ha hi hc rfl
theorem At.l11 {h:HF}{o:Nat}{x11:Value}{r:List Value}(a:At h b o c)(ha:GL.isAgg env ty=some true)(hi:env.inf ty=some (11,bt,z))(hc:c.drop k=x1::x2::x3::x4::x5::x6::x7::x8::x9::x10::x11::r):z7 env ty h ⟨b,o+k,none⟩=some (.agg #[x1,x2,x3,x4,x5,x6,x7,x8,x9,x10,x11]):=a.lG [x1,x2,x3,x4,x5,x6,x7,x8,x9,x10,x11] ha hi hc rfl
section
variable {X:CtxF}{ops r:List Oper}{t:TF}{h:HF}{n:Nat}{w:List Nat}{Q:SV→Prop}{o:Oper}{d:Tmp}
theorem sI {x0 i0:Operand}{len sz:Nat}(ha:aq=some ⟨b,off,none⟩)(hr:j<len)(k:EO X ops r ⟨upd t d (.pointer (some ⟨b,off+j*sz,none⟩)),h,n,w⟩ Q)(hw:zg ops t o=true:=by exact rfl)(hd:o.dst=some d:=by exact rfl)(hn:zj X.nt (some d)=true:=by exact rfl)(ho:o.op=.indexAddr ty x0 i0:=by exact rfl)(hu:X.E.und ty=some (.slice e):=by exact rfl)(hi:X.E.inf e=some (sz,bt,z):=by exact rfl)(hx:evF t x0=.slice aq len cap:=by exact rfl)(hj:evF t i0=.int ik (j:Int):=by exact rfl):EO X ops (o::r) ⟨t,h,n,w⟩ Q:=be ⟨hw,hd,hn,ho,hu,hi,hx,hj,ha⟩ hr k
theorem sL {x0:Operand}{o0:Nat}(a:At h0 b o0 c)(hb:b<3*n0)(k0:Nat)(k:EO X ops r ⟨upd t d v,h,n,w⟩ Q)(hw:zg ops t o=true:=by exact rfl)(hd:o.dst=some d:=by exact rfl)(hn:zj X.nt (some d)=true:=by exact rfl)(ho:o.op=.load ty x0:=by exact rfl)(hx:evF t x0=.pointer (some ⟨b,o0+k0,none⟩):=by exact rfl)(tx:Tx n0 h0 n h:=by exact zx)(hv:At h b o0 c→z7 X.E ty h ⟨b,o0+k0,none⟩=some v:=by intro a;first|exact a.ld1 _ rfl rfl|exact a.l1 rfl rfl rfl|exact a.l2 rfl rfl rfl|exact a.l3 rfl rfl rfl|exact a.l4 rfl rfl rfl|exact a.l5 rfl rfl rfl|exact a.l10 rfl rfl rfl|exact a.l11 rfl rfl rfl):EO X ops (o::r) ⟨t,h,n,w⟩ Q:=zQ ⟨hw,hd,hn,ho,hx⟩ (hv (a.x tx hb)) k
end
section
variable {X:CtxF}{ops r:List Oper}{ms:List Nat}{i m:Nat}{t:TF}{h:HF}{n:Nat}{w:List Nat}{al ld:List (Nat×Nat)}{ef:List (Nat×HF×List Nat)}{Q:SV→Prop}{o:Oper}{d:Tmp}
theorem dI {x0 i0:Operand}{len sz:Nat}(ha:aq=some ⟨b,off,none⟩)(hr:j<len)(k:ED X ops r ms (i+1) ⟨⟨upd t d (.pointer (some ⟨b,off+j*sz,none⟩)),h,n,w⟩,al,ld,ef⟩ Q)(hw:zg ops t o=true:=by exact rfl)(hd:o.dst=some d:=by exact rfl)(hn:zj X.nt (some d)=true:=by exact rfl)(ho:o.op=.indexAddr ty x0 i0:=by exact rfl)(hu:X.E.und ty=some (.slice e):=by exact rfl)(hi:X.E.inf e=some (sz,bt,z):=by exact rfl)(hx:evF t x0=.slice aq len cap:=by exact rfl)(hj:evF t i0=.int ik (j:Int):=by exact rfl):ED X ops (o::r) (m::ms) i ⟨⟨t,h,n,w⟩,al,ld,ef⟩ Q:=bg hw hd hn ho hu hi hx hj ha hr k
theorem dL {x0:Operand}{n3 o0:Nat}(a:At h0 b o0 c)(hb:b<3*n0)(k0:Nat)(k:ED X ops r ms (i+1) ⟨⟨upd t d v,h,n,w⟩,al,(i,b)::ld,ef⟩ Q)(hw:zg ops t o=true:=by exact rfl)(hd:o.dst=some d:=by exact rfl)(hn:zj X.nt (some d)=true:=by exact rfl)(ho:o.op=.load ty x0:=by exact rfl)(hx:evF t x0=.pointer (some ⟨b,o0+k0,none⟩):=by exact rfl){g:HF}(hr:xu m ef i h=(u,g):=by exact rfl)(tx:Tx n0 h0 n3 g:=by exact zx)(hv:At g b o0 c→z7 X.E ty g ⟨b,o0+k0,none⟩=some v:=by intro a;first|exact a.ld1 _ rfl rfl|exact a.l1 rfl rfl rfl|exact a.l2 rfl rfl rfl|exact a.l3 rfl rfl rfl|exact a.l4 rfl rfl rfl|exact a.l5 rfl rfl rfl|exact a.l10 rfl rfl rfl|exact a.l11 rfl rfl rfl)(h1:wt u b ef=true:=by exact rfl)(h2:tI m b al=true:=by exact rfl):ED X ops (o::r) (m::ms) i ⟨⟨t,h,n,w⟩,al,ld,ef⟩ Q:=yn ⟨hw,hd,hn,ho,hx,hr⟩ (hv (a.x tx hb)) ⟨h1,h2⟩ k
end
section
variable {x:Operand}
section
variable {X:CtxF}{ops r:List Oper}{t:TF}{h:HF}{n:Nat}{w:List Nat}{Q:SV→Prop}{o:Oper}{d:Tmp}
theorem wU {a b:List UInt8}(c:Bool)(hw:zg ops t o=true∧o.dst=some d∧zj X.nt (some d)=true∧o.op=.binOp .eql ty x y ty'∧evF t x=.string ⟨⟨a⟩⟩∧evF t y=.string ⟨⟨b⟩⟩)(hr:(a==b)=c)
  (k:EO X ops r ⟨upd t d (.bool c),h,n,w⟩ Q):EO X ops (o::r) ⟨t,h,n,w⟩ Q:=by
 obtain ⟨hw,hd,hn,ho,hx,hy⟩:=hw
 refine zA ⟨hw,hd,hn,(by rw [ho];rfl)⟩ ?_ k
 rw [ho]
 show binE X.E .eql ty (evF t x) (evF t y)=_
 rw [hx,hy,←hr]
 rfl
theorem aJ {a b:List UInt8}(c:Bool)(hw:zg ops t o=true)(hd:o.dst=some d)(hn:zj X.nt (some d)=true)(ho:o.op=.binOp .neq ty x y ty')(hx:evF t x=.string ⟨⟨a⟩⟩)(hy:evF t y=.string ⟨⟨b⟩⟩)(hr:(!(a==b))=c)
  (k:EO X ops r ⟨upd t d (.bool c),h,n,w⟩ Q):EO X ops (o::r) ⟨t,h,n,w⟩ Q:=by
 refine zA ⟨hw,hd,hn,(by rw [ho];rfl)⟩ ?_ k
 rw [ho]
 show binE X.E .neq ty (evF t x) (evF t y)=_
 rw [hx,hy,←hr]
 rfl
end
def VX (C:CalF)(f:FuncId)(args:List Value)(h:HF)(n:Nat)(P:Value→Prop):Prop:=CF C f args h n fun v h' n' w=>w=[]∧n≤n'∧Ext n h h'∧P v
theorem yq {P:Value→Prop}{e:Ex}{t:TF}{h:HF}{n:Nat}{a a2:Tmp}{e1:TypeId}(u:Value)(he:tM e=true∧fn.results.toList=[.cell a ty,.tmp a2]∧t a=.pointer (some ⟨b,0,none⟩)∧t a2=u∧GL.isAgg env ty=some true∧env.inf ty=some (sz,bt,z))(hb:h' b=some (.row cs e1))(hl:cs.length=sz)(hn:n≤n')(hx:Ext n h h')(hp:P (.tuple #[.agg cs.toArray,u])):RetH fn (fun v h' n' w=>w=[]∧n≤n'∧Ext n h h'∧P v) e ⟨t,h',n',[]⟩:=by
 obtain ⟨he,hr,ha,ha2,hg,hi⟩:=he
 refine retH [.agg cs.toArray,u] ⟨he,?_,rfl⟩ ⟨rfl,hn,hx,hp⟩
 rw [hr]
 have l1:=yi ⟨hg,hi⟩ hb rfl (show 0+sz≤cs.length by omega) (show (cs.drop 0).take sz=cs by rw [List.drop_zero,List.take_of_length_le zo])
 simp only [resF,ha,ha2,l1]
theorem gU (k:Nat)(h:HF)(n:Nat)(s:List UInt8):VF (cal (k+1)) 210 [.string ⟨⟨s⟩⟩,.string ⟨⟨[45]⟩⟩] h n fun v=>v=.bool (zO s):=by
 refine zu (fn:=Tryz.f210) R4 ?_
 refine zN ?_
 repeat refine zR ?_
 refine zN ?_
 cases s with
 |nil=>
  refine zM ?_
  refine st_I (ik:=.i64) (a:=0) R5 ?_
  refine zM ?_
  refine st_I (ik:=.i64) (a:=1) R5 ?_
  repeat refine zR ?_
  refine zN ?_
  exact retF _ rfl (zh rfl) R2 rfl
 |cons x s=>
  refine zM ?_
  refine st_I (ik:=.i64) (a:=((x::s).length:Int)) R5 ?_
  refine zM ?_
  refine st_I (ik:=.i64) (a:=1) R5 ?_
  refine pY R6 (by rw [List.length_cons];omega) ?_
  refine zM ?_
  refine zM ?_
  refine zM ?_
  refine st_I (ik:=.i64) (a:=1) R5 ?_
  refine uW (s:=x::s) (j:=1) R8 (by simp) ?_
  refine zM ?_
  refine wU (a:=[x]) (b:=[45]) (x==45) R6 (by simp) ?_
  repeat refine zR ?_
  refine zN ?_
  exact retF _ rfl (zh rfl) R2 (by show Value.bool _=Value.bool _;simp [zO])
theorem gJ (h:zO s=true):1≤s.length:=by
 unfold zO at h
 cases s with
 |nil=>simp at h
 |cons=>simp
theorem jL (k:Nat)(h:HF)(n:Nat)(s:List UInt8):VF (cal (k+2)) 191 [.string ⟨⟨s⟩⟩,.string ⟨⟨[45]⟩⟩] h n fun v=>v=.tuple #[.string ⟨⟨yX s⟩⟩,.bool (zO s)]:=by
 refine zu (fn:=Tryz.f191) R4 ?_
 refine zN ?_
 repeat refine zR ?_
 refine zN ?_
 refine zM ?_
 refine zM ?_
 refine z0 _ R5 (gU k h n s) ?_
 rintro _ rfl
 by_cases hm:zO s=true
 ·rw [hm]
  repeat refine zR ?_
  refine zN ?_
  rw [za rfl]
  refine zN ?_
  refine zM ?_
  refine zM ?_
  refine st_I (ik:=.i64) (a:=1) R5 ?_
  refine vU (s:=s) (j:=1) R8 (gJ hm) ?_
  repeat refine zR ?_
  refine zN ?_
  refine retF [.string ⟨⟨s.drop 1⟩⟩,.bool true] rfl rfl R2 ?_
  unfold yX
  rw [if_pos hm]
  rfl
 rw [Bool.eq_false_iff.2 hm]
 repeat refine zR ?_
 refine zN ?_
 rw [zc rfl]
 refine zN ?_
 repeat refine zR ?_
 refine zN ?_
 refine retF [.string ⟨⟨s⟩⟩,.bool false] rfl rfl R2 ?_
 unfold yX
 rw [if_neg hm]
 rfl
theorem fL (k:Nat)(h:HF)(n:Nat)(s:List UInt8):VF (cal (k+3)) 163 [.string ⟨⟨s⟩⟩,.string ⟨⟨[45]⟩⟩] h n fun v=>v=.tuple #[.string ⟨⟨yX s⟩⟩,.bool (zO s)]:=by
 refine zu (fn:=Tryz.f163) R4 ?_
 refine zN ?_
 repeat refine zR ?_
 refine zN ?_
 refine zM ?_
 refine zM ?_
 refine z0 _ R5 (jL k h n s) ?_
 rintro _ rfl
 repeat refine zR ?_
 refine zN ?_
 exact retF [.string ⟨⟨yX s⟩⟩,.bool (zO s)] rfl rfl R2 rfl
theorem fK (s:List UInt8):∃T D,s.takeWhile dig=T∧s.dropWhile dig=D∧s=T++D∧(∀b∈T,dig b=true)∧(D=[]∨∃x D',D=x::D'∧dig x=false):=by
 refine ⟨_,_,rfl,rfl,List.takeWhile_append_dropWhile.symm,wR,?_⟩
 cases hd:s.dropWhile dig with
 |nil=>exact .inl rfl
 |cons x D'=>exact .inr ⟨x,D',rfl,by
   have:=List.head?_dropWhile_not dig s
   rw [hd] at this
   simpa using this⟩
theorem sw (k:Nat)(h:HF)(n:Nat)(s:List UInt8)(hs:s.length<1000000):VF (cal (k+1)) 164 [.string ⟨⟨s⟩⟩] h n fun v=>v=.tuple #[.string ⟨⟨s.takeWhile dig⟩⟩,.string ⟨⟨s.dropWhile dig⟩⟩]:=by
 refine zu (fn:=Tryz.f164) R4 ?_
 obtain ⟨T,D,hT,hD,hTD,hall,hnd⟩:=fK s
 rw [hT,hD]
 clear hT hD
 have hlen:s.length=T.length+D.length:=by rw [hTD,List.length_append]
 refine zN ?_
 repeat refine zR ?_
 refine zN ?_
 repeat refine zR ?_
 refine zN ?_
 refine zZ (α:=Nat) (fun m=>[(0,.string ⟨⟨s⟩⟩),(4,.int .i64 (m:Int))]) (fun m h' n' w=>h=h'∧n=n'∧w=[]∧m≤T.length) (fun m=>T.length-m) 0 ⟨rfl,rfl,trivial⟩ ⟨rfl,rfl,rfl,Nat.zero_le _⟩ (by show T.length-0<LL;unfold LL;omega) ?_
 rintro m t _ _ _ ⟨rfl,rfl,rfl,hm⟩
 refine zN ?_
 refine zM ?_
 refine zM ?_
 refine st_I (ik:=.i64) (a:=(s.length:Int)) R5 ?_
 have fin:∀t':TF,t' 0=.string ⟨⟨s⟩⟩→m=T.length→True:=fun _ _ _=>trivial
 by_cases hmT:m=T.length
 ·have htake:s.take m=T:=by rw [hTD,hmT,List.take_left' rfl]
  have hdrop:s.drop m=D:=by rw [hTD,hmT,List.drop_left' rfl]
  rcases hnd with rfl|⟨x,D',rfl,hx⟩
  ·rw [List.length_nil] at hlen
   repeat refine zR ?_
   refine zN ?_
   rw [za rfl]
   refine zN ?_
   rw [xm rfl]
   refine zM ?_
   refine zM ?_
   refine uW (s:=s) (j:=m) R8 zo ?_
   refine zM ?_
   refine zM ?_
   refine vU (s:=s) (j:=m) R8 zo ?_
   rw [htake,hdrop]
   repeat refine zR ?_
   refine zN ?_
   exact retF [.string ⟨⟨T⟩⟩,.string ⟨⟨[]⟩⟩] rfl rfl R2 rfl
  rw [List.length_cons] at hlen
  have hb:s[m]?=some x:=by rw [hTD,hmT,List.getElem?_append_right (Nat.le_refl _),Nat.sub_self];rfl
  have hx':¬(48≤x.toNat∧x.toNat≤57):=fun h=>by rw [rT.2 h] at hx;cases hx
  refine pW R6 zo ?_
  refine zM ?_
  refine zM ?_
  refine zM ?_
  refine yk (j:=m) R8 hb ?_
  by_cases hx1:48≤x.toNat
  ·refine rn R6 zo ?_
   repeat refine zR ?_
   refine yk (j:=m) R8 hb ?_
   repeat refine zR ?_
   refine zN ?_
   rw [za rfl]
   refine zN ?_
   rw [xm rfl]
   refine zM ?_
   refine zM ?_
   refine uW (s:=s) (j:=m) R8 zo ?_
   refine zM ?_
   refine zM ?_
   refine vU (s:=s) (j:=m) R8 zo ?_
   rw [htake,hdrop]
   repeat refine zR ?_
   refine zN ?_
   exact retF [.string ⟨⟨T⟩⟩,.string ⟨⟨x::D'⟩⟩] rfl rfl R2 rfl
  refine qx R6 zo ?_
  repeat refine zR ?_
  refine zN ?_
  rw [za rfl]
  refine zN ?_
  rw [xm rfl]
  refine zM ?_
  refine zM ?_
  refine uW (s:=s) (j:=m) R8 zo ?_
  refine zM ?_
  refine zM ?_
  refine vU (s:=s) (j:=m) R8 zo ?_
  rw [htake,hdrop]
  repeat refine zR ?_
  refine zN ?_
  exact retF [.string ⟨⟨T⟩⟩,.string ⟨⟨x::D'⟩⟩] rfl rfl R2 rfl
 obtain ⟨x,hx⟩:∃x,T[m]?=some x:=⟨T[m]'zo,List.getElem?_eq_getElem zo⟩
 have hb:s[m]?=some x:=by rw [hTD,List.getElem?_append_left zo];exact hx
 have hx1:=rT.1 (hall x (List.mem_of_getElem? hx))
 refine pW R6 zo ?_
 refine zM ?_
 refine zM ?_
 refine zM ?_
 refine yk (j:=m) R8 hb ?_
 refine rn R6 zo ?_
 repeat refine zR ?_
 refine yk (j:=m) R8 hb ?_
 repeat refine zR ?_
 refine zN ?_
 rw [zc rfl]
 refine zN ?_
 repeat refine zR ?_
 refine zN ?_
 exact goOn (m+1) (by show T.length-(m+1)<T.length-m;omega) ⟨rfl,rfl,trivial⟩ ⟨rfl,rfl,rfl,by show m+1≤_;omega⟩
def spP (mi:Bool)(m r:List UInt8):List UInt8×List UInt8×Bool:=
 if m=[48] then (m,[],!mi&&r.isEmpty)
 else if m=[]∨m.head?=some 48 then (m,[],false)
 else if r=[] then (m,[],true)
 else if r.head?≠some 47 then (m,[],false)
 else (m,(r.drop 1).takeWhile dig,((r.drop 1).dropWhile dig).isEmpty&& !((r.drop 1).takeWhile dig).isEmpty&&((r.drop 1).takeWhile dig).head? != some 48&&(r.drop 1).takeWhile dig != [49])
theorem aZ (s:List UInt8):spl s=spP (zO s) ((yX s).takeWhile dig) ((yX s).dropWhile dig):=rfl
theorem mh {x:UInt8}{l:List UInt8}{c:UInt8}(h:x.toNat≠c.toNat):(x::l).head?≠some c:=fun e=>h (by
 have:x=c:=by simpa using e
 rw [this])
theorem lb (k:Nat)(h:HF)(n:Nat)(s:List UInt8)(hs:s.length<1000000):VX (cal (k+4)) 123 [.string ⟨⟨s⟩⟩] h n fun v=>v=.tuple #[.agg #[.bool (zO s),.string ⟨⟨(spl s).1⟩⟩,.string ⟨⟨(spl s).2.1⟩⟩],.bool (spl s).2.2]:=by
 refine zn (fn:=Tryz.f123) R4 ?_
 rw [aZ]
 have hbl:=jZ s
 refine zN ?_
 refine xc R5 ?_
 repeat refine zR ?_
 refine zN ?_
 refine xc R5 ?_
 refine zN ?_
 generalize hh:upd (upd h (3*n+2) _) (3*(n+1)+2) _=h1
 have hr2:∃e,h1 (3*n+2)=some (.row [.bool false,.string ⟨⟨[]⟩⟩,.string ⟨⟨[]⟩⟩] e):=⟨_,by rw [←hh,zi zo,ze];rfl⟩
 have hr4:∃e,h1 (3*(n+1)+2)=some (.row [.bool false,.string ⟨⟨[]⟩⟩,.string ⟨⟨[]⟩⟩] e):=⟨_,by rw [←hh,ze];rfl⟩
 obtain ⟨e2,hr2⟩:=hr2
 obtain ⟨e4,hr4⟩:=hr4
 have hx:Ext n h h1:=fun b hb=>by rw [←hh,zi zo,zi zo]
 clear hh
 refine zM ?_
 refine z0 _ R5 (fL k h1 (n+1+1) s) ?_
 rintro _ rfl
 generalize yX s=B at hbl ⊢
 generalize zO s=mi
 repeat refine zR ?_
 refine zN ?_
 repeat refine zR ?_
 refine yg (cs:=[.bool mi]) R8 hr4 zb (by show 3*n≤3*(n+1)+2;omega) ?_
 refine zN ?_
 generalize hh:upd h1 (3*(n+1)+2) _=h2
 replace hr2:h2 (3*n+2)=some (.row [.bool false,.string ⟨⟨[]⟩⟩,.string ⟨⟨[]⟩⟩] e2):=by rw [←hh,zi zo];exact hr2
 replace hr4:h2 (3*(n+1)+2)=some (.row [.bool mi,.string ⟨⟨[]⟩⟩,.string ⟨⟨[]⟩⟩] e4):=by rw [←hh,ze];rfl
 replace hx:Ext n h h2:=fun b hb=>by rw [←hh,zi zo,hx b hb]
 clear hh
 refine zM ?_
 refine z0 _ R5 (sw (k+2) h2 (n+1+1) B zo) ?_
 rintro _ rfl
 have hRl:(B.dropWhile dig).length≤B.length:=(List.dropWhile_sublist dig).length_le
 generalize B.takeWhile dig=M
 generalize B.dropWhile dig=R at hRl ⊢
 repeat refine zR ?_
 refine yg (cs:=[.string ⟨⟨M⟩⟩]) R8 hr4 zb (by show 3*n≤3*(n+1)+2;omega) ?_
 generalize hh:upd h2 (3*(n+1)+2) _=h3
 replace hr2:h3 (3*n+2)=some (.row [.bool false,.string ⟨⟨[]⟩⟩,.string ⟨⟨[]⟩⟩] e2):=by rw [←hh,zi zo];exact hr2
 replace hr4:h3 (3*(n+1)+2)=some (.row [.bool mi,.string ⟨⟨M⟩⟩,.string ⟨⟨[]⟩⟩] e4):=by rw [←hh,ze];rfl
 replace hx:Ext n h h3:=fun b hb=>by rw [←hh,zi zo,hx b hb]
 clear hh
 repeat refine zR ?_
 refine zN ?_
 repeat refine zR ?_
 refine zL R6 hr4 (v:=.string ⟨⟨M⟩⟩) R2 ?_
 have ldT:z7 env 181 h3 ⟨3*(n+1)+2,0,none⟩=some (.agg #[.bool mi,.string ⟨⟨M⟩⟩,.string ⟨⟨[]⟩⟩]):=yi R2 hr4 rfl zb rfl
 by_cases h48:M=[48]
 ·refine wU true R6 (by rw [h48];rfl) ?_
  repeat refine zR ?_
  refine zN ?_
  rw [zc rfl]
  refine zN ?_
  refine zQ (v:=.agg #[.bool mi,.string ⟨⟨M⟩⟩,.string ⟨⟨[]⟩⟩]) R5 ldT ?_
  cases mi with
  |true=>
   repeat refine zR ?_
   refine zV [.bool true,.string ⟨⟨M⟩⟩,.string ⟨⟨[]⟩⟩] R8 hr2 rfl (by show 3*n≤3*n+2;omega) ?_
   repeat refine zR ?_
   refine zN ?_
   refine yq (.bool false) R6 (ze _ _ _) rfl zo (fun b hb=>(zi zo).trans (hx b hb)) ?_
   rw [show spP true M R=(M,[],false) from by unfold spP;rw [if_pos h48];rfl]
  |false=>
   cases R with
   |nil=>
    repeat refine zR ?_
    refine zV [.bool false,.string ⟨⟨M⟩⟩,.string ⟨⟨[]⟩⟩] R8 hr2 rfl (by show 3*n≤3*n+2;omega) ?_
    repeat refine zR ?_
    refine zN ?_
    refine yq (.bool true) R6 (ze _ _ _) rfl zo (fun b hb=>(zi zo).trans (hx b hb)) ?_
    rw [show spP false M []=(M,[],true) from by unfold spP;rw [if_pos h48];rfl]
   |cons z R=>
    repeat refine zR ?_
    refine zV [.bool false,.string ⟨⟨M⟩⟩,.string ⟨⟨[]⟩⟩] R8 hr2 rfl (by show 3*n≤3*n+2;omega) ?_
    repeat refine zR ?_
    refine zN ?_
    refine yq (.bool false) R6 (ze _ _ _) rfl zo (fun b hb=>(zi zo).trans (hx b hb)) ?_
    rw [show spP false M (z::R)=(M,[],false) from by unfold spP;rw [if_pos h48];rfl]
 refine wU false R6 (by simpa using h48) ?_
 repeat refine zR ?_
 refine zN ?_
 rw [za rfl]
 refine zN ?_
 repeat refine zR ?_
 refine zL R6 hr4 (v:=.string ⟨⟨M⟩⟩) R2 ?_
 have bad:∀t':TF,spP mi M R=(M,[],false)→True:=fun _ _=>trivial
 cases M with
 |nil=>
  repeat refine zR ?_
  refine zN ?_
  rw [zc rfl]
  refine zN ?_
  refine zQ (v:=.agg #[.bool mi,.string ⟨⟨[]⟩⟩,.string ⟨⟨[]⟩⟩]) R5 ldT ?_
  refine zV [.bool mi,.string ⟨⟨[]⟩⟩,.string ⟨⟨[]⟩⟩] R8 hr2 rfl (by show 3*n≤3*n+2;omega) ?_
  repeat refine zR ?_
  refine zN ?_
  refine yq (.bool false) R6 (ze _ _ _) rfl zo (fun b hb=>(zi zo).trans (hx b hb)) ?_
  rw [show spP mi [] R=([],[],false) from by unfold spP;rw [if_neg h48,if_pos (.inl rfl)]]
 |cons y M=>
 repeat refine zR ?_
 refine zL R6 hr4 (v:=.string ⟨⟨y::M⟩⟩) R2 ?_
 refine yk (s:=y::M) (j:=0) R8 rfl ?_
 by_cases hy:y.toNat=48
 ·have hy':y=48:=UInt8.toNat_inj.1 hy
  repeat refine zR ?_
  refine zN ?_
  rw [zc rfl]
  refine zN ?_
  refine zQ (v:=.agg #[.bool mi,.string ⟨⟨y::M⟩⟩,.string ⟨⟨[]⟩⟩]) R5 ldT ?_
  refine zV [.bool mi,.string ⟨⟨y::M⟩⟩,.string ⟨⟨[]⟩⟩] R8 hr2 rfl (by show 3*n≤3*n+2;omega) ?_
  repeat refine zR ?_
  refine zN ?_
  refine yq (.bool false) R6 (ze _ _ _) rfl zo (fun b hb=>(zi zo).trans (hx b hb)) ?_
  rw [show spP mi (y::M) R=(y::M,[],false) from by unfold spP;rw [if_neg h48,if_pos (.inr (by rw [hy'];rfl))]]
 have hy2:¬(y::M=[]∨(y::M).head?=some 48):=by
  rintro (h|h)
  ·cases h
  exact mh (c:=48) hy h
 repeat refine zR ?_
 refine zN ?_
 rw [za rfl]
 refine zN ?_
 cases R with
 |nil=>
  repeat refine zR ?_
  refine zN ?_
  rw [zc rfl]
  refine zN ?_
  refine zQ (v:=.agg #[.bool mi,.string ⟨⟨y::M⟩⟩,.string ⟨⟨[]⟩⟩]) R5 ldT ?_
  refine zV [.bool mi,.string ⟨⟨y::M⟩⟩,.string ⟨⟨[]⟩⟩] R8 hr2 rfl (by show 3*n≤3*n+2;omega) ?_
  repeat refine zR ?_
  refine zN ?_
  refine yq (.bool true) R6 (ze _ _ _) rfl zo (fun b hb=>(zi zo).trans (hx b hb)) ?_
  rw [show spP mi (y::M) []=(y::M,[],true) from by unfold spP;rw [if_neg h48,if_neg hy2,if_pos rfl]]
 |cons z R=>
 repeat refine zR ?_
 refine zN ?_
 rw [za rfl]
 refine zN ?_
 refine zM ?_
 refine yk (s:=z::R) (j:=0) R8 rfl ?_
 by_cases hz:z.toNat=47
 case neg=>
  repeat refine zR ?_
  refine zN ?_
  rw [zc rfl]
  refine zN ?_
  refine zQ (v:=.agg #[.bool mi,.string ⟨⟨y::M⟩⟩,.string ⟨⟨[]⟩⟩]) R5 ldT ?_
  refine zV [.bool mi,.string ⟨⟨y::M⟩⟩,.string ⟨⟨[]⟩⟩] R8 hr2 rfl (by show 3*n≤3*n+2;omega) ?_
  repeat refine zR ?_
  refine zN ?_
  refine yq (.bool false) R6 (ze _ _ _) rfl zo (fun b hb=>(zi zo).trans (hx b hb)) ?_
  rw [show spP mi (y::M) (z::R)=(y::M,[],false) from by unfold spP;rw [if_neg h48,if_neg hy2,if_neg (by simp),if_pos (mh (c:=47) hz)]]
 have hsp:spP mi (y::M) (z::R)=(y::M,R.takeWhile dig,(R.dropWhile dig).isEmpty&& !(R.takeWhile dig).isEmpty&&(R.takeWhile dig).head? != some 48&&R.takeWhile dig != [49]):=by
  have hz':z=47:=UInt8.toNat_inj.1 hz
  unfold spP
  rw [if_neg h48,if_neg hy2,if_neg (by simp),if_neg (by rw [hz'];simp)]
  rfl
 rw [hsp]
 rw [List.length_cons] at hRl
 repeat refine zR ?_
 refine zN ?_
 rw [za rfl]
 refine zN ?_
 refine zM ?_
 refine vU (s:=z::R) (j:=1) R8 (by simp) ?_
 rw [show (z::R).drop 1=R from rfl]
 refine z0 _ R5 (sw (k+2) h3 (n+1+1) R zo) ?_
 rintro _ rfl
 generalize R.takeWhile dig=D
 generalize R.dropWhile dig=E
 repeat refine zR ?_
 refine yg (cs:=[.string ⟨⟨D⟩⟩]) R8 hr4 zb (by show 3*n≤3*(n+1)+2;omega) ?_
 generalize hh:upd h3 (3*(n+1)+2) _=h4
 replace hr2:h4 (3*n+2)=some (.row [.bool false,.string ⟨⟨[]⟩⟩,.string ⟨⟨[]⟩⟩] e2):=by rw [←hh,zi zo];exact hr2
 replace hr4:h4 (3*(n+1)+2)=some (.row [.bool mi,.string ⟨⟨y::M⟩⟩,.string ⟨⟨D⟩⟩] e4):=by rw [←hh,ze];rfl
 replace hx:Ext n h h4:=fun b hb=>by rw [←hh,zi zo,hx b hb]
 clear hh ldT
 repeat refine zR ?_
 refine zN ?_
 refine zB [0,0,2,6,14,30,62,126,254,510,1022,2046,4094,8190,16382,32766,65534,131070,262142,32767,1048575] rfl ?_
 refine yn (v:=.agg #[.bool mi,.string ⟨⟨y::M⟩⟩,.string ⟨⟨D⟩⟩]) R6 (yi R2 hr4 rfl zb rfl) R2 ?_
 cases E with
 |cons x E=>
  repeat (first|refine yn R6 (zX rfl hr4 R2) R2 ?_|refine zD ?_)
  refine vJ (cs:=[.bool mi,.string ⟨⟨y::M⟩⟩,.string ⟨⟨D⟩⟩]) R8 hr2 zb (by show 3*n≤3*n+2;omega) rfl rfl rfl ?_
  repeat refine zD ?_
  refine zN ?_
  exact yq (.bool false) (cs:=[.bool mi,.string ⟨⟨y::M⟩⟩,.string ⟨⟨D⟩⟩]) R6 (ze _ _ _) rfl zo (fun b hb=>(zi zo).trans (hx b hb)) rfl
 |nil=>
 cases D with
 |nil=>
  repeat (first|refine yn R6 (zX rfl hr4 R2) R2 ?_|refine zD ?_)
  refine vJ (cs:=[.bool mi,.string ⟨⟨y::M⟩⟩,.string ⟨⟨[]⟩⟩]) R8 hr2 zb (by show 3*n≤3*n+2;omega) rfl rfl rfl ?_
  repeat refine zD ?_
  refine zN ?_
  exact yq (.bool false) (cs:=[.bool mi,.string ⟨⟨y::M⟩⟩,.string ⟨⟨[]⟩⟩]) R6 (ze _ _ _) rfl zo (fun b hb=>(zi zo).trans (hx b hb)) rfl
 |cons u D=>
 by_cases hu:u.toNat=48
 ·have hu':u=48:=UInt8.toNat_inj.1 hu
  repeat (first|refine yn R6 (zX rfl hr4 R2) R2 ?_|refine zD ?_)
  refine vJ (cs:=[.bool mi,.string ⟨⟨y::M⟩⟩,.string ⟨⟨u::D⟩⟩]) R8 hr2 zb (by show 3*n≤3*n+2;omega) rfl rfl rfl ?_
  repeat refine zD ?_
  refine zN ?_
  refine yq (.bool false) (cs:=[.bool mi,.string ⟨⟨y::M⟩⟩,.string ⟨⟨u::D⟩⟩]) R6 (ze _ _ _) rfl zo (fun b hb=>(zi zo).trans (hx b hb)) ?_
  rw [hu'];rfl
 have hu':((u::D).head? != some 48)=true:=by
  have:=mh (l:=D) (c:=48) hu
  simpa using this
 repeat (first|refine yn R6 (zX rfl hr4 R2) R2 ?_|refine zD ?_)
 refine vJ (cs:=[.bool mi,.string ⟨⟨y::M⟩⟩,.string ⟨⟨u::D⟩⟩]) R8 hr2 zb (by show 3*n≤3*n+2;omega) rfl rfl (nT (by intro x hx;simp at hx;rcases hx with rfl|rfl|rfl|rfl<;>show 3*(n+1)+2≠3*n+2<;>omega)) ?_
 repeat refine zD ?_
 refine zN ?_
 refine yq (.bool (u::D != [49])) (cs:=[.bool mi,.string ⟨⟨y::M⟩⟩,.string ⟨⟨u::D⟩⟩]) R6 (ze _ _ _) rfl zo (fun b hb=>(zi zo).trans (hx b hb)) ?_
 rw [hu'];rfl
end
def dotR:List Rat→List Rat→Rat
 |x::xs,y::ys=>x*y+dotR xs ys
 |_,_=>0
theorem ub (ys:List Rat):dotR [] ys=0:=by cases ys<;>rfl
theorem oM:∀{xs ys:List Rat} {x y:Rat},xs.length=ys.length→dotR (xs++[x]) (ys++[y])=dotR xs ys+x*y:=by
 intro xs
 induction xs with
 |nil=>
  intro ys x y h
  cases ys with
  |nil=>show x*y+0=0+x*y;rw [Rat.add_zero,Rat.zero_add]
  |cons _ _=>cases h
 |cons a xs ih=>
  intro ys x y h
  cases ys with
  |nil=>cases h
  |cons b ys=>
   show a*b+dotR (xs++[x]) (ys++[y])=a*b+dotR xs ys+x*y
   rw [ih (by simpa using h),Rat.add_assoc]
theorem yD {l:List α}{d:α}(h:l[j]?=some d):l.take (j+1)=l.take j++[d]:=by
 rw [List.take_add_one,h];rfl
theorem xi {x y:Rat}(hx:xs[j]?=some x)(hy:ys[j]?=some y):dotR (xs.take (j+1)) (ys.take (j+1))=dotR (xs.take j) (ys.take j)+x*y:=by
 rw [yD hx,yD hy]
 have h1:=(List.getElem?_eq_some_iff.1 hx).1
 have h2:=(List.getElem?_eq_some_iff.1 hy).1
 exact oM (by rw [List.length_take,List.length_take];omega)
theorem mC {a:Nat}(hx:∀q∈xs,Sz a q)(hy:∀q∈ys,Sz b q):∀j,j≤xs.length→j≤ys.length→Sz (1+j*(a+b+1)) (dotR (xs.take j) (ys.take j)):=by
 intro j
 induction j with
 |zero=>intro _ _;rw [List.take_zero,ub];exact Sz.zero _ zo
 |succ j ih=>
  intro h1 h2
  have e1:=List.getElem?_eq_getElem (l:=xs) (i:=j) zo
  have e2:=List.getElem?_eq_getElem (l:=ys) (i:=j) zo
  rw [xi e1 e2]
  refine ((ih zo zo).add ((hx _ (List.mem_of_getElem? e1)).mul (hy _ (List.mem_of_getElem? e2)))).mono ?_
  rw [Nat.succ_mul];omega
theorem d9:∀{xs ys:List Rat},ys.length≤xs.length→dotR xs ys=dotR (xs.take ys.length) ys:=by
 intro xs
 induction xs with
 |nil=>intro ys _;rw [List.take_nil]
 |cons x xs ih=>
  intro ys h
  cases ys with
  |nil=>rfl
  |cons y ys=>show x*y+dotR xs ys=x*y+dotR (xs.take ys.length) ys;rw [ih (by simpa using h)]
theorem zcc (k:Nat)(h:HF)(n:Nat)(s:List UInt8)(hs:s.length<1000000):CX (cal (k+4)) 123 [.string ⟨⟨s⟩⟩] h n fun v _ _=>∃neg m d ok,v=.tuple #[.agg #[.bool neg,.string ⟨⟨m⟩⟩,.string ⟨⟨d⟩⟩],.bool ok]∧neg=zO s∧spl s=(m,d,ok):=by
 refine xJ (lb k h n s hs) ?_
 rintro v h' n' w ⟨h1,h2,h3,rfl⟩
 exact ⟨h1,h2,h3,_,_,_,_,rfl,rfl,rfl⟩
theorem gr (k:Nat)(h:HF)(n:Nat)(hs:AllD s)(hl:s.length≤570):CX (cal (k+6)) 124 [.string ⟨⟨s⟩⟩] h n (IV ((dval s:Nat):Int)):=by
 refine xJ (gt k h n hs hl) ?_
 rintro v h' n' w ⟨a,l,c,L,rfl,⟨h1,h2,h3,h4,h5⟩,h6⟩
 refine ⟨h1,h2,h3,_,_,_,_,rfl,?_,L,h4,h5,?_⟩
 ·rw [decide_eq_false];omega
 rw [h6];omega
theorem Frm.len {m d:List UInt8}(h:Frm s m d):m.length≤s.length∧d.length≤s.length:=by
 have:=congrArg List.length h.eq
 simp only [List.length_append] at this
 refine ⟨zo,?_⟩
 by_cases hd:d=[]
 ·subst hd;exact Nat.zero_le _
 rw [if_neg hd,List.length_cons] at this;omega
theorem pz {m:List UInt8}(h:AllD m)(hl:m.length≤600):((dval m:Nat):Int).natAbs<BW:=by
 rw [Int.natAbs_natCast]
 refine Nat.lt_of_lt_of_le (tP h) (Nat.le_trans (Nat.pow_le_pow_right zd hl) ?_)
 unfold BW
 decide+kernel
theorem i7 {m d:List UInt8}(h:spl s=(m,d,false)):¬wu s:=by
 rw [rK,h]
 rintro ⟨h1,_⟩
 cases h1
theorem wI {m d:List UInt8}(h:spl s=(m,d,true))(hd:d=[]):wu s∧(zm s).num=(if zO s then -(dval m:Int) else dval m)∧denZ (zm s)=0:=by
 obtain ⟨q,h1,h2,h3⟩:=(tr h).rat (.inl hd)
 rw [sV h1]
 rw [if_pos hd] at h3
 exact ⟨⟨q,h1⟩,h2,yo.2 h3⟩
theorem vZ {m d:List UInt8}(h:spl s=(m,d,true))(hd:¬d=[])(hg:Nat.gcd (dval m) (dval d)=1):wu s∧(zm s).num=(if zO s then -(dval m:Int) else dval m)∧denZ (zm s)=((dval d:Nat):Int):=by
 have hf:=tr h
 obtain ⟨q,h1,h2,h3⟩:=hf.rat (.inr hg)
 rw [sV h1]
 rw [if_neg hd] at h3
 refine ⟨⟨q,h1⟩,h2,?_⟩
 rw [←h3]
 refine wz (mt yo.1 fun e=>?_)
 rcases hf.den with h4|⟨h4,h5⟩
 ·exact hd h4
 have:=tS hf.dd hd h4
 rw [←h3,e,ke] at this
 exact h5 this.symm
theorem tK {m d:List UInt8}(h:spl s=(m,d,true))(hd:¬d=[])(hg:¬Nat.gcd (dval m) (dval d)=1):¬wu s:=by
 rw [rK,h]
 rintro ⟨_,h1|h1⟩
 ·exact hd h1
 exact hg h1
section
variable {hi s:List UInt8}{h:HF}{b n:Nat}
def TL (s:List UInt8):Prop:=s.length<1000000∧∀m d,spl s=(m,d,true)→m.length≤570∧d.length≤570
theorem TL.of (h:s.length<500):TL s:=⟨zo,fun m d e=>by have:=(tr e).len;omega⟩
theorem zcj (k:Nat)(g:GG h n)(hs:TL s):CX (cal (k+9)) 74 [.string ⟨⟨s⟩⟩] h n fun v h' n'=>∃b a l c d e f g ok,v=.tuple #[.agg #[.bool b,.slice a l c,.bool d,.slice e f g],.bool ok]∧IW h' n' b a l c (zm s).num∧IW h' n' d e f g (denZ (zm s))∧(ok=true↔wu s):=by
 refine zn (fn:=Tryz.f74) R4 ?_
 refine zG ?_
 refine sA ?_
 intro h11 p11 x11
 refine zG ?_
 refine sC (zcc _ _ _ s hs.1) ?_
 rintro _ h12 n12 ⟨neg12,m12,d12,ok12,rfl,z12,w12⟩ y12 x12
 cases ok12
 ·refine zG ?_
  refine sA ?_
  intro h13 p13 x13
  refine sS [.bool neg12,.string ⟨⟨m12⟩⟩,.string ⟨⟨d12⟩⟩] ?_
  intro h14 p14 o14
  refine zG ?_
  refine sT #[.bool false,.slice none 0 0,.bool false,.slice none 0 0] ?_
  refine sS [.bool false,.slice none 0 0,.bool false,.slice none 0 0] ?_
  intro h15 p15 o15
  refine zq ?_
  exact ⟨_,_,_,_,_,_,_,_,_,rfl,(IW.zero _ _).as (by rw [xM (i7 w12)];rfl),(IW.zero _ _).as (by rw [xM (i7 w12)];rfl),⟨fun hq=>(by cases hq),fun hq=>absurd hq (i7 w12)⟩⟩
 have f12:=tr w12
 have fl12:=hs.2 _ _ w12
 refine zG ?_
 refine sA ?_
 intro h16 p16 x16
 refine sS [.bool neg12,.string ⟨⟨m12⟩⟩,.string ⟨⟨d12⟩⟩] ?_
 intro h17 p17 o17
 refine zG ?_
 refine sC (gr _ _ _ f12.dm zo) ?_
 rintro _ h18 n18 ⟨b18,a18,l18,c18,rfl,i18⟩ y18 x18
 refine sT #[.bool b18,.slice a18 l18 c18,.bool false,.slice none 0 0] ?_
 refine sA ?_
 intro h19 p19 x19
 refine sS [.bool b18,.slice a18 l18 c18,.bool false,.slice none 0 0] ?_
 intro h20 p20 o20
 refine zG ?_
 cases neg12
 ·refine zG ?_
  by_cases q21:d12=[]
  ·refine wU true R6 (by simp [q21]) ?_
   refine zG ?_
   refine sS [.bool b18,.slice a18 l18 c18,.bool false,.slice none 0 0] ?_
   intro h22 p22 o22
   refine zq ?_
   exact ⟨_,_,_,_,_,_,_,_,_,rfl,(i18.t zt).as (by rw [(wI w12 q21).2.1,←z12];rfl),(IW.zero _ _).as (wI w12 q21).2.2.symm,⟨fun _=>(wI w12 q21).1,fun _=>rfl⟩⟩
  refine wU false R6 (by simp [q21]) ?_
  refine zG ?_
  refine sC (gr _ _ _ f12.dd zo) ?_
  rintro _ h23 n23 ⟨b23,a23,l23,c23,rfl,i23⟩ y23 x23
  refine zG ?_
  refine sS (b:=3*n18+2) (off:=2) [.bool b18,.slice a18 l18 c18,.bool b23,.slice a23 l23 c23] ?_
  intro h24 p24 o24
  refine zG ?_
  refine sC (gcdX _ (g.x zx) (i18.t zt) (i23.t zt) (pz f12.dm zo) (pz f12.dd zo)) ?_
  rintro _ h25 n25 ⟨b25,a25,l25,c25,rfl,i25⟩ y25 x25
  refine sC (qL _ i25) ?_
  rintro _ h26 n26 ⟨b26,rfl,bq26⟩ y26 x26
  rcases bvs bq26 with ⟨rfl,q26⟩|⟨rfl,q26⟩
  ·refine zG ?_
   refine sT #[.bool false,.slice none 0 0,.bool false,.slice none 0 0] ?_
   refine sS [.bool false,.slice none 0 0,.bool false,.slice none 0 0] ?_
   intro h27 p27 o27
   refine zq ?_
   exact ⟨_,_,_,_,_,_,_,_,_,rfl,(IW.zero _ _).as (by rw [xM (tK w12 q21 (by have:=q26;simp only [Int.natAbs_neg,Int.natAbs_natCast] at this;omega))];rfl),(IW.zero _ _).as (by rw [xM (tK w12 q21 (by have:=q26;simp only [Int.natAbs_neg,Int.natAbs_natCast] at this;omega))];rfl),⟨fun hq=>(by cases hq),fun hq=>absurd hq (tK w12 q21 (by have:=q26;simp only [Int.natAbs_neg,Int.natAbs_natCast] at this;omega))⟩⟩
  refine zG ?_
  refine sS [.bool b18,.slice a18 l18 c18,.bool b23,.slice a23 l23 c23] ?_
  intro h28 p28 o28
  refine zq ?_
  exact ⟨_,_,_,_,_,_,_,_,_,rfl,(i18.t zt).as (by rw [(vZ w12 q21 (by have:=q26;simp only [Int.natAbs_neg,Int.natAbs_natCast] at this;omega)).2.1,←z12];rfl),(i23.t zt).as (vZ w12 q21 (by have:=q26;simp only [Int.natAbs_neg,Int.natAbs_natCast] at this;omega)).2.2.symm,⟨fun _=>(vZ w12 q21 (by have:=q26;simp only [Int.natAbs_neg,Int.natAbs_natCast] at this;omega)).1,fun _=>rfl⟩⟩
 refine zG ?_
 refine sC (negX _ (i18.t zt)) ?_
 rintro _ h29 n29 ⟨b29,a29,l29,c29,rfl,i29⟩ y29 x29
 refine zG ?_
 refine sS [.bool b29,.slice a29 l29 c29,.bool false,.slice none 0 0] ?_
 intro h30 p30 o30
 refine zG ?_
 by_cases q31:d12=[]
 ·refine wU true R6 (by simp [q31]) ?_
  refine zG ?_
  refine sS [.bool b29,.slice a29 l29 c29,.bool false,.slice none 0 0] ?_
  intro h32 p32 o32
  refine zq ?_
  exact ⟨_,_,_,_,_,_,_,_,_,rfl,(i29.t zt).as (by rw [(wI w12 q31).2.1,←z12];rfl),(IW.zero _ _).as (wI w12 q31).2.2.symm,⟨fun _=>(wI w12 q31).1,fun _=>rfl⟩⟩
 refine wU false R6 (by simp [q31]) ?_
 refine zG ?_
 refine sC (gr _ _ _ f12.dd zo) ?_
 rintro _ h33 n33 ⟨b33,a33,l33,c33,rfl,i33⟩ y33 x33
 refine zG ?_
 refine sS (b:=3*n18+2) (off:=2) [.bool b29,.slice a29 l29 c29,.bool b33,.slice a33 l33 c33] ?_
 intro h34 p34 o34
 refine zG ?_
 refine sC (gcdX _ (g.x zx) (i29.t zt) (i33.t zt) (by rw [Int.natAbs_neg];exact (pz f12.dm zo)) (pz f12.dd zo)) ?_
 rintro _ h35 n35 ⟨b35,a35,l35,c35,rfl,i35⟩ y35 x35
 refine sC (qL _ i35) ?_
 rintro _ h36 n36 ⟨b36,rfl,bq36⟩ y36 x36
 rcases bvs bq36 with ⟨rfl,q36⟩|⟨rfl,q36⟩
 ·refine zG ?_
  refine sT #[.bool false,.slice none 0 0,.bool false,.slice none 0 0] ?_
  refine sS [.bool false,.slice none 0 0,.bool false,.slice none 0 0] ?_
  intro h37 p37 o37
  refine zq ?_
  exact ⟨_,_,_,_,_,_,_,_,_,rfl,(IW.zero _ _).as (by rw [xM (tK w12 q31 (by have:=q36;simp only [Int.natAbs_neg,Int.natAbs_natCast] at this;omega))];rfl),(IW.zero _ _).as (by rw [xM (tK w12 q31 (by have:=q36;simp only [Int.natAbs_neg,Int.natAbs_natCast] at this;omega))];rfl),⟨fun hq=>(by cases hq),fun hq=>absurd hq (tK w12 q31 (by have:=q36;simp only [Int.natAbs_neg,Int.natAbs_natCast] at this;omega))⟩⟩
 refine zG ?_
 refine sS [.bool b29,.slice a29 l29 c29,.bool b33,.slice a33 l33 c33] ?_
 intro h38 p38 o38
 refine zq ?_
 exact ⟨_,_,_,_,_,_,_,_,_,rfl,(i29.t zt).as (by rw [(vZ w12 q31 (by have:=q36;simp only [Int.natAbs_neg,Int.natAbs_natCast] at this;omega)).2.1,←z12];rfl),(i33.t zt).as (vZ w12 q31 (by have:=q36;simp only [Int.natAbs_neg,Int.natAbs_natCast] at this;omega)).2.2.symm,⟨fun _=>(vZ w12 q31 (by have:=q36;simp only [Int.natAbs_neg,Int.natAbs_natCast] at this;omega)).1,fun _=>rfl⟩⟩
theorem zck (k:Nat)(g:GG h n)(hs:s.length<500):CX (cal (k+9)) 74 [.string ⟨⟨s⟩⟩] h n fun v h' n'=>∃b a l c d e f g ok,v=.tuple #[.agg #[.bool b,.slice a l c,.bool d,.slice e f g],.bool ok]∧IW h' n' b a l c (zm s).num∧IW h' n' d e f g (denZ (zm s))∧(ok=true↔wu s):=zcj k g (.of hs)
def bdOk (s:List UInt8):Prop:=s=[]∨wu s
theorem rE:¬wu []:=by
 rw [rK]
 rintro ⟨h,_⟩
 revert h
 decide
def pairOk (lo hi:List UInt8):Prop:=bdOk lo∧bdOk hi∧(lo=[]∨hi=[]∨zm lo≤zm hi)
theorem tD (k:Nat)(g:GG h n)(hs:s.length<500):CX (cal (k+10)) 122 [.string ⟨⟨s⟩⟩] h n fun v h' n'=>∃x b a l c d e f g ok,v=.tuple #[.agg #[.bool x,.bool b,.slice a l c,.bool d,.slice e f g],.bool ok]∧(x=true↔s≠[])∧IW h' n' b a l c (zm s).num∧IW h' n' d e f g (denZ (zm s))∧(ok=true↔bdOk s):=by
 refine zn (fn:=Tryz.f122) R4 ?_
 refine zG ?_
 refine sA ?_
 intro h11 p11 x11
 refine zG ?_
 by_cases q12:s=[]
 ·refine wU true R6 (by simp [q12]) ?_
  refine zG ?_
  refine sT #[.bool false,.bool false,.slice none 0 0,.bool false,.slice none 0 0] ?_
  refine sS [.bool false,.bool false,.slice none 0 0,.bool false,.slice none 0 0] ?_
  intro h13 p13 o13
  refine zq ?_
  exact ⟨_,_,_,_,_,_,_,_,_,_,rfl,⟨fun hq=>(by cases hq),fun hq=>absurd q12 hq⟩,(IW.zero _ _).as (by rw [q12,xM rE];rfl),(IW.zero _ _).as (by rw [q12,xM rE];rfl),⟨fun _=>.inl q12,fun _=>rfl⟩⟩
 refine wU false R6 (by simp [q12]) ?_
 refine zG ?_
 refine sC (zck _ (g.x zx) hs) ?_
 rintro _ h14 n14 ⟨b14,a14,l14,c14,d14,e14,f14,g14,ok14,rfl,i14,j14,bm14⟩ y14 x14
 rcases bvs bm14 with ⟨rfl,m14⟩|⟨rfl,m14⟩
 ·refine zG ?_
  refine sA ?_
  intro h15 p15 x15
  refine sS [.bool b14,.slice a14 l14 c14,.bool d14,.slice e14 f14 g14] ?_
  intro h16 p16 o16
  refine zG ?_
  refine sT #[.bool true,.bool b14,.slice a14 l14 c14,.bool d14,.slice e14 f14 g14] ?_
  refine zG ?_
  refine sS [.bool true,.bool b14,.slice a14 l14 c14,.bool d14,.slice e14 f14 g14] ?_
  intro h17 p17 o17
  refine zq ?_
  exact ⟨_,_,_,_,_,_,_,_,_,_,rfl,⟨fun _=>q12,fun _=>rfl⟩,(i14.t zt),(j14.t zt),⟨fun hq=>(by cases hq),fun hq=>by rcases hq with hq|hq;exact absurd hq q12;exact absurd hq m14⟩⟩
 refine zG ?_
 refine sA ?_
 intro h18 p18 x18
 refine sS [.bool b14,.slice a14 l14 c14,.bool d14,.slice e14 f14 g14] ?_
 intro h19 p19 o19
 refine zG ?_
 refine sT #[.bool true,.bool b14,.slice a14 l14 c14,.bool d14,.slice e14 f14 g14] ?_
 refine zG ?_
 refine sS [.bool true,.bool b14,.slice a14 l14 c14,.bool d14,.slice e14 f14 g14] ?_
 intro h20 p20 o20
 refine zq ?_
 exact ⟨_,_,_,_,_,_,_,_,_,_,rfl,⟨fun _=>q12,fun _=>rfl⟩,(i14.t zt),(j14.t zt),⟨fun _=>.inr m14,fun _=>rfl⟩⟩
theorem oe (k:Nat)(g:GG h n){lo:List UInt8}(hlo:lo.length<500)(hhi:hi.length<500){a:Nat}(slo:Sz a (zm lo))(shi:Sz b (zm hi))(hab:a+b≤2496):CX (cal (k+11)) 73 [.string ⟨⟨lo⟩⟩,.string ⟨⟨hi⟩⟩] h n fun v h' n'=>∃x1 b1 a1 l1 c1 d1 e1 f1 g1 x2 b2 a2 l2 c2 d2 e2 f2 g2 ok,v=.tuple #[.agg #[.slice none 0 0,.bool x1,.bool b1,.slice a1 l1 c1,.bool d1,.slice e1 f1 g1,.bool x2,.bool b2,.slice a2 l2 c2,.bool d2,.slice e2 f2 g2],.bool ok]∧(ok=true↔pairOk lo hi)∧(ok=true→(x1=true↔lo≠[])∧IW h' n' b1 a1 l1 c1 (zm lo).num∧IW h' n' d1 e1 f1 g1 (denZ (zm lo))∧(x2=true↔hi≠[])∧IW h' n' b2 a2 l2 c2 (zm hi).num∧IW h' n' d2 e2 f2 g2 (denZ (zm hi))):=by
 refine zn (fn:=Tryz.f73) R4 ?_
 refine zG ?_
 refine sA ?_
 intro h11 p11 x11
 refine zG ?_
 refine sC (tD _ (g.x zx) hlo) ?_
 rintro _ h12 n12 ⟨ex12,b12,a12,l12,c12,d12,e12,f12,g12,ok12,rfl,v12,i12,j12,bm12⟩ y12 x12
 rcases bvs bm12 with ⟨rfl,m12⟩|⟨rfl,m12⟩
 ·refine zG ?_
  refine sA ?_
  intro h13 p13 x13
  refine sS [.bool ex12,.bool b12,.slice a12 l12 c12,.bool d12,.slice e12 f12 g12] ?_
  intro h14 p14 o14
  refine zG ?_
  refine sC (tD _ (g.x zx) hhi) ?_
  rintro _ h15 n15 ⟨ex15,b15,a15,l15,c15,d15,e15,f15,g15,ok15,rfl,v15,i15,j15,bm15⟩ y15 x15
  rcases bvs bm15 with ⟨rfl,m15⟩|⟨rfl,m15⟩
  ·refine zG ?_
   refine sA ?_
   intro h16 p16 x16
   refine sS [.bool ex15,.bool b15,.slice a15 l15 c15,.bool d15,.slice e15 f15 g15] ?_
   intro h17 p17 o17
   refine zG ?_
   refine sT #[.slice none 0 0,.bool false,.bool false,.slice none 0 0,.bool false,.slice none 0 0,.bool false,.bool false,.slice none 0 0,.bool false,.slice none 0 0] ?_
   refine sS [.slice none 0 0,.bool false,.bool false,.slice none 0 0,.bool false,.slice none 0 0,.bool false,.bool false,.slice none 0 0,.bool false,.slice none 0 0] ?_
   intro h18 p18 o18
   refine zq ?_
   exact ⟨_,_,_,_,_,_,_,_,_,_,_,_,_,_,_,_,_,_,_,rfl,⟨fun hq=>(by cases hq),fun hq=>absurd hq.1 m12⟩,fun hq=>(by cases hq)⟩
  refine zG ?_
  refine sA ?_
  intro h19 p19 x19
  refine sS [.bool ex15,.bool b15,.slice a15 l15 c15,.bool d15,.slice e15 f15 g15] ?_
  intro h20 p20 o20
  refine zG ?_
  refine sT #[.slice none 0 0,.bool false,.bool false,.slice none 0 0,.bool false,.slice none 0 0,.bool false,.bool false,.slice none 0 0,.bool false,.slice none 0 0] ?_
  refine sS [.slice none 0 0,.bool false,.bool false,.slice none 0 0,.bool false,.slice none 0 0,.bool false,.bool false,.slice none 0 0,.bool false,.slice none 0 0] ?_
  intro h21 p21 o21
  refine zq ?_
  exact ⟨_,_,_,_,_,_,_,_,_,_,_,_,_,_,_,_,_,_,_,rfl,⟨fun hq=>(by cases hq),fun hq=>absurd hq.1 m12⟩,fun hq=>(by cases hq)⟩
 refine zG ?_
 refine sA ?_
 intro h22 p22 x22
 refine sS [.bool ex12,.bool b12,.slice a12 l12 c12,.bool d12,.slice e12 f12 g12] ?_
 intro h23 p23 o23
 refine zG ?_
 refine sC (tD _ (g.x zx) hhi) ?_
 rintro _ h24 n24 ⟨ex24,b24,a24,l24,c24,d24,e24,f24,g24,ok24,rfl,v24,i24,j24,bm24⟩ y24 x24
 rcases bvs bm24 with ⟨rfl,m24⟩|⟨rfl,m24⟩
 ·refine zG ?_
  refine sA ?_
  intro h25 p25 x25
  refine sS [.bool ex24,.bool b24,.slice a24 l24 c24,.bool d24,.slice e24 f24 g24] ?_
  intro h26 p26 o26
  refine zG ?_
  refine sT #[.slice none 0 0,.bool false,.bool false,.slice none 0 0,.bool false,.slice none 0 0,.bool false,.bool false,.slice none 0 0,.bool false,.slice none 0 0] ?_
  refine sS [.slice none 0 0,.bool false,.bool false,.slice none 0 0,.bool false,.slice none 0 0,.bool false,.bool false,.slice none 0 0,.bool false,.slice none 0 0] ?_
  intro h27 p27 o27
  refine zq ?_
  exact ⟨_,_,_,_,_,_,_,_,_,_,_,_,_,_,_,_,_,_,_,rfl,⟨fun hq=>(by cases hq),fun hq=>absurd hq.2.1 m24⟩,fun hq=>(by cases hq)⟩
 refine zG ?_
 refine sA ?_
 intro h28 p28 x28
 refine sS [.bool ex24,.bool b24,.slice a24 l24 c24,.bool d24,.slice e24 f24 g24] ?_
 intro h29 p29 o29
 refine zG ?_
 cases ex12
 ·refine zG ?_
  refine sT #[.slice none 0 0,.bool false,.bool b12,.slice a12 l12 c12,.bool d12,.slice e12 f12 g12,.bool ex24,.bool b24,.slice a24 l24 c24,.bool d24,.slice e24 f24 g24] ?_
  refine sS [.slice none 0 0,.bool false,.bool b12,.slice a12 l12 c12,.bool d12,.slice e12 f12 g12,.bool ex24,.bool b24,.slice a24 l24 c24,.bool d24,.slice e24 f24 g24] ?_
  intro h30 p30 o30
  refine zq ?_
  exact ⟨_,_,_,_,_,_,_,_,_,_,_,_,_,_,_,_,_,_,_,rfl,⟨fun _=>⟨m12,m24,.inl (Classical.byContradiction fun hq=>by cases v12.2 hq)⟩,fun _=>rfl⟩,fun _=>⟨v12,(i12.t zt),(j12.t zt),v24,(i24.t zt),(j24.t zt)⟩⟩
 refine zG ?_
 cases ex24
 ·refine zG ?_
  refine sT #[.slice none 0 0,.bool true,.bool b12,.slice a12 l12 c12,.bool d12,.slice e12 f12 g12,.bool false,.bool b24,.slice a24 l24 c24,.bool d24,.slice e24 f24 g24] ?_
  refine sS [.slice none 0 0,.bool true,.bool b12,.slice a12 l12 c12,.bool d12,.slice e12 f12 g12,.bool false,.bool b24,.slice a24 l24 c24,.bool d24,.slice e24 f24 g24] ?_
  intro h31 p31 o31
  refine zq ?_
  exact ⟨_,_,_,_,_,_,_,_,_,_,_,_,_,_,_,_,_,_,_,rfl,⟨fun _=>⟨m12,m24,.inr (.inl (Classical.byContradiction fun hq=>by cases v24.2 hq))⟩,fun _=>rfl⟩,fun _=>⟨v12,(i12.t zt),(j12.t zt),v24,(i24.t zt),(j24.t zt)⟩⟩
 refine zG ?_
 refine sC ((wJ _ (i12.t zt) (j12.t zt) (i24.t zt) (j24.t zt) slo shi zo).cx) ?_
 rintro _ h32 n32 ⟨s32,rfl,q32⟩ y32 x32
 rcases q32 with ⟨rfl,q32⟩|⟨rfl,q32⟩|⟨rfl,q32⟩
 ·refine zG ?_
  refine sT #[.slice none 0 0,.bool true,.bool b12,.slice a12 l12 c12,.bool d12,.slice e12 f12 g12,.bool true,.bool b24,.slice a24 l24 c24,.bool d24,.slice e24 f24 g24] ?_
  refine sS [.slice none 0 0,.bool true,.bool b12,.slice a12 l12 c12,.bool d12,.slice e12 f12 g12,.bool true,.bool b24,.slice a24 l24 c24,.bool d24,.slice e24 f24 g24] ?_
  intro h33 p33 o33
  refine zq ?_
  exact ⟨_,_,_,_,_,_,_,_,_,_,_,_,_,_,_,_,_,_,_,rfl,⟨fun _=>⟨m12,m24,.inr (.inr (Rat.le_of_lt q32))⟩,fun _=>rfl⟩,fun _=>⟨v12,(i12.t zt),(j12.t zt),v24,(i24.t zt),(j24.t zt)⟩⟩
 ·refine zG ?_
  refine sT #[.slice none 0 0,.bool true,.bool b12,.slice a12 l12 c12,.bool d12,.slice e12 f12 g12,.bool true,.bool b24,.slice a24 l24 c24,.bool d24,.slice e24 f24 g24] ?_
  refine sS [.slice none 0 0,.bool true,.bool b12,.slice a12 l12 c12,.bool d12,.slice e12 f12 g12,.bool true,.bool b24,.slice a24 l24 c24,.bool d24,.slice e24 f24 g24] ?_
  intro h34 p34 o34
  refine zq ?_
  exact ⟨_,_,_,_,_,_,_,_,_,_,_,_,_,_,_,_,_,_,_,rfl,⟨fun _=>⟨m12,m24,.inr (.inr (by rw [q32];exact Rat.le_refl))⟩,fun _=>rfl⟩,fun _=>⟨v12,(i12.t zt),(j12.t zt),v24,(i24.t zt),(j24.t zt)⟩⟩
 refine zG ?_
 refine sT #[.slice none 0 0,.bool false,.bool false,.slice none 0 0,.bool false,.slice none 0 0,.bool false,.bool false,.slice none 0 0,.bool false,.slice none 0 0] ?_
 refine sS [.slice none 0 0,.bool false,.bool false,.slice none 0 0,.bool false,.slice none 0 0,.bool false,.bool false,.slice none 0 0,.bool false,.slice none 0 0] ?_
 intro h35 p35 o35
 refine zq ?_
 exact ⟨_,_,_,_,_,_,_,_,_,_,_,_,_,_,_,_,_,_,_,rfl,⟨fun hq=>(by cases hq),fun hq=>by rcases hq.2.2 with hq|hq|hq;exact absurd hq (v12.1 rfl);exact absurd hq (v24.1 rfl);exact absurd hq (Rat.not_le.2 q32)⟩,fun hq=>(by cases hq)⟩
end
section
variable {c cs:List Value}{h h':HF}{B cap j len lo m n n':Nat}{e:TypeId}{v:Value}{a:Option Addr}{S:List (List UInt8)}
structure StayO {D:Type}(P:List Value→D→HF→Nat→Prop):Prop where
 go:∀c d h h' n b cs e,P c d h n→h b=some (.row cs e)→cs.all nu=true→Only b h h'→P c d h' n
theorem ratP.stayO:StayO ratP:=⟨fun _ _ _ _ _ _ _ _ ⟨b,a,l,k,d,e,f,g,e1,i,j⟩ hp hu ho=>⟨b,a,l,k,d,e,f,g,e1,i.only hp hu ho,j.only hp hu ho⟩⟩
theorem numP.stayO:StayO numP:=⟨fun _ _ _ _ _ _ _ _ ⟨b,a,l,k,d,e,f,g,e1,i,j⟩ hp hu ho=>⟨b,a,l,k,d,e,f,g,e1,i.only hp hu ho,j.only hp hu ho⟩⟩
structure Fil {D:Type}(P:List Value→D→HF→Nat→Prop)(h:HF)(n B:Nat)(cs:List Value)(e:TypeId)(S:List D)(j:Nat):Prop where
 row:h B=some (.row cs e)
 len:cs.length=S.length*4
 nus:cs.all nu=true
 rcs:Rec 4 (fun c d=>P c d h n) (cs.take (j*4)) (S.take j)
theorem rg {o:Nat}(h:o+c.length≤cs.length):(zl cs o c).take (o+c.length)=cs.take o++c∧(zl cs o c).length=cs.length:=by
 unfold zl
 constructor
 ·rw [←List.append_assoc,List.take_append_of_le_length (by simp only [List.length_append,List.length_take];omega),List.take_of_length_le (by simp only [List.length_append,List.length_take];omega)]
 simp only [List.length_append,List.length_take,List.length_drop];omega
theorem jm {o:Nat}(h1:cs.all nu=true)(h2:c.all nu=true):(zl cs o c).all nu=true:=by
 unfold zl
 rw [List.all_eq_true] at*
 intro x hx
 simp only [List.mem_append] at hx
 rcases hx with hx|hx|hx
 ·exact h1 x (List.mem_of_mem_take hx)
 ·exact h2 x hx
 exact h1 x (List.mem_of_mem_drop hx)
section
variable {D:Type}{P:List Value→D→HF→Nat→Prop}
theorem Fil.ext (hP:Stay P){S:List D}(f:Fil P h n B cs e S j)(x:Ext n h h')(hn:n≤n')(hB:B<3*n):Fil P h' n' B cs e S j:=
 ⟨(x B hB).trans f.row,f.len,f.nus,f.rcs.mono fun c d hp=>hP.go c d _ _ _ _ hp x hn⟩
theorem Fil.step (hO:StayO P){S:List D}{d:D}(f:Fil P h n B cs e S j)(hj:S[j]?=some d)(hc:c.length=4)(hn:c.all nu=true)(hp:P c d h n):Fil P (upd h B (some (.row (zl cs (j*4) c) e))) n B (zl cs (j*4) c) e S (j+1):=by
 have hjl:=(List.getElem?_eq_some_iff.1 hj).1
 have hlen:j*4+c.length≤cs.length:=by rw [f.len,hc];omega
 obtain ⟨t1,t2⟩:=rg hlen
 have ho:Only B h (upd h B (some (.row (zl cs (j*4) c) e))):=fun b hb=>zi hb
 refine ⟨ze _ _ _,t2.trans f.len,jm f.nus hn,?_⟩
 rw [hc] at t1
 rw [Nat.succ_mul,t1,yD hj]
 exact (f.rcs.mono fun c d hp=>hO.go c d _ _ _ _ _ _ hp f.row f.nus ho).snoc hc (hO.go c d _ _ _ _ _ _ hp f.row f.nus ho)
theorem Fil.start {z:List Value}{S:List D}(hr:h B=some (.row (rep m z) e))(hz:z.length=4)(hu:z.all nu=true)(hm:m=S.length):Fil P h n B (rep m z) e S 0:=by
 refine ⟨hr,by rw [zah,hz,hm],?_,by rw [Nat.zero_mul,List.take_zero,List.take_zero];exact .nil⟩
 clear hr hm
 induction m with
 |zero=>rfl
 |succ m ih=>rw [rep,List.all_append,hu,ih];rfl
theorem Fil.rs {S:List D}(f:Fil P h n B cs e S S.length)(hB:B<3*n):RS 4 P h n (.slice (some ⟨B,0,none⟩) S.length S.length) S:=by
 have hl:=f.len
 have hr:=f.rcs
 rw [List.take_length,←hl,List.take_length] at hr
 exact ⟨cs,.at_ hB f.row rfl (Nat.le_refl _) zo (by rw [List.drop_zero,List.take_of_length_le zo]),hr⟩
end
def QSL (lo:Nat)(h:HF)(n:Nat)(v:Value)(l:List Rat):Prop:=QS h n v l∧∀ad len cap,v=.slice (some ad) len cap→3*lo≤ad.block∧gro ad.block=false
theorem QSL.ext {l:List Rat}(r:QSL lo h n v l)(x:Ext n h h')(hn:n≤n'):QSL lo h' n' v l:=⟨r.1.ext x hn,r.2⟩
theorem QSL.x {l:List Rat}(r:QSL lo h n v l)(t:Tx n h n' h'):QSL lo h' n' v l:=r.ext t.2 t.1
theorem xf (k:Nat)(g:GG h n)(hs:Sl h n 1 (.slice a len cap) (strs S))(hl:∀s∈S,s.length<500)(hb:S.length<1000000):
  CX (cal (k+10)) 38 [.slice a len cap] h n fun v h' n'=>∃a' l' c' ok,v=.tuple #[.slice a' l' c',.bool ok]∧(ok=true↔∀s∈S,wu s)∧(ok=true→QSL n h' n' (.slice a' l' c') (S.map zm)):=by
 refine zn (fn:=Tryz.f38) R4 ?_
 have e1:=zI hs
 subst e1
 refine zN ?_
 repeat refine zR ?_
 refine zN ?_
 repeat refine zR ?_
 refine vz R9 zo ?_
 repeat refine zR ?_
 refine zN ?_
 repeat refine zR ?_
 refine zN ?_
 generalize hh:upd h (3*n+2) _=h1
 have hr1:∃cs,Fil ratP h1 (n+1) (3*n+2) cs 64 (S.map zm) 0:=⟨_,.start (by rw [←hh,ze]) rfl rfl (by rw [List.length_map])⟩
 have hx1:Ext n h h1:=by rw [←hh];exact Ext.upd zo
 clear hh
 refine zZ (α:=Nat) (fun z=>[(4,.slice (some ⟨3*n+2,0,none⟩) S.length S.length),(12,.slice a S.length cap),(13,.int .i64 (S.length:Int)),(14,.int .i64 (z:Int))])
  (fun z h' n' w'=>w'=[]∧n+1≤n'∧Ext n h h'∧(∃cs,Fil ratP h' n' (3*n+2) cs 64 (S.map zm) z)∧z≤S.length∧∀s∈S.take z,wu s) (fun z=>S.length-z)
  0 ⟨rfl,rfl,rfl,rfl,trivial⟩ ⟨rfl,Nat.le_refl _,hx1,hr1,Nat.zero_le _,fun s hs=>absurd hs (by simp)⟩ (by show S.length-0<LL;unfold LL;omega) ?_
 rintro z t h2 n2 _ ⟨rfl,hn2,hx2,⟨cs,hf⟩,hz,hall⟩
 refine zN ?_
 by_cases hze:z=S.length
 ·repeat refine zR ?_
  refine zN ?_
  rw [za rfl]
  refine zN ?_
  repeat refine zR ?_
  refine zN ?_
  rw [hze,List.take_length] at hall
  have hfr:=hf
  rw [hze,←List.length_map (f:=zm)] at hfr
  have hq:=hfr.rs (show 3*n+2<3*n2 by omega)
  rw [List.length_map] at hq
  exact retX [.slice (some ⟨3*n+2,0,none⟩) S.length S.length,.bool true] R3 (show n≤n2 by omega) hx2 ⟨_,_,_,_,rfl,⟨fun _=>hall,fun _=>rfl⟩,fun _=>⟨hq,fun ad l c e=>by cases e;exact ⟨by show 3*n≤3*n+2;omega,zC n⟩⟩⟩
 obtain ⟨s,hsz⟩:∃s,S[z]?=some s:=⟨S[z]'zo,List.getElem?_eq_getElem zo⟩
 have hmem:s∈S:=List.mem_of_getElem? hsz
 repeat refine zR ?_
 refine zN ?_
 rw [zc rfl]
 refine zN ?_
 refine zM ?_
 refine yj (f:=fun s=>Value.string ⟨⟨s⟩⟩) (j:=z) (dv:=s) R7 (hs.ext hx2 (show n≤n2 by omega)) R2 hsz (fun _=>rfl) R4 fun _=>?_
 repeat refine zR ?_
 refine zN ?_
 refine zM ?_
 refine na R5 (zck k (g.ext hx2 (show n≤n2 by omega)) (hl s hmem)) ?_
 rintro _ h3 n3 ⟨b,a1,l,c,d,e,f,g1,ok,rfl,i3,j3,hok⟩ hn3 hx3
 repeat refine zR ?_
 refine wk [.bool false,.slice none 0 0,.bool false,.slice none 0 0] R6 ?_
 intro h4 p4 x4
 refine iA [.bool b,.slice a1 l c,.bool d,.slice e f g1] R5 p4 rfl rfl rfl zb rfl (by show 3*n≤_;omega) ?_
 intro h5 p5 o5
 have hf4:=(hf.ext ratP.stay hx3 hn3 zo).ext ratP.stay x4 zs zo
 have x5:Ext n3 h4 h5:=fun b hb=>o5 b zo
 have i5:=(i3.ext x4 zs).only p4 rfl o5
 have j5:=(j3.ext x4 zs).only p4 rfl o5
 have hf5:Fil ratP h5 (n3+1) (3*n+2) cs 64 (S.map zm) z:=⟨(o5 _ zo).trans hf4.row,hf4.len,hf4.nus,hf4.rcs.mono fun c d hp=>ratP.stayO.go c d _ _ _ _ _ _ hp p4 rfl o5⟩
 have hx15:Ext n h h5:=fun b hb=>(x5 b zo).trans ((x4 b zo).trans ((hx3 b zo).trans (hx2 b hb)))
 repeat refine zR ?_
 refine zN ?_
 cases ok with
 |false=>
  repeat refine zR ?_
  refine zN ?_
  rw [zc rfl]
  refine zN ?_
  repeat refine zR ?_
  refine zN ?_
  exact retX [.slice none 0 0,.bool false] R3 (show n≤n3+1 by omega) hx15 ⟨_,_,_,_,rfl,⟨fun h=>absurd h (by simp),fun h=>hok.2 (h s hmem)⟩,fun h=>absurd h (by simp)⟩
 |true=>
 repeat refine zR ?_
 refine zN ?_
 rw [za rfl]
 refine zN ?_
 refine zM ?_
 refine zM ?_
 refine zQ (v:=.agg #[.bool b,.slice a1 l c,.bool d,.slice e f g1]) R5 (yi R2 p5 rfl zb rfl) ?_
 refine be (aq:=some ⟨3*n+2,0,none⟩) (j:=z) R9 zo ?_
 refine yg (b:=3*n+2) (off:=z*4) (cs:=[.bool b,.slice a1 l c,.bool d,.slice e f g1]) ⟨rfl,rfl,rfl,rfl,(by show Value.pointer (some ⟨3*n+2,0+z*4,none⟩)=_;rw [Nat.zero_add]),rfl,rfl,rfl⟩ hf5.row (by rw [hf5.len,List.length_map];omega) (by show 3*n≤_;omega) ?_
 have hf6:=hf5.step ratP.stayO (j:=z) (c:=[.bool b,.slice a1 l c,.bool d,.slice e f g1]) (by rw [List.getElem?_map,hsz];rfl) rfl rfl ⟨_,_,_,_,_,_,_,_,rfl,i5,j5⟩
 refine zN ?_
 repeat refine zR ?_
 refine zN ?_
 refine goOn (z+1) (by show S.length-(z+1)<S.length-z;omega) ⟨rfl,rfl,rfl,rfl,trivial⟩ ⟨rfl,by show n+1≤n3+1;omega,fun b hb=>(zi zo).trans (hx15 b hb),⟨_,hf6⟩,by show z+1≤S.length;omega,?_⟩
 intro s' hs'
 rw [yD hsz] at hs'
 rcases List.mem_append.1 hs' with h'|h'
 ·exact hall s' h'
 rw [List.mem_singleton.1 h'];exact hok.1 rfl
end
section
variable {c cl cs:List Value}{h':HF}{b cap j l lo' n' sz:Nat}{v:Value}{a:Option Addr}{e:TypeId}
structure SideD where
 A:List Rat
 lo:List UInt8
 hi:List UInt8
def vt (lo:Nat)(c:List Value)(d:SideD)(h:HF)(n:Nat):Prop:=∃aA lA kA x1 b1 a1 l1 c1 d1 e1 f1 g1 x2 b2 a2 l2 c2 d2 e2 f2 g2,c=[.slice aA lA kA,.bool x1,.bool b1,.slice a1 l1 c1,.bool d1,.slice e1 f1 g1,.bool x2,.bool b2,.slice a2 l2 c2,.bool d2,.slice e2 f2 g2]∧QSL lo h n (.slice aA lA kA) d.A∧(x1=true↔d.lo≠[])∧IW h n b1 a1 l1 c1 (zm d.lo).num∧IW h n d1 e1 f1 g1 (denZ (zm d.lo))∧(x2=true↔d.hi≠[])∧IW h n b2 a2 l2 c2 (zm d.hi).num∧IW h n d2 e2 f2 g2 (denZ (zm d.hi))
theorem vt.stay (lo:Nat):Stay (vt lo):=⟨fun _ _ _ _ _ _ ⟨aA,lA,kA,x1,b1,a1,l1,c1,d1,e1,f1,g1,x2,b2,a2,l2,c2,d2,e2,f2,g2,h0,h1,h2,h3,h4,h5,h6,h7⟩ x hn=>⟨aA,lA,kA,x1,b1,a1,l1,c1,d1,e1,f1,g1,x2,b2,a2,l2,c2,d2,e2,f2,g2,h0,h1.ext x hn,h2,h3.ext x hn,h4.ext x hn,h5,h6.ext x hn,h7.ext x hn⟩⟩
theorem vt.nus {lo:Nat}{d:SideD}{h:HF}{n:Nat}(s:vt lo c d h n):c.all nu=true∧ones c=true∧c.length=11:=by
 obtain ⟨aA,lA,kA,x1,b1,a1,l1,c1,d1,e1,f1,g1,x2,b2,a2,l2,c2,d2,e2,f2,g2,rfl,_⟩:=s
 exact ⟨rfl,rfl,rfl⟩
def Chg (lo n:Nat)(h h':HF):Prop:=∀b,b<3*n→h' b=h b∨((b<3*lo∨gro b=true)∧∃cs e,h b=some (.row cs e)∧cs.all nu=true)
theorem Sl.chgG {lo:Nat}{h:HF}{n:Nat}(s:Sl h n 1 v cl)(hcl:∀x∈cl,nu x=false)(hc:Chg lo n h h')(hn:n≤n'):Sl h' n' 1 v cl:=by
 cases s with
 |nil ha=>exact .nil (wp ha hn)
 | @at_ b2 off len cap x cs2 c2 hb hx hc2 hcap hl he=>
  rcases hc b2 hb with h1|⟨_,cs,e,hp,hu⟩
  ·exact .at_ zo (h1.trans hx) hc2 hcap hl he
  by_cases h0:len=0
  ·subst h0
   have:cl=[]:=by rw [←he];simp
   subst this
   exact .nil (.inr ⟨_,_,_,rfl,zo⟩)
  exfalso
  rw [hp] at hx
  cases hx
  injection hc2 with hc2
  subst hc2
  have hL:cl.length=len:=by rw [←he,List.length_take,List.length_drop];omega
  obtain ⟨d,L',rfl⟩:∃d L',cl=d::L':=by
   cases cl with
   |nil=>exact absurd hL.symm h0
   |cons d L'=>exact ⟨d,L',rfl⟩
  have hm:d∈cs:=by
   have:d∈(cs.drop off).take (len*1):=by rw [he];exact List.mem_cons_self
   exact List.mem_of_mem_drop (List.mem_of_mem_take this)
  have:=List.all_eq_true.1 hu _ hm
  rw [hcl d List.mem_cons_self] at this
  cases this
theorem IW.chg {lo:Nat}{h:HF}{n:Nat}{b:Bool}{c:Nat}{x:Int}(i:IW h n b a l c x)(hc:Chg lo n h h')(hn:n≤n'):IW h' n' b a l c x:=by
 obtain ⟨e,L,h1,h2,h3⟩:=i
 exact ⟨e,L,h1.chgG (fun x hx=>by obtain ⟨d,_,rfl⟩:=List.mem_map.1 hx;rfl) hc hn,h2,h3⟩
theorem QSL.chg {lo:Nat}{h:HF}{n:Nat}{l:List Rat}(r:QSL lo h n v l)(hc:Chg lo n h h')(hn:n≤n'):QSL lo h' n' v l:=by
 obtain ⟨⟨cells,h1,h2⟩,h3⟩:=r
 refine ⟨⟨cells,?_,h2.mono fun c d ⟨b,a,l,k,d,e,f,g,e1,i,j⟩=>⟨b,a,l,k,d,e,f,g,e1,i.chg hc hn,j.chg hc hn⟩⟩,h3⟩
 cases h1 with
 |nil ha=>exact .nil (wp ha hn)
 |at_ hb hx hcs hcap hl he=>
  refine .at_ zo ?_ hcs hcap hl he
  have:=h3 _ _ _ rfl
  rcases hc _ hb with h4|⟨h4|h4,_⟩
  ·exact h4.trans hx
  ·have h5:=this.1;simp only at h5;omega
  have h5:=this.2;simp only at h5;rw [h5] at h4;cases h4
theorem vt.chg {lo:Nat}{d:SideD}{h:HF}{n:Nat}(s:vt lo c d h n)(hc:Chg lo n h h')(hn:n≤n'):vt lo c d h' n':=by
 obtain ⟨aA,lA,kA,x1,b1,a1,l1,c1,d1,e1,f1,g1,x2,b2,a2,l2,c2,d2,e2,f2,g2,h0,h1,h2,h3,h4,h5,h6,h7⟩:=s
 exact ⟨aA,lA,kA,x1,b1,a1,l1,c1,d1,e1,f1,g1,x2,b2,a2,l2,c2,d2,e2,f2,g2,h0,h1.chg hc hn,h2,h3.chg hc hn,h4.chg hc hn,h5,h6.chg hc hn,h7.chg hc hn⟩
theorem Gro.same {lo n len:Nat}{h:HF}{C:List Value}(g:Gro h lo n e sz v len C)(hs:∀b,3*lo≤b→b<3*n→gro b=true→h' b=h b):Gro h' lo n e sz v len C:=by
 cases g with
 |nil=>exact .nil
 |at_ hg hlo hb hr hl ho=>exact .at_ hg hlo hb ((hs _ hlo hb hg).trans hr) hl ho
structure GSL (lo:Nat)(h:HF)(n:Nat)(v:Value)(ds:List SideD):Prop where
 ex:∃C,Gro h lo n 83 11 v ds.length C∧Rec 11 (fun c d=>vt lo c d h n) C ds∧C.all nu=true
theorem GSL.nil (lo:Nat)(h:HF)(n:Nat):GSL lo h n (.slice none 0 0) []:=⟨[],.nil,.nil,rfl⟩
theorem GSL.ext {lo:Nat}{h:HF}{n:Nat}{ds:List SideD}(g:GSL lo h n v ds)(x:Ext n h h')(hn:n≤n'):GSL lo h' n' v ds:=by
 obtain ⟨C,h1,h2,h3⟩:=g.ex
 exact ⟨C,h1.ext x hn,h2.mono fun c d hp=>(vt.stay lo).go c d _ _ _ _ hp x hn,h3⟩
theorem GSL.x {lo:Nat}{h:HF}{n:Nat}{ds:List SideD}(g:GSL lo h n v ds)(t:Tx n h n' h'):GSL lo h' n' v ds:=g.ext t.2 t.1
theorem GSL.st {lo:Nat}{h:HF}{n:Nat}{ds:List SideD}(g:GSL lo h n v ds)(hp:h b=some (.row cs e))(hu:cs.all nu=true)(ho:Only b h h')(hb:b<3*lo):GSL lo h' n v ds:=by
 obtain ⟨C,h1,h2,h3⟩:=g.ex
 have hc:Chg lo n h h':=fun k hk=>by
  by_cases e2:k=b
  ·subst e2;exact .inr ⟨.inl hb,cs,e,hp,hu⟩
  exact .inl (ho k e2)
 exact ⟨C,h1.same fun k hk _ _=>ho k zo,h2.mono fun c d s=>s.chg hc (Nat.le_refl _),h3⟩
theorem GSL.sto {lo:Nat}{h:HF}{n:Nat}{ds:List SideD}(g:GSL lo h n v ds)(o:Sto b h h')(hb:b<3*lo):GSL lo h' n v ds:=by
 obtain ⟨o,_,_,hp,hu⟩:=o
 exact g.st hp hu o hb
theorem Keep.chg {lo n len:Nat}{h:HF}{C:List Value}(k:Keep v n h h')(g:Gro h lo n e sz v len C)(hu:C.all nu=true):Chg lo n h h':=fun b hb=>by
 cases g with
 |nil=>exact .inl (k b hb fun o l c e=>by cases e)
 | @at_ b2 _ _ hg hlo hb2 hr hl ho2=>
  by_cases e2:b=b2
  ·subst e2;exact .inr ⟨.inr hg,_,_,hr,hu⟩
  exact .inl (k b hb fun o l c e=>by cases e;exact e2 rfl)
theorem QSL.st {lo:Nat}{h:HF}{n:Nat}{l:List Rat}(g:QSL lo h n v l)(hp:h b=some (.row cs e))(hu:cs.all nu=true)(ho:Only b h h')(hb:b<3*lo):QSL lo h' n v l:=
 g.chg (fun k hk=>by
  by_cases e2:k=b
  ·subst e2;exact .inr ⟨.inl hb,cs,e,hp,hu⟩
  ·exact .inl (ho k e2)) (Nat.le_refl _)
theorem QSL.sto {lo:Nat}{h:HF}{n:Nat}{l:List Rat}(g:QSL lo h n v l)(o:Sto b h h')(hb:b<3*lo):QSL lo h' n v l:=by
 obtain ⟨o,_,_,hp,hu⟩:=o
 exact g.st hp hu o hb
theorem QSL.lo {lo:Nat}{h:HF}{n:Nat}{l:List Rat}(r:QSL lo h n v l)(hl:lo'≤lo):QSL lo' h n v l:=⟨r.1,fun ad len cap e=>⟨by have:=(r.2 ad len cap e).1;omega,(r.2 ad len cap e).2⟩⟩
theorem QSL.nil (lo:Nat)(h:HF)(n:Nat):QSL lo h n (.slice none 0 0) []:=⟨⟨[],.nil (.inl rfl),.nil⟩,fun ad len cap e=>by cases e⟩
theorem vt.lo {lo:Nat}{d:SideD}{h:HF}{n:Nat}(s:vt lo c d h n)(hl:lo'≤lo):vt lo' c d h n:=by
 obtain ⟨aA,lA,kA,x1,b1,a1,l1,c1,d1,e1,f1,g1,x2,b2,a2,l2,c2,d2,e2,f2,g2,h0,h1,h2,h3,h4,h5,h6,h7⟩:=s
 exact ⟨aA,lA,kA,x1,b1,a1,l1,c1,d1,e1,f1,g1,x2,b2,a2,l2,c2,d2,e2,f2,g2,h0,h1.lo hl,h2,h3,h4,h5,h6,h7⟩
theorem GSL.app {lo:Nat}{h:HF}{n:Nat}{v':Value}{ds:List SideD}{d:SideD}{C:List Value}(h1:Gro h lo n 83 11 v ds.length C)(h2:Rec 11 (fun c d=>vt lo c d h n) C ds)(h3:C.all nu=true)(s:vt lo c d h n)(k:Keep v n h h')(g:Gro h' lo (n+1) 83 11 v' (ds.length+1) (C++c)):GSL lo h' (n+1) v' (ds++[d]):=by
 have hc:=k.chg h1 h3
 refine ⟨C++c,by rw [List.length_append];exact g,(h2.mono fun c d s=>s.chg hc zs).snoc s.nus.2.2 (s.chg hc zs),?_⟩
 rw [List.all_append,h3,s.nus.1]
 rfl
def SDS (h:HF)(n:Nat)(v:Value)(ds:List SideD):Prop:=RS 11 (vt 0) h n v ds
theorem GSL.sds {lo:Nat}{h:HF}{n:Nat}{ds:List SideD}(g:GSL lo h n v ds):SDS h n v ds:=by
 obtain ⟨C,h1,h2,h3⟩:=g.ex
 exact ⟨C,h1.sl,h2.mono fun c d s=>s.lo (Nat.zero_le _)⟩
theorem SDS.ext {h:HF}{n:Nat}{l:List SideD}(r:SDS h n v l)(x:Ext n h h')(hn:n≤n'):SDS h' n' v l:=RS.ext' (vt.stay 0) r x hn
theorem SDS.x {h:HF}{n:Nat}{l:List SideD}(r:SDS h n v l)(t:Tx n h n' h'):SDS h' n' v l:=r.ext t.2 t.1
theorem SDS.len {h:HF}{n:Nat}{len:Nat}{l:List SideD}(r:SDS h n (.slice a len cap) l):len=l.length:=RS.len' zd r
theorem SDS.at {h:HF}{n:Nat}{len:Nat}{l:List SideD}{d:SideD}(r:SDS h n (.slice a len cap) l)(hj:l[j]?=some d):∃bb off aA lA kA x1 b1 a1 l1 c1 d1 e1 f1 g1 x2 b2 a2 l2 c2 d2 e2 f2 g2,a=some ⟨bb,off,none⟩∧bb<3*n∧j<len∧At h bb (off+j*11) [.slice aA lA kA,.bool x1,.bool b1,.slice a1 l1 c1,.bool d1,.slice e1 f1 g1,.bool x2,.bool b2,.slice a2 l2 c2,.bool d2,.slice e2 f2 g2]∧QS h n (.slice aA lA kA) d.A∧(x1=true↔d.lo≠[])∧IW h n b1 a1 l1 c1 (zm d.lo).num∧IW h n d1 e1 f1 g1 (denZ (zm d.lo))∧(x2=true↔d.hi≠[])∧IW h n b2 a2 l2 c2 (zm d.hi).num∧IW h n d2 e2 f2 g2 (denZ (zm d.hi)):=by
 obtain ⟨bb,off,c,p1,p2,p3,p4,_,aA,lA,kA,x1,b1,a1,l1,c1,d1,e1,f1,g1,x2,b2,a2,l2,c2,d2,e2,f2,g2,rfl,h1,h2,h3,h4,h5,h6,h7⟩:=RS.at' zd r hj
 exact ⟨bb,off,aA,lA,kA,x1,b1,a1,l1,c1,d1,e1,f1,g1,x2,b2,a2,l2,c2,d2,e2,f2,g2,p1,p2,p3,p4,h1.1,h2,h3,h4,h5,h6,h7⟩
section
variable {X:CtxF}{ops r:List Oper}{t:TF}{h:HF}{n:Nat}{w:List Nat}{Q:SV→Prop}{o:Oper}{d:Tmp}
theorem wB (cs:List Value){c:Nat}(hw:zg ops t o=true∧o.dst=some d∧zj X.nt (some d)=true∧cls o.op=2∧mkE X.E o.op (evF t)=some ⟨cs,e,false,some (l,c)⟩)
  (k:∀h',h' (3*n+2)=some (.row cs e)→Ext n h h'→EO X ops r ⟨upd t d (.slice (some ⟨3*n+2,0,none⟩) l c),h',n+1,w⟩ Q):EO X ops (o::r) ⟨t,h,n,w⟩ Q:=by obtain ⟨hw,hd,hn,hc,hm⟩:=hw;exact qw ⟨hw,hd,hn,hc,hm⟩ (k _ (ze _ _ _) (Ext.upd zo))
end
theorem Gro.other {lo n len:Nat}{h:HF}{u:Value}{C:List Value}(g:Gro h lo n e sz v len C)(hk:Keep u n h h')(ha:Apt v u):Gro h' lo n e sz v len C:=by
 cases g with
 |nil=>exact .nil
 |at_ hg hlo hb hr hl ho=>exact .at_ hg hlo hb (by rw [hk _ hb fun o l c e=>ha _ _ _ _ _ _ rfl e rfl];exact hr) hl ho
end
section
variable {h h':HF}{b cap j lo n n' sz:Nat}{v:Value}{a:Option Addr}{hi:List UInt8}{ds:List SideD}{e:TypeId}
structure RowD where
 A:List (List UInt8)
 lo:List UInt8
 hi:List UInt8
structure LPD where
 obj:List (List UInt8)
 rows:List RowD
 lower:List (List UInt8)
 upper:List (List UInt8)
def rowP (c:List Value)(d:RowD)(h:HF)(n:Nat):Prop:=∃a l k,c=[.slice a l k,.string ⟨⟨d.lo⟩⟩,.string ⟨⟨d.hi⟩⟩]∧Sl h n 1 (.slice a l k) (strs d.A)
theorem rowP.stay:Stay rowP:=⟨fun _ _ _ _ _ _ ⟨a,l,k,e,s⟩ x hn=>⟨a,l,k,e,s.ext x hn⟩⟩
def RWS (h:HF)(n:Nat)(v:Value)(ds:List RowD):Prop:=RS 3 rowP h n v ds
theorem RWS.ext {l:List RowD}(r:RWS h n v l)(x:Ext n h h')(hn:n≤n'):RWS h' n' v l:=RS.ext' rowP.stay r x hn
theorem RWS.x {l:List RowD}(r:RWS h n v l)(t:Tx n h n' h'):RWS h' n' v l:=r.ext t.2 t.1
theorem RWS.len {len:Nat}{l:List RowD}(r:RWS h n (.slice a len cap) l):len=l.length:=RS.len' zd r
theorem RWS.at {len:Nat}{l:List RowD}{d:RowD}(r:RWS h n (.slice a len cap) l)(hj:l[j]?=some d):∃bb off a2 l2 k2,a=some ⟨bb,off,none⟩∧bb<3*n∧j<len∧At h bb (off+j*3) [.slice a2 l2 k2,.string ⟨⟨d.lo⟩⟩,.string ⟨⟨d.hi⟩⟩]∧Sl h n 1 (.slice a2 l2 k2) (strs d.A):=by
 obtain ⟨bb,off,c,p1,p2,p3,p4,_,a2,l2,k2,rfl,s⟩:=RS.at' zd r hj
 exact ⟨bb,off,a2,l2,k2,p1,p2,p3,p4,s⟩
structure VLP (p:LPD):Prop where
 n1:1≤p.obj.length
 n2:p.obj.length≤64
 ll:p.lower.length=p.obj.length
 lu:p.upper.length=p.obj.length
 lr:p.rows.length≤64
 ob:∀s∈p.obj,wu s
 bd:∀(j:Nat) lo hi,p.lower[j]?=some lo→p.upper[j]?=some hi→pairOk lo hi
 rw:∀r∈p.rows,pairOk r.lo r.hi∧(∀s∈r.A,wu s)∧r.A.length=p.obj.length
def Txt (a:Nat)(s:List UInt8):Prop:=s.length<500∧Sz a (zm s)
structure LPB (a:Nat)(p:LPD):Prop where
 ob:∀s∈p.obj,Txt a s
 lw:∀s∈p.lower,Txt a s
 up:∀s∈p.upper,Txt a s
 rl:∀r∈p.rows,Txt a r.lo∧Txt a r.hi∧r.A.length<1000000∧∀s∈r.A,Txt a s
 n1:p.obj.length<1000000
 n2:p.rows.length<1000000
 n3:p.lower.length<1000000
 n4:p.upper.length<1000000
noncomputable def rowS (r:RowD):SideD:=⟨r.A.map zm,r.lo,r.hi⟩
noncomputable def xF (p:LPD):List SideD:=p.rows.map rowS
def wj (p:LPD):List SideD:=List.zipWith (fun lo hi=>⟨[],lo,hi⟩) p.lower p.upper
theorem fP {p:LPD}{lo:List UInt8}(h1:p.lower[j]?=some lo)(h2:p.upper[j]?=some hi):(wj p)[j]?=some ⟨[],lo,hi⟩:=by
 unfold wj
 rw [List.getElem?_zipWith,h1,h2]
theorem p8 {p:LPD}{r:RowD}(h1:p.rows[j]?=some r):(xF p)[j]?=some (rowS r):=by
 unfold xF
 rw [List.getElem?_map,h1];rfl
theorem GSL.extB {B:List Nat}(g:GSL lo h n v ds)(x:ExtB n B h h')(hn:n≤n')(hB:∀b∈B,b<3*lo∧∃cs e,h b=some (.row cs e)∧cs.all nu=true):GSL lo h' n' v ds:=by
 obtain ⟨C,h1,h2,h3⟩:=g.ex
 have hc:Chg lo n h h':=fun k hk=>by
  by_cases e2:k∈B
  ·obtain ⟨h4,h5⟩:=hB k e2;exact .inr ⟨.inl h4,h5⟩
  exact .inl (x k hk e2)
 have h4:=h1.same (h':=h') fun k hk hk2 _=>x k hk2 fun e2=>by have:=(hB k e2).1;omega
 refine ⟨C,?_,h2.mono fun c d s=>s.chg hc hn,h3⟩
 exact h4.ext (Ext.refl n h') hn
theorem Keep.blk {len:Nat}{C:List Value}(k:Keep v n h h')(g:Gro h lo n e sz v len C)(hb:gro b=false)(hl:b<3*n):h' b=h b:=by
 refine k b hl fun o l c e=>?_
 cases g with
 |nil=>cases e
 |at_ hg hlo hb2 hr hl ho=>cases e;rw [hg] at hb;cases hb
end
section
variable {p:LPD}{co cr cu cw i j lo' lr lu lw n:Nat}{hi:List UInt8}{α:Type}{h:HF}{v:Value}{ds:List SideD}{ao ar au aw:Option Addr}
theorem zbr {lo:List UInt8}(h:∀i,i<j→∀lo hi,p.lower[i]?=some lo→p.upper[i]?=some hi→pairOk lo hi)(h1:p.lower[j]?=some lo)(h2:p.upper[j]?=some hi)(hp:pairOk lo hi):∀i,i<j+1→∀lo hi,p.lower[i]?=some lo→p.upper[i]?=some hi→pairOk lo hi:=by
 intro i hi2 lo2 hi3 h3 h4
 by_cases e:i=j
 ·subst e
  rw [h1] at h3
  rw [h2] at h4
  injection h3 with h3
  injection h4 with h4
  subst h3 h4
  exact hp
 exact h i zo lo2 hi3 h3 h4
theorem rx {l:List α}{P:α→Prop}{r:α}(h:∀r∈l.take i,P r)(h1:l[i]?=some r)(hp:P r):∀r∈l.take (i+1),P r:=by
 intro r2 hr
 rw [yD h1] at hr
 rcases List.mem_append.1 hr with h'|h'
 ·exact h r2 h'
 rw [List.mem_singleton.1 h'];exact hp
theorem GSL.lo {lo:Nat}(g:GSL lo h n v ds)(hl:lo'≤lo):GSL lo' h n v ds:=by
 obtain ⟨C,h1,h2,h3⟩:=g.ex
 refine ⟨C,?_,h2.mono fun c d s=>s.lo hl,h3⟩
 generalize ds.length=m at h1 ⊢
 cases h1 with
 |nil=>exact .nil
 |at_ hg hlo hb hr hl2 ho=>exact .at_ hg zo hb hr hl2 ho
theorem zcl (k:Nat)(g:GG h n){lo:Nat}(io:Sl h n 1 (.slice ao lo co) (strs p.obj))(ir:RWS h n (.slice ar lr cr) p.rows)(iw:Sl h n 1 (.slice aw lw cw) (strs p.lower))(iu:Sl h n 1 (.slice au lu cu) (strs p.upper)){a:Nat}(hp:LPB a p)(ha:a+a≤2000):CX (cal (k+12)) 37 [.agg #[.slice ao lo co,.slice ar lr cr,.slice aw lw cw,.slice au lu cu]] h n fun v h' n'=>∃aO lO kO aR lR kR aC lC kC ok,v=.tuple #[.agg #[.slice aO lO kO,.slice aR lR kR,.slice aC lC kC],.bool ok]∧(ok=true↔VLP p)∧(ok=true→QSL n h' n' (.slice aO lO kO) (p.obj.map zm)∧GSL n h' n' (.slice aR lR kR) (xF p)∧GSL n h' n' (.slice aC lC kC) (wj p)):=by
 have lo1:=zI io
 have lr1:=ir.len
 have lw1:=zI iw
 have lu1:=zI iu
 obtain ⟨hob,hlw,hup,hrl,hn1,hn2,hn3,hn4⟩:=hp
 refine zn (fn:=Tryz.f37) R4 ?_
 refine zG ?_
 refine sB [.slice ao lo co,.slice ar lr cr,.slice aw lw cw,.slice au lu cu] ?_
 intro h11 p11 x11
 refine sA ?_
 intro h12 p12 x12
 refine zG ?_
 by_cases q13:(lo:Int)<1
 ·refine zG ?_
  refine sT #[.slice none 0 0,.slice none 0 0,.slice none 0 0] ?_
  refine sS [.slice none 0 0,.slice none 0 0,.slice none 0 0] ?_
  intro h14 p14 o14
  refine zq ?_
  exact ⟨_,_,_,_,_,_,_,_,_,_,rfl,⟨fun hq=>(by cases hq),fun hv=>by have:=hv.n1;have:=hv.n2;have:=hv.ll;have:=hv.lu;have:=hv.lr;omega⟩,fun hq=>(by cases hq)⟩
 refine zG ?_
 by_cases q15:(lo:Int)>64
 ·refine zG ?_
  refine sT #[.slice none 0 0,.slice none 0 0,.slice none 0 0] ?_
  refine sS [.slice none 0 0,.slice none 0 0,.slice none 0 0] ?_
  intro h16 p16 o16
  refine zq ?_
  exact ⟨_,_,_,_,_,_,_,_,_,_,rfl,⟨fun hq=>(by cases hq),fun hv=>by have:=hv.n1;have:=hv.n2;have:=hv.ll;have:=hv.lu;have:=hv.lr;omega⟩,fun hq=>(by cases hq)⟩
 refine zG ?_
 by_cases q17:(lw:Int)=(lo:Int)
 ·refine zG ?_
  by_cases q18:(lu:Int)=(lo:Int)
  ·refine zG ?_
   by_cases q19:(lr:Int)>64
   ·refine zG ?_
    refine sT #[.slice none 0 0,.slice none 0 0,.slice none 0 0] ?_
    refine sS [.slice none 0 0,.slice none 0 0,.slice none 0 0] ?_
    intro h20 p20 o20
    refine zq ?_
    exact ⟨_,_,_,_,_,_,_,_,_,_,rfl,⟨fun hq=>(by cases hq),fun hv=>by have:=hv.n1;have:=hv.n2;have:=hv.ll;have:=hv.lu;have:=hv.lr;omega⟩,fun hq=>(by cases hq)⟩
   refine zG ?_
   refine sC (xf _ (g.x zx) (io.x zx) (fun s hs=>(hob s hs).1) hn1) ?_
   rintro _ h21 n21 ⟨a21,l21,c21,ok21,rfl,bm21,q21⟩ y21 x21
   rcases bvs bm21 with ⟨rfl,m21⟩|⟨rfl,m21⟩
   ·refine zG ?_
    refine sT #[.slice none 0 0,.slice none 0 0,.slice none 0 0] ?_
    refine sS [.slice none 0 0,.slice none 0 0,.slice none 0 0] ?_
    intro h22 p22 o22
    refine zq ?_
    exact ⟨_,_,_,_,_,_,_,_,_,_,rfl,⟨fun hq=>(by cases hq),fun hv=>absurd hv.ob m21⟩,fun hq=>(by cases hq)⟩
   have i21:=q21 rfl
   have w21:=i21.1.len
   rw [List.length_map] at w21
   refine zG ?_
   refine sT #[.slice a21 l21 c21,.slice none 0 0,.slice none 0 0] ?_
   refine sA ?_
   intro h23 p23 x23
   refine sS [.slice a21 l21 c21,.slice none 0 0,.slice none 0 0] ?_
   intro h24 p24 o24
   refine zG ?_
   refine sF (α:=Nat×Option Addr×Nat×Nat) (fun z=>[(1,.pointer (some ⟨3*n+2,0,none⟩)),(2,.pointer (some ⟨3*(n+1)+2,0,none⟩)),(4,.int .i64 (lo:Int)),(7,.pointer (some ⟨3*n21+2,0,none⟩)),(58,.int .i64 (lo:Int)),(59,.int .i64 (z.1:Int))]) (fun z h' n' w'=>w'=[]∧n21+1≤n'∧ExtB (n21+1) [3*n21+2] h24 h'∧h' (3*n21+2)=some (.row [.slice a21 l21 c21,.slice none 0 0,.slice z.2.1 z.2.2.1 z.2.2.2] 57)∧GSL (n21+1) h' n' (.slice z.2.1 z.2.2.1 z.2.2.2) ((wj p).take z.1)∧z.1≤p.obj.length∧∀i,i<z.1→∀lo hi,p.lower[i]?=some lo→p.upper[i]?=some hi→pairOk lo hi) (fun z=>p.obj.length-z.1) (0,none,0,0) ⟨rfl,Nat.le_refl _,ExtB.refl _ _ _,p24,GSL.nil _ _ _,(Nat.zero_le _),(fun i hi=>absurd hi (Nat.not_lt_zero _))⟩ ?_
   rintro ⟨j,aC,lC,kC⟩ t h25 n25 _ ⟨rfl,y25,Y25,p25_0,i25_0_0,hj,hbd⟩
   have p25_0:h25 (3*n21+2)=some (.row [.slice a21 l21 c21,.slice none 0 0,.slice aC lC kC] 57):=p25_0
   have i25_0_0:GSL (n21+1) h25 n25 (.slice aC lC kC) ((wj p).take j):=i25_0_0
   have hj:j≤p.obj.length:=hj
   have hbd:∀i,i<j→∀lo hi,p.lower[i]?=some lo→p.upper[i]?=some hi→pairOk lo hi:=hbd
   refine zG ?_
   by_cases q26:(j:Int)<(lo:Int)
   ·refine zG ?_
    refine zB [0,1,0,7,15,0,32,0,224,480,1023,2047,4095,4095,0,24575,65535] rfl ?_
    refine zH ?_
    obtain ⟨d27,g27⟩:∃d,(p.lower)[j]?=some d:=⟨_,List.getElem?_eq_getElem zo⟩
    obtain ⟨k27,o27,e27,m27,r27,t27⟩:=xp iw g27
    refine dI e27 r27 ?_
    refine dL t27 m27 0 ?_
    refine zH ?_
    obtain ⟨d28,g28⟩:∃d,(p.upper)[j]?=some d:=⟨_,List.getElem?_eq_getElem zo⟩
    obtain ⟨k28,o28,e28,m28,r28,t28⟩:=xp iu g28
    refine dI e28 r28 ?_
    refine dL t28 m28 0 ?_
    refine dC (oe _ (g.x zx) (hlw _ (List.mem_of_getElem? g27)).1 (hup _ (List.mem_of_getElem? g28)).1 (hlw _ (List.mem_of_getElem? g27)).2 (hup _ (List.mem_of_getElem? g28)).2 zo) ?_
    rintro _ h29 n29 ⟨ex29,b29,a29,l29,c29,d29,e29,f29,g29,ex29_2,b29_2,a29_2,l29_2,c29_2,d29_2,e29_2,f29_2,g29_2,ok29,rfl,bm29,q29⟩ y29 x29
    rcases bvs bm29 with ⟨rfl,m29⟩|⟨rfl,m29⟩
    ·refine zH ?_
     refine dB [.slice none 0 0,.bool false,.bool false,.slice none 0 0,.bool false,.slice none 0 0,.bool false,.bool false,.slice none 0 0,.bool false,.slice none 0 0] ?_
     intro h30 p30 x30
     refine dS [.slice none 0 0,.bool ex29,.bool b29,.slice a29 l29 c29,.bool d29,.slice e29 f29 g29,.bool ex29_2,.bool b29_2,.slice a29_2 l29_2 c29_2,.bool d29_2,.slice e29_2 f29_2 g29_2] ?_
     intro h31 p31 o31
     refine zJ ?_
     refine sT #[.slice none 0 0,.slice none 0 0,.slice none 0 0] ?_
     refine sS [.slice none 0 0,.slice none 0 0,.slice none 0 0] ?_
     intro h32 p32 o32
     have i33:=(i21.x zx).sto o32 zo
     have i34:=(i25_0_0.x zx).sto o32 zo
     refine zq ?_
     exact ⟨_,_,_,_,_,_,_,_,_,_,rfl,⟨fun hq=>(by cases hq),fun hv=>absurd (hv.bd _ _ _ g27 g28) m29⟩,fun hq=>(by cases hq)⟩
    obtain ⟨v29,i29,j29,v29_2,i29_2,j29_2⟩:=q29 rfl
    refine zH ?_
    refine dB [.slice none 0 0,.bool false,.bool false,.slice none 0 0,.bool false,.slice none 0 0,.bool false,.bool false,.slice none 0 0,.bool false,.slice none 0 0] ?_
    intro h35 p35 x35
    refine dS [.slice none 0 0,.bool ex29,.bool b29,.slice a29 l29 c29,.bool d29,.slice e29 f29 g29,.bool ex29_2,.bool b29_2,.slice a29_2 l29_2 c29_2,.bool d29_2,.slice e29_2 f29_2 g29_2] ?_
    intro h36 p36 o36
    refine zJ ?_
    refine wB [.slice none 0 0,.bool ex29,.bool b29,.slice a29 l29 c29,.bool d29,.slice e29 f29 g29,.bool ex29_2,.bool b29_2,.slice a29_2 l29_2 c29_2,.bool d29_2,.slice e29_2 f29_2 g29_2] (l:=1) (c:=1) R5 ?_
    intro h37 p37 x37
    have s38:vt (n21+1) [.slice none 0 0,.bool ex29,.bool b29,.slice a29 l29 c29,.bool d29,.slice e29 f29 g29,.bool ex29_2,.bool b29_2,.slice a29_2 l29_2 c29_2,.bool d29_2,.slice e29_2 f29_2 g29_2] (⟨[],d27,d28⟩) h37 (n29+1+1):=⟨_,_,_,_,_,_,_,_,_,_,_,_,_,_,_,_,_,_,_,_,_,rfl,QSL.nil _ _ _,v29,(i29.t zt),(j29.t zt),v29_2,(i29_2.t zt),(j29_2.t zt)⟩
    obtain ⟨C38,gr38,rc38,nu38⟩:=((i25_0_0.x (h':=h37) (n':=n29+1+1) zx)).ex
    have ph38:h37 (3*(n29+1)+2)=_:=p37
    refine la (lo:=(n21+1)) (m:=1) R8 ⟨Nat.le_of_ble_eq_true rfl,Nat.le_of_ble_eq_true rfl⟩ gr38 (xy ph38 R2) (Nat.le_refl _) (by rw [List.length_take];omega) rfl rfl ⟨by show n≤_;omega,zo⟩ ?_
    intro v38 h38 gg38 x38 k38
    have G38:=GSL.app gr38 rc38 nu38 s38 k38 gg38
    obtain ⟨a38,es38,_⟩:=gg38.shape
    subst es38
    replace x38:Exa (n21+1) _ _:=⟨x38⟩
    have p39:h38 (3*n+2)=_:=(k38.blk gr38 (zC _) zo).trans zp
    have p40:h38 (3*(n+1)+2)=_:=(k38.blk gr38 (zC _) zo).trans zp
    have p41:h38 (3*n21+2)=_:=(k38.blk gr38 (zC _) zo).trans zp
    have p42:h38 (3*n29+2)=_:=(k38.blk gr38 (zC _) zo).trans zp
    have p43:h38 (3*(n29+1)+2)=_:=(k38.blk gr38 (zC _) zo).trans zp
    refine zG ?_
    refine sS (b:=3*n21+2) (off:=2) [.slice a21 l21 c21,.slice none 0 0,.slice a38 (((wj p).take j).length+1) (((wj p).take j).length+1)] ?_
    intro h44 p44 o44
    have i45:=G38.sto o44 zo
    refine zG ?_
    exact sK (j+1,a38,(((wj p).take j).length+1),(((wj p).take j).length+1)) ⟨rfl,zo,zy,p44,((yD (fP g27 g28)).symm▸i45),(by show j+1≤p.obj.length;omega),(zbr hbd g27 g28 m29)⟩
   refine zG ?_
   have hje:j=p.obj.length:=zo
   have hcols:GSL (n21+1) h25 n25 (.slice aC lC kC) (wj p):=by have hq:=i25_0_0;rw [List.take_of_length_le (by unfold wj;rw [List.length_zipWith];omega)] at hq;exact hq
   refine zG ?_
   have pcol:h25 (3*n21+2)=_:=p25_0
   refine sF (α:=Nat×Option Addr×Nat×Nat) (fun z=>[(2,.pointer (some ⟨3*(n+1)+2,0,none⟩)),(4,.int .i64 (lo:Int)),(7,.pointer (some ⟨3*n21+2,0,none⟩)),(87,.slice ar lr cr),(88,.int .i64 (lr:Int)),(89,.int .i64 (z.1:Int))]) (fun z h' n' w'=>w'=[]∧n25≤n'∧ExtB n25 [3*n21+2] h25 h'∧h' (3*n21+2)=some (.row [.slice a21 l21 c21,.slice z.2.1 z.2.2.1 z.2.2.2,.slice aC lC kC] 57)∧GSL n25 h' n' (.slice z.2.1 z.2.2.1 z.2.2.2) ((xF p).take z.1)∧z.1≤p.rows.length∧∀r∈p.rows.take z.1,pairOk r.lo r.hi∧(∀s∈r.A,wu s)∧r.A.length=p.obj.length) (fun z=>p.rows.length-z.1) (0,none,0,0) ⟨rfl,Nat.le_refl _,ExtB.refl _ _ _,p25_0,GSL.nil _ _ _,(Nat.zero_le _),(fun r hr=>absurd hr (by simp))⟩ ?_
   rintro ⟨i,aR,lR,kR⟩ t h46 n46 _ ⟨rfl,y46,Y46,p46_0,i46_0_0,hi,hrw⟩
   have p46_0:h46 (3*n21+2)=some (.row [.slice a21 l21 c21,.slice aR lR kR,.slice aC lC kC] 57):=p46_0
   have i46_0_0:GSL n25 h46 n46 (.slice aR lR kR) ((xF p).take i):=i46_0_0
   have hi:i≤p.rows.length:=hi
   have hrw:∀r∈p.rows.take i,pairOk r.lo r.hi∧(∀s∈r.A,wu s)∧r.A.length=p.obj.length:=hrw
   refine zG ?_
   by_cases q47:(i:Int)<(lr:Int)
   ·refine zG ?_
    obtain ⟨d48,g48⟩:∃d,(p.rows)[i]?=some d:=⟨_,List.getElem?_eq_getElem zo⟩
    obtain ⟨k48,o48,a48,l48,c48,e48,m48,r48,t48,i48⟩:=RWS.at ir g48
    have la48:=zI i48
    refine sI e48 r48 ?_
    refine sL t48 m48 0 ?_
    refine sA ?_
    intro h49 p49 x49
    refine sS [.slice a48 l48 c48,.string ⟨⟨d48.lo⟩⟩,.string ⟨⟨d48.hi⟩⟩] ?_
    intro h50 p50 o50
    refine zG ?_
    refine sC (oe _ (g.x zx) (hrl _ (List.mem_of_getElem? g48)).1.1 (hrl _ (List.mem_of_getElem? g48)).2.1.1 (hrl _ (List.mem_of_getElem? g48)).1.2 (hrl _ (List.mem_of_getElem? g48)).2.1.2 zo) ?_
    rintro _ h51 n51 ⟨ex51,b51,a51,l51,c51,d51,e51,f51,g51,ex51_2,b51_2,a51_2,l51_2,c51_2,d51_2,e51_2,f51_2,g51_2,ok51,rfl,bm51,q51⟩ y51 x51
    rcases bvs bm51 with ⟨rfl,m51⟩|⟨rfl,m51⟩
    ·refine zG ?_
     refine sA ?_
     intro h52 p52 x52
     refine sS [.slice none 0 0,.bool ex51,.bool b51,.slice a51 l51 c51,.bool d51,.slice e51 f51 g51,.bool ex51_2,.bool b51_2,.slice a51_2 l51_2 c51_2,.bool d51_2,.slice e51_2 f51_2 g51_2] ?_
     intro h53 p53 o53
     refine zG ?_
     refine sC (xf _ (g.x zx) (i48.x zx) (fun s hs=>((hrl _ (List.mem_of_getElem? g48)).2.2.2 s hs).1) (hrl _ (List.mem_of_getElem? g48)).2.2.1) ?_
     rintro _ h54 n54 ⟨a54,l54,c54,ok54,rfl,bm54,q54⟩ y54 x54
     rcases bvs bm54 with ⟨rfl,m54⟩|⟨rfl,m54⟩
     ·refine zG ?_
      refine sT #[.slice none 0 0,.slice none 0 0,.slice none 0 0] ?_
      refine sS [.slice none 0 0,.slice none 0 0,.slice none 0 0] ?_
      intro h55 p55 o55
      have i56:=(i21.x zx).sto o55 zo
      have i57:=(i46_0_0.x zx).sto o55 zo
      refine zq ?_
      exact ⟨_,_,_,_,_,_,_,_,_,_,rfl,⟨fun hq=>(by cases hq),fun hv=>absurd (hv.rw _ (List.mem_of_getElem? g48)).1 m51⟩,fun hq=>(by cases hq)⟩
     have i54:=q54 rfl
     have w54:=i54.1.len
     rw [List.length_map] at w54
     refine zG ?_
     refine sT #[.slice none 0 0,.slice none 0 0,.slice none 0 0] ?_
     refine sS [.slice none 0 0,.slice none 0 0,.slice none 0 0] ?_
     intro h58 p58 o58
     have i59:=(i21.x zx).sto o58 zo
     have i60:=(i46_0_0.x zx).sto o58 zo
     have i61:=i54.sto o58 zo
     refine zq ?_
     exact ⟨_,_,_,_,_,_,_,_,_,_,rfl,⟨fun hq=>(by cases hq),fun hv=>absurd (hv.rw _ (List.mem_of_getElem? g48)).1 m51⟩,fun hq=>(by cases hq)⟩
    obtain ⟨v51,i51,j51,v51_2,i51_2,j51_2⟩:=q51 rfl
    refine zG ?_
    refine sA ?_
    intro h62 p62 x62
    refine sS [.slice none 0 0,.bool ex51,.bool b51,.slice a51 l51 c51,.bool d51,.slice e51 f51 g51,.bool ex51_2,.bool b51_2,.slice a51_2 l51_2 c51_2,.bool d51_2,.slice e51_2 f51_2 g51_2] ?_
    intro h63 p63 o63
    refine zG ?_
    refine sC (xf _ (g.x zx) (i48.x zx) (fun s hs=>((hrl _ (List.mem_of_getElem? g48)).2.2.2 s hs).1) (hrl _ (List.mem_of_getElem? g48)).2.2.1) ?_
    rintro _ h64 n64 ⟨a64,l64,c64,ok64,rfl,bm64,q64⟩ y64 x64
    rcases bvs bm64 with ⟨rfl,m64⟩|⟨rfl,m64⟩
    ·refine zG ?_
     refine sT #[.slice none 0 0,.slice none 0 0,.slice none 0 0] ?_
     refine sS [.slice none 0 0,.slice none 0 0,.slice none 0 0] ?_
     intro h65 p65 o65
     have i66:=(i21.x zx).sto o65 zo
     have i67:=(i46_0_0.x zx).sto o65 zo
     refine zq ?_
     exact ⟨_,_,_,_,_,_,_,_,_,_,rfl,⟨fun hq=>(by cases hq),fun hv=>absurd (hv.rw _ (List.mem_of_getElem? g48)).2.1 m64⟩,fun hq=>(by cases hq)⟩
    have i64:=q64 rfl
    have w64:=i64.1.len
    rw [List.length_map] at w64
    refine zG ?_
    by_cases q68:(l64:Int)=(lo:Int)
    ·refine zG ?_
     refine sS [.slice a64 l64 c64,.bool ex51,.bool b51,.slice a51 l51 c51,.bool d51,.slice e51 f51 g51,.bool ex51_2,.bool b51_2,.slice a51_2 l51_2 c51_2,.bool d51_2,.slice e51_2 f51_2 g51_2] ?_
     intro h69 p69 o69
     have i70:=i64.sto o69 zo
     refine zG ?_
     refine wB [.slice a64 l64 c64,.bool ex51,.bool b51,.slice a51 l51 c51,.bool d51,.slice e51 f51 g51,.bool ex51_2,.bool b51_2,.slice a51_2 l51_2 c51_2,.bool d51_2,.slice e51_2 f51_2 g51_2] (l:=1) (c:=1) R5 ?_
     intro h71 p71 x71
     have s72:vt (n25) [.slice a64 l64 c64,.bool ex51,.bool b51,.slice a51 l51 c51,.bool d51,.slice e51 f51 g51,.bool ex51_2,.bool b51_2,.slice a51_2 l51_2 c51_2,.bool d51_2,.slice e51_2 f51_2 g51_2] (rowS d48) h71 (n64+1):=⟨_,_,_,_,_,_,_,_,_,_,_,_,_,_,_,_,_,_,_,_,_,rfl,((i70.x zx)).lo (show n25≤n51+1 by omega),v51,(i51.t zt),(j51.t zt),v51_2,(i51_2.t zt),(j51_2.t zt)⟩
     obtain ⟨C72,gr72,rc72,nu72⟩:=((i46_0_0.x (h':=h71) (n':=n64+1) zx)).ex
     have ph72:h71 (3*n64+2)=_:=p71
     refine la (lo:=(n25)) (m:=1) R8 ⟨Nat.le_of_ble_eq_true rfl,Nat.le_of_ble_eq_true rfl⟩ gr72 (xy ph72 R2) (Nat.le_refl _) (by rw [List.length_take];omega) rfl rfl ⟨by show n≤_;omega,zo⟩ ?_
     intro v72 h72 gg72 x72 k72
     have G72:=GSL.app gr72 rc72 nu72 s72 k72 gg72
     obtain ⟨a72,es72,_⟩:=gg72.shape
     subst es72
     replace x72:Exa n25 _ _:=⟨x72⟩
     have p73:h72 (3*n+2)=_:=(k72.blk gr72 (zC _) zo).trans zp
     have p74:h72 (3*(n+1)+2)=_:=(k72.blk gr72 (zC _) zo).trans zp
     have p75:h72 (3*n21+2)=_:=(k72.blk gr72 (zC _) zo).trans zp
     have p76:h72 (3*n46+2)=_:=(k72.blk gr72 (zC _) zo).trans zp
     have p77:h72 (3*n51+2)=_:=(k72.blk gr72 (zC _) zo).trans zp
     have p78:h72 (3*n64+2)=_:=(k72.blk gr72 (zC _) zo).trans zp
     refine zG ?_
     refine sS (b:=3*n21+2) (off:=1) [.slice a21 l21 c21,.slice a72 (((xF p).take i).length+1) (((xF p).take i).length+1),.slice aC lC kC] ?_
     intro h79 p79 o79
     have i80:=G72.sto o79 zo
     refine zG ?_
     exact sK (i+1,a72,(((xF p).take i).length+1),(((xF p).take i).length+1)) ⟨rfl,zo,zy,p79,((yD (p8 g48)).symm▸i80),(by show i+1≤p.rows.length;omega),(rx hrw g48 ⟨m51,m64,zo⟩)⟩
    refine zG ?_
    refine sT #[.slice none 0 0,.slice none 0 0,.slice none 0 0] ?_
    refine sS [.slice none 0 0,.slice none 0 0,.slice none 0 0] ?_
    intro h81 p81 o81
    have i82:=(i21.x zx).sto o81 zo
    have i83:=(i46_0_0.x zx).sto o81 zo
    have i84:=i64.sto o81 zo
    refine zq ?_
    exact ⟨_,_,_,_,_,_,_,_,_,_,rfl,⟨fun hq=>(by cases hq),fun hv=>absurd (hv.rw _ (List.mem_of_getElem? g48)).2.2 zo⟩,fun hq=>(by cases hq)⟩
   refine zG ?_
   have hie:i=p.rows.length:=zo
   have hrows:GSL n25 h46 n46 (.slice aR lR kR) (xF p):=by have hq:=i46_0_0;rw [List.take_of_length_le (by unfold xF;rw [List.length_map];omega)] at hq;exact hq
   have hcols2:=hcols.extB (n':=n46) (show ExtB n25 [3*n21+2] h25 h46 from zy) zo (by intro b hb;simp only [List.mem_cons,List.not_mem_nil,or_false] at hb;subst hb;exact ⟨zo,_,_,pcol,rfl⟩)
   have hobj:=(i21.x (h':=h46) (n':=n46) zx)
   refine zG ?_
   refine sS [.slice a21 l21 c21,.slice aR lR kR,.slice aC lC kC] ?_
   intro h85 p85 o85
   have i86:=hrows.sto o85 zo
   have i87:=hcols2.sto o85 zo
   have i88:=hobj.sto o85 zo
   have i89:=(i21.x zx).sto o85 zo
   have i90:=i46_0_0.sto o85 zo
   refine zq ?_
   exact ⟨_,_,_,_,_,_,_,_,_,_,rfl,⟨fun _=>⟨zo,zo,zo,zo,zo,m21,fun j2 lo hi h1 h2=>hbd j2 (by have:=(List.getElem?_eq_some_iff.1 h1).1;omega) lo hi h1 h2,by rw [hie,List.take_length] at hrw;exact hrw⟩,fun _=>rfl⟩,fun _=>⟨i88.lo zo,i86.lo zo,i87.lo zo⟩⟩
  refine zG ?_
  refine sT #[.slice none 0 0,.slice none 0 0,.slice none 0 0] ?_
  refine sS [.slice none 0 0,.slice none 0 0,.slice none 0 0] ?_
  intro h91 p91 o91
  refine zq ?_
  exact ⟨_,_,_,_,_,_,_,_,_,_,rfl,⟨fun hq=>(by cases hq),fun hv=>by have:=hv.n1;have:=hv.n2;have:=hv.ll;have:=hv.lu;have:=hv.lr;omega⟩,fun hq=>(by cases hq)⟩
 refine zG ?_
 refine sT #[.slice none 0 0,.slice none 0 0,.slice none 0 0] ?_
 refine sS [.slice none 0 0,.slice none 0 0,.slice none 0 0] ?_
 intro h92 p92 o92
 refine zq ?_
 exact ⟨_,_,_,_,_,_,_,_,_,_,rfl,⟨fun hq=>(by cases hq),fun hv=>by have:=hv.n1;have:=hv.n2;have:=hv.ll;have:=hv.lu;have:=hv.lr;omega⟩,fun hq=>(by cases hq)⟩
end
def inB (x:Rat)(lo hi:List UInt8):Prop:=(lo=[]∨zm lo≤x)∧(hi=[]∨x≤zm hi)
theorem ou (v:false=true↔s≠[]):s=[]:=Classical.byContradiction fun h=>by cases v.2 h
theorem neOf (v:true=true↔s≠[]):s≠[]:=v.1 rfl
noncomputable def y7 (m:Rat)(lo hi:List UInt8):Rat:=if m.num<0 then m*zm hi else m*zm lo
def pb (m:Rat)(lo hi:List UInt8):Prop:=(0<m.num→lo≠[])∧(m.num<0→hi≠[])
theorem vA {m:Rat}{lo:List UInt8}(h:0<m.num):y7 m lo hi=m*zm lo:=by unfold y7;rw [if_neg zo]
theorem vB {m:Rat}{lo:List UInt8}(h:m.num<0):y7 m lo hi=m*zm hi:=by unfold y7;rw [if_pos h]
theorem tu {m:Rat}{lo:List UInt8}(h:m.num=0):y7 m lo hi=0:=by unfold y7;rw [if_neg zo,Rat.num_eq_zero.1 h,Rat.zero_mul]
theorem pa {a:Nat}{m:Rat}{lo:List UInt8}(hm:Sz b m)(h1:Sz a (zm lo))(h2:Sz a (zm hi)):Sz (a+b) (y7 m lo hi):=by
 unfold y7
 rw [Nat.add_comm]
 split
 ·exact hm.mul h2
 exact hm.mul h1
noncomputable def sumS:List SideD→List Rat→Rat
 |d::ds,m::ms=>y7 m d.lo d.hi+sumS ds ms
 |_,_=>0
theorem uU (ms:List Rat):sumS [] ms=0:=by cases ms<;>rfl
theorem iL:∀{ds:List SideD} {ms:List Rat} {d:SideD} {m:Rat},ds.length=ms.length→sumS (ds++[d]) (ms++[m])=sumS ds ms+y7 m d.lo d.hi:=by
 intro ds
 induction ds with
 |nil=>
  intro ms d m h
  cases ms with
  |nil=>show y7 m d.lo d.hi+0=0+y7 m d.lo d.hi;rw [Rat.add_zero,Rat.zero_add]
  |cons _ _=>cases h
 |cons a ds ih=>
  intro ms d m h
  cases ms with
  |nil=>cases h
  |cons b ms=>
   show y7 b a.lo a.hi+sumS (ds++[d]) (ms++[m])=y7 b a.lo a.hi+sumS ds ms+y7 m d.lo d.hi
   rw [ih (by simpa using h),Rat.add_assoc]
theorem vx {ds:List SideD}{ms:List Rat}{j:Nat}{d:SideD}{m:Rat}(hx:ds[j]?=some d)(hy:ms[j]?=some m):sumS (ds.take (j+1)) (ms.take (j+1))=sumS (ds.take j) (ms.take j)+y7 m d.lo d.hi:=by
 rw [yD hx,yD hy]
 have h1:=(List.getElem?_eq_some_iff.1 hx).1
 have h2:=(List.getElem?_eq_some_iff.1 hy).1
 exact iL (by rw [List.length_take,List.length_take];omega)
def SdB (a:Nat)(ds:List SideD):Prop:=∀d∈ds,Sz a (zm d.lo)∧Sz a (zm d.hi)
theorem nk {a c:Nat}{ds:List SideD}{ms:List Rat}{s0:Rat}(hd:SdB a ds)(hm:∀q∈ms,Sz b q)(h0:Sz c s0):∀j,j≤ds.length→j≤ms.length→Sz (c+j*(a+b+1)) (s0+sumS (ds.take j) (ms.take j)):=by
 intro j
 induction j with
 |zero=>intro _ _;rw [List.take_zero,uU,Rat.add_zero,Nat.zero_mul];exact h0
 |succ j ih=>
  intro h1 h2
  have e1:=List.getElem?_eq_getElem (l:=ds) (i:=j) zo
  have e2:=List.getElem?_eq_getElem (l:=ms) (i:=j) zo
  rw [vx e1 e2,←Rat.add_assoc]
  have hs:=hd _ (List.mem_of_getElem? e1)
  refine ((ih zo zo).add (pa (hm _ (List.mem_of_getElem? e2)) hs.1 hs.2)).mono ?_
  rw [Nat.succ_mul];omega
theorem qY {a:Nat}{ds:List SideD}{ms:List Rat}(hd:SdB a ds)(hm:∀q∈ms,Sz b q)(j:Nat)(h1:j≤ds.length)(h2:j≤ms.length):Sz (1+j*(a+b+1)) (sumS (ds.take j) (ms.take j)):=by
 have:=nk (s0:=0) hd hm (Sz.zero 1 zo) j h1 h2
 rw [Rat.zero_add] at this
 exact this
def hS {α β:Type}(R:α→β→Prop)(ds:List α)(xs:List β):Prop:=∀(j:Nat) d q,ds[j]?=some d→xs[j]?=some q→R d q
def hT {α β:Type}(R:α→β→Prop)(ds:List α)(xs:List β)(j:Nat):Prop:=∀i,i<j→∀d q,ds[i]?=some d→xs[i]?=some q→R d q
section
variable {α β:Type}{R:α→β→Prop}{ds:List α}{ms:List β}{j:Nat}{d:α}{m:β}
theorem hT.zero (ds:List α)(ms:List β):hT R ds ms 0:=fun i hi=>absurd hi (Nat.not_lt_zero _)
theorem hT.step (h:hT R ds ms j)(h1:ds[j]?=some d)(h2:ms[j]?=some m)(hp:R d m):hT R ds ms (j+1):=by
 intro i hi d2 m2 h3 h4
 by_cases e:i=j
 ·subst e
  rw [h1] at h3
  rw [h2] at h4
  injection h3 with h3
  injection h4 with h4
  subst h3 h4
  exact hp
 exact h i zo d2 m2 h3 h4
theorem hT.all (h:hT R ds ms j)(hj:ds.length≤j∨ms.length≤j):hS R ds ms:=fun i d m h1 h2=>h i (by have:=(List.getElem?_eq_some_iff.1 h1).1;have:=(List.getElem?_eq_some_iff.1 h2).1;omega) d m h1 h2
end
abbrev okS (ds:List SideD)(ms:List Rat):Prop:=hS (fun d m=>pb m d.lo d.hi) ds ms
abbrev okT (ds:List SideD)(ms:List Rat)(j:Nat):Prop:=hT (fun d m=>pb m d.lo d.hi) ds ms j
abbrev inS (ds:List SideD)(xs:List Rat):Prop:=hS (fun d q=>inB q d.lo d.hi) ds xs
abbrev inT (ds:List SideD)(xs:List Rat)(j:Nat):Prop:=hT (fun d q=>inB q d.lo d.hi) ds xs j
def rowH (P:Rat→List UInt8→List UInt8→Prop)(xs:List Rat)(d:SideD):Prop:=P (dotR d.A (xs.take d.A.length)) d.lo d.hi
abbrev zaf (xs:List Rat)(d:SideD):Prop:=rowH inB xs d
noncomputable def colQ (rs:List SideD)(ms:List Rat)(c:Rat)(j:Nat):Nat→Rat
 |0=>c
 |i+1=>colQ rs ms c j i+((rs[i]?.bind fun d=>d.A[j]?).getD 0)*ms[i]?.getD 0
theorem fQ {rs:List SideD}{ms:List Rat}{c:Rat}{i j:Nat}{d:SideD}{a m:Rat}(h1:rs[i]?=some d)(h2:d.A[j]?=some a)(h3:ms[i]?=some m):colQ rs ms c j i+a*m=colQ rs ms c j (i+1):=by
 show _=colQ rs ms c j i+_
 rw [h1,h3]
 show _=colQ rs ms c j i+(d.A[j]?).getD 0*m
 rw [h2]
 rfl
theorem zbm {a:Nat}{rs:List SideD}{ms:List Rat}{c:Rat}(hr:∀d∈rs,∀q∈d.A,Sz a q)(hm:∀q∈ms,Sz b q)(hc:Sz b c)(j:Nat):∀i,Sz (b+i*(a+b+1)) (colQ rs ms c j i):=by
 intro i
 induction i with
 |zero=>rw [Nat.zero_mul];exact hc
 |succ i ih=>
  have hz:1≤a+b+1:=zo
  have key:∀x y:Rat,Sz a x→Sz b y→Sz (b+(i+1)*(a+b+1)) (colQ rs ms c j i+x*y):=fun x y hx hy=>(ih.add (hx.mul hy)).mono (by rw [Nat.succ_mul];omega)
  have z:Sz (b+(i+1)*(a+b+1)) (colQ rs ms c j i):=ih.mono (by rw [Nat.succ_mul];omega)
  show Sz _ (colQ rs ms c j i+_)
  cases h1:rs[i]?.bind fun d=>d.A[j]? with
  |none=>show Sz _ (colQ rs ms c j i+0*_);rw [Rat.zero_mul,Rat.add_zero];exact z
  |some x=>
   cases h3:ms[i]? with
   |none=>show Sz _ (colQ rs ms c j i+_*0);rw [Rat.mul_zero,Rat.add_zero];exact z
   |some m=>
    obtain ⟨d,hd,hx⟩:=Option.bind_eq_some_iff.1 h1
    exact key x m (hr d (List.mem_of_getElem? hd) x (List.mem_of_getElem? hx)) (hm m (List.mem_of_getElem? h3))
noncomputable def sO (rs:List SideD)(ms cs:List Rat)(i j:Nat):List Rat:=cs.mapIdx fun k c=>colQ rs ms c k (if k<j then i+1 else i)
section
variable {rs:List SideD}{ms cs:List Rat}{i j:Nat}
theorem oT:(sO rs ms cs i j).length=cs.length:=List.length_mapIdx
theorem jP:sO rs ms cs 0 0=cs:=by
 apply List.ext_getElem?
 intro k
 unfold sO
 rw [List.getElem?_mapIdx]
 cases cs[k]?<;>rfl
theorem pE {c:Rat}(h:cs[k]?=some c):(sO rs ms cs i j)[k]?=some (colQ rs ms c k (if k<j then i+1 else i)):=by
 unfold sO
 rw [List.getElem?_mapIdx,h]
 rfl
end
section
variable {X:CtxF}{ops r:List Oper}{ms:List Nat}{i m:Nat}{t:TF}{h:HF}{n:Nat}{w:List Nat}{al ld:List (Nat×Nat)}{ef:List (Nat×HF×List Nat)}{Q:SV→Prop}{o:Oper}{d:Tmp}
end
section
variable {h:HF}{b c1 c2 l1 l2 n:Nat}{a1 a2 aq:Option Addr}{hi:List UInt8}{q:Rat}
theorem qR (k:Nat){aA:Option Addr}{lA kA:Nat}{x1 b1 d1 x2 b2 d2:Bool}{e1 e2:Option Addr}{f1 g1 f2 g2:Nat}{lo:List UInt8}(v1:x1=true↔lo≠[])(i1:IW h n b1 a1 l1 c1 (zm lo).num)(j1:IW h n d1 e1 f1 g1 (denZ (zm lo)))(v2:x2=true↔hi≠[])(i2:IW h n b2 a2 l2 c2 (zm hi).num)(j2:IW h n d2 e2 f2 g2 (denZ (zm hi))){sq dq:Bool}{eq:Option Addr}{lq cq fq gq:Nat}(iq:IW h n sq aq lq cq q.num)(jq:IW h n dq eq fq gq (denZ q)){a:Nat}(slo:Sz a (zm lo))(shi:Sz a (zm hi))(sq2:Sz b q)(hab:a+b≤2000):VF (cal (k+7)) 35 [.agg #[.slice aA lA kA,.bool x1,.bool b1,.slice a1 l1 c1,.bool d1,.slice e1 f1 g1,.bool x2,.bool b2,.slice a2 l2 c2,.bool d2,.slice e2 f2 g2],.agg #[.bool sq,.slice aq lq cq,.bool dq,.slice eq fq gq]] h n fun v=>∃b:Bool,v=.bool b∧(b=true↔inB q lo hi):=by
 refine zu (fn:=Tryz.f35) R4 ?_
 refine zG ?_
 refine sB [.slice aA lA kA,.bool x1,.bool b1,.slice a1 l1 c1,.bool d1,.slice e1 f1 g1,.bool x2,.bool b2,.slice a2 l2 c2,.bool d2,.slice e2 f2 g2] ?_
 intro h11 p11 x11
 refine sB [.bool sq,.slice aq lq cq,.bool dq,.slice eq fq gq] ?_
 intro h12 p12 x12
 refine zG ?_
 cases x1
 ·refine zG ?_
  cases x2
  ·refine zf ?_
   exact zye (⟨.inl (ou v1),.inl (ou v2)⟩)
  refine zG ?_
  refine sC ((wJ _ (iq.x zx) (jq.x zx) (i2.x zx) (j2.x zx) sq2 shi zo).cx) ?_
  rintro _ h13 n13 ⟨s13,rfl,q13⟩ y13 x13
  rcases q13 with ⟨rfl,q13⟩|⟨rfl,q13⟩|⟨rfl,q13⟩
  ·refine zf ?_
   exact zye (⟨.inl (ou v1),.inr (Rat.le_of_lt q13)⟩)
  ·refine zf ?_
   exact zye (⟨.inl (ou v1),.inr (by rw [q13];exact Rat.le_refl)⟩)
  refine zf ?_
  exact zno fun hq=>absurd hq.2 (fun hq=>by rcases hq with hq|hq;exact neOf v2 hq;exact absurd hq (Rat.not_le.2 q13))
 refine zG ?_
 refine sC ((wJ _ (iq.x zx) (jq.x zx) (i1.x zx) (j1.x zx) sq2 slo zo).cx) ?_
 rintro _ h14 n14 ⟨s14,rfl,q14⟩ y14 x14
 rcases q14 with ⟨rfl,q14⟩|⟨rfl,q14⟩|⟨rfl,q14⟩
 ·refine zf ?_
  exact zno fun hq=>absurd hq.1 (fun hq=>by rcases hq with hq|hq;exact neOf v1 hq;exact absurd hq (Rat.not_le.2 q14))
 ·refine zG ?_
  cases x2
  ·refine zf ?_
   exact zye (⟨.inr (by rw [q14];exact Rat.le_refl),.inl (ou v2)⟩)
  refine zG ?_
  refine sC ((wJ _ (iq.x zx) (jq.x zx) (i2.x zx) (j2.x zx) sq2 shi zo).cx) ?_
  rintro _ h15 n15 ⟨s15,rfl,q15⟩ y15 x15
  rcases q15 with ⟨rfl,q15⟩|⟨rfl,q15⟩|⟨rfl,q15⟩
  ·refine zf ?_
   exact zye (⟨.inr (by rw [q14];exact Rat.le_refl),.inr (Rat.le_of_lt q15)⟩)
  ·refine zf ?_
   exact zye (⟨.inr (by rw [q14];exact Rat.le_refl),.inr (by rw [q15];exact Rat.le_refl)⟩)
  refine zf ?_
  exact zno fun hq=>absurd hq.2 (fun hq=>by rcases hq with hq|hq;exact neOf v2 hq;exact absurd hq (Rat.not_le.2 q15))
 refine zG ?_
 cases x2
 ·refine zf ?_
  exact zye (⟨.inr (Rat.le_of_lt q14),.inl (ou v2)⟩)
 refine zG ?_
 refine sC ((wJ _ (iq.x zx) (jq.x zx) (i2.x zx) (j2.x zx) sq2 shi zo).cx) ?_
 rintro _ h16 n16 ⟨s16,rfl,q16⟩ y16 x16
 rcases q16 with ⟨rfl,q16⟩|⟨rfl,q16⟩|⟨rfl,q16⟩
 ·refine zf ?_
  exact zye (⟨.inr (Rat.le_of_lt q14),.inr (Rat.le_of_lt q16)⟩)
 ·refine zf ?_
  exact zye (⟨.inr (Rat.le_of_lt q14),.inr (by rw [q16];exact Rat.le_refl)⟩)
 refine zf ?_
 exact zno fun hq=>absurd hq.2 (fun hq=>by rcases hq with hq|hq;exact neOf v2 hq;exact absurd hq (Rat.not_le.2 q16))
theorem er (k:Nat)(g:GG h n){aA:Option Addr}{lA kA:Nat}{x1 b1 d1 x2 b2 d2:Bool}{e1 e2:Option Addr}{f1 g1 f2 g2:Nat}{lo:List UInt8}(v1:x1=true↔lo≠[])(i1:IW h n b1 a1 l1 c1 (zm lo).num)(j1:IW h n d1 e1 f1 g1 (denZ (zm lo)))(v2:x2=true↔hi≠[])(i2:IW h n b2 a2 l2 c2 (zm hi).num)(j2:IW h n d2 e2 f2 g2 (denZ (zm hi))){sq dq:Bool}{eq:Option Addr}{lq cq fq gq:Nat}(iq:IW h n sq aq lq cq q.num)(jq:IW h n dq eq fq gq (denZ q)){a:Nat}(slo:Sz a (zm lo))(shi:Sz a (zm hi))(sq2:Sz b q)(hab:a+b≤2000):CX (cal (k+11)) 75 [.agg #[.slice aA lA kA,.bool x1,.bool b1,.slice a1 l1 c1,.bool d1,.slice e1 f1 g1,.bool x2,.bool b2,.slice a2 l2 c2,.bool d2,.slice e2 f2 g2],.agg #[.bool sq,.slice aq lq cq,.bool dq,.slice eq fq gq]] h n fun v h' n'=>∃b a l c d e f g ok,v=.tuple #[.agg #[.bool b,.slice a l c,.bool d,.slice e f g],.bool ok]∧IW h' n' b a l c (y7 q lo hi).num∧IW h' n' d e f g (denZ (y7 q lo hi))∧(ok=true↔pb q lo hi):=by
 refine zn (fn:=Tryz.f75) R4 ?_
 refine zG ?_
 refine sB [.slice aA lA kA,.bool x1,.bool b1,.slice a1 l1 c1,.bool d1,.slice e1 f1 g1,.bool x2,.bool b2,.slice a2 l2 c2,.bool d2,.slice e2 f2 g2] ?_
 intro h11 p11 x11
 refine sB [.bool sq,.slice aq lq cq,.bool dq,.slice eq fq gq] ?_
 intro h12 p12 x12
 refine sA ?_
 intro h13 p13 x13
 refine zG ?_
 refine sC (gb _ (iq.x zx) (jq.x zx)) ?_
 rintro _ h14 n14 ⟨s14,rfl,q14⟩ y14 x14
 rcases q14 with ⟨rfl,q14⟩|⟨rfl,q14⟩|⟨rfl,q14⟩
 ·refine zG ?_
  refine zB [0,0,2,6,15,0,32,96,31,511] rfl ?_
  refine zH ?_
  refine dC (mulQ _ (g.x zx) (iq.x zx) (jq.x zx) (i2.x zx) (j2.x zx) sq2 shi zo) ?_
  rintro _ h15 n15 ⟨b15,a15,l15,c15,d15,e15,f15,g15,rfl,i15,j15⟩ y15 x15
  refine zH ?_
  cases x2
  ·refine dS [.bool b15,.slice a15 l15 c15,.bool d15,.slice e15 f15 g15] ?_
   intro h16 p16 o16
   refine zq ?_
   exact ⟨_,_,_,_,_,_,_,_,_,rfl,(i15.t zt).as (by rw [vB q14]),(j15.t zt).as (by rw [vB q14]),⟨fun hq=>(by cases hq),fun hq=>absurd (ou v2) (hq.2 q14)⟩⟩
  refine dS [.bool b15,.slice a15 l15 c15,.bool d15,.slice e15 f15 g15] ?_
  intro h17 p17 o17
  refine zq ?_
  exact ⟨_,_,_,_,_,_,_,_,_,rfl,(i15.t zt).as (by rw [vB q14]),(j15.t zt).as (by rw [vB q14]),⟨fun _=>⟨fun hq=>by omega,fun _=>neOf v2⟩,fun _=>rfl⟩⟩
 ·refine zG ?_
  refine sT #[.bool false,.slice none 0 0,.bool false,.slice none 0 0] ?_
  refine sS [.bool false,.slice none 0 0,.bool false,.slice none 0 0] ?_
  intro h18 p18 o18
  refine zq ?_
  exact ⟨_,_,_,_,_,_,_,_,_,rfl,(IW.zero _ _).as (by rw [tu q14];rfl),(IW.zero _ _).as (by rw [tu q14];rfl),⟨fun _=>⟨fun hq=>by omega,fun hq=>by omega⟩,fun _=>rfl⟩⟩
 refine zG ?_
 refine zB [0,0,2,6,15,0,32,96,31,511] rfl ?_
 refine zH ?_
 refine dC (mulQ _ (g.x zx) (iq.x zx) (jq.x zx) (i1.x zx) (j1.x zx) sq2 slo zo) ?_
 rintro _ h19 n19 ⟨b19,a19,l19,c19,d19,e19,f19,g19,rfl,i19,j19⟩ y19 x19
 refine zH ?_
 cases x1
 ·refine dS [.bool b19,.slice a19 l19 c19,.bool d19,.slice e19 f19 g19] ?_
  intro h20 p20 o20
  refine zq ?_
  exact ⟨_,_,_,_,_,_,_,_,_,rfl,(i19.t zt).as (by rw [vA q14]),(j19.t zt).as (by rw [vA q14]),⟨fun hq=>(by cases hq),fun hq=>absurd (ou v1) (hq.1 q14)⟩⟩
 refine dS [.bool b19,.slice a19 l19 c19,.bool d19,.slice e19 f19 g19] ?_
 intro h21 p21 o21
 refine zq ?_
 exact ⟨_,_,_,_,_,_,_,_,_,rfl,(i19.t zt).as (by rw [vA q14]),(j19.t zt).as (by rw [vA q14]),⟨fun _=>⟨fun _=>neOf v1,fun hq=>by omega⟩,fun _=>rfl⟩⟩
end
section
variable {h:HF}{b cx cy lx ly n:Nat}{ax ay:Option Addr}{xs ys:List Rat}
theorem s5 {s t x y:Rat}(h:t=s+x*y)(h0:x=0∨y=0):s=t:=by
 rw [h]
 rcases h0 with h0|h0
 ·rw [h0,Rat.zero_mul,Rat.add_zero]
 rw [h0,Rat.mul_zero,Rat.add_zero]
theorem dotQ (k:Nat)(g:GG h n)(ix:QS h n (.slice ax lx cx) xs)(iy:QS h n (.slice ay ly cy) ys){a:Nat}(hxs:∀q∈xs,Sz a q)(hys:∀q∈ys,Sz b q)(hl:xs.length≤ys.length)(hb:xs.length*(a+b+1)+a+b+2≤2496):CX (cal (k+11)) 29 [.slice ax lx cx,.slice ay ly cy] h n (QV (dotR xs (ys.take xs.length))):=by
 have lx1:=ix.len
 have ly1:=iy.len
 have hln:=Nat.le_mul_of_pos_right xs.length (show 0<a+b+1 by omega)
 refine zn (fn:=Tryz.f29) R4 ?_
 refine zG ?_
 refine sA ?_
 intro h11 p11 x11
 refine zG ?_
 refine sA ?_
 intro h12 p12 x12
 refine zG ?_
 refine sF (α:=Nat×Bool×Option Addr×Nat×Nat×Bool×Option Addr×Nat×Nat) (fun z=>[(1,.slice ay ly cy),(4,.pointer (some ⟨3*n+2,0,none⟩)),(5,.pointer (some ⟨3*(n+1)+2,0,none⟩)),(8,.slice ax lx cx),(9,.int .i64 (lx:Int)),(10,.int .i64 (z.1:Int))]) (fun z h' n' w'=>w'=[]∧n+1+1≤n'∧ExtB (n+1+1) [3*(n+1)+2] h12 h'∧h' (3*(n+1)+2)=some (.row [.bool z.2.1,.slice z.2.2.1 z.2.2.2.1 z.2.2.2.2.1,.bool z.2.2.2.2.2.1,.slice z.2.2.2.2.2.2.1 z.2.2.2.2.2.2.2.1 z.2.2.2.2.2.2.2.2] 64)∧IW h' n' z.2.1 z.2.2.1 z.2.2.2.1 z.2.2.2.2.1 ((dotR (xs.take z.1) (ys.take z.1)).num)∧IW h' n' z.2.2.2.2.2.1 z.2.2.2.2.2.2.1 z.2.2.2.2.2.2.2.1 z.2.2.2.2.2.2.2.2 (denZ (dotR (xs.take z.1) (ys.take z.1)))∧z.1≤xs.length) (fun z=>xs.length-z.1) (0,false,none,0,0,false,none,0,0) ⟨rfl,Nat.le_refl _,ExtB.refl _ _ _,p12,(IW.zero _ _).as (by rw [List.take_zero,ub];rfl),(IW.zero _ _).as (by rw [List.take_zero,ub];rfl),(Nat.zero_le _)⟩ ?_
 rintro ⟨j,bS,aS,lS,kS,uS,vS,wS,xS⟩ t h13 n13 _ ⟨rfl,y13,Y13,p13_0,i13_0_0,i13_0_1,hj⟩
 have p13_0:h13 (3*(n+1)+2)=some (.row [.bool bS,.slice aS lS kS,.bool uS,.slice vS wS xS] 64):=p13_0
 have i13_0_0:IW h13 n13 bS aS lS kS ((dotR (xs.take j) (ys.take j)).num):=i13_0_0
 have i13_0_1:IW h13 n13 uS vS wS xS (denZ (dotR (xs.take j) (ys.take j))):=i13_0_1
 have hj:j≤xs.length:=hj
 have hjm:j*(a+b+1)≤xs.length*(a+b+1):=Nat.mul_le_mul_right _ hj
 refine zG ?_
 by_cases q14:(j:Int)<(lx:Int)
 ·refine zG ?_
  obtain ⟨d15,g15⟩:∃d,(xs)[j]?=some d:=⟨_,List.getElem?_eq_getElem zo⟩
  obtain ⟨k15,o15,b15,a15,l15,c15,u15,v15,w15,x15,e15,m15,r15,t15,i15,j15⟩:=QS.at ix g15
  refine sI e15 r15 ?_
  refine sL t15 m15 0 ?_
  refine sA ?_
  intro h16 p16 x16
  refine zG ?_
  refine sS [.bool b15,.slice a15 l15 c15,.bool u15,.slice v15 w15 x15] ?_
  intro h17 p17 o17
  refine zG ?_
  refine sC (gQ _ (i15.x zx) (j15.x zx)) ?_
  rintro _ h18 n18 ⟨b18,rfl,bq18⟩ y18 x18
  rcases bvs bq18 with ⟨rfl,q18⟩|⟨rfl,q18⟩
  ·refine zG ?_
   obtain ⟨d19,g19⟩:∃d,(ys)[j]?=some d:=⟨_,List.getElem?_eq_getElem zo⟩
   obtain ⟨k19,o19,b19,a19,l19,c19,u19,v19,w19,x19,e19,m19,r19,t19,i19,j19⟩:=QS.at iy g19
   refine sI e19 r19 ?_
   refine sL t19 m19 0 ?_
   refine sC (gQ _ (i19.x zx) (j19.x zx)) ?_
   rintro _ h20 n20 ⟨b20,rfl,bq20⟩ y20 x20
   rcases bvs bq20 with ⟨rfl,q20⟩|⟨rfl,q20⟩
   ·refine zG ?_
    refine zB [0,0,0,0,12,28,62,127,255] rfl ?_
    refine zH ?_
    refine dI e19 r19 ?_
    refine dL t19 m19 0 ?_
    refine dC (mulQ _ (g.x zx) (i15.x zx) (j15.x zx) (i19.x zx) (j19.x zx) (hxs _ (List.mem_of_getElem? g15)) (hys _ (List.mem_of_getElem? g19)) zo) ?_
    rintro _ h21 n21 ⟨b21,a21,l21,c21,d21,e21,f21,g21,rfl,i21,j21⟩ y21 x21
    refine dC (addQ _ (g.x zx) (i13_0_0.t zt) (i13_0_1.t zt) i21 j21 (mC hxs hys _ zo zo) ((hxs _ (List.mem_of_getElem? g15)).mul (hys _ (List.mem_of_getElem? g19))) zo) ?_
    rintro _ h22 n22 ⟨b22,a22,l22,c22,d22,e22,f22,g22,rfl,i22,j22⟩ y22 x22
    refine dS [.bool b22,.slice a22 l22 c22,.bool d22,.slice e22 f22 g22] ?_
    intro h23 p23 o23
    refine zG ?_
    exact sK (j+1,b22,a22,l22,c22,d22,e22,f22,g22) ⟨rfl,zo,zy,p23,((i22.t zt).as (congrArg Rat.num ((xi g15 g19).symm))),((j22.t zt).as (congrArg denZ ((xi g15 g19).symm))),(by show j+1≤xs.length;omega)⟩
   refine zG ?_
   exact sK (j+1,bS,aS,lS,kS,uS,vS,wS,xS) ⟨rfl,zo,zy,zp,((i13_0_0.t zt).as (congrArg Rat.num (s5 (xi g15 g19) (.inr q20)))),((i13_0_1.t zt).as (congrArg denZ (s5 (xi g15 g19) (.inr q20)))),(by show j+1≤xs.length;omega)⟩
  refine zG ?_
  exact sK (j+1,bS,aS,lS,kS,uS,vS,wS,xS) ⟨rfl,zo,zy,zp,((i13_0_0.t zt).as (congrArg Rat.num (s5 (xi g15 (List.getElem?_eq_getElem zo)) (.inl q18)))),((i13_0_1.t zt).as (congrArg denZ (s5 (xi g15 (List.getElem?_eq_getElem zo)) (.inl q18)))),(by show j+1≤xs.length;omega)⟩
 refine zG ?_
 refine sS [.bool bS,.slice aS lS kS,.bool uS,.slice vS wS xS] ?_
 intro h24 p24 o24
 refine zq ?_
 exact ⟨_,_,_,_,_,_,_,_,rfl,(i13_0_0.t zt).as (by rw [show j=xs.length by omega,List.take_length]),(i13_0_1.t zt).as (by rw [show j=xs.length by omega,List.take_length])⟩
end
section
variable {b co cr cx cy lo lr lx ly n:Nat}{xs ys:List Rat}{h:HF}{ao ar ax ay:Option Addr}{rs:List SideD}
def RwB (a L:Nat)(rs:List SideD):Prop:=∀d∈rs,(∀q∈d.A,Sz a q)∧d.A.length≤L
theorem zbd {A:List Rat}{a L:Nat}(h:A.length≤L)(hL:L*(a+b+1)+a+b+2≤2000):A.length*(a+b+1)+a+b+2≤2496:=by
 have:=Nat.mul_le_mul_right (a+b+1) h
 omega
theorem zbc {A:List Rat}{a L:Nat}(h:(∀q∈A,Sz a q)∧A.length≤L)(hx:∀q∈xs,Sz b q):Sz (1+L*(a+b+1)) (dotR A (xs.take A.length)):=by
 have h0:=Nat.mul_le_mul_right (a+b+1) h.2
 by_cases hl:A.length≤xs.length
 ·have:=mC h.1 hx A.length (Nat.le_refl _) hl
  rw [List.take_length] at this
  exact this.mono zo
 rw [List.take_of_length_le zo]
 have h1:=mC h.1 hx xs.length zo (Nat.le_refl _)
 rw [List.take_length,←d9 zo] at h1
 have h2:=Nat.mul_le_mul_right (a+b+1) (show xs.length≤L by omega)
 exact h1.mono zo
theorem zeh (k:Nat)(g:GG h n){ac:Option Addr}{lc cc:Nat}{ob:List Rat}{cs:List SideD}(io:QS h n (.slice ao lo co) ob)(ir:SDS h n (.slice ar lr cr) rs)(ic:SDS h n (.slice ac lc cc) cs)(ix:QS h n (.slice ax lx cx) xs){a L:Nat}(srs:SdB a rs)(scs:SdB a cs)(sra:RwB a L rs)(sxs:∀q∈xs,Sz b q)(hxl:cs.length≤xs.length)(hL:L≤xs.length)(hcr:cs.length<1000000∧rs.length<1000000)(hL2:L*(a+b+1)+a+b+2≤1900)(ha:a≤90):VF (cal (k+13)) 34 [.agg #[.slice ao lo co,.slice ar lr cr,.slice ac lc cc],.slice ax lx cx,.func (.func 35) #[] #[]] h n fun v=>∃b:Bool,v=.bool b∧(b=true↔hS (fun d q=>inB q d.lo d.hi) cs xs∧∀d∈rs,rowH inB xs d):=by
 have lr1:=ir.len
 have lc1:=ic.len
 have lx1:=ix.len
 refine zu (fn:=Tryz.f34) R4 ?_
 refine zG ?_
 refine sB [.slice ao lo co,.slice ar lr cr,.slice ac lc cc] ?_
 intro h11 p11 x11
 refine zG ?_
 refine sF (α:=Nat) (fun z=>[(1,.slice ax lx cx),(2,.func (.func 35) #[] #[]),(3,.pointer (some ⟨3*n+2,0,none⟩)),(12,.slice ac lc cc),(13,.int .i64 (lc:Int)),(14,.int .i64 (z:Int))]) (fun z h' n' w'=>w'=[]∧n+1≤n'∧ExtB (n+1) [] h11 h'∧z≤cs.length∧hT (fun d q=>inB q d.lo d.hi) cs xs z) (fun z=>cs.length-z) 0 ⟨rfl,Nat.le_refl _,ExtB.refl _ _ _,(Nat.zero_le _),(hT.zero _ _)⟩ ?_
 rintro j t h12 n12 _ ⟨rfl,y12,Y12,hj,hin⟩
 have hj:j≤cs.length:=hj
 have hin:hT (fun d q=>inB q d.lo d.hi) cs xs j:=hin
 refine zG ?_
 by_cases q13:(j:Int)<(lc:Int)
 ·refine zG ?_
  obtain ⟨d14,g14⟩:∃d,(cs)[j]?=some d:=⟨_,List.getElem?_eq_getElem zo⟩
  obtain ⟨k14,o14,aA14,lA14,kA14,ex14,b14,a14,l14,c14,u14,v14,w14,x14,ex14_2,b14_2,a14_2,l14_2,c14_2,u14_2,v14_2,w14_2,x14_2,e14,m14,r14,t14,iA14,vv14,i14,j14,vv14_2,i14_2,j14_2⟩:=SDS.at ic g14
  refine sI e14 r14 ?_
  refine sL t14 m14 0 ?_
  refine sA ?_
  intro h15 p15 x15
  refine zG ?_
  refine sS [.slice aA14 lA14 kA14,.bool ex14,.bool b14,.slice a14 l14 c14,.bool u14,.slice v14 w14 x14,.bool ex14_2,.bool b14_2,.slice a14_2 l14_2 c14_2,.bool u14_2,.slice v14_2 w14_2 x14_2] ?_
  intro h16 p16 o16
  refine zG ?_
  refine zB [0,0,0,0,12,28,63,127] rfl ?_
  refine yA (v:=.func (.func 35) #[] #[]) rfl rfl rfl rfl rfl ?_
  refine zH ?_
  obtain ⟨d17,g17⟩:∃d,(xs)[j]?=some d:=⟨_,List.getElem?_eq_getElem zo⟩
  obtain ⟨k17,o17,b17,a17,l17,c17,u17,v17,w17,x17,e17,m17,r17,t17,i17,j17⟩:=QS.at ix g17
  refine dI e17 r17 ?_
  refine dL t17 m17 0 ?_
  refine dC ((qR _ vv14 (i14.x zx) (j14.x zx) vv14_2 (i14_2.x zx) (j14_2.x zx) (i17.x zx) (j17.x zx) (scs _ (List.mem_of_getElem? g14)).1 (scs _ (List.mem_of_getElem? g14)).2 (sxs _ (List.mem_of_getElem? g17)) zo).cx) ?_
  rintro _ h18 n18 ⟨b18,rfl,bq18⟩ y18 x18
  rcases bvs bq18 with ⟨rfl,q18⟩|⟨rfl,q18⟩
  ·refine zf ?_
   exact zno fun hq=>absurd (hq.1 _ _ _ g14 g17) q18
  refine zJ ?_
  exact sK (j+1) ⟨rfl,zo,zy,(by show j+1≤cs.length;omega),(hin.step g14 g17 q18)⟩
 refine zG ?_
 have hall:=hin.all (.inl zo)
 refine zG ?_
 refine sF (α:=Nat) (fun z=>[(1,.slice ax lx cx),(2,.func (.func 35) #[] #[]),(29,.slice ar lr cr),(30,.int .i64 (lr:Int)),(31,.int .i64 (z:Int))]) (fun z h' n' w'=>w'=[]∧n12≤n'∧ExtB n12 [] h12 h'∧z≤rs.length∧∀d∈rs.take z,rowH inB xs d) (fun z=>rs.length-z) 0 ⟨rfl,Nat.le_refl _,ExtB.refl _ _ _,(Nat.zero_le _),(fun r hr=>absurd hr (by simp))⟩ ?_
 rintro i t h19 n19 _ ⟨rfl,y19,Y19,hi2,hrw⟩
 have hi2:i≤rs.length:=hi2
 have hrw:∀d∈rs.take i,rowH inB xs d:=hrw
 refine zG ?_
 by_cases q20:(i:Int)<(lr:Int)
 ·refine zG ?_
  obtain ⟨d21,g21⟩:∃d,(rs)[i]?=some d:=⟨_,List.getElem?_eq_getElem zo⟩
  obtain ⟨k21,o21,aA21,lA21,kA21,ex21,b21,a21,l21,c21,u21,v21,w21,x21,ex21_2,b21_2,a21_2,l21_2,c21_2,u21_2,v21_2,w21_2,x21_2,e21,m21,r21,t21,iA21,vv21,i21,j21,vv21_2,i21_2,j21_2⟩:=SDS.at ir g21
  refine sI e21 r21 ?_
  refine sL t21 m21 0 ?_
  refine sA ?_
  intro h22 p22 x22
  refine sS [.slice aA21 lA21 kA21,.bool ex21,.bool b21,.slice a21 l21 c21,.bool u21,.slice v21 w21 x21,.bool ex21_2,.bool b21_2,.slice a21_2 l21_2 c21_2,.bool u21_2,.slice v21_2 w21_2 x21_2] ?_
  intro h23 p23 o23
  refine zG ?_
  refine zB [0,0,0,4,0,28,63,127] rfl ?_
  refine yA (v:=.func (.func 35) #[] #[]) rfl rfl rfl rfl rfl ?_
  refine zH ?_
  refine dC (dotQ _ (g.x zx) (iA21.x zx) (ix.x zx) (sra _ (List.mem_of_getElem? g21)).1 sxs (by have:=(sra _ (List.mem_of_getElem? g21)).2;omega) (zbd (sra _ (List.mem_of_getElem? g21)).2 (Nat.le_trans hL2 zd))) ?_
  rintro _ h24 n24 ⟨b24,a24,l24,c24,d24,e24,f24,g24,rfl,i24,j24⟩ y24 x24
  refine dC ((qR _ vv21 (i21.x zx) (j21.x zx) vv21_2 (i21_2.x zx) (j21_2.x zx) i24 j24 (srs _ (List.mem_of_getElem? g21)).1 (srs _ (List.mem_of_getElem? g21)).2 (zbc (sra _ (List.mem_of_getElem? g21)) sxs) zo).cx) ?_
  rintro _ h25 n25 ⟨b25,rfl,bq25⟩ y25 x25
  rcases bvs bq25 with ⟨rfl,q25⟩|⟨rfl,q25⟩
  ·refine zf ?_
   exact zno fun hq=>absurd (hq.2 _ (List.mem_of_getElem? g21)) q25
  refine zJ ?_
  exact sK (i+1) ⟨rfl,zo,zy,(by show i+1≤rs.length;omega),(rx hrw g21 q25)⟩
 refine zf ?_
 exact zye (⟨hall,by have hq:=hrw;rw [List.take_of_length_le zo] at hq;exact hq⟩)
theorem zdg (k:Nat)(g:GG h n){ac:Option Addr}{lc cc:Nat}{ob:List Rat}{cs:List SideD}(io:QS h n (.slice ao lo co) ob)(ir:SDS h n (.slice ar lr cr) rs)(ic:SDS h n (.slice ac lc cc) cs)(ix:QS h n (.slice ax lx cx) xs)(iy:QS h n (.slice ay ly cy) ys){a:Nat}(srs:SdB a rs)(scs:SdB a cs)(sxs:∀q∈xs,Sz b q)(sys:∀q∈ys,Sz b q)(hxl:rs.length≤xs.length)(hyl:cs.length≤ys.length)(hb:rs.length*(a+b+1)+cs.length*(a+b+1)+a+b+2≤1900):CX (cal (k+12)) 39 [.agg #[.slice ao lo co,.slice ar lr cr,.slice ac lc cc],.slice ax lx cx,.slice ay ly cy] h n fun v h' n'=>∃b a l c d e f g ok,v=.tuple #[.agg #[.bool b,.slice a l c,.bool d,.slice e f g],.bool ok]∧(ok=true↔okS rs xs∧okS cs ys)∧(ok=true→IW h' n' b a l c (sumS rs (xs.take rs.length)+sumS cs (ys.take cs.length)).num∧IW h' n' d e f g (denZ (sumS rs (xs.take rs.length)+sumS cs (ys.take cs.length)))):=by
 have lr1:=ir.len
 have lc1:=ic.len
 have lx1:=ix.len
 have ly1:=iy.len
 have hR0:=qY srs sxs rs.length (Nat.le_refl _) hxl
 have hR:Sz (1+rs.length*(a+b+1)) (sumS rs (xs.take rs.length)):=by rw [List.take_length] at hR0;exact hR0
 have hln:=Nat.le_mul_of_pos_right rs.length (show 0<a+b+1 by omega)
 have hln2:=Nat.le_mul_of_pos_right cs.length (show 0<a+b+1 by omega)
 refine zn (fn:=Tryz.f39) R4 ?_
 refine zG ?_
 refine sB [.slice ao lo co,.slice ar lr cr,.slice ac lc cc] ?_
 intro h11 p11 x11
 refine sA ?_
 intro h12 p12 x12
 refine zG ?_
 refine sA ?_
 intro h13 p13 x13
 refine zG ?_
 refine sF (α:=Nat×Bool×Option Addr×Nat×Nat×Bool×Option Addr×Nat×Nat) (fun z=>[(1,.slice ax lx cx),(2,.slice ay ly cy),(3,.pointer (some ⟨3*n+2,0,none⟩)),(6,.pointer (some ⟨3*(n+1)+2,0,none⟩)),(8,.pointer (some ⟨3*(n+1+1)+2,0,none⟩)),(18,.slice ar lr cr),(19,.int .i64 (lr:Int)),(20,.int .i64 (z.1:Int))]) (fun z h' n' w'=>w'=[]∧n+1+1+1≤n'∧ExtB (n+1+1+1) [3*(n+1+1)+2] h13 h'∧h' (3*(n+1+1)+2)=some (.row [.bool z.2.1,.slice z.2.2.1 z.2.2.2.1 z.2.2.2.2.1,.bool z.2.2.2.2.2.1,.slice z.2.2.2.2.2.2.1 z.2.2.2.2.2.2.2.1 z.2.2.2.2.2.2.2.2] 64)∧IW h' n' z.2.1 z.2.2.1 z.2.2.2.1 z.2.2.2.2.1 ((sumS (rs.take z.1) (xs.take z.1)).num)∧IW h' n' z.2.2.2.2.2.1 z.2.2.2.2.2.2.1 z.2.2.2.2.2.2.2.1 z.2.2.2.2.2.2.2.2 (denZ (sumS (rs.take z.1) (xs.take z.1)))∧z.1≤rs.length∧okT rs xs z.1) (fun z=>rs.length-z.1) (0,false,none,0,0,false,none,0,0) ⟨rfl,Nat.le_refl _,ExtB.refl _ _ _,p13,(IW.zero _ _).as (by rw [List.take_zero,uU];rfl),(IW.zero _ _).as (by rw [List.take_zero,uU];rfl),(Nat.zero_le _),(hT.zero _ _)⟩ ?_
 rintro ⟨j,bS,aS,lS,kS,uS,vS,wS,xS⟩ t h14 n14 _ ⟨rfl,y14,Y14,p14_0,i14_0_0,i14_0_1,hj,hok⟩
 have p14_0:h14 (3*(n+1+1)+2)=some (.row [.bool bS,.slice aS lS kS,.bool uS,.slice vS wS xS] 64):=p14_0
 have i14_0_0:IW h14 n14 bS aS lS kS ((sumS (rs.take j) (xs.take j)).num):=i14_0_0
 have i14_0_1:IW h14 n14 uS vS wS xS (denZ (sumS (rs.take j) (xs.take j))):=i14_0_1
 have hj:j≤rs.length:=hj
 have hok:okT rs xs j:=hok
 have hjm:j*(a+b+1)≤rs.length*(a+b+1):=Nat.mul_le_mul_right _ hj
 refine zG ?_
 by_cases q15:(j:Int)<(lr:Int)
 ·refine zG ?_
  obtain ⟨d16,g16⟩:∃d,(rs)[j]?=some d:=⟨_,List.getElem?_eq_getElem zo⟩
  obtain ⟨k16,o16,aA16,lA16,kA16,ex16,b16,a16,l16,c16,u16,v16,w16,x16,ex16_2,b16_2,a16_2,l16_2,c16_2,u16_2,v16_2,w16_2,x16_2,e16,m16,r16,t16,iA16,vv16,i16,j16,vv16_2,i16_2,j16_2⟩:=SDS.at ir g16
  refine sI e16 r16 ?_
  refine sL t16 m16 0 ?_
  refine sA ?_
  intro h17 p17 x17
  refine zG ?_
  refine sS [.slice aA16 lA16 kA16,.bool ex16,.bool b16,.slice a16 l16 c16,.bool u16,.slice v16 w16 x16,.bool ex16_2,.bool b16_2,.slice a16_2 l16_2 c16_2,.bool u16_2,.slice v16_2 w16_2 x16_2] ?_
  intro h18 p18 o18
  refine zG ?_
  refine zB [0,0,0,6,14,31,63,127,127,0,767,2047] rfl ?_
  refine zH ?_
  obtain ⟨d19,g19⟩:∃d,(xs)[j]?=some d:=⟨_,List.getElem?_eq_getElem zo⟩
  obtain ⟨k19,o19,b19,a19,l19,c19,u19,v19,w19,x19,e19,m19,r19,t19,i19,j19⟩:=QS.at ix g19
  refine dI e19 r19 ?_
  refine dL t19 m19 0 ?_
  refine dC (er _ (g.x zx) vv16 (i16.x zx) (j16.x zx) vv16_2 (i16_2.x zx) (j16_2.x zx) (i19.x zx) (j19.x zx) (srs _ (List.mem_of_getElem? g16)).1 (srs _ (List.mem_of_getElem? g16)).2 (sxs _ (List.mem_of_getElem? g19)) zo) ?_
  rintro _ h20 n20 ⟨b20,a20,l20,c20,d20,e20,f20,g20,ok20,rfl,i20,j20,bm20⟩ y20 x20
  rcases bvs bm20 with ⟨rfl,m20⟩|⟨rfl,m20⟩
  ·refine zH ?_
   refine dB [.bool false,.slice none 0 0,.bool false,.slice none 0 0] ?_
   intro h21 p21 x21
   refine dS [.bool b20,.slice a20 l20 c20,.bool d20,.slice e20 f20 g20] ?_
   intro h22 p22 o22
   refine zJ ?_
   refine sT #[.bool false,.slice none 0 0,.bool false,.slice none 0 0] ?_
   refine sS [.bool false,.slice none 0 0,.bool false,.slice none 0 0] ?_
   intro h23 p23 o23
   refine zq ?_
   exact ⟨_,_,_,_,_,_,_,_,_,rfl,⟨fun hq=>(by cases hq),fun hq=>absurd (hq.1 _ _ _ g16 g19) m20⟩,fun hq=>(by cases hq)⟩
  refine zH ?_
  refine dB [.bool false,.slice none 0 0,.bool false,.slice none 0 0] ?_
  intro h24 p24 x24
  refine dS [.bool b20,.slice a20 l20 c20,.bool d20,.slice e20 f20 g20] ?_
  intro h25 p25 o25
  refine zJ ?_
  refine sC (addQ _ (g.x zx) (i14_0_0.t zt) (i14_0_1.t zt) (i20.t zt) (j20.t zt) (qY srs sxs _ zo zo) (pa (sxs _ (List.mem_of_getElem? g19)) (srs _ (List.mem_of_getElem? g16)).1 (srs _ (List.mem_of_getElem? g16)).2) zo) ?_
  rintro _ h26 n26 ⟨b26,a26,l26,c26,d26,e26,f26,g26,rfl,i26,j26⟩ y26 x26
  refine sS [.bool b26,.slice a26 l26 c26,.bool d26,.slice e26 f26 g26] ?_
  intro h27 p27 o27
  refine zG ?_
  exact sK (j+1,b26,a26,l26,c26,d26,e26,f26,g26) ⟨rfl,zo,zy,p27,((i26.t zt).as (by rw [vx g16 g19])),((j26.t zt).as (by rw [vx g16 g19])),(by show j+1≤rs.length;omega),(hok.step g16 g19 m20)⟩
 refine zG ?_
 have hok1:=hok.all (.inl zo)
 refine zG ?_
 refine sF (α:=Nat×Bool×Option Addr×Nat×Nat×Bool×Option Addr×Nat×Nat) (fun z=>[(2,.slice ay ly cy),(6,.pointer (some ⟨3*(n+1)+2,0,none⟩)),(8,.pointer (some ⟨3*(n+1+1)+2,0,none⟩)),(42,.slice ac lc cc),(43,.int .i64 (lc:Int)),(44,.int .i64 (z.1:Int))]) (fun z h' n' w'=>w'=[]∧n14≤n'∧ExtB n14 [3*(n+1+1)+2] h14 h'∧h' (3*(n+1+1)+2)=some (.row [.bool z.2.1,.slice z.2.2.1 z.2.2.2.1 z.2.2.2.2.1,.bool z.2.2.2.2.2.1,.slice z.2.2.2.2.2.2.1 z.2.2.2.2.2.2.2.1 z.2.2.2.2.2.2.2.2] 64)∧IW h' n' z.2.1 z.2.2.1 z.2.2.2.1 z.2.2.2.2.1 ((sumS rs (xs.take rs.length)+sumS (cs.take z.1) (ys.take z.1)).num)∧IW h' n' z.2.2.2.2.2.1 z.2.2.2.2.2.2.1 z.2.2.2.2.2.2.2.1 z.2.2.2.2.2.2.2.2 (denZ (sumS rs (xs.take rs.length)+sumS (cs.take z.1) (ys.take z.1)))∧z.1≤cs.length∧okT cs ys z.1) (fun z=>cs.length-z.1) (0,bS,aS,lS,kS,uS,vS,wS,xS) ⟨rfl,Nat.le_refl _,ExtB.refl _ _ _,p14_0,i14_0_0.as (by rw [List.take_zero,uU,Rat.add_zero,show j=rs.length by omega,List.take_length]),i14_0_1.as (by rw [List.take_zero,uU,Rat.add_zero,show j=rs.length by omega,List.take_length]),(Nat.zero_le _),(hT.zero _ _)⟩ ?_
 rintro ⟨i,bT,aT,lT,kT,uT,vT,wT,xT⟩ t h28 n28 _ ⟨rfl,y28,Y28,p28_0,i28_0_0,i28_0_1,hi,hok2⟩
 have p28_0:h28 (3*(n+1+1)+2)=some (.row [.bool bT,.slice aT lT kT,.bool uT,.slice vT wT xT] 64):=p28_0
 have i28_0_0:IW h28 n28 bT aT lT kT ((sumS rs (xs.take rs.length)+sumS (cs.take i) (ys.take i)).num):=i28_0_0
 have i28_0_1:IW h28 n28 uT vT wT xT (denZ (sumS rs (xs.take rs.length)+sumS (cs.take i) (ys.take i))):=i28_0_1
 have hi:i≤cs.length:=hi
 have hok2:okT cs ys i:=hok2
 have hjm:i*(a+b+1)≤cs.length*(a+b+1):=Nat.mul_le_mul_right _ hi
 refine zG ?_
 by_cases q29:(i:Int)<(lc:Int)
 ·refine zG ?_
  obtain ⟨d30,g30⟩:∃d,(cs)[i]?=some d:=⟨_,List.getElem?_eq_getElem zo⟩
  obtain ⟨k30,o30,aA30,lA30,kA30,ex30,b30,a30,l30,c30,u30,v30,w30,x30,ex30_2,b30_2,a30_2,l30_2,c30_2,u30_2,v30_2,w30_2,x30_2,e30,m30,r30,t30,iA30,vv30,i30,j30,vv30_2,i30_2,j30_2⟩:=SDS.at ic g30
  refine sI e30 r30 ?_
  refine sL t30 m30 0 ?_
  refine sA ?_
  intro h31 p31 x31
  refine zG ?_
  refine sS [.slice aA30 lA30 kA30,.bool ex30,.bool b30,.slice a30 l30 c30,.bool u30,.slice v30 w30 x30,.bool ex30_2,.bool b30_2,.slice a30_2 l30_2 c30_2,.bool u30_2,.slice v30_2 w30_2 x30_2] ?_
  intro h32 p32 o32
  refine zG ?_
  refine zB [0,0,0,6,14,31,63,127,127,0,767,2047] rfl ?_
  refine zH ?_
  obtain ⟨d33,g33⟩:∃d,(ys)[i]?=some d:=⟨_,List.getElem?_eq_getElem zo⟩
  obtain ⟨k33,o33,b33,a33,l33,c33,u33,v33,w33,x33,e33,m33,r33,t33,i33,j33⟩:=QS.at iy g33
  refine dI e33 r33 ?_
  refine dL t33 m33 0 ?_
  refine dC (er _ (g.x zx) vv30 (i30.x zx) (j30.x zx) vv30_2 (i30_2.x zx) (j30_2.x zx) (i33.x zx) (j33.x zx) (scs _ (List.mem_of_getElem? g30)).1 (scs _ (List.mem_of_getElem? g30)).2 (sys _ (List.mem_of_getElem? g33)) zo) ?_
  rintro _ h34 n34 ⟨b34,a34,l34,c34,d34,e34,f34,g34,ok34,rfl,i34,j34,bm34⟩ y34 x34
  rcases bvs bm34 with ⟨rfl,m34⟩|⟨rfl,m34⟩
  ·refine zH ?_
   refine dB [.bool false,.slice none 0 0,.bool false,.slice none 0 0] ?_
   intro h35 p35 x35
   refine dS [.bool b34,.slice a34 l34 c34,.bool d34,.slice e34 f34 g34] ?_
   intro h36 p36 o36
   refine zJ ?_
   refine sT #[.bool false,.slice none 0 0,.bool false,.slice none 0 0] ?_
   refine sS [.bool false,.slice none 0 0,.bool false,.slice none 0 0] ?_
   intro h37 p37 o37
   refine zq ?_
   exact ⟨_,_,_,_,_,_,_,_,_,rfl,⟨fun hq=>(by cases hq),fun hq=>absurd (hq.2 _ _ _ g30 g33) m34⟩,fun hq=>(by cases hq)⟩
  refine zH ?_
  refine dB [.bool false,.slice none 0 0,.bool false,.slice none 0 0] ?_
  intro h38 p38 x38
  refine dS [.bool b34,.slice a34 l34 c34,.bool d34,.slice e34 f34 g34] ?_
  intro h39 p39 o39
  refine zJ ?_
  refine sC (addQ _ (g.x zx) (i28_0_0.t zt) (i28_0_1.t zt) (i34.t zt) (j34.t zt) (nk scs sys hR _ zo zo) (pa (sys _ (List.mem_of_getElem? g33)) (scs _ (List.mem_of_getElem? g30)).1 (scs _ (List.mem_of_getElem? g30)).2) zo) ?_
  rintro _ h40 n40 ⟨b40,a40,l40,c40,d40,e40,f40,g40,rfl,i40,j40⟩ y40 x40
  refine sS [.bool b40,.slice a40 l40 c40,.bool d40,.slice e40 f40 g40] ?_
  intro h41 p41 o41
  refine zG ?_
  exact sK (i+1,b40,a40,l40,c40,d40,e40,f40,g40) ⟨rfl,zo,zy,p41,((i40.t zt).as (by rw [vx g30 g33,←Rat.add_assoc])),((j40.t zt).as (by rw [vx g30 g33,←Rat.add_assoc])),(by show i+1≤cs.length;omega),(hok2.step g30 g33 m34)⟩
 refine zG ?_
 have hok3:=hok2.all (.inl zo)
 refine zG ?_
 refine sS [.bool bT,.slice aT lT kT,.bool uT,.slice vT wT xT] ?_
 intro h42 p42 o42
 refine zq ?_
 exact ⟨_,_,_,_,_,_,_,_,_,rfl,⟨fun _=>⟨hok1,hok3⟩,fun _=>rfl⟩,fun _=>⟨(i28_0_0.t zt).as (by rw [show i=cs.length by omega,List.take_length]),(i28_0_1.t zt).as (by rw [show i=cs.length by omega,List.take_length])⟩⟩
end
section
end
section
end
section
variable {p:LPD}
theorem yV (p:LPD):(xF p).length=p.rows.length:=by unfold xF;rw [List.length_map]
theorem fO (h:p.lower.length=p.upper.length):(wj p).length=p.lower.length:=by unfold wj;rw [List.length_zipWith,h,Nat.min_self]
theorem LPB.rows {a:Nat}(h:LPB a p):SdB a (xF p):=by
 intro d hd
 obtain ⟨r,hr,rfl⟩:=List.mem_map.1 hd
 exact ⟨(h.rl r hr).1.2,(h.rl r hr).2.1.2⟩
theorem LPB.cols {a:Nat}(h:LPB a p):SdB a (wj p):=by
 intro d hd
 unfold wj at hd
 rw [List.mem_iff_getElem?] at hd
 obtain ⟨j,hj⟩:=hd
 rw [List.getElem?_zipWith] at hj
 split at hj
 ·rename_i lo hi h1 h2
  injection hj with hj
  subst hj
  exact ⟨(h.lw _ (List.mem_of_getElem? h1)).2,(h.up _ (List.mem_of_getElem? h2)).2⟩
 cases hj
end
def pOps (E:Env):List Oper→List Nat→Nat→List Nat→Bool
 |[],_,_,_=>true
 |o::r,m::ms,i,es=>match o.op with
  | .store _ _ _=>es.all (fun j=>m.testBit j)&&pOps E r ms (i+1) (i::es)
  |_=>(qOp E o.op&& !(Nat.beq (cls o.op) 1))&&pOps E r ms (i+1) es
 |_::_,[],_,_=>false
theorem em {m:Nat}:∀{ef:List (Nat×HF×List Nat)},(∀y∈ef,m.testBit y.1=true)→xj m ef=true:=by
 intro ef
 induction ef with
 |nil=>intro _;rfl
 |cons y ef ih=>
  intro h
  obtain ⟨j,g⟩:=y
  unfold xj
  rw [h (j,g) (by simp)]
  exact ih fun z hz=>h z (by simp [hz])
theorem dY {X:CtxF}{ops:List Oper}:∀(l:List Oper) (ms:List Nat) (i:Nat) (s:SV) (ef:List (Nat×HF×List Nat)) (es:List Nat),(∀y∈ef,y.1∈es)→pOps X.E l ms i es=true→zK X ops l ms i ⟨s,[],[],ef⟩=seqF X ops l s:=by
 intro l
 induction l with
 |nil=>intro ms i s ef es _ _;simp [zK,seqF]
 |cons o l ih=>
  intro ms i s ef es hes hp
  cases ms with
  |nil=>simp [pOps] at hp
  |cons m ms=>
   unfold pOps at hp
   unfold zK seqF
   simp only
   split at hp
   ·rename_i ty a x ho
    rw [Bool.and_eq_true] at hp
    cases hw:zg ops s.t o with
    |false=>
     simp only
     congr 1
     funext s1
     exact ih ms (i+1) s1 ef (i::es) (fun y hy=>List.mem_cons_of_mem _ (hes y hy)) hp.2
    |true=>
     simp only
     have hc:cls o.op=3:=by rw [ho];rfl
     unfold ta opF
     have hef:xj m ef=true:=em fun y hy=>List.all_eq_true.1 hp.1 _ (hes y hy)
     simp only [hc,hef,xz,Bool.and_self]
     unfold ql
     have e1:effF X.E o.op (evF s.t) s.h s.n=vm X.E ty (evF s.t a) (evF s.t x) s.h s.n:=by rw [ho];rfl
     rw [e1]
     cases he:vm X.E ty (evF s.t a) (evF s.t x) s.h s.n with
     |none=>rfl
     |some r=>
      obtain ⟨v,h',n',W,rfl⟩:=pT he
      have en:=iP he
      subst en
      simp only
      have hok:z9 m W []=true:=rfl
      unfold y2
      split
      ·simp only [hok,Nat.ble_eq_true_of_le (Nat.le_refl _),Bool.and_self]
       refine ih ms (i+1) _ _ (i::es) (fun y hy=>?_) hp.2
       rcases List.mem_cons.1 hy with rfl|hy
       ·exact List.mem_cons_self
       exact List.mem_cons_of_mem _ (hes y hy)
      rfl
   rw [Bool.and_eq_true,Bool.and_eq_true] at hp
   cases hw:zg ops s.t o with
   |false=>
    simp only
    congr 1
    funext s1
    exact ih ms (i+1) s1 ef es hes hp.2
   |true=>
    simp only
    unfold ta opF
    rcases gp hp.1.1 with hlt|⟨t,d,x,k,ho,hk⟩
    ·cases hc:cls o.op with
     |zero=>
      simp only [hc]
      cases ya X.E o.op (evF s.t) with
      |none=>rfl
      |some v=>
       simp only
       congr 1
       funext s1
       exact ih ms (i+1) s1 ef es hes hp.2
     |succ c=>
      cases c with
      |zero=>rw [hc] at hp;simp at hp
      |succ c=>omega
    have hc:cls o.op=4:=by rw [ho];rfl
    have hm:mkE X.E o.op (evF s.t)=none:=by rw [ho];exact uE hk _
    simp only [hc,hm]
    cases hpu:ya X.E o.op (evF s.t) with
    |none=>
     rw [ho]
     simp only [wC hk]
    |some v=>
     rw [ho]
     simp only [wC hk]
     congr 1
     funext s1
     exact ih ms (i+1) s1 ef es hes hp.2
theorem qe {X:CtxF}{id:Nat}{ops:Array Oper}{s:SV}{Q:Ex→SV→Prop}(hq:pOps X.E ops.toList (yW ops.toList []) 0 []=true):EC X (.region id ops true) s Q↔EO X ops.toList ops.toList s (Q .normal):=by
 unfold EC EO
 rw [yJ]
 have key:zK X ops.toList ops.toList (yW ops.toList []) 0 ⟨s,[],[],[]⟩=seqF X ops.toList ops.toList s:=dY _ _ _ _ _ _ (fun y hy=>absurd hy List.not_mem_nil) hq
 rw [key]
 cases h:seqF X ops.toList ops.toList s with
 |none=>simp
 |some r=>simp only [wy];simp
section
variable {ty ty':TypeId}{x y:Operand}{s:List UInt8}{i j m:Nat}{ik ik':IntKind}
def yp:List UInt8:=[48,48,48,49,48,50,48,51,48,52,48,53,48,54,48,55,48,56,48,57,49,48,49,49,49,50,49,51,49,52,49,53,49,54,49,55,49,56,49,57,50,48,50,49,50,50,50,51,50,52,50,53,50,54,50,55,50,56,50,57,51,48,51,49,51,50,51,51,51,52,51,53,51,54,51,55,51,56,51,57,52,48,52,49,52,50,52,51,52,52,52,53,52,54,52,55,52,56,52,57,53,48,53,49,53,50,53,51,53,52,53,53,53,54,53,55,53,56,53,57,54,48,54,49,54,50,54,51,54,52,54,53,54,54,54,55,54,56,54,57,55,48,55,49,55,50,55,51,55,52,55,53,55,54,55,55,55,56,55,57,56,48,56,49,56,50,56,51,56,52,56,53,56,54,56,55,56,56,56,57,57,48,57,49,57,50,57,51,57,52,57,53,57,54,57,55,57,56,57,57]
theorem xE (m:Nat)(hm:m<100):∃b1 b2,yp[m*2]?=some b1∧yp[m*2+1]?=some b2∧b1.toNat=48+m/10∧b2.toNat=48+m%10∧(yp.drop (m*2)).take 2=[b1,b2]:=by
 have h:∀i:Fin 100,(match yp[i.val*2]?,yp[i.val*2+1]? with|some b1,some b2=>decide (b1.toNat=48+i.val/10∧b2.toNat=48+i.val%10∧(yp.drop (i.val*2)).take 2=[b1,b2])|_,_=>false)=true:=by decide+kernel
 have:=h ⟨m,hm⟩
 simp only at this
 split at this
 ·rename_i b1 b2 h1 h2
  have h3:=of_decide_eq_true this
  exact ⟨b1,b2,h1,h2,h3.1,h3.2.1,h3.2.2⟩
 cases this
section
variable {X:CtxF}{ops r:List Oper}{t:TF}{h:HF}{n:Nat}{w:List Nat}{Q:SV→Prop}{o:Oper}{d:Tmp}
theorem pV {i l:Operand}(hw:zg ops t o=true∧o.dst=some d∧zj X.nt (some d)=true∧o.op=.slice ty x (some i) (some l) none∧X.E.und ty=some .string∧evF t x=.string ⟨⟨s⟩⟩∧evF t i=.int ik (j:Int)∧evF t l=.int ik' (m:Int))(hl:j≤m∧m≤s.length)
  (k:EO X ops r ⟨upd t d (.string ⟨⟨(s.drop j).take (m-j)⟩⟩),h,n,w⟩ Q):EO X ops (o::r) ⟨t,h,n,w⟩ Q:=by
 obtain ⟨hw,hd,hn,ho,hu,hx,hj,hm⟩:=hw
 refine zA ⟨hw,hd,hn,(by rw [ho];rfl)⟩ ?_ k
 rw [ho]
 show yU X.E ty (evF t x) (some (evF t i)) (some (evF t l))=_
 rw [hx,hj,hm]
 have h1:(0:Int)≤(j:Int)∧(j:Int)≤(m:Int):=zo
 have h2:(0:Int)≤(m:Int)∧(m:Int)≤(s.length:Int):=zo
 simp only [yU,hu,bnd,if_pos h1,if_pos h2,Int.toNat_natCast]
end
section
variable {X:CtxF}{ops r:List Oper}{t:TF}{h:HF}{n:Nat}{w:List Nat}{Q:SV→Prop}{o:Oper}{d:Tmp}
theorem kQ {a s:Nat}(hw:zg ops t o=true)(hd:o.dst=some d)(hn:zj X.nt (some d)=true)(ho:o.op=.binOp .shr ty x y ty')(hx:evF t x=.int .i64 (a:Int))(hy:evF t y=.int ik (s:Int))(hs:s≤64)
  (k:EO X ops r ⟨upd t d (.int .i64 ((a/2^s:Nat):Int)),h,n,w⟩ Q):EO X ops (o::r) ⟨t,h,n,w⟩ Q:=by
 refine zA ⟨hw,hd,hn,(by rw [ho];rfl)⟩ ?_ k
 rw [ho]
 show binE X.E .shr ty (evF t x) (evF t y)=_
 rw [hx,hy]
 have hb:¬(s:Int)<0:=zo
 have e:min (s:Int).toNat (IntKind.bits .i64)=s:=by simp [IntKind.bits];omega
 simp only [binE,isSh,shE,if_neg hb,e]
 rw [Int.fdiv_eq_ediv_of_nonneg _ (Int.le_of_lt (Int.pow_pos zd)),show (2:Int)^s=((2^s:Nat):Int) from by simp]
 rfl
end
theorem jI (h:i<10):decT i=[UInt8.ofNat (48+i)]:=by
 have hd:(UInt8.ofNat (48+i)).toNat=48+i:=w8 h
 by_cases h0:i=0
 ·subst h0;rfl
 have:=tS (d:=[UInt8.ofNat (48+i)]) (fun b hb=>by rw [List.mem_singleton.1 hb,hd];omega) (by simp) (by
  intro e
  injection e with e
  have:=congrArg UInt8.toNat e
  rw [hd] at this
  have h48:(48:UInt8).toNat=48:=rfl
  omega)
 rw [←this]
 congr 1
 show i=10*0+((UInt8.ofNat (48+i)).toNat-48)
 rw [hd];omega
theorem cd {b1 b2:UInt8}(h1:10≤i∧i<100)(e1:b1.toNat=48+i/10)(e2:b2.toNat=48+i%10):decT i=[b1,b2]:=by
 have:=tS (d:=[b1,b2]) (fun b hb=>by
  simp only [List.mem_cons,List.not_mem_nil,or_false] at hb
  rcases hb with rfl|rfl<;>omega) (by simp) (by
  intro e
  injection e with e
  have:=congrArg UInt8.toNat e
  have h48:(48:UInt8).toNat=48:=rfl
  omega)
 rw [←this]
 congr 1
 show i=10*(10*0+(b1.toNat-48))+(b2.toNat-48)
 omega
def zbf:List UInt8:=[48,49,50,51,52,53,54,55,56,57,97,98,99,100,101,102,103,104,105,106,107,108,109,110,111,112,113,114,115,116,117,118,119,120,121,122]
theorem zbe (m:Nat)(hm:m<10):(zbf.drop m).take 1=[UInt8.ofNat (48+m)]:=by
 have h:∀i:Fin 10,(zbf.drop i.val).take 1=[UInt8.ofNat (48+i.val)]:=by decide+kernel
 exact h ⟨m,hm⟩
theorem q9 (k:Nat)(h:HF)(n:Nat)(hi:i<100):VF (cal (k+1)) 167 [.int .i64 (i:Int)] h n fun v=>v=.string ⟨⟨decT i⟩⟩:=by
 refine zu (fn:=Tryz.f167) R4 ?_
 refine zN ?_
 repeat refine zR ?_
 refine zN ?_
 by_cases h10:i<10
 ·repeat refine zR ?_
  refine zN ?_
  rw [zc rfl]
  refine zN ?_
  refine zM ?_
  refine zM ?_
  refine zR ?_
  refine pV (s:=zbf) (j:=i) (m:=i+1) R8 ⟨zo,by show i+1≤36;omega⟩ ?_
  rw [show i+1-i=1 by omega,zbe i h10,←jI h10]
  refine zM ?_
  refine zN ?_
  exact retF _ rfl (zh rfl) R2 rfl
 repeat refine zR ?_
 refine zN ?_
 rw [za rfl]
 refine zN ?_
 obtain ⟨b1,b2,_,_,e1,e2,e3⟩:=xE i hi
 refine zM ?_
 refine st_mul (a:=(i:Int)) (b:=2) rfl rfl rfl rfl rfl rfl zo ?_
 refine zM ?_
 refine st_mul (a:=(i:Int)) (b:=2) rfl rfl rfl rfl rfl rfl zo ?_
 refine zR ?_
 refine pV (s:=yp) (j:=i*2) (m:=i*2+2) R8 ⟨zo,by show i*2+2≤200;omega⟩ ?_
 rw [show i*2+2-i*2=2 by omega,e3,←cd zo e1 e2]
 refine zM ?_
 refine zN ?_
 exact retF _ rfl (zh rfl) R2 rfl
theorem kq (k:Nat)(h:HF)(n:Nat)(b:Bool):VF (cal (k+1)) 195 [.bool b] h n fun v=>v=.int .i64 (if b then 1 else 0):=by
 refine zu (fn:=Tryz.f195) R4 ?_
 refine zN ?_
 repeat refine zR ?_
 refine zN ?_
 repeat refine zR ?_
 refine zN ?_
 cases b
 ·rw [za rfl]
  refine zN ?_
  repeat refine zR ?_
  refine zN ?_
  exact retF _ rfl (zh rfl) R2 rfl
 rw [zc rfl]
 refine zN ?_
 repeat refine zR ?_
 refine zN ?_
 exact retF _ rfl (zh rfl) R2 rfl
theorem dz (k:Nat)(h:HF)(n:Nat)(hm:m≤64):VF (cal (k+1)) 193 [.int .i64 (m:Int)] h n fun v=>v=.int .i64 ((m*78913/262144:Nat):Int):=by
 refine zu (fn:=Tryz.f193) R4 ?_
 refine zN ?_
 refine zM ?_
 refine zN ?_
 refine zM ?_
 refine st_mul (a:=(m:Int)) (b:=78913) rfl rfl rfl rfl rfl rfl zo ?_
 refine kQ (a:=m*78913) (s:=18) rfl rfl rfl rfl rfl rfl zo ?_
 refine zM ?_
 refine zN ?_
 exact retF _ rfl (zh rfl) R2 rfl
theorem zct (hm:m<20):GK.p10[0+(m:Int).toNat*1]?=some (.int .u64 ((10^m:Nat):Int)):=by
 rw [show 0+(m:Int).toNat*1=m from zo]
 have h:∀i:Fin 20,(match GK.p10[i.val]? with|some (.int .u64 x)=>decide (x=((10^i.val:Nat):Int))|_=>false)=true:=by decide+kernel
 have:=h ⟨m,hm⟩
 simp only at this
 split at this
 ·rename_i x hx
  rw [hx,of_decide_eq_true this]
 cases this
theorem jo (hm:m≤64):m*78913/262144<20∧2^m≤10^(m*78913/262144+1)∧10^(m*78913/262144)≤5*2^m:=by
 have h:∀i:Fin 65,decide (i.val*78913/262144<20∧2^i.val≤10^(i.val*78913/262144+1)∧10^(i.val*78913/262144)≤5*2^i.val)=true:=by decide+kernel
 exact of_decide_eq_true (h ⟨m,zo⟩)
theorem wo (k:Nat){h:HF}(hG:GK.G h)(n:Nat){x:Nat}(hx:x<18446744073709551616)(h0:x≠0):VF (cal (k+2)) 168 [.int .u64 (x:Int)] h n fun v=>∃m:Nat,v=.int .i64 (m:Int)∧1≤m∧m≤20∧x<10^m∧10^(m-1)≤x:=by
 refine zu (fn:=Tryz.f168) R4 ?_
 refine zN ?_
 repeat refine zR ?_
 refine zN ?_
 refine zM ?_
 refine z0 _ R5 (lJ k _ _ hx) ?_
 rintro _ ⟨m,rfl,hm,hm1,hm2⟩
 refine z0 _ R5 (dz k _ _ hm) ?_
 rintro _ rfl
 obtain ⟨s1,s2,s3⟩:=jo hm
 have s4:=hm2 h0
 generalize m*78913/262144=q at s1 s2 s3 ⊢
 refine zM ?_
 refine zN ?_
 refine zM ?_
 refine zM ?_
 refine zM ?_
 refine nw R8 ⟨Int.natCast_nonneg _,Int.ofNat_lt.2 s1⟩ ?_
 refine zL R6 hG.2.1 (v:=.int .u64 ((10^q:Nat):Int)) ⟨rfl,(zct s1)⟩ ?_
 by_cases hge:10^q≤x
 ·refine pY R6 (Int.ofNat_le.2 hge) ?_
  refine z0 _ R5 (kq (k+1) _ _ true) ?_
  rintro _ rfl
  refine vo (a:=(q:Int)) (b:=1) R6 zo ?_
  refine zM ?_
  refine zN ?_
  exact retF _ rfl (zh rfl) R2 ⟨q+1,rfl,zo,zo,Nat.lt_of_lt_of_le hm1 s2,hge⟩
 refine m8 R6 (fun hh=>hge (Int.ofNat_le.1 hh)) ?_
 refine z0 _ R5 (kq (k+1) _ _ false) ?_
 rintro _ rfl
 refine vo (a:=(q:Int)) (b:=0) R6 zo ?_
 rw [Int.add_zero]
 refine zM ?_
 refine zN ?_
 have hq0:1≤q:=by
  rcases Nat.eq_zero_or_pos q with h|h
  ·subst h;rw [Nat.pow_zero] at hge;omega
  exact h
 refine retF _ rfl (zh rfl) R2 ⟨q,rfl,hq0,zo,zo,?_⟩
 obtain ⟨p,rfl⟩:∃p,q=p+1:=⟨q-1,zo⟩
 rw [Nat.pow_succ] at s3
 show 10^p≤x
 omega
end
section
variable {h h0:HF}{B U cap i m n:Nat}{e:TypeId}{c c0:List Value}{w:List Nat}
def Dg (c:List Value)(o L U i:Nat):Prop:=∀j,i≤j→j<L→c[o+j]?=some (.int .u8 ((48+U/10^(L-1-j)%10:Nat):Int))
structure FbI (h0:HF)(B:Nat)(e:TypeId)(o L U:Nat)(c0:List Value)(h:HF)(w:List Nat)(c:List Value)(i:Nat):Prop where
 w1:∀b∈w,b=B
 w2:w=[]→h=h0
 oth:Only B h0 h
 row:h B=some (.row c e)
 len:c.length=c0.length
 dg:Dg c o L U i
 out:∀k,(k<o∨o+L≤k)→c[k]?=c0[k]?
theorem FbI.put {o L:Nat}{v:Nat}(f:FbI h0 B e o L U c0 h w c i)(hi:i=m+1)(hL:i≤L)(hl:o+L≤c0.length)(hv:v=48+U/10^(L-i)%10):FbI h0 B e o L U c0 (upd h B (some (.row (c.set (o+m) (.int .u8 (v:Int))) e))) (B::w) (c.set (o+m) (.int .u8 (v:Int))) m:=by
 refine ⟨fun b hb=>?_,fun h=>(by cases h),fun b hb=>(zi hb).trans (f.oth b hb),ze _ _ _,by rw [List.length_set,f.len],fun j h1 h2=>?_,fun k hk=>?_⟩
 ·rcases List.mem_cons.1 hb with h|h
  ·exact h
  exact f.w1 b h
 ·by_cases e2:j=m
  ·subst e2
   rw [List.getElem?_set_self (by rw [f.len];omega),hv,show L-1-j=L-i by omega]
  rw [List.getElem?_set_ne zo]
  exact f.dg j zo h2
 rw [List.getElem?_set_ne zo]
 exact f.out k hk
def FbP (h:HF)(n B:Nat)(e:TypeId)(o L U:Nat)(c0:List Value)(h':HF)(n':Nat)(w:List Nat):Prop:=n'=n∧(∀b∈w,b=B)∧∃c,FbI h B e o L U c0 h' w c 0
theorem pw (k:Nat){o L:Nat}(hB:B<3*n)(hrow:h B=some (.row c0 e))(hl:o+L≤c0.length)(hL:1≤L∧L≤20)(hU:U<10^L)(hU2:U<18446744073709551616):
  CF (cal (k+1)) 169 [.slice (some ⟨B,o,none⟩) L cap,.int .u64 (U:Int)] h n fun _ h' n' w=>FbP h n B e o L U c0 h' n' w:=by
 refine im (fn:=Tryz.f169) R4 ?_
 have f0:FbI h B e o L U c0 h [] c0 L:=⟨fun b hb=>absurd hb List.not_mem_nil,fun _=>rfl,fun _ _=>rfl,hrow,rfl,fun j h1 h2=>absurd h1 zo,fun _ _=>rfl⟩
 refine zN ?_
 repeat refine zR ?_
 refine zN ?_
 refine zZ (α:=Nat×Nat×List Value) (fun z=>[(0,.slice (some ⟨B,o,none⟩) L cap),(1,.int .u64 (z.2.1:Int)),(4,.int .i64 (z.1:Int))])
  (fun z h' n' w=>n=n'∧FbI h B e o L U c0 h' w z.2.2 z.1∧z.1≤L∧z.2.1=U/10^(L-z.1)) (fun z=>z.1) (L,U,c0) ⟨rfl,rfl,rfl,trivial⟩ ⟨rfl,f0,Nat.le_refl _,by show U=U/10^(L-L);rw [Nat.sub_self,Nat.pow_zero,Nat.div_one]⟩ (by show L<LL;unfold LL;omega) ?_
 rintro ⟨i,u,c⟩ t h1 _ w ⟨rfl,f1,hi,hu⟩
 have f1:FbI h B e o L U c0 h1 w c i:=f1
 have hi:i≤L:=hi
 have hu:u=U/10^(L-i):=hu
 have dg:∀q,U/10^(L-i+q)=u/10^q:=fun q=>by rw [hu,Nat.div_div_eq_div_mul,←Nat.pow_add]
 have hub:u<18446744073709551616:=by rw [hu];exact Nat.lt_of_le_of_lt (Nat.div_le_self _ _) hU2
 have hui:u<10^i:=by
  rw [hu]
  refine Nat.div_lt_of_lt_mul ?_
  rw [←Nat.pow_add,show L-i+i=L by omega]
  exact hU
 refine zN ?_
 by_cases h8:8≤i
 ·repeat refine zR ?_
  refine zN ?_
  rw [zc rfl]
  refine zN ?_
  refine zM ?_
  refine wF (a:=u) (b:=100000000) R6 zo ?_
  refine ny (c:=u%100000000) R7 zo ?_
  refine zM ?_
  refine zN ?_
  refine zM ?_
  refine y6 (a:=u) (b:=100000000) R6 ⟨zo,zo⟩ ?_
  refine zM ?_
  refine zN ?_
  generalize hus:u%100000000=us
  refine zM ?_
  refine xR (a:=us) (b:=10000) R6 ⟨zo,zo⟩ ?_
  refine zM ?_
  refine xQ (a:=us) (b:=10000) R6 zo ?_
  refine zM ?_
  refine zM ?_
  refine zN ?_
  generalize hlo:us%10000=lo
  generalize hhi:us/10000=hg
  have hm0:lo%100=u%100:=zo
  refine zM ?_
  refine xR (a:=lo) (b:=100) R6 ⟨zo,zo⟩ ?_
  refine y5 (a:=lo/100) (b:=2) R6 zo ?_
  refine zM ?_
  refine xQ (a:=lo) (b:=100) R6 zo ?_
  refine y5 (a:=lo%100) (b:=2) R6 zo ?_
  refine zM ?_
  refine zM ?_
  refine zN ?_
  refine zM ?_
  refine xR (a:=hg) (b:=100) R6 ⟨zo,zo⟩ ?_
  refine y5 (a:=hg/100) (b:=2) R6 zo ?_
  refine zM ?_
  refine xQ (a:=hg) (b:=100) R6 zo ?_
  refine y5 (a:=hg%100) (b:=2) R6 zo ?_
  refine zM ?_
  refine zM ?_
  refine zN ?_
  generalize hm1:lo%100=m1
  generalize hm2:lo/100=m2
  generalize hm3:hg%100=m3
  generalize hm4:hg/100=m4
  have k0:m1%10=u%10∧m1/10=u/10%10:=zo
  have k1:m2%10=u/100%10∧m2/10=u/1000%10:=zo
  have k2:m3%10=u/10000%10∧m3/10=u/100000%10:=zo
  have k3:m4%10=u/1000000%10∧m4/10=u/10000000%10:=zo
  have l1:m1<100∧m2<100∧m3<100∧m4<100:=zo
  clear hm0 hm1 hm2 hm3 hm4 hlo hhi hus
  rw [qe rfl]
  obtain ⟨b1,b2,s1,s2,s3,s4,_⟩:=xE (m1) zo
  refine zM ?_
  refine zM ?_
  refine zR ?_
  refine zM ?_
  refine zM ?_
  refine zR ?_
  refine zM ?_
  refine yQ (a:=m1*2) (b:=1) R6 zo ?_
  refine yk (s:=yp) (j:=m1*2+1) R8 s2 ?_
  rw [s4]
  refine zM ?_
  refine yk (s:=yp) (j:=m1*2) R8 s1 ?_
  rw [s3]
  refine yh (j:=i-1) R8 zo ⟨zo,by rw [f1.len];omega⟩ f1.row (by show B<3*n;omega) (fun _=>rfl) R3 (fun _=>rfl) rfl fun _=>?_
  have f2:=f1.put (m:=i-1) (v:=48+(m1)%10) zo zo hl (by rw [←hu,k0.1])
  refine yh (j:=i-2) R8 zo ⟨zo,by rw [f2.len];omega⟩ f2.row (by show B<3*n;omega) (fun _=>rfl) R3 (fun _=>rfl) rfl fun _=>?_
  have f3:=f2.put (m:=i-2) (v:=48+(m1)/10) zo zo hl (by rw [show L-(i-1)=L-i+1 by omega,dg 1,k0.2])
  clear s1 s2 s3 s4
  refine zN ?_
  rw [qe rfl]
  obtain ⟨b1,b2,s1,s2,s3,s4,_⟩:=xE (m2) zo
  refine zM ?_
  refine zM ?_
  refine zR ?_
  refine zM ?_
  refine zM ?_
  refine zR ?_
  refine zM ?_
  refine yQ (a:=m2*2) (b:=1) R6 zo ?_
  refine yk (s:=yp) (j:=m2*2+1) R8 s2 ?_
  rw [s4]
  refine zM ?_
  refine yk (s:=yp) (j:=m2*2) R8 s1 ?_
  rw [s3]
  refine yh (j:=i-3) R8 zo ⟨zo,by rw [f3.len];omega⟩ f3.row (by show B<3*n;omega) (fun _=>rfl) R3 (fun _=>rfl) rfl fun _=>?_
  have f4:=f3.put (m:=i-3) (v:=48+(m2)%10) zo zo hl (by rw [show L-(i-2)=L-i+2 by omega,dg 2,k1.1])
  refine yh (j:=i-4) R8 zo ⟨zo,by rw [f4.len];omega⟩ f4.row (by show B<3*n;omega) (fun _=>rfl) R3 (fun _=>rfl) rfl fun _=>?_
  have f5:=f4.put (m:=i-4) (v:=48+(m2)/10) zo zo hl (by rw [show L-(i-3)=L-i+3 by omega,dg 3,k1.2])
  clear s1 s2 s3 s4
  refine zN ?_
  rw [qe rfl]
  obtain ⟨b1,b2,s1,s2,s3,s4,_⟩:=xE (m3) zo
  refine zM ?_
  refine zM ?_
  refine zR ?_
  refine zM ?_
  refine zM ?_
  refine zR ?_
  refine zM ?_
  refine yQ (a:=m3*2) (b:=1) R6 zo ?_
  refine yk (s:=yp) (j:=m3*2+1) R8 s2 ?_
  rw [s4]
  refine zM ?_
  refine yk (s:=yp) (j:=m3*2) R8 s1 ?_
  rw [s3]
  refine yh (j:=i-5) R8 zo ⟨zo,by rw [f5.len];omega⟩ f5.row (by show B<3*n;omega) (fun _=>rfl) R3 (fun _=>rfl) rfl fun _=>?_
  have f6:=f5.put (m:=i-5) (v:=48+(m3)%10) zo zo hl (by rw [show L-(i-4)=L-i+4 by omega,dg 4,k2.1])
  refine yh (j:=i-6) R8 zo ⟨zo,by rw [f6.len];omega⟩ f6.row (by show B<3*n;omega) (fun _=>rfl) R3 (fun _=>rfl) rfl fun _=>?_
  have f7:=f6.put (m:=i-6) (v:=48+(m3)/10) zo zo hl (by rw [show L-(i-5)=L-i+5 by omega,dg 5,k2.2])
  clear s1 s2 s3 s4
  refine zN ?_
  rw [qe rfl]
  obtain ⟨b1,b2,s1,s2,s3,s4,_⟩:=xE (m4) zo
  refine zM ?_
  refine zM ?_
  refine zR ?_
  refine zM ?_
  refine zM ?_
  refine zR ?_
  refine zM ?_
  refine yQ (a:=m4*2) (b:=1) R6 zo ?_
  refine yk (s:=yp) (j:=m4*2+1) R8 s2 ?_
  rw [s4]
  refine zM ?_
  refine yk (s:=yp) (j:=m4*2) R8 s1 ?_
  rw [s3]
  refine yh (j:=i-7) R8 zo ⟨zo,by rw [f7.len];omega⟩ f7.row (by show B<3*n;omega) (fun _=>rfl) R3 (fun _=>rfl) rfl fun _=>?_
  have f8:=f7.put (m:=i-7) (v:=48+(m4)%10) zo zo hl (by rw [show L-(i-6)=L-i+6 by omega,dg 6,k3.1])
  refine yh (j:=i-8) R8 zo ⟨zo,by rw [f8.len];omega⟩ f8.row (by show B<3*n;omega) (fun _=>rfl) R3 (fun _=>rfl) rfl fun _=>?_
  have f9:=f8.put (m:=i-8) (v:=48+(m4)/10) zo zo hl (by rw [show L-(i-7)=L-i+7 by omega,dg 7,k3.2])
  clear s1 s2 s3 s4
  refine zN ?_
  repeat refine zR ?_
  refine zN ?_
  exact goOn (i-8,u/100000000,_) (by show i-8<i;omega) ⟨rfl,rfl,by show Value.int .i64 _=Value.int .i64 _;congr 1;show (i:Int)-8=((i-8:Nat):Int);omega,trivial⟩ ⟨rfl,f9,by show i-8≤L;omega,by show u/100000000=U/10^(L-(i-8));rw [show L-(i-8)=L-i+8 by omega,dg 8]⟩
 repeat refine zR ?_
 refine zN ?_
 rw [za rfl]
 refine zN ?_
 have hu8:u<100000000:=Nat.lt_of_lt_of_le hui (Nat.pow_le_pow_right zd (show i≤8 by omega))
 refine zM ?_
 refine ny (c:=u) R7 zo ?_
 refine zM ?_
 refine zN ?_
 refine zM ?_
 refine kV R6 ?_
 refine zN ?_
 refine yN (α:=Nat×Nat×List Value) (fun z=>[(0,.slice (some ⟨B,o,none⟩) L cap),(4,.int .i64 (z.1:Int)),(12,.int .u32 (z.2.1:Int))]) (fun z h' n' w=>n=n'∧FbI h B e o L U c0 h' w z.2.2 z.1∧z.1≤L∧z.2.1=U/10^(L-z.1)∧z.2.1<10^z.1∧z.1<4) ?_ ?_
 ·by_cases h4:4≤i
  ·rw [decide_eq_true (show (i:Int)≥4 by omega)]
   rw [zc rfl]
   refine zN ?_
   refine zM ?_
   refine xQ (a:=u) (b:=10000) R6 zo ?_
   refine zM ?_
   refine zN ?_
   refine zM ?_
   refine xR (a:=u) (b:=10000) R6 ⟨zo,zo⟩ ?_
   refine zM ?_
   refine zN ?_
   generalize hlo:u%10000=lo
   refine zM ?_
   refine xR (a:=lo) (b:=100) R6 ⟨zo,zo⟩ ?_
   refine y5 (a:=lo/100) (b:=2) R6 zo ?_
   refine zM ?_
   refine xQ (a:=lo) (b:=100) R6 zo ?_
   refine y5 (a:=lo%100) (b:=2) R6 zo ?_
   refine zM ?_
   refine zM ?_
   refine zN ?_
   generalize hm1:lo%100=m1
   generalize hm2:lo/100=m2
   have k0:m1%10=u%10∧m1/10=u/10%10:=zo
   have k1:m2%10=u/100%10∧m2/10=u/1000%10:=zo
   have l1:m1<100∧m2<100:=zo
   clear hm1 hm2 hlo
   rw [qe rfl]
   obtain ⟨b1,b2,s1,s2,s3,s4,_⟩:=xE (m1) zo
   refine zM ?_
   refine zM ?_
   refine zR ?_
   refine zM ?_
   refine zM ?_
   refine zR ?_
   refine zM ?_
   refine yQ (a:=m1*2) (b:=1) R6 zo ?_
   refine yk (s:=yp) (j:=m1*2+1) R8 s2 ?_
   rw [s4]
   refine zM ?_
   refine yk (s:=yp) (j:=m1*2) R8 s1 ?_
   rw [s3]
   refine yh (j:=i-1) R8 zo ⟨zo,by rw [f1.len];omega⟩ f1.row (by show B<3*n;omega) (fun _=>rfl) R3 (fun _=>rfl) rfl fun _=>?_
   have f2:=f1.put (m:=i-1) (v:=48+(m1)%10) zo zo hl (by rw [←hu,k0.1])
   refine yh (j:=i-2) R8 zo ⟨zo,by rw [f2.len];omega⟩ f2.row (by show B<3*n;omega) (fun _=>rfl) R3 (fun _=>rfl) rfl fun _=>?_
   have f3:=f2.put (m:=i-2) (v:=48+(m1)/10) zo zo hl (by rw [show L-(i-1)=L-i+1 by omega,dg 1,k0.2])
   clear s1 s2 s3 s4
   refine zN ?_
   rw [qe rfl]
   obtain ⟨b1,b2,s1,s2,s3,s4,_⟩:=xE (m2) zo
   refine zM ?_
   refine zM ?_
   refine zR ?_
   refine zM ?_
   refine zM ?_
   refine zR ?_
   refine zM ?_
   refine yQ (a:=m2*2) (b:=1) R6 zo ?_
   refine yk (s:=yp) (j:=m2*2+1) R8 s2 ?_
   rw [s4]
   refine zM ?_
   refine yk (s:=yp) (j:=m2*2) R8 s1 ?_
   rw [s3]
   refine yh (j:=i-3) R8 zo ⟨zo,by rw [f3.len];omega⟩ f3.row (by show B<3*n;omega) (fun _=>rfl) R3 (fun _=>rfl) rfl fun _=>?_
   have f4:=f3.put (m:=i-3) (v:=48+(m2)%10) zo zo hl (by rw [show L-(i-2)=L-i+2 by omega,dg 2,k1.1])
   refine yh (j:=i-4) R8 zo ⟨zo,by rw [f4.len];omega⟩ f4.row (by show B<3*n;omega) (fun _=>rfl) R3 (fun _=>rfl) rfl fun _=>?_
   have f5:=f4.put (m:=i-4) (v:=48+(m2)/10) zo zo hl (by rw [show L-(i-3)=L-i+3 by omega,dg 3,k1.2])
   clear s1 s2 s3 s4
   refine zN ?_
   repeat refine zR ?_
   refine zN ?_
   refine zP (i-4,u/10000,_) ⟨rfl,by show Value.int .i64 _=Value.int .i64 _;congr 1;show (i:Int)-4=((i-4:Nat):Int);omega,rfl,trivial⟩ ⟨rfl,f5,by show i-4≤L;omega,by show u/10000=U/10^(L-(i-4));rw [show L-(i-4)=L-i+4 by omega,dg 4],?_,by show i-4<4;omega⟩
   show u/10000<10^(i-4)
   refine Nat.div_lt_of_lt_mul ?_
   rw [show (10000:Nat)=10^4 from rfl,←Nat.pow_add,show 4+(i-4)=i by omega]
   exact hui
  rw [decide_eq_false (show ¬(i:Int)≥4 by omega)]
  rw [za rfl]
  try refine zN ?_
  exact zP (i,u,c) ⟨rfl,rfl,rfl,trivial⟩ ⟨rfl,f1,hi,hu,hui,by show i<4;omega⟩
 clear f1 hi hu dg hub hui h8 hu8
 rintro ⟨i,u,c⟩ t h1 _ w ⟨rfl,f1,hi,hu,hui,hi4⟩
 have f1:FbI h B e o L U c0 h1 w c i:=f1
 have hi:i≤L:=hi
 have hu:u=U/10^(L-i):=hu
 have hui:u<10^i:=hui
 have hi4:i<4:=hi4
 have dg:∀q,U/10^(L-i+q)=u/10^q:=fun q=>by rw [hu,Nat.div_div_eq_div_mul,←Nat.pow_add]
 have hu4:u<10000:=Nat.lt_of_lt_of_le hui (Nat.pow_le_pow_right zd (show i≤4 by omega))
 refine zN ?_
 refine zM ?_
 refine kV R6 ?_
 refine zN ?_
 refine yN (α:=Nat×Nat×List Value) (fun z=>[(0,.slice (some ⟨B,o,none⟩) L cap),(4,.int .i64 (z.1:Int)),(12,.int .u32 (z.2.1:Int))]) (fun z h' n' w=>n=n'∧FbI h B e o L U c0 h' w z.2.2 z.1∧z.1≤L∧z.2.1=U/10^(L-z.1)∧z.2.1<10^z.1∧z.1<2) ?_ ?_
 ·by_cases h2:2≤i
  ·rw [decide_eq_true (show (i:Int)≥2 by omega)]
   rw [zc rfl]
   refine zN ?_
   refine zM ?_
   refine xQ (a:=u) (b:=100) R6 zo ?_
   refine y5 (a:=u%100) (b:=2) R6 zo ?_
   refine zM ?_
   refine zN ?_
   refine zM ?_
   refine xR (a:=u) (b:=100) R6 ⟨zo,zo⟩ ?_
   refine zM ?_
   refine zN ?_
   generalize hm1:u%100=m1
   have k0:m1%10=u%10∧m1/10=u/10%10:=zo
   have l1:m1<100:=zo
   clear hm1
   rw [qe rfl]
   obtain ⟨b1,b2,s1,s2,s3,s4,_⟩:=xE (m1) zo
   refine zM ?_
   refine zM ?_
   refine zR ?_
   refine zM ?_
   refine zM ?_
   refine zR ?_
   refine zM ?_
   refine yQ (a:=m1*2) (b:=1) R6 zo ?_
   refine yk (s:=yp) (j:=m1*2+1) R8 s2 ?_
   rw [s4]
   refine zM ?_
   refine yk (s:=yp) (j:=m1*2) R8 s1 ?_
   rw [s3]
   refine yh (j:=i-1) R8 zo ⟨zo,by rw [f1.len];omega⟩ f1.row (by show B<3*n;omega) (fun _=>rfl) R3 (fun _=>rfl) rfl fun _=>?_
   have f2:=f1.put (m:=i-1) (v:=48+(m1)%10) zo zo hl (by rw [←hu,k0.1])
   refine yh (j:=i-2) R8 zo ⟨zo,by rw [f2.len];omega⟩ f2.row (by show B<3*n;omega) (fun _=>rfl) R3 (fun _=>rfl) rfl fun _=>?_
   have f3:=f2.put (m:=i-2) (v:=48+(m1)/10) zo zo hl (by rw [show L-(i-1)=L-i+1 by omega,dg 1,k0.2])
   clear s1 s2 s3 s4
   refine zN ?_
   repeat refine zR ?_
   refine zN ?_
   refine zP (i-2,u/100,_) ⟨rfl,by show Value.int .i64 _=Value.int .i64 _;congr 1;show (i:Int)-2=((i-2:Nat):Int);omega,rfl,trivial⟩ ⟨rfl,f3,by show i-2≤L;omega,by show u/100=U/10^(L-(i-2));rw [show L-(i-2)=L-i+2 by omega,dg 2],?_,by show i-2<2;omega⟩
   show u/100<10^(i-2)
   refine Nat.div_lt_of_lt_mul ?_
   rw [show (100:Nat)=10^2 from rfl,←Nat.pow_add,show 2+(i-2)=i by omega]
   exact hui
  rw [decide_eq_false (show ¬(i:Int)≥2 by omega)]
  rw [za rfl]
  try refine zN ?_
  exact zP (i,u,c) ⟨rfl,rfl,rfl,trivial⟩ ⟨rfl,f1,hi,hu,hui,by show i<2;omega⟩
 clear f1 hi hu dg hui hu4 hi4
 rintro ⟨i,u,c⟩ t h1 _ w ⟨rfl,f1,hi,hu,hui,hi2⟩
 have f1:FbI h B e o L U c0 h1 w c i:=f1
 have hi:i≤L:=hi
 have hu:u=U/10^(L-i):=hu
 have hui:u<10^i:=hui
 have hi2:i<2:=hi2
 refine zN ?_
 by_cases h0:i=0
 ·subst h0
  repeat refine zR ?_
  refine zN ?_
  rw [za rfl]
  try refine zN ?_
  refine ⟨rfl,[],rfl,⟨rfl,f1.w1,c,f1⟩,fun hw=>?_⟩
  subst hw
  have:=f1.w2 rfl
  subst this
  exact ⟨rfl,f1.w1,c,f1⟩
 have h1':i=1:=zo
 subst h1'
 have hu10:u<10:=hui
 repeat refine zR ?_
 refine zN ?_
 rw [zc rfl]
 refine zN ?_
 refine zM ?_
 refine zM ?_
 refine yQ (a:=48) (b:=u) R6 zo ?_
 refine qz (a:=48+u) R7 ?_
 rw [Nat.mod_eq_of_lt (show 48+u<256 by omega)]
 refine yh (j:=0) R8 rfl ⟨zo,by rw [f1.len];omega⟩ f1.row (by show B<3*n;omega) (fun _=>rfl) R3 (fun _=>rfl) rfl fun _=>?_
 have f2:=f1.put (m:=0) (v:=48+u) rfl hi hl (by rw [←hu,Nat.mod_eq_of_lt hu10])
 refine zN ?_
 exact ⟨rfl,[],rfl,⟨rfl,f2.w1,_,f2⟩,fun hw=>(by cases hw)⟩
end
section
variable {h0:HF}{B U b bt cap i j len sz:Nat}{e ty:TypeId}{c c0 cl:List Value}{x:Operand}{z:Value}{ik ik':IntKind}{ji:Int}
theorem kj:∀(L U:Nat),1≤L→U<10^L→10^(L-1)≤U→(decD U).length=L∧∀j,j<L→(decD U)[j]?=some (U/10^(L-1-j)%10):=by
 intro L
 induction L with
 |zero=>intro U h;omega
 |succ L ih=>
  intro U _ h1 h2
  have hp:0<10^L:=Nat.pow_pos zd
  rw [Nat.add_sub_cancel] at h2
  have hd:=xA (V:=U) zo
  by_cases hL:L=0
  ·subst hL
   have e:U/10=0:=by rw [Nat.pow_one] at h1;omega
   rw [e,yM] at hd
   rw [hd]
   refine ⟨rfl,fun j hj=>?_⟩
   have:j=0:=zo
   subst this
   rw [show 0+1-1-0=0 by omega,Nat.pow_zero,Nat.div_one]
   rfl
  obtain ⟨e1,e2⟩:=ih (U/10) zo (by rw [Nat.pow_succ] at h1;omega) (by
   obtain ⟨q,rfl⟩:∃q,L=q+1:=⟨L-1,zo⟩
   rw [Nat.pow_succ] at h2
   rw [Nat.add_sub_cancel]
   omega)
  rw [hd]
  refine ⟨by rw [List.length_append,e1];rfl,fun j hj=>?_⟩
  by_cases h3:j<L
  ·rw [List.getElem?_append_left zo,e2 j h3,Nat.div_div_eq_div_mul,Nat.mul_comm 10,←Nat.pow_succ,show (L-1-j).succ=L+1-1-j by omega]
  have:j=L:=zo
  subst this
  rw [List.getElem?_append_right zo,e1,Nat.sub_self,Nat.add_sub_cancel,Nat.sub_self,Nat.pow_zero,Nat.div_one]
  rfl
theorem FbI.cells {o L:Nat}{h:HF}{w:List Nat}(f:FbI h0 B e o L U c0 h w c 0)(hl:o+L≤c0.length)(hL:1≤L)(h1:U<10^L)(h2:10^(L-1)≤U):(c.drop o).take L=u8s (decB U):=by
 obtain ⟨e1,e2⟩:=kj L U hL h1 h2
 have hc:=f.len
 refine List.ext_getElem? fun j=>?_
 by_cases hj:j<L
 ·rw [List.getElem?_take_of_lt hj,List.getElem?_drop,f.dg j (Nat.zero_le _) hj]
  unfold u8s decB
  rw [List.getElem?_map,List.getElem?_map,e2 j hj]
  rfl
 rw [List.getElem?_eq_none (by rw [List.length_take,List.length_drop];omega),List.getElem?_eq_none (by rw [th];unfold decB;rw [List.length_map];omega)]
section
variable {X:CtxF}{ops r:List Oper}{t:TF}{h:HF}{n:Nat}{w:List Nat}{Q:SV→Prop}{o:Oper}{d:Tmp}
theorem rp {lo hi:Operand}(hw:zg ops t o=true∧o.dst=some d∧zj X.nt (some d)=true∧o.op=.slice ty x (some lo) (some hi) none∧X.E.und ty=some (.array len e)∧X.E.inf e=some (sz,bt,z)∧evF t x=.pointer (some ⟨b,0,none⟩)∧evF t lo=.int ik (i:Int)∧evF t hi=.int ik' ji)(hji:ji=(j:Int))(hb:gro b=false)(hl:i≤j∧j≤len∧i<len)
  (k:EO X ops r ⟨upd t d (.slice (some ⟨b,0+i*sz,none⟩) (j-i) (len-i)),h,n,w⟩ Q):EO X ops (o::r) ⟨t,h,n,w⟩ Q:=by
 obtain ⟨hw,hd,hn,ho,hu,hi',hx,hlo,hhi⟩:=hw
 subst hji
 refine zA ⟨hw,hd,hn,(by rw [ho];rfl)⟩ ?_ k
 rw [ho]
 show yU X.E ty (evF t x) (some (evF t lo)) (some (evF t hi))=_
 rw [hx,hlo,hhi]
 have h1:(0:Int)≤(i:Int)∧(i:Int)≤(j:Int):=zo
 have h2:(0:Int)≤(j:Int)∧(j:Int)≤(len:Int):=zo
 have h3:Nat.beq len i=false:=by
  cases he:Nat.beq len i with
  |false=>rfl
  |true=>have:=Nat.eq_of_beq_eq_true he;omega
 simp only [yU,hu,hi',bnd,if_pos h1,if_pos h2,Int.toNat_natCast,hb,offA,h3,wg]
theorem vW {hi:Operand}(hw:zg ops t o=true∧o.dst=some d∧zj X.nt (some d)=true∧o.op=.slice ty x none (some hi) none∧X.E.und ty=some (.array len e)∧X.E.inf e=some (sz,bt,z)∧evF t x=.pointer (some ⟨b,0,none⟩)∧evF t hi=.int ik' ji)(hji:ji=(j:Int))(hb:gro b=false)(hl:j≤len∧0<len)
  (k:EO X ops r ⟨upd t d (.slice (some ⟨b,0,none⟩) j len),h,n,w⟩ Q):EO X ops (o::r) ⟨t,h,n,w⟩ Q:=by
 obtain ⟨hw,hd,hn,ho,hu,hi',hx,hhi⟩:=hw
 subst hji
 refine zA ⟨hw,hd,hn,(by rw [ho];rfl)⟩ ?_ k
 rw [ho]
 show yU X.E ty (evF t x) none (some (evF t hi))=_
 rw [hx,hhi]
 have h2:(0:Int)≤(j:Int)∧(j:Int)≤(len:Int):=zo
 have h3:Nat.beq len 0=false:=by
  cases he:Nat.beq len 0 with
  |false=>rfl
  |true=>have:=Nat.eq_of_beq_eq_true he;omega
 simp only [yU,hu,hi',bnd,if_pos h2,Int.toNat_natCast,hb,offA,h3,wg,Nat.zero_mul,Nat.sub_zero]
end
def intT (x:Int):List UInt8:=(if x<0 then [45] else [])++decT x.natAbs
theorem kd (h:U≠0):(decB U).map UInt8.ofNat=decT U:=by unfold decT;rw [if_neg h]
theorem mU (d:Nat)(l:List Nat):u8s (d::l)=Value.int .u8 (d:Int)::u8s l:=rfl
theorem xV {h:HF}{o L:Nat}(hr:h b=some (.row c e))(hc:(c.drop o).take L=cl)(hl:o+L≤c.length)(hcap:L≤cap):argS h 1 (.slice (some ⟨b,o,none⟩) L cap) L cl:=
 uG (n:=b+1) (.at_ zo hr rfl hcap zo (by rw [Nat.mul_one];exact hc))
theorem fd (k:Nat){h:HF}(hG:GK.G h){n:Nat}(hn:20≤n){x:Int}(hx: -9223372036854775808≤x∧x<9223372036854775808):VF (cal (k+3)) 132 [.int .i64 x,.int .i64 10] h n fun v=>v=.string ⟨⟨intT x⟩⟩:=by
 refine zu (fn:=Tryz.f132) R4 ?_
 refine zN ?_
 repeat refine zR ?_
 refine zN ?_
 repeat refine zR ?_
 refine zN ?_
 rw [zc rfl]
 refine zN ?_
 by_cases hsm:0≤x∧x<100
 ·obtain ⟨i,rfl⟩:∃i:Nat,x=(i:Int):=⟨x.natAbs,zo⟩
  repeat refine zR ?_
  refine zN ?_
  rw [zc rfl]
  refine zN ?_
  refine zM ?_
  refine z0 _ R5 (q9 (k+1) _ _ zo) ?_
  rintro _ rfl
  refine zM ?_
  refine zN ?_
  refine retF _ rfl (zh rfl) R2 ?_
  show Value.string _=_
  unfold intT
  rw [if_neg zo]
  rfl
 obtain ⟨m,hm⟩:∃m,m=x.natAbs:=⟨_,rfl⟩
 have hm0:m≠0:=zo
 by_cases hneg:x<0
 ·repeat refine zR ?_
  refine zN ?_
  rw [za rfl]
  refine zN ?_
  refine wk (List.replicate 24 (.int .u8 0)) R6 ?_
  intro h1 p1 x1
  refine zN ?_
  refine zM ?_
  refine xH (ik:=.u64) (a:=((18446744073709551616-m:Nat):Int)) R6 ?_ ?_
  ·show some (Value.int .u64 (IntKind.wrap .u64 x))=_
   rw [show x= -(m:Int) from zo,t7 m zo]
  refine zM ?_
  refine zN ?_
  repeat refine zR ?_
  refine zN ?_
  rw [zc rfl]
  refine zN ?_
  refine zM ?_
  refine zA (v:=.int .u64 (m:Int)) R4 ?_ ?_
  ·show some (Value.int .u64 (IntKind.wrap .u64 (0-((18446744073709551616-m:Nat):Int))))=_
   rw [uK _ zo]
   congr 3
   omega
  refine zM ?_
  refine zN ?_
  refine zM ?_
  refine z0 _ R5 (wo k (tg hG x1 hn) _ zo hm0) ?_
  rintro _ ⟨L,rfl,hL1,hL2,hU1,hU2⟩
  refine zM ?_
  refine zN ?_
  refine zM ?_
  refine vo (a:=1) (b:=(L:Int)) R6 zo ?_
  refine rp (i:=1) (j:=1+L) R9 zo (zC n) zo ?_
  rw [show 1+L-1=L by omega]
  refine zM ?_
  refine zr _ R5 (pw (k+1) (h:=h1) (n:=n+1) (B:=3*n+2) (o:=1) (L:=L) (U:=m) zo p1 (by rw [List.length_replicate];omega) zo hU1 zo) ?_
  rintro v h2 _ W ⟨rfl,hW,c,f⟩
  rw [yf fun b hb=>by rw [hW b hb];show 3*n≤_;omega]
  have hcl:c.length=24:=by rw [f.len,List.length_replicate]
  refine zN ?_
  repeat refine zR ?_
  refine zN ?_
  rw [zc rfl]
  refine zN ?_
  refine nw R8 (j:=0) zo ?_
  refine iA (b:=3*n+2) (off:=0) (c.set 0 (.int .u8 45)) R5 f.row rfl rfl rfl (by rw [hcl];omega) (splice_one c 0 _ zo) (by show 3*n≤_;omega) ?_
  intro h3 p3 o3
  refine zN ?_
  refine zM ?_
  refine vo (a:=1) (b:=(L:Int)) R6 zo ?_
  refine vW (j:=1+L) R8 zo (zC n) zo ?_
  have hcs:((c.set 0 (.int .u8 45)).drop 0).take (1+L)=u8s (45::decB m):=by
   rw [mU,←f.cells (by rw [List.length_replicate];omega) hL1 hU1 hU2,List.drop_zero]
   cases c with
   |nil=>simp at hcl
   |cons c1 c2=>rw [List.set_cons_zero,Nat.add_comm,List.take_succ_cons,List.drop_succ_cons,List.drop_zero];rfl
  refine rk R5 (uP (B:=45::decB m) R3 (xV p3 hcs (by rw [List.length_set];omega) zo)) ?_
  refine zM ?_
  refine zN ?_
  refine retF _ rfl (zh rfl) R2 ?_
  show Value.string _=_
  unfold intT
  rw [if_pos hneg,←hm,←kd hm0]
  rfl
 repeat refine zR ?_
 refine zN ?_
 rw [za rfl]
 refine zN ?_
 refine wk (List.replicate 24 (.int .u8 0)) R6 ?_
 intro h1 p1 x1
 refine zN ?_
 refine zM ?_
 refine xH (ik:=.u64) (a:=(m:Int)) R6 ?_ ?_
 ·show some (Value.int .u64 (IntKind.wrap .u64 x))=_
  rw [show x=(m:Int) from zo,xa,Nat.mod_eq_of_lt zo]
 refine zM ?_
 refine zN ?_
 repeat refine zR ?_
 refine zN ?_
 rw [za rfl]
 refine zN ?_
 refine zM ?_
 refine z0 _ R5 (wo k (tg hG x1 hn) _ zo hm0) ?_
 rintro _ ⟨L,rfl,hL1,hL2,hU1,hU2⟩
 refine zM ?_
 refine zN ?_
 refine zM ?_
 refine vo (a:=1) (b:=(L:Int)) R6 zo ?_
 refine rp (i:=1) (j:=1+L) R9 zo (zC n) zo ?_
 rw [show 1+L-1=L by omega]
 refine zM ?_
 refine zr _ R5 (pw (k+1) (h:=h1) (n:=n+1) (B:=3*n+2) (o:=1) (L:=L) (U:=m) zo p1 (by rw [List.length_replicate];omega) zo hU1 zo) ?_
 rintro v h2 _ W ⟨rfl,hW,c,f⟩
 rw [yf fun b hb=>by rw [hW b hb];show 3*n≤_;omega]
 have hcl:c.length=24:=by rw [f.len,List.length_replicate]
 refine zN ?_
 repeat refine zR ?_
 refine zN ?_
 rw [za rfl]
 refine zN ?_
 refine zM ?_
 refine vo (a:=1) (b:=(L:Int)) R6 zo ?_
 refine rp (i:=1) (j:=1+L) R9 zo (zC n) zo ?_
 rw [show 1+L-1=L by omega]
 refine rk R5 (uP (B:=decB m) R3 (xV f.row (f.cells (by rw [List.length_replicate];omega) hL1 hU1 hU2) zo zo)) ?_
 refine zM ?_
 refine zN ?_
 refine retF _ rfl (zh rfl) R2 ?_
 show Value.string _=_
 unfold intT
 rw [if_neg hneg,←hm,←kd hm0]
 rfl
theorem qO (k:Nat){h:HF}(hG:GK.G h){n:Nat}(hn:20≤n){x:Int}(hx: -9223372036854775808≤x∧x<9223372036854775808):VF (cal (k+4)) 89 [.int .i64 x,.int .i64 10] h n fun v=>v=.string ⟨⟨intT x⟩⟩:=by
 refine zu (fn:=Tryz.f89) R4 ?_
 refine zN ?_
 refine zM ?_
 refine zN ?_
 refine zM ?_
 refine zM ?_
 refine z0 _ R5 (fd k hG hn hx) ?_
 rintro _ rfl
 refine zM ?_
 refine zN ?_
 exact retF _ rfl (zh rfl) R2 rfl
theorem mp (k:Nat){h:HF}(hG:GK.G h){n:Nat}(hn:20≤n){x:Int}(hx: -9223372036854775808≤x∧x<9223372036854775808):VF (cal (k+5)) 65 [.int .i64 x] h n fun v=>v=.string ⟨⟨intT x⟩⟩:=by
 refine zu (fn:=Tryz.f65) R4 ?_
 refine zN ?_
 refine zM ?_
 refine zN ?_
 refine zM ?_
 refine z0 _ R5 (qO k hG hn hx) ?_
 rintro _ rfl
 refine zM ?_
 refine zN ?_
 exact retF _ rfl (zh rfl) R2 rfl
end
section
variable {U V b bytes l len lo m n' n0 sz u:Nat}{E:Env}{e sT xT:TypeId}{v v0 z:Value}{T:List Nat}{h' h0:HF}{x:Operand}{a:Option Addr}
def decN (V:Nat):List Nat:=if V=0 then [48] else decB V
theorem rU (V:Nat):decT V=(decN V).map UInt8.ofNat:=by
 unfold decT decN
 split<;>rfl
theorem zbh:∀V,∀d∈decD V,d<10:=by
 intro V
 induction V using Nat.strongRecOn with
 |_ V ih=>
  intro d hd
  by_cases h0:V=0
  ·subst h0;rw [yM] at hd;exact absurd hd List.not_mem_nil
  rw [xA h0] at hd
  rcases List.mem_append.1 hd with h|h
  ·exact ih (V/10) zo d h
  rw [List.mem_singleton.1 h];omega
theorem zbg (V:Nat):∀d∈decN V,d<256:=by
 intro d hd
 unfold decN at hd
 split at hd
 ·rw [List.mem_singleton.1 hd];decide
 obtain ⟨q,hq,rfl⟩:=List.mem_map.1 hd
 have:=zbh V q hq
 show 48+q<256
 omega
theorem mD (V:Nat):decN V≠[]:=by
 unfold decN
 split
 ·simp
 rename_i h
 intro e
 unfold decB at e
 rw [xA h] at e
 simp at e
theorem jW {l:List Nat}(h:∀d∈l,d<256):(l.map UInt8.ofNat).map (fun b:UInt8=>Value.int .u8 (b.toNat:Int))=u8s l:=by
 induction l with
 |nil=>rfl
 |cons d l ih=>
  rw [List.map_cons,List.map_cons,ih fun x hx=>h x (by simp [hx]),mU]
  have:=h d (by simp)
  rw [show (UInt8.ofNat d).toNat=d from by rw [UInt8.toNat_ofNat'];omega]
theorem kt {h:HF}:argS h 1 (.string ⟨⟨decT V⟩⟩) (decN V).length (u8s (decN V)):=by
 refine ⟨?_,?_⟩
 ·show some (decT V).length=_
  rw [rU,List.length_map]
 show some (((decT V).take (decN V).length).map fun b:UInt8=>Value.int .u8 (b.toNat:Int))=_
 rw [rU,List.take_of_length_le (by rw [List.length_map];exact Nat.le_refl _),jW (zbg V)]
theorem kg {L:Nat}(hL:1≤L)(h1:U<10^L)(h2:10^(L-1)≤U):(decB U).length=L:=by
 unfold decB
 rw [List.length_map]
 exact (kj L U hL h1 h2).1
def ip (v:Value)(b:Nat):Prop:=∃o l c,v=.slice (some ⟨b,o,none⟩) l c
def GroT (h:HF)(n:Nat)(v:Value)(T:List Nat):Prop:=Gro h 0 n 5 1 v T.length (u8s T)
theorem qa {h:HF}{n:Nat}{x:Value}{new:List Nat}(hu:E.und sT=some (.slice e))(he:e=5)(hi:E.inf e=some (1,bytes,z))(hz:(zk z).length=1)(h1:1≤bytes)(hg:GroT h n v T)(hx:argS h 1 x m (u8s new))(hm:1≤m)(hl:new.length=m)(hb:(T.length+m)*bytes≤1099511627776):
  ∃v' h' W,yy E h n sT v x=some (.val v' h' (n+1) W)∧GroT h' (n+1) v' (T++new)∧Keep v n h h'∧(∀b∈W,ip v b)∧yH n v':=by
 subst he
 unfold GroT at*
 have hun:(u8s new).length=m*1:=by rw [th,hl,Nat.mul_one]
 have eT:T.length+m=(T++new).length:=by rw [List.length_append,hl]
 have eU:u8s T++u8s new=u8s (T++new):=by unfold u8s;rw [List.map_append]
 generalize hT:T.length=tl at hg hb eT
 generalize hc:u8s T=cc at hg eU
 cases hg with
 |nil=>
  refine ⟨_,_,_,append_nil hu hi hz (Nat.le_refl _) h1 hx hm (by rw [Nat.zero_add] at hb;exact hb),?_,fun b hb _=>zi zo,fun b hb=>absurd hb List.not_mem_nil,by show 3*n≤3*n+1;omega⟩
  rw [←eU,←eT,Nat.zero_add,List.nil_append]
  exact .at_ (vj n) zo zo (ze _ _ _) hun (u4 _)
 | @at_ b len _ hg2 hlo hb2 hr hl2 ho2=>
  refine ⟨_,_,_,ug hu hi hz (Nat.le_refl _) h1 hx hm hb hg2 hr hl2 (yZ ho2 (u4 _)) hun,?_,fun k hk hne=>?_,fun k hk=>?_,by show 3*n≤3*n+1;omega⟩
  ·rw [←eU,←eT]
   exact .at_ (vj n) zo zo (ze _ _ _) (by rw [List.length_append,hl2,hun];omega) (yZ ho2 (u4 _))
  ·rw [zi zo,zi (fun e=>hne 0 tl tl (by rw [e]))]
  rw [List.mem_singleton.1 hk];exact ⟨_,_,_,rfl⟩
structure AS (h0:HF)(n0:Nat)(v0:Value)(h:HF)(n:Nat)(w:List Nat)(v:Value)(T:List Nat):Prop where
 hn:n0≤n
 keep:Keep v0 n0 h0 h
 hw:∀b∈w,ip v0 b
 g:GroT h n v T
 or:v=v0∨yH n0 v
theorem AS.refl (g:GroT h0 n0 v0 T):AS h0 n0 v0 h0 n0 [] v0 T:=⟨Nat.le_refl _,fun _ _ _=>rfl,fun b hb=>absurd hb List.not_mem_nil,g,Or.inl rfl⟩
theorem AS.ext {h:HF}{n:Nat}{w:List Nat}(a:AS h0 n0 v0 h n w v T)(x:Ext n h h')(hn:n≤n'):AS h0 n0 v0 h' n' w v T:=
 ⟨Nat.le_trans a.hn hn,fun b hb hne=>(x b (by have:=a.hn;omega)).trans (a.keep b hb hne),a.hw,a.g.ext x hn,a.or⟩
theorem AS.only {h:HF}{n:Nat}{w:List Nat}(a:AS h0 n0 v0 h n w v T)(o:Only b h h')(hb:3*n0≤b)(hg:gro b=false):AS h0 n0 v0 h' n w v T:=
 ⟨a.hn,fun k hk hne=>(o k zo).trans (a.keep k hk hne),a.hw,a.g.same fun k _ _ hk=>o k fun e=>(by rw [e,hg] at hk;cases hk),a.or⟩
theorem Gro.blk {n o c:Nat}{h:HF}{C:List Value}(g:Gro h lo n e sz v len C)(hv:v=.slice (some ⟨b,o,none⟩) l c):gro b=true∧b<3*n:=by
 cases g with
 |nil=>cases hv
 |at_ hg hlo hb hr hl ho=>cases hv;exact ⟨hg,hb⟩
theorem AS.trans {h1 h2:HF}{n1 n2:Nat}{w1 w2:List Nat}{v1 v2:Value}{T1 T2:List Nat}(a:AS h0 n0 v0 h1 n1 w1 v1 T1)(b:AS h1 n1 v1 h2 n2 w2 v2 T2):AS h0 n0 v0 h2 n2 (addW n0 w2 w1) v2 T2:=by
 have hn:=a.hn
 refine ⟨Nat.le_trans a.hn b.hn,fun k hk hne=>(b.keep k zo fun o l c e=>?_).trans (a.keep k hk hne),fun k hk=>?_,b.g,?_⟩
 ·rcases a.or with h|h
  ·exact hne o l c (h▸e)
  rw [e] at h;have h:3*n0≤k:=h;omega
 ·rcases yr.1 hk with h|⟨h,h3⟩
  ·exact a.hw k h
  obtain ⟨o,l,c,e⟩:=b.hw k h
  rcases a.or with h4|h4
  ·exact ⟨o,l,c,h4▸e⟩
  rw [e] at h4;have h4:3*n0≤k:=h4;omega
 rcases b.or with h|h
 ·rw [h];exact a.or
 exact .inr (h.mono hn)
section
variable {X:CtxF}{ops r:List Oper}{t:TF}{h:HF}{n:Nat}{w:List Nat}{Q:SV→Prop}{o:Oper}{d:Tmp}
theorem rq {s:Operand}{new:List Nat}(hw:zg ops t o=true∧o.dst=some d∧zj X.nt (some d)=true∧o.op=.call {callee:=.builtin .append,args:=#[s,x],argTypes:=#[sT,xT]}∧(match X.E.und xT with|some (.int _)=>false|none=>false|_=>true)=true∧X.E.und sT=some (.slice e)∧e=5∧X.E.inf e=some (1,bytes,z)∧(zk z).length=1)(h1:1≤bytes)(hs:evF t s=v)(hx:argS h 1 (evF t x) m (u8s new))(hm:1≤m)(hl:new.length=m)(hb:(T.length+m)*bytes≤1099511627776)(a:AS h0 X.n0 v0 h n w v T)
  (k:∀v' h' w',AS h0 X.n0 v0 h' (n+1) w' v' (T++new)→Keep v n h h'→EO X ops r ⟨upd t d v',h',n+1,w'⟩ Q):EO X ops (o::r) ⟨t,h,n,w⟩ Q:=by
 obtain ⟨hw,hd,hn,ho,hxT,hu,he,hi,hz⟩:=hw
 obtain ⟨v',h',W,h2,h3,h4,h5,h6⟩:=qa hu he hi hz h1 a.g hx hm hl hb
 refine yE ⟨hw,hd,hn,ho,hxT⟩ (by rw [hs];exact h2) ?_
 have b:AS h n v h' (n+1) W v' (T++new):=⟨Nat.le_succ _,h4,h5,h3,.inr h6⟩
 exact k v' h' _ (a.trans b) h4
end
theorem GroT.shape {h:HF}{n:Nat}(g:GroT h n v T):∃a,v=.slice a T.length T.length:=by
 obtain ⟨a,e,_⟩:=Gro.shape g
 exact ⟨a,e⟩
theorem GroT.keepB {h:HF}{n:Nat}(g:GroT h n v T)(k:Keep v n h h')(hb:gro b=false)(hl:b<3*n):h' b=h b:=k.blk g hb hl
theorem j7 (k:Nat){h:HF}(hG:GK.G h){n:Nat}(hn:20≤n)(hu:u<18446744073709551616)(g:GroT h n (.slice a T.length T.length) T)(hT:T.length<1000000000):CF (cal (k+3)) 171 [.slice a T.length T.length,.int .u64 (u:Int),.int .i64 10] h n fun v h' n' w=>AS h n (.slice a T.length T.length) h' n' w v (T++decN u):=by
 refine zn (fn:=Tryz.f171) R4 ?_
 have a0:=AS.refl g
 have hdl:(decN u).length≤20:=by
  unfold decN
  split
  ·decide
  unfold decB
  rw [List.length_map]
  exact we 20 u zo
 refine zN ?_
 refine zM ?_
 refine zN ?_
 repeat refine zR ?_
 refine zN ?_
 rw [zc rfl]
 refine zN ?_
 by_cases hsm:u<100
 ·repeat refine zR ?_
  refine zN ?_
  rw [zc rfl]
  refine zN ?_
  refine zM ?_
  refine zM ?_
  refine wa (a:=(u:Int)) R7 zo ?_
  refine z0 _ R5 (q9 (k+1) _ _ hsm) ?_
  rintro _ rfl
  refine rq R9 zb rfl (kt (V:=u)) (by have:=mD u;cases hh:decN u with|nil=>exact absurd hh this|cons _ _=>simp) rfl zo a0 ?_
  intro v' h' w' a1 _
  obtain ⟨a',rfl⟩:=a1.g.shape
  refine zM ?_
  refine zN ?_
  exact retH [.slice a' _ _] R3 a1
 have hu0:u≠0:=zo
 repeat refine zR ?_
 refine zN ?_
 rw [za rfl]
 refine zN ?_
 refine wk (List.replicate 24 (.int .u8 0)) R6 ?_
 intro h1 p1 x1
 refine zN ?_
 refine zM ?_
 refine z0 _ R5 (wo k (tg hG x1 hn) _ hu hu0) ?_
 rintro _ ⟨L,rfl,hL1,hL2,hU1,hU2⟩
 refine zM ?_
 refine zN ?_
 refine zM ?_
 refine vW (j:=L) R8 rfl (zC n) zo ?_
 refine zM ?_
 refine zr _ R5 (pw (k+1) (h:=h1) (n:=n+1) (B:=3*n+2) (o:=0) (L:=L) (U:=u) zo p1 (by rw [List.length_replicate];omega) zo hU1 zo) ?_
 rintro v h2 _ W ⟨rfl,hW,c,f⟩
 rw [yf fun b hb=>by rw [hW b hb];show 3*n≤_;omega]
 have hcl:c.length=24:=by rw [f.len,List.length_replicate]
 have a2:=(a0.ext x1 zs).only f.oth zo (zC n)
 have hcs:=f.cells (by rw [List.length_replicate];omega) hL1 hU1 hU2
 have hdn:decN u=decB u:=by unfold decN;rw [if_neg hu0]
 rw [←hdn] at hcs
 refine zN ?_
 refine zM ?_
 refine zM ?_
 refine vW (j:=L) R8 rfl (zC n) zo ?_
 refine rq R9 zb rfl (xV f.row hcs zo zo) hL1 (by rw [hdn];exact kg hL1 hU1 hU2) zo a2 ?_
 intro v' h' w' a3 _
 obtain ⟨a',rfl⟩:=a3.g.shape
 refine zM ?_
 refine zN ?_
 exact retH [.slice a' _ _] R3 a3
theorem mJ (k:Nat){h:HF}(hG:GK.G h){n:Nat}(hn:20≤n)(hu:u<18446744073709551616)(g:GroT h n (.slice a T.length T.length) T)(hT:T.length<1000000000):CF (cal (k+4)) 151 [.slice a T.length T.length,.int .u64 (u:Int),.int .i64 10] h n fun v h' n' w=>AS h n (.slice a T.length T.length) h' n' w v (T++decN u):=by
 refine zn (fn:=Tryz.f151) R4 ?_
 refine zN ?_
 refine zM ?_
 refine zN ?_
 refine zM ?_
 refine zM ?_
 refine zM ?_
 refine zr _ R5 (j7 k hG hn hu g hT) ?_
 intro v h1 n1 w1 a1
 obtain ⟨a',rfl⟩:=a1.g.shape
 have a2:=(AS.refl g).trans a1
 refine zM ?_
 refine zN ?_
 exact retH [.slice a' _ _] R3 a2
end
section
variable {B b cap len m u:Nat}{c c0 new:List Value}{T:List Nat}
section
variable {E:Env}{h:HF}{n:Nat}{sT e:TypeId}{bytes:Nat}{z x:Value}
theorem uf {e':TypeId}(hu:E.und sT=some (.slice e)∧E.inf e=some (1,bytes,z)∧(zk z).length=1)(h1:1≤bytes)(hx:argS h 1 x m new)(hb:(len+m)*bytes≤1099511627776)(hm:new.length=m∧1≤m)(hc:len+m≤cap)(hr:h b=some (.row c e'))(hl:len+m≤c.length)(ho:ones new=true):
  yy E h n sT (.slice (some ⟨b,0,none⟩) len cap) x=some (.val (.slice (some ⟨b,0,none⟩) (len+m) cap) (upd h b (some (.row (zl c len new) e'))) n [b]):=by
 obtain ⟨hu,hi,hz⟩:=hu
 obtain ⟨hl',hcx⟩:=hx
 have c1:Nat.ble ((len+m)*bytes) 1099511627776=true:=Nat.ble_eq_true_of_le hb
 have c2:Nat.beq (zk z).length 1=true:=by rw [hz];exact Nat.beq_refl _
 have c3:Nat.ble 1 1=true:=rfl
 have c4:Nat.ble 1 bytes=true:=Nat.ble_eq_true_of_le h1
 have c5:Nat.ble (len+m) cap=true:=Nat.ble_eq_true_of_le hc
 have c6:ws h ((⟨b,0,none⟩:Addr).add (len*1)) new=some (upd h b (some (.row (zl c len new) e'))):=by
  rw [wg,Nat.zero_add,Nat.mul_one,vR hr zo ho]
 obtain ⟨v,r,rfl⟩:∃v r,new=v::r:=by
  cases new with
  |nil=>simp at hm;omega
  |cons v r=>exact ⟨v,r,rfl⟩
 simp only [yy,hu,hi,hl',hcx,c1,c2,c3,c4,c5,Bool.and_self,vh,c6]
end
def BufT (T:List Nat)(h:HF)(n B cap:Nat)(e:TypeId)(c0:List Value)(N:List Nat)(v:Value)(h':HF)(n':Nat)(w:List Nat):Prop:=
 v=.slice (some ⟨B,0,none⟩) (T++N).length cap∧n≤n'∧(∀b∈w,b=B)∧(∀b,b<3*n→b≠B→h' b=h b)∧∃c,h' B=some (.row c e)∧c.length=c0.length∧c.take (T++N).length=u8s (T++N)
theorem wm {N:List Nat}(ht:c.take T.length=u8s T)(hl:T.length+N.length≤c.length):(zl c T.length (u8s N)).take (T++N).length=u8s (T++N)∧(zl c T.length (u8s N)).length=c.length:=by
 have h:=rg (c:=u8s N) (cs:=c) (o:=T.length) (by rw [th];exact hl)
 rw [th,ht] at h
 rw [List.length_append]
 exact ⟨h.1.trans (by simp [u8s]),h.2⟩
theorem uI (k:Nat){h:HF}(hG:GK.G h){n:Nat}(hn:20≤n){e:TypeId}(hT:c0.take T.length=u8s T)(hB:B<3*n)(hrow:h B=some (.row c0 e))(hc0:cap=c0.length∧T.length+20≤cap∧cap<1000000)(hu:u<18446744073709551616):
  CF (cal (k+3)) 171 [.slice (some ⟨B,0,none⟩) T.length cap,.int .u64 (u:Int),.int .i64 10] h n fun v h' n' w=>BufT T h n B cap e c0 (decN u) v h' n' w:=by
 refine zn (fn:=Tryz.f171) R4 ?_
 have hdl:(decN u).length≤20:=by
  unfold decN
  split
  ·decide
  unfold decB
  rw [List.length_map]
  exact we 20 u zo
 have hd1:1≤(decN u).length:=by
  have:=mD u
  cases hh:decN u with
  |nil=>exact absurd hh this
  |cons _ _=>simp
 refine zN ?_
 refine zM ?_
 refine zN ?_
 repeat refine zR ?_
 refine zN ?_
 rw [zc rfl]
 refine zN ?_
 by_cases hsm:u<100
 ·repeat refine zR ?_
  refine zN ?_
  rw [zc rfl]
  refine zN ?_
  refine zM ?_
  refine zM ?_
  refine wa (a:=(u:Int)) R7 zo ?_
  refine z0 _ R5 (q9 (k+1) _ _ hsm) ?_
  rintro _ rfl
  refine yE R5 (uf R3 zb (kt (V:=u)) zo ⟨th _,hd1⟩ zo hrow zo (u4 _)) ?_
  rw [rb (by show B<3*n;exact hB)]
  refine zM ?_
  refine zN ?_
  obtain ⟨t1,t2⟩:=wm (N:=decN u) hT zo
  refine retH [.slice (some ⟨B,0,none⟩) (T.length+(decN u).length) cap] R3 ⟨by rw [List.length_append];rfl,Nat.le_refl _,fun b hb=>List.mem_singleton.1 hb,fun b _ hne=>zi hne,_,ze _ _ _,t2,t1⟩
 have hu0:u≠0:=zo
 repeat refine zR ?_
 refine zN ?_
 rw [za rfl]
 refine zN ?_
 refine wk (List.replicate 24 (.int .u8 0)) R6 ?_
 intro h1 p1 x1
 refine zN ?_
 refine zM ?_
 refine z0 _ R5 (wo k (tg hG x1 hn) _ hu hu0) ?_
 rintro _ ⟨L,rfl,hL1,hL2,hU1,hU2⟩
 refine zM ?_
 refine zN ?_
 refine zM ?_
 refine vW (j:=L) R8 rfl (zC n) zo ?_
 refine zM ?_
 refine zr _ R5 (pw (k+1) (h:=h1) (n:=n+1) (B:=3*n+2) (o:=0) (L:=L) (U:=u) zo p1 (by rw [List.length_replicate];omega) zo hU1 zo) ?_
 rintro v h2 _ W ⟨rfl,hW,c,f⟩
 rw [yf fun b hb=>by rw [hW b hb];show 3*n≤_;omega]
 have hcl:c.length=24:=by rw [f.len,List.length_replicate]
 have hcs:=f.cells (by rw [List.length_replicate];omega) hL1 hU1 hU2
 have hdn:decN u=decB u:=by unfold decN;rw [if_neg hu0]
 rw [←hdn] at hcs
 have hLd:(decN u).length=L:=by rw [hdn];exact kg hL1 hU1 hU2
 have hrow2:h2 B=some (.row c0 e):=(f.oth B zo).trans ((x1 B hB).trans hrow)
 refine zN ?_
 refine zM ?_
 refine zM ?_
 refine vW (j:=L) R8 rfl (zC n) zo ?_
 refine yE R5 (uf R3 zb (xV f.row hcs zo zo) zo ⟨by rw [th,hLd],hL1⟩ zo hrow2 zo (u4 _)) ?_
 rw [rb (by show B<3*n;exact hB)]
 refine zM ?_
 refine zN ?_
 obtain ⟨t1,t2⟩:=wm (N:=decN u) hT zo
 refine retH [.slice (some ⟨B,0,none⟩) (T.length+L) cap] R3 ⟨by rw [List.length_append,hLd];rfl,by show n≤n+1;omega,fun b hb=>List.mem_singleton.1 hb,fun b hb hne=>(zi hne).trans ((f.oth b zo).trans (x1 b hb)),_,ze _ _ _,t2,t1⟩
def BufP (h:HF)(n B cap:Nat)(e:TypeId)(c0:List Value)(u:Nat)(v:Value)(h':HF)(n':Nat)(w:List Nat):Prop:=
 v=.slice (some ⟨B,0,none⟩) (decN u).length cap∧n≤n'∧(∀b∈w,b=B)∧(∀b,b<3*n→b≠B→h' b=h b)∧∃c,h' B=some (.row c e)∧c.length=c0.length∧c.take (decN u).length=u8s (decN u)
theorem oW (k:Nat){h:HF}(hG:GK.G h){n:Nat}(hn:20≤n){e:TypeId}(hB:B<3*n)(hrow:h B=some (.row c0 e))(hc0:cap=c0.length∧20≤cap)(hc1:cap<1000000)(hu:u<18446744073709551616):
  CF (cal (k+4)) 151 [.slice (some ⟨B,0,none⟩) 0 cap,.int .u64 (u:Int),.int .i64 10] h n fun v h' n' w=>BufP h n B cap e c0 u v h' n' w:=by
 refine zn (fn:=Tryz.f151) R4 ?_
 refine zN ?_
 refine zM ?_
 refine zN ?_
 refine zM ?_
 refine zM ?_
 refine zM ?_
 refine zr _ R5 (uI (T:=[]) k hG hn rfl hB hrow ⟨hc0.1,by simpa using hc0.2,hc1⟩ hu) ?_
 rintro v h1 n1 w1 ⟨rfl,b2,b3,b4,c,b5,b6,b7⟩
 refine zM ?_
 refine zN ?_
 refine retH [.slice (some ⟨B,0,none⟩) (decN u).length cap] R3 ⟨rfl,b2,fun b hb=>?_,b4,c,b5,b6,b7⟩
 rcases yr.1 hb with h|⟨h,_⟩
 ·exact absurd h List.not_mem_nil
 exact b3 b h
end
def padD:Nat→Nat→List Nat
 |0,_=>[]
 |k+1,c=>padD k (c/10)++[c%10]
theorem ce:∀(k c Q:Nat),c<10^k→Q≠0→decD (c+10^k*Q)=decD Q++padD k c:=by
 intro k
 induction k with
 |zero=>
  intro c Q hc hQ
  have:c=0:=by rw [Nat.pow_zero] at hc;omega
  subst this
  rw [Nat.pow_zero,Nat.one_mul,Nat.zero_add,padD,List.append_nil]
 |succ k ih=>
  intro c Q hc hQ
  rw [Nat.pow_succ] at hc
  have e1:(c+10^(k+1)*Q)/10=c/10+10^k*Q:=by
   rw [Nat.pow_succ,Nat.mul_right_comm,Nat.mul_comm _ 10];omega
  have e2:(c+10^(k+1)*Q)%10=c%10:=by
   rw [Nat.pow_succ,Nat.mul_right_comm,Nat.mul_comm _ 10];omega
  have hp:0<10^(k+1)*Q:=Nat.mul_pos (Nat.pow_pos zd) zo
  rw [xA zo,e1,e2,ih (c/10) Q zo hQ,padD,List.append_assoc]
theorem zal:∀(k c:Nat),c<10^k→padD k c=List.replicate (k-(decD c).length) 0++decD c:=by
 intro k
 induction k with
 |zero=>
  intro c hc
  have:c=0:=by rw [Nat.pow_zero] at hc;omega
  subst this
  rw [padD,yM];rfl
 |succ k ih=>
  intro c hc
  rw [Nat.pow_succ] at hc
  rw [padD,ih (c/10) zo]
  by_cases h0:c=0
  ·subst h0
   rw [yM]
   show List.replicate (k-0) 0++[]++[0]=List.replicate (k+1-0) 0++[]
   rw [List.append_nil,List.append_nil,Nat.sub_zero,Nat.sub_zero,←List.replicate_succ']
  have hd:=xA h0
  rw [hd,List.length_append,List.append_assoc]
  congr 2
  show k-(decD (c/10)).length=k+1-((decD (c/10)).length+1)
  omega
theorem mE {c Q B:Nat}(hB:10^19=B)(hc:c<B)(hQ:Q≠0):decN (c+B*Q)=decN Q++(List.replicate (19-(decN c).length) 48++decN c):=by
 subst hB
 have hpos:0<10^19*Q:=Nat.mul_pos (Nat.pow_pos zd) zo
 generalize hk:(19:Nat)=kk at hc hpos ⊢
 have hp:=ce kk c Q hc hQ
 have h2:=zal kk c hc
 have e:decN (c+10^kk*Q)=decB (c+10^kk*Q):=by
  unfold decN
  rw [if_neg zo]
 have eQ:decN Q=decB Q:=by unfold decN;rw [if_neg hQ]
 rw [e,eQ]
 unfold decB
 rw [hp,h2,List.map_append,List.map_append,List.map_replicate]
 congr 1
 by_cases h0:c=0
 ·subst h0
  have e0:decN 0=[48]:=rfl
  rw [e0,yM]
  show List.replicate (kk-0) (48+0)++[]=List.replicate (kk-1) 48++[48]
  rw [←List.replicate_succ',List.append_nil,←hk]
 have e3:decN c=decB c:=by unfold decN;rw [if_neg h0]
 rw [e3]
 unfold decB
 rw [List.length_map]
theorem jK {c Q:Nat}(hc:c<10000000000000000000)(hQ:Q≠0):decN (c+10000000000000000000*Q)=decN Q++(List.replicate (19-(decN c).length) 48++decN c):=mE zd hc hQ
theorem jJ {c:Nat}(hc:c<10000000000000000000):(decN c).length≤19:=by
 unfold decN
 split
 ·decide
 unfold decB
 rw [List.length_map]
 exact we 19 c (Nat.lt_of_lt_of_le hc zd)
section
variable {B V b bt bytes cx j l len lo lx n' n0 sz:Nat}{e eB sT ty xT:TypeId}{v v0 z:Value}{c cs:List Value}{C L T W:List Nat}{h' h0:HF}{a ax:Option Addr}{x:Operand}{ik':IntKind}{ji:Int}
theorem Gro.inv {h:HF}{n:Nat}(g:Gro h lo n e 1 v len c)(hl:len≠0):∃b,v=.slice (some ⟨b,0,none⟩) len len∧3*lo≤b∧b<3*n∧h b=some (.row c e)∧gro b=true:=by
 cases g with
 |nil=>exact absurd rfl hl
 |at_ hg hlo hb hr hl ho=>exact ⟨_,rfl,hlo,hb,hr,hg⟩
theorem Gro.low {n o c:Nat}{h:HF}{C:List Value}(g:Gro h lo n e sz v len C)(hv:v=.slice (some ⟨b,o,none⟩) l c):3*lo≤b:=by
 cases g with
 |nil=>cases hv
 |at_ hg hlo hb hr hl ho=>cases hv;exact hlo
def CB:Nat:=10000000000000000000
theorem fT {d:Nat}(hL:WdD L)(hl:L.length≤30)(hV:wv L=d+CB^C.length*V)(h0:V≠0):C.length≤30:=by
 apply Classical.byContradiction
 intro hc
 have h1:CB^31≤CB^C.length:=Nat.pow_le_pow_right zd zo
 have h2:=Nat.le_mul_of_pos_right (CB^C.length) (Nat.pos_of_ne_zero h0)
 have h3:=xW hL
 have h4:18446744073709551616^L.length≤18446744073709551616^30:=Nat.pow_le_pow_right zd hl
 have h5:18446744073709551616^30≤CB^31:=by decide+kernel
 omega
structure TxI (n0:Nat)(v0:Value)(hL:HF)(nL B:Nat)(eB:TypeId)(h:HF)(n:Nat)(w:List Nat)(a:Option Addr)(T:List Nat):Prop where
 hn:nL≤n
 g:GroT h n (.slice a T.length T.length) T
 or:Value.slice a T.length T.length=v0∨yH nL (.slice a T.length T.length)
 hw:∀b∈w,ip v0 b
 fr:∀b,b<3*nL→b≠B→¬ip v0 b→h b=hL b
 buf:∃c,h B=some (.row c eB)∧c.length=20
theorem TxI.ext {hL:HF}{nL:Nat}{h:HF}{n:Nat}{w:List Nat}(t:TxI n0 v0 hL nL B eB h n w a T)(x:Ext n h h')(hn:n≤n')(hB:B<3*nL):TxI n0 v0 hL nL B eB h' n' w a T:=by
 have h1:=t.hn
 obtain ⟨c,h2,h3⟩:=t.buf
 exact ⟨zo,t.g.ext x hn,t.or,t.hw,fun b hb hne hv=>(x b zo).trans (t.fr b hb hne hv),c,(x B zo).trans h2,h3⟩
theorem TxI.bufs {hL:HF}{nL:Nat}{h:HF}{n:Nat}{w:List Nat}{c:List Nat}(t:TxI n0 v0 hL nL B eB h n w a T)(hn:n≤n')(hB:B<3*nL)(hgB:gro B=false)(ho:∀b,b<3*n→b≠B→h' b=h b)(hr:h' B=some (.row cs eB))(hc:cs.length=20):TxI n0 v0 hL nL B eB h' n' w a T:=by
 have h1:=t.hn
 refine ⟨zo,?_,t.or,t.hw,fun b hb hne hv=>(ho b zo hne).trans (t.fr b hb hne hv),cs,hr,hc⟩
 have g1:GroT h' n (.slice a T.length T.length) T:=t.g.same fun b _ hb hg=>ho b hb fun e=>by rw [e,hgB] at hg;cases hg
 exact g1.ext (Ext.refl n h') hn
section
variable {X:CtxF}{ops r:List Oper}{t:TF}{h:HF}{n:Nat}{w:List Nat}{Q:SV→Prop}{o:Oper}{d:Tmp}
theorem iZ {s:Operand}{hL:HF}{nL:Nat}{m:Nat}{new:List Nat}(hw:zg ops t o=true∧o.dst=some d∧zj X.nt (some d)=true∧o.op=.call {callee:=.builtin .append,args:=#[s,x],argTypes:=#[sT,xT]}∧(match X.E.und xT with|some (.int _)=>false|none=>false|_=>true)=true∧X.E.und sT=some (.slice e)∧e=5∧X.E.inf e=some (1,bytes,z)∧(zk z).length=1)(h1:1≤bytes)(hs:evF t s=.slice a T.length T.length)(hx:argS h 1 (evF t x) m (u8s new))(hm:1≤m)(hl:new.length=m)(hb:(T.length+m)*bytes≤1099511627776)(tx:TxI X.n0 v0 hL nL B eB h n w a T)(hB:B<3*nL)(hgB:gro B=false)(h0:X.n0≤nL)
  (k:∀a' h' w',TxI X.n0 v0 hL nL B eB h' (n+1) w' a' (T++new)→h' B=h B→EO X ops r ⟨upd t d (.slice a' (T++new).length (T++new).length),h',n+1,w'⟩ Q):EO X ops (o::r) ⟨t,h,n,w⟩ Q:=by
 obtain ⟨hw,hd,hn,ho,hxT,hu,he,hi,hz⟩:=hw
 obtain ⟨v',h',W,h2,h3,h4,h5,h6⟩:=qa hu he hi hz h1 tx.g hx hm hl hb
 obtain ⟨a',rfl⟩:=h3.shape
 have hn1:=tx.hn
 have hvb:∀b,b<3*nL→¬ip v0 b→∀o l c,Value.slice a T.length T.length≠.slice (some ⟨b,o,none⟩) l c:=fun b hb hv o l c e2=>by
  rcases tx.or with h7|h7
  ·exact hv ⟨o,l,c,h7▸e2⟩
  rw [e2] at h7;have h7:3*nL≤b:=h7;omega
 have hBv:h' B=h B:=h4 B zo fun o l c e2=>by have:=(tx.g.blk e2).1;rw [hgB] at this;cases this
 refine yE ⟨hw,hd,hn,ho,hxT⟩ (by rw [hs];exact h2) (k a' h' _ ⟨zo,h3,.inr (h6.mono hn1),fun b hb=>?_,fun b hb hne hv=>(h4 b zo (hvb b hb hv)).trans (tx.fr b hb hne hv),?_⟩ hBv)
 ·rcases yr.1 hb with h|⟨h,h3⟩
  ·exact tx.hw b h
  obtain ⟨o,l,c,e2⟩:=h5 b h
  rcases tx.or with h4|h4
  ·exact ⟨o,l,c,h4▸e2⟩
  rw [e2] at h4;have h4:3*nL≤b:=h4;omega
 obtain ⟨c,q1,q2⟩:=tx.buf
 exact ⟨c,hBv.trans q1,q2⟩
end
theorem TxI.as {hL:HF}{nL:Nat}{h:HF}{n:Nat}{w:List Nat}(t:TxI n0 v0 hL nL B eB h n w a T)(x:Ext n0 h0 hL)(h1:n0≤nL)(hB:3*n0≤B):AS h0 n0 v0 h n w (.slice a T.length T.length) T:=by
 refine ⟨by have:=t.hn;omega,fun b hb hne=>(t.fr b zo zo fun ⟨o,l,c,e⟩=>hne o l c e).trans (x b hb),t.hw,t.g,?_⟩
 rcases t.or with h|h
 ·exact .inl h
 exact .inr (h.mono h1)
theorem G_fr {h:HF}(hG:GK.G h)(hf:∀b,b<60→gro b=false→h' b=h b):GK.G h':=by
 obtain ⟨g1,g2,g3⟩:=hG
 exact ⟨(hf _ zo rfl).trans g1,(hf _ zo rfl).trans g2,(hf _ zo rfl).trans g3⟩
theorem iG {h:HF}{s:Nat}{S:List Nat}(hr:h b=some (.row (u64s S) e))(hj:S[j]?=some s):At h b (0+j*1) [.int .u64 (s:Int)]:=by
 have hjl:=(List.getElem?_eq_some_iff.1 hj).1
 refine ⟨_,_,hr,rfl,by show 0+j*1+1≤_;rw [zw];omega,?_⟩
 show ((u64s S).drop (0+j*1)).take 1=_
 rw [Nat.zero_add,Nat.mul_one,uO,List.drop_eq_getElem_cons hjl,(List.getElem?_eq_some_iff.1 hj).2]
 rfl
def qV (C:List Nat)(m:Nat):List Nat:=if m=C.length then [] else decN (dv CB (C.drop m))
theorem za9 {m c:Nat}(h:C[m]?=some c):dv CB (C.drop m)=c+CB*dv CB (C.drop (m+1)):=by
 have hl:=(List.getElem?_eq_some_iff.1 h).1
 rw [List.drop_eq_getElem_cons hl,(List.getElem?_eq_some_iff.1 h).2]
 rfl
theorem za8 {C':List Nat}{cl:Nat}(hC:C=C'++[cl])(h0:cl≠0){m:Nat}(hm:m<C.length):dv CB (C.drop m)≠0:=by
 rw [hC,List.drop_append_of_le_length (by rw [hC,List.length_append] at hm;simp at hm;omega),wc]
 show _+CB^_*(cl+CB*0)≠0
 have:0<CB^(C'.drop m).length*(cl+CB*0):=Nat.mul_pos (Nat.pow_pos zd) zo
 omega
theorem kG {C':List Nat}{cl m c:Nat}(hC:C=C'++[cl])(h0:cl≠0)(hc:C[m]?=some c)(hb:c<CB):qV C m=qV C (m+1)++(List.replicate ((if m+1=C.length then (decN c).length else 19)-(decN c).length) 48++decN c):=by
 have hl:=(List.getElem?_eq_some_iff.1 hc).1
 unfold qV
 rw [if_neg zo,za9 hc]
 by_cases he:m+1=C.length
 ·rw [if_pos he,if_pos he,he,List.drop_length,Nat.sub_self]
  show decN (c+CB*0)=_
  rw [Nat.mul_zero,Nat.add_zero]
  rfl
 rw [if_neg he,if_neg he]
 exact jK hb (za8 hC h0 zo)
section
variable {X:CtxF}{ops r:List Oper}{ms:List Nat}{i m:Nat}{t:TF}{h:HF}{n:Nat}{w:List Nat}{al ld:List (Nat×Nat)}{ef:List (Nat×HF×List Nat)}{Q:SV→Prop}{o:Oper}{d:Tmp}
theorem d7 {hi:Operand}(hw:zg ops t o=true∧o.dst=some d∧zj X.nt (some d)=true∧o.op=.slice ty x none (some hi) none∧X.E.und ty=some (.array len e)∧X.E.inf e=some (sz,bt,z)∧evF t x=.pointer (some ⟨b,0,none⟩)∧evF t hi=.int ik' ji∧ji=(j:Int))(hb:gro b=false)(hl:j≤len∧0<len)
  (k:ED X ops r ms (i+1) ⟨⟨upd t d (.slice (some ⟨b,0,none⟩) j len),h,n,w⟩,al,ld,ef⟩ Q):ED X ops (o::r) (m::ms) i ⟨⟨t,h,n,w⟩,al,ld,ef⟩ Q:=by
 obtain ⟨hw,hd,hn,ho,hu,hi',hx,hhi,hji⟩:=hw
 subst hji
 refine yA hw hd hn (by rw [ho];rfl) ?_ k
 rw [ho]
 show yU X.E ty (evF t x) none (some (evF t hi))=_
 rw [hx,hhi]
 have h2:(0:Int)≤(j:Int)∧(j:Int)≤(len:Int):=zo
 have h3:Nat.beq len 0=false:=by
  cases he:Nat.beq len 0 with
  |false=>rfl
  |true=>have:=Nat.eq_of_beq_eq_true he;omega
 simp only [yU,hu,hi',bnd,if_pos h2,Int.toNat_natCast,hb,offA,h3,wg,Nat.zero_mul,Nat.sub_zero]
end
theorem kD {q:List Nat}{r:Nat}(hV:wv L=dv CB C+CB^C.length*wv W)(hW:wv W=CB*wv q+r):wv L=dv CB (C++[r])+CB^(C.length+1)*wv q:=by
 rw [hV,hW,wc,Nat.pow_succ]
 show _=dv CB C+CB^C.length*(r+CB*0)+_
 rw [Nat.mul_zero,Nat.add_zero,Nat.mul_add,Nat.mul_assoc,Nat.add_assoc,Nat.add_comm (CB^C.length*r)]
theorem oX (k:Nat){h:HF}(hG:GK.G h){n:Nat}(hn:20≤n)(g:GroT h n (.slice a T.length T.length) T)(hT:T.length<100000000)(hs:Sl h n 1 (.slice ax lx cx) (u64s L))(nL:NW L)(hl:L.length≤30)(h0:L≠[]):
  CF (cal (k+5)) 189 [.slice a T.length T.length,.slice ax lx cx,.int .i64 0] h n fun v h' n' w=>AS h n (.slice a T.length T.length) h' n' w v (T++decN (wv L)):=by
 refine zn (fn:=Tryz.f189) R4 ?_
 have elx:=hs.lenW
 subst elx
 have hlen0:L.length≠0:=fun e=>h0 (List.length_eq_zero_iff.1 e)
 refine zN ?_
 refine zM ?_
 refine zN ?_
 refine zM ?_
 refine zr _ R5 (wL (k+3) hs zo) ?_
 rintro vw h1 n1 _ ⟨rfl,hn1,hx1,hs1,hg1⟩
 obtain ⟨bw,rfl,hbl,hbh,hrw,hgw⟩:=(hg1 h0).inv hlen0
 clear hg1 hs1
 refine zM ?_
 refine zN ?_
 refine zM ?_
 refine zN ?_
 refine zZ (α:=List Nat×List Nat×List Nat×Option Addr) (fun z=>[(0,.slice a T.length T.length),(2,.int .i64 0),(7,.slice (some ⟨bw,0,none⟩) z.1.length L.length),(8,.slice z.2.2.2 z.2.2.1.length z.2.2.1.length)])
  (fun z h' n' w=>w=[]∧n1≤n'∧Ext n h h'∧h' bw=some (.row (u64s (z.1++z.2.1)) 170)∧z.1.length+z.2.1.length=L.length∧NW z.1∧Gro h' n1 n' 170 1 (.slice z.2.2.2 z.2.2.1.length z.2.2.1.length) z.2.2.1.length (u64s z.2.2.1)∧(∀c∈z.2.2.1,c<CB)∧wv L=dv CB z.2.2.1+CB^z.2.2.1.length*wv z.1∧(wv z.1=0→∃C' c,z.2.2.1=C'++[c]∧c≠0)∧z.2.2.1.length≤31) (fun z=>32-z.2.2.1.length)
  (L,[],[],none) ⟨rfl,rfl,rfl,rfl,trivial⟩ ⟨rfl,Nat.le_refl _,hx1,by rw [List.append_nil];exact hrw,rfl,nL,.nil,fun c hc=>absurd hc List.not_mem_nil,by show wv L=0+CB^0*wv L;rw [Nat.pow_zero];omega,fun e=>absurd (nL.zero.1 e) h0,by show 0≤31;omega⟩ (by show 32-0<LL;unfold LL;omega) ?_
 rintro ⟨W,tl,C,a8⟩ t h2 n2 _ ⟨rfl,hn2,hx2,hr2,hlw,nW,hgC,hC,hV,hlast,hC31⟩
 have hr2:h2 bw=some (.row (u64s (W++tl)) 170):=hr2
 have hlw:W.length+tl.length=L.length:=hlw
 have nW:NW W:=nW
 have hgC:Gro h2 n1 n2 170 1 (.slice a8 C.length C.length) C.length (u64s C):=hgC
 have hC:∀c∈C,c<CB:=hC
 have hV:wv L=dv CB C+CB^C.length*wv W:=hV
 have hlast:wv W=0→∃C' c,C=C'++[c]∧c≠0:=hlast
 have hC31:C.length≤31:=hC31
 refine zN ?_
 by_cases hW0:W=[]
 ·subst hW0
  have hVC:wv L=dv CB C:=by rw [hV];show _+_*0=_;omega
  obtain ⟨C',cl,hCl,hcl0⟩:=hlast rfl
  have hCn:C.length≠0:=by rw [hCl,List.length_append];simp
  repeat refine zR ?_
  refine zN ?_
  rw [za rfl]
  refine zN ?_
  refine wk (List.replicate 20 (.int .u8 0)) R6 ?_
  intro hL pL xL
  refine zN ?_
  refine zM ?_
  refine zN ?_
  repeat refine zR ?_
  refine zN ?_
  obtain ⟨eB,pL⟩:∃e,hL (3*n2+2)=some (.row (List.replicate 20 (.int .u8 0)) e):=⟨_,pL⟩
  have hxL:Ext n h hL:=hx2.trans xL zo
  have gC:Gro hL n1 (n2+1) 170 1 (.slice a8 C.length C.length) C.length (u64s C):=hgC.ext xL zs
  obtain ⟨b8,hb8e,hb8l,hb8h,hb8r,hb8g⟩:=gC.inv hCn
  injection hb8e with hb8e
  subst hb8e
  have gT:GroT hL (n2+1) (.slice a T.length T.length) T:=g.ext hxL zo
  have tx0:TxI n (.slice a T.length T.length) hL (n2+1) (3*n2+2) eB hL (n2+1) [] a T:=⟨Nat.le_refl _,gT,.inl rfl,fun b hb=>absurd hb List.not_mem_nil,fun _ _ _ _=>rfl,List.replicate 20 (.int .u8 0),pL,List.length_replicate⟩
  have hv0:∀b,ip (.slice a T.length T.length) b→gro b=true∧b<3*n:=fun b ⟨o,l,c,e⟩=>g.blk e
  refine zZ (α:=Nat×Option Addr×List Nat) (fun z=>[(0,.slice z.2.1 z.2.2.length z.2.2.length),(2,.int .i64 0),(8,.slice (some ⟨b8,0,none⟩) C.length C.length),(11,.pointer (some ⟨3*n2+2,0,none⟩)),(12,.bool (decide (z.1=C.length))),(13,.int .i64 ((z.1:Int)-1))])
   (fun z h' n' w=>TxI n (.slice a T.length T.length) hL (n2+1) (3*n2+2) eB h' n' w z.2.1 z.2.2∧z.1≤C.length∧z.2.2=T++qV C z.1∧z.2.2.length≤T.length+19*(C.length-z.1)) (fun z=>z.1)
   (C.length,a,T) ⟨rfl,rfl,rfl,rfl,by show Value.bool true=.bool (decide (C.length=C.length));rw [decide_eq_true rfl],rfl,trivial⟩ ⟨tx0,Nat.le_refl _,by show T=T++qV C C.length;unfold qV;rw [if_pos rfl,List.append_nil],Nat.le_add_right _ _⟩ (by show C.length<LL;unfold LL;omega) ?_
  rintro ⟨m,a1,T1⟩ t h3 n3 w3 ⟨tx,hm,hT1,hTl⟩
  have tx:TxI n (.slice a T.length T.length) hL (n2+1) (3*n2+2) eB h3 n3 w3 a1 T1:=tx
  have hm:m≤C.length:=hm
  have hT1:T1=T++qV C m:=hT1
  have hTl:T1.length≤T.length+19*(C.length-m):=hTl
  have hn3:=tx.hn
  refine zN ?_
  cases m with
  |zero=>
   have hf:decide (0=C.length)=false:=decide_eq_false zo
   rw [hf]
   repeat refine zR ?_
   refine zN ?_
   rw [za rfl]
   refine zN ?_
   refine zM ?_
   refine zN ?_
   rw [za rfl]
   refine zN ?_
   refine zM ?_
   refine zM ?_
   refine zN ?_
   have:=tx.as hxL zo zo
   rw [show T++decN (wv L)=T1 by rw [hT1,hVC];unfold qV;rw [if_neg zo,List.drop_zero]]
   exact retH [.slice a1 _ _] R3 this
  |succ m=>
   obtain ⟨c,hc⟩:∃c,C[m]?=some c:=⟨C[m]'zo,List.getElem?_eq_getElem zo⟩
   have hcB:c<CB:=hC c (List.mem_of_getElem? hc)
   have hc64:c<18446744073709551616:=Nat.lt_trans hcB zd
   have hD19:=jJ hcB
   have hD1:1≤(decN c).length:=by
    have:=mD c
    cases hh:decN c with
    |nil=>exact absurd hh this
    |cons _ _=>simp
   have hr8:h3 b8=some (.row (u64s C) 170):=(tx.fr b8 hb8h (fun e=>by rw [e,zC] at hb8g;cases hb8g) (fun hv=>by have:=(hv0 _ hv).2;omega)).trans hb8r
   have hat:=iG hr8 hc
   have hG3:GK.G h3:=G_fr (tg hG hxL hn) fun b hb hg=>tx.fr b zo zo fun hv=>by have:=(hv0 _ hv).1;rw [hg] at this;cases this
   obtain ⟨cb,hcb,hcbl⟩:=tx.buf
   repeat refine zR ?_
   refine zN ?_
   rw [zc rfl]
   refine zN ?_
   refine zB [0,0,0,6,14,31,63] rfl ?_
   refine d7 (j:=0) R9 (zC n2) zo ?_
   refine zE ?_
   refine zE ?_
   refine bg rfl rfl rfl rfl rfl rfl (aq:=some ⟨b8,0,none⟩) rfl (j:=m) (by show Value.int .i64 _=Value.int .i64 _;congr 1;omega) rfl zo ?_
   refine yn (v:=.int .u64 (c:Int)) R6 (hat.ld1 0 rfl rfl) R2 ?_
   refine pA _ R7 (oW k hG3 zo zo hcb ⟨hcbl.symm,zo⟩ zo hc64) ?_
   rintro v4 h4 n4 W4 ⟨rfl,hn4,hW4,ho4,c4,hr4,hl4,hd4⟩
   refine ⟨sf rfl,hn4,?_⟩
   rw [yf fun b hb=>by rw [hW4 b hb];show 3*n≤_;omega]
   refine zE ?_
   refine zN ?_
   have tx4:=tx.bufs (c:=[]) hn4 zo (zC _) ho4 hr4 (by rw [hl4,hcbl])
   obtain ⟨S,hS⟩:∃S,S=if m+1=C.length then (decN c).length else 19:=⟨_,rfl⟩
   have hSD:(decN c).length≤S∧S≤19:=by rw [hS];split<;>omega
   refine zM ?_
   refine zN ?_
   refine zM ?_
   refine zN ?_
   refine zdq [(0,.slice a1 T1.length T1.length),(2,.int .i64 0),(8,.slice (some ⟨b8,0,none⟩) C.length C.length),(11,.pointer (some ⟨3*n2+2,0,none⟩)),(12,.bool (decide (m+1=C.length))),(13,.int .i64 (((m+1:Nat):Int)-1)),(14,.slice (some ⟨3*n2+2,0,none⟩) (decN c).length 20),(15,.int .i64 (S:Int))] (fun h' n' w'=>h4=h'∧n4=n'∧w3=w') ?_ ?_
   ·by_cases hf:m+1=C.length
    ·rw [zc (by show Value.bool (decide (m+1=C.length))=_;rw [decide_eq_true hf])]
     refine zN ?_
     refine zM ?_
     refine zM ?_
     refine zM ?_
     refine zM ?_
     refine st_mul (a:=19) (b:=((m+1:Nat):Int)-1) rfl rfl rfl rfl rfl rfl zo ?_
     refine sc (a:=0) (b:=19*(((m+1:Nat):Int)-1)) R6 zo ?_
     refine st_I (ik:=.i64) (a:=(S:Int)) ⟨rfl,rfl,rfl,rfl,?_⟩ ?_
     ·show some (Value.int .i64 (if (((decN c).length:Nat):Int)<0-19*(((m+1:Nat):Int)-1) then 0-19*(((m+1:Nat):Int)-1) else (((decN c).length:Nat):Int)))=_
      rw [if_neg zo,hS,if_pos hf]
     refine zM ?_
     refine zN ?_
     exact ae ⟨rfl,rfl,rfl,rfl,rfl,rfl,rfl,rfl,trivial⟩ ⟨rfl,rfl,rfl⟩
    rw [za (by show Value.bool (decide (m+1=C.length))=_;rw [decide_eq_false hf])]
    refine zN ?_
    exact ae ⟨rfl,rfl,rfl,rfl,rfl,rfl,rfl,by show Value.int .i64 19=.int .i64 (S:Int);rw [hS,if_neg hf];rfl,trivial⟩ ⟨rfl,rfl,rfl⟩
   rintro t _ _ _ ⟨rfl,rfl,rfl⟩
   refine zN ?_
   refine zM ?_
   refine zM ?_
   refine zM ?_
   refine sc (a:=(S:Int)) (b:=(((decN c).length:Nat):Int)) R6 zo ?_
   obtain ⟨N,hN⟩:∃N,N=S-(decN c).length:=⟨_,rfl⟩
   rw [show (S:Int)-(((decN c).length:Nat):Int)=(N:Int) by omega]
   refine zM ?_
   refine zN ?_
   refine zZ (α:=Nat×Option Addr×List Nat) (fun z=>[(0,.slice z.2.1 z.2.2.length z.2.2.length),(2,.int .i64 0),(8,.slice (some ⟨b8,0,none⟩) C.length C.length),(11,.pointer (some ⟨3*n2+2,0,none⟩)),(12,.bool (decide (m+1=C.length))),(13,.int .i64 (((m+1:Nat):Int)-1)),(14,.slice (some ⟨3*n2+2,0,none⟩) (decN c).length 20),(70,.int .i64 (N:Int)),(71,.int .i64 (z.1:Int))])
    (fun z h' n' w=>TxI n (.slice a T.length T.length) hL (n2+1) (3*n2+2) eB h' n' w z.2.1 z.2.2∧h' (3*n2+2)=h4 (3*n2+2)∧z.1≤N∧z.2.2=T1++List.replicate z.1 48) (fun z=>N-z.1)
    (0,a1,T1) ⟨rfl,rfl,rfl,rfl,rfl,rfl,rfl,rfl,rfl,trivial⟩ ⟨tx4,rfl,Nat.zero_le _,by show T1=T1++[];rw [List.append_nil]⟩ (by show N-0<LL;unfold LL;omega) ?_
   rintro ⟨cnt,a5,T5⟩ t h5 n5 w5 ⟨tx5,hb5,hcnt,hT5⟩
   have tx5:TxI n (.slice a T.length T.length) hL (n2+1) (3*n2+2) eB h5 n5 w5 a5 T5:=tx5
   have hcnt:cnt≤N:=hcnt
   have hT5:T5=T1++List.replicate cnt 48:=hT5
   have hl5:T5.length=T1.length+cnt:=by rw [hT5,List.length_append,List.length_replicate]
   have hn5:=tx5.hn
   refine zN ?_
   by_cases hlt:cnt<N
   ·repeat refine zR ?_
    refine zN ?_
    rw [zc rfl]
    refine zN ?_
    refine zM ?_
    refine wB [.int .u8 48] (l:=1) (c:=1) R5 ?_
    intro h6 p6 x6
    refine iZ (m:=1) (new:=[48]) R9 zb rfl (xy p6 R2) (Nat.le_refl _) rfl zo (tx5.ext x6 zs zo) zo (zC _) (by show n≤n2+1;omega) ?_
    intro a7 h7 w7 tx7 hb7
    refine zM ?_
    refine zN ?_
    refine zR ?_
    refine zM ?_
    refine zN ?_
    exact goOn (cnt+1,a7,T5++[48]) (by show N-(cnt+1)<N-cnt;omega) ⟨rfl,rfl,rfl,rfl,rfl,rfl,rfl,rfl,rfl,trivial⟩ ⟨tx7,hb7.trans ((x6 _ zo).trans hb5),by show cnt+1≤N;omega,by show T5++[48]=T1++List.replicate (cnt+1) 48;rw [hT5,List.append_assoc,←List.replicate_succ']⟩
   have hcN:cnt=N:=zo
   repeat refine zR ?_
   refine zN ?_
   rw [za rfl]
   refine zN ?_
   refine zM ?_
   refine zM ?_
   refine iZ (m:=(decN c).length) (new:=decN c) R9 zb rfl (xV (hb5.trans hr4) (by rw [List.drop_zero];exact hd4) zo zo) hD1 rfl zo tx5 zo (zC _) (by show n≤n2+1;omega) ?_
   intro a7 h7 w7 tx7 hb7
   refine zM ?_
   refine zN ?_
   refine zM ?_
   refine zN ?_
   refine zM ?_
   refine sc (a:=((m+1:Nat):Int)-1) (b:=1) R6 zo ?_
   refine zM ?_
   refine zN ?_
   refine goOn (m,a7,T5++decN c) (by show m<m+1;omega) ⟨rfl,rfl,rfl,rfl,by show Value.bool false=.bool (decide (m=C.length));rw [decide_eq_false zo],by show Value.int .i64 _=Value.int .i64 _;congr 1;omega,trivial⟩ ⟨tx7,by show m≤C.length;omega,?_,?_⟩
   ·show T5++decN c=T++qV C m
    rw [kG hCl hcl0 hc hcB,hT5,hT1,hcN,hN,hS]
    simp only [List.append_assoc]
   show (T5++decN c).length≤T.length+19*(C.length-m)
   rw [List.length_append]
   omega
 have hWl:W.length≠0:=fun e=>hW0 (List.length_eq_zero_iff.1 e)
 have hwv0:wv W≠0:=fun e=>hW0 (nW.zero.1 e)
 have hC30:=fT nL.1 hl hV hwv0
 repeat refine zR ?_
 refine zN ?_
 rw [zc rfl]
 refine zN ?_
 refine zM ?_
 refine zN ?_
 repeat refine zR ?_
 refine zN ?_
 refine zZ (α:=Nat×List Nat×Nat) (fun x=>[(0,.slice a T.length T.length),(2,.int .i64 0),(7,.slice (some ⟨bw,0,none⟩) W.length L.length),(8,.slice a8 C.length C.length),(9,.int .u64 (x.2.2:Int)),(10,.int .i64 ((x.1:Int)-1))])
  (fun x h' n' w=>w=[]∧n2=n'∧Only bw h2 h'∧h' bw=some (.row (u64s (W.take x.1++(x.2.1++tl))) 170)∧x.1+x.2.1.length=W.length∧WdD x.2.1∧x.2.2<CB∧wv (W.drop x.1)=CB*wv x.2.1+x.2.2) (fun x=>x.1)
  (W.length,[],0) ⟨rfl,rfl,rfl,rfl,rfl,rfl,trivial⟩ ⟨rfl,rfl,fun _ _=>rfl,by rw [List.take_length,List.nil_append];exact hr2,rfl,WdD.nil,by show 0<CB;decide,by rw [List.drop_length];rfl⟩ (by show W.length<LL;unfold LL;omega) ?_
 rintro ⟨j,q,r⟩ t h3 _ _ ⟨rfl,rfl,ho3,hr3,hjl,hq,hr,hWV⟩
 have hr3:h3 bw=some (.row (u64s (W.take j++(q++tl))) 170):=hr3
 have hjl:j+q.length=W.length:=hjl
 have hq:WdD q:=hq
 have hr:r<CB:=hr
 have hWV:wv (W.drop j)=CB*wv q+r:=hWV
 have hx3:Ext n h h3:=hx2.st ho3 zo
 refine zN ?_
 cases j with
 |succ j=>
  obtain ⟨x,hx⟩:∃x,W[j]?=some x:=⟨W[j]'zo,List.getElem?_eq_getElem zo⟩
  have hx':=nW.1.get hx
  have hsl:Sl h3 n2 1 (.slice (some ⟨bw,0,none⟩) W.length L.length) (u64s (W.take (j+1)++q)):=.at_ zo hr3 rfl zo (by rw [zw];simp;omega) (by
   rw [List.drop_zero,Nat.mul_one,uN,←List.append_assoc,List.take_append_of_le_length (by simp;omega),List.take_of_length_le (by simp;omega)])
  have hget:(W.take (j+1)++q)[j]?=some x:=by rw [List.getElem?_append_left (by simp;omega),List.getElem?_take_of_lt zo,hx]
  repeat refine zR ?_
  refine zN ?_
  rw [zc rfl]
  refine zN ?_
  repeat refine zR ?_
  refine yj (f:=fun d:Nat=>Value.int .u64 (d:Int)) (j:=j) R7 hsl ⟨rfl,zo⟩ hget (fun _=>rfl) R4 fun _=>?_
  refine z0 _ R5 (s6 (k+1) h3 n2 (y:=CB) hr hx' zd) ?_
  rintro _ rfl
  repeat refine zR ?_
  refine vn (j:=j) (v:=.int .u64 (((r*18446744073709551616+x)/CB:Nat):Int)) R8 zo ⟨zo,by rw [zw];simp;omega⟩ hr3 (by show 3*n≤bw;omega) (fun _=>rfl) R3 (fun _=>rfl) rfl fun _=>?_
  rw [z8,List.set_append_left _ _ (by simp;omega),List.take_add_one,hx,Option.toList_some,List.set_append_right _ _ (by rw [List.length_take];omega),List.length_take,Nat.min_eq_left zo,Nat.sub_self,List.set_cons_zero,List.append_assoc,List.singleton_append]
  repeat refine zR ?_
  refine zN ?_
  repeat refine zR ?_
  refine zN ?_
  obtain ⟨g1,g2⟩:=re (V:=wv (W.drop (j+1))) (Vq:=wv q) (r:=r) (a:=x) (d:=CB) zd hWV
  refine goOn (j,(r*18446744073709551616+x)/CB::q,(r*18446744073709551616+x)%CB) (by show j<j+1;omega) ⟨rfl,rfl,rfl,rfl,rfl,by show Value.int .i64 _=Value.int .i64 _;congr 1;omega,trivial⟩ ⟨rfl,rfl,fun b hb=>(zi hb).trans (ho3 b hb),(ze _ _ _).trans (by rw [List.cons_append]),by show j+(_::q).length=_;simp;omega,?_,Nat.mod_lt _ zd,?_⟩
  ·intro y hy
   rcases List.mem_cons.1 hy with rfl|hy
   ·exact iE hr hx'
   exact hq y hy
  show wv (W.drop j)=CB*wv (_::q)+_
  rw [o9 hx,←g2]
  have:=Nat.div_add_mod (x+18446744073709551616*wv (W.drop (j+1))) CB
  rw [g1] at this
  exact this.symm
 |zero=>
  rw [List.take_zero,List.nil_append] at hr3
  rw [List.drop_zero] at hWV
  have hql:q.length=W.length:=zo
  repeat refine zR ?_
  refine zN ?_
  rw [za rfl]
  refine zN ?_
  refine zM ?_
  have hsq:Sl h3 n2 1 (.slice (some ⟨bw,0,none⟩) W.length L.length) (u64s q):=.at_ zo hr3 rfl zo (by rw [zw];simp;omega) (by
   rw [List.drop_zero,Nat.mul_one,uN,List.take_append_of_le_length zo,List.take_of_length_le zo])
  refine zr _ R5 (y9 (k+3) (l:=q) zo (fun _ e=>by injection e with e;rw [←e]) hsq) ?_
  rintro _ h3 n2 _ ⟨rfl,rfl,rfl,rfl,hsq2⟩
  refine zM ?_
  refine zN ?_
  refine zM ?_
  refine zM ?_
  refine wB [.int .u64 (r:Int)] (l:=1) (c:=1) R5 ?_
  intro h4 p4 x4
  have hgC4:Gro h4 n1 (n2+1) 170 1 (.slice a8 C.length C.length) C.length (u64s C):=(hgC.same fun b hb _ _=>ho3 b zo).ext x4 zs
  refine la (lo:=n1) (m:=1) R8 ⟨Nat.le_of_ble_eq_true rfl,Nat.le_of_ble_eq_true rfl⟩ hgC4 (xy p4 R2) (Nat.le_refl _) zo rfl rfl ⟨by show n≤_;omega,zo⟩ ?_
  intro v5 h5 g5 x5 k5
  obtain ⟨a5,rfl,_⟩:=g5.shape
  have hr5:h5 bw=_:=(x5 bw hbh).trans ((x4 bw zo).trans hr3)
  refine zM ?_
  refine zN ?_
  have hsz:=kD (C:=C) (r:=r) hV hWV
  refine goOn (zU q,q.drop (zU q).length++tl,C++[r],a5) (by show 32-(C++[r]).length<32-C.length;rw [List.length_append];show 32-(C.length+1)<_;omega) ⟨rfl,rfl,rfl,by show Value.slice a5 _ _=Value.slice a5 _ _;rw [List.length_append];rfl,trivial⟩ ⟨rfl,by show n1≤n2+1+1;omega,?_,?_,?_,NW.trim hq,?_,?_,?_,?_,?_⟩
  ·exact fun b hb=>(x5 b zo).trans ((x4 b zo).trans (hx3 b hb))
  ·refine hr5.trans ?_
   show some (BF.row (u64s (q++tl)) _)=some (BF.row (u64s (zU q++(q.drop (zU q).length++tl))) _)
   rw [←List.append_assoc]
   conv=>rhs;rw [←ti q,List.length_take,Nat.min_eq_left (xC q),List.take_append_drop]
  ·show (zU q).length+(q.drop (zU q).length++tl).length=L.length
   have:=xC q
   rw [List.length_append,List.length_drop]
   omega
  ·show Gro h5 n1 (n2+1+1) _ 1 (.slice a5 (C++[r]).length (C++[r]).length) (C++[r]).length (u64s (C++[r]))
   rw [xY,List.length_append]
   exact g5
  ·intro c hc
   rcases List.mem_append.1 hc with h|h
   ·exact hC c h
   rw [List.mem_singleton.1 h];exact hr
  ·show wv L=dv CB (C++[r])+CB^(C++[r]).length*wv (zU q)
   rw [show wv (zU q)=wv q from sQ _ _,List.length_append]
   exact hsz
  ·intro e
   have e:wv (zU q)=0:=e
   rw [show wv (zU q)=wv q from sQ _ _] at e
   rw [e,Nat.mul_zero,Nat.zero_add] at hWV
   exact ⟨C,r,rfl,zo⟩
  show (C++[r]).length≤31
  rw [List.length_append]
  show C.length+1≤31
  omega
end
section
variable {h h':HF}{cx l lx m n n':Nat}{a ax:Option Addr}{L T:List Nat}{v:Value}
theorem mK (k:Nat)(hG:GK.G h)(hn:20≤n)(g:GroT h n (.slice a T.length T.length) T)(hT:T.length<100000000){ap:Option Addr}{cp:Nat}(hs:Sl h n 1 (.slice ax lx cx) (u64s L))(nL:NW L)(hl:L.length≤30)(h0:L≠[]):
  CF (cal (k+6)) 152 [.slice a T.length T.length,.slice ax lx cx,.int .i64 0,.slice ap 1 cp] h n fun v h' n' w=>AS h n (.slice a T.length T.length) h' n' w v (T++decN (wv L)):=by
 refine zn (fn:=Tryz.f152) R4 ?_
 have elx:=hs.lenW
 subst elx
 refine zN ?_
 refine zM ?_
 refine zN ?_
 repeat refine zR ?_
 refine zN ?_
 repeat refine zR ?_
 refine zN ?_
 rw [zc rfl]
 refine zN ?_
 refine zM ?_
 refine zM ?_
 refine zM ?_
 refine zr _ R5 (oX k hG hn g hT hs nL hl h0) ?_
 intro v h1 n1 w1 a1
 obtain ⟨a',rfl⟩:=a1.g.shape
 have a2:=(AS.refl g).trans a1
 refine zM ?_
 refine zN ?_
 exact retH [.slice a' _ _] R3 a2
theorem qb (k:Nat)(hG:GK.G h)(hn:20≤n)(g:GroT h n (.slice a T.length T.length) T)(hT:T.length<100000000)(hs:Sl h n 1 (.slice ax lx cx) (u64s L))(nL:NW L)(hl:L.length≤30):
  CF (cal (k+7)) 116 [.slice a T.length T.length,.slice ax lx cx] h n fun v h' n' w=>AS h n (.slice a T.length T.length) h' n' w v (T++decN (wv L)):=by
 refine zn (fn:=Tryz.f116) R4 ?_
 have elx:=hs.lenW
 subst elx
 refine zN ?_
 refine zM ?_
 refine zN ?_
 by_cases h0:L=[]
 ·subst h0
  repeat refine zR ?_
  refine zN ?_
  rw [zc rfl]
  refine zN ?_
  refine zM ?_
  refine wB [.int .u8 48] (l:=1) (c:=1) R5 ?_
  intro h1 p1 x1
  refine rq (m:=1) (new:=[48]) R9 zb rfl (xy p1 R2) (Nat.le_refl _) rfl zo ((AS.refl g).ext x1 zs) ?_
  intro v' h' w' a1 _
  obtain ⟨a',rfl⟩:=a1.g.shape
  refine zM ?_
  refine zN ?_
  exact retH [.slice a' _ _] R3 a1
 have hlen0:L.length≠0:=fun e=>h0 (List.length_eq_zero_iff.1 e)
 repeat refine zR ?_
 refine zN ?_
 rw [za rfl]
 refine zN ?_
 by_cases h1:L.length=1
 ·obtain ⟨w,rfl⟩:=List.length_eq_one_iff.1 h1
  have hw64:w<18446744073709551616:=nL.1 w (by simp)
  repeat refine zR ?_
  refine zN ?_
  rw [zc rfl]
  refine zN ?_
  refine zM ?_
  refine zM ?_
  refine yj (f:=fun d:Nat=>Value.int .u64 (d:Int)) (j:=0) (dv:=w) R7 hs R2 rfl (fun _=>rfl) R4 fun _=>?_
  refine zr _ R5 (mJ (k+2) hG hn hw64 g zo) ?_
  intro v h1 n1 w1 a1
  obtain ⟨a',rfl⟩:=a1.g.shape
  have a2:=(AS.refl g).trans a1
  refine zM ?_
  refine zN ?_
  rw [rd]
  exact retH [.slice a' _ _] R3 a2
 repeat refine zR ?_
 refine zN ?_
 rw [za rfl]
 refine zN ?_
 refine wB [.int .u64 10000000000000000000] (l:=1) (c:=1) R5 ?_
 intro h1 p1 x1
 refine wB [.slice (some ⟨3*n+2,0,none⟩) 1 1] (l:=1) (c:=1) R5 ?_
 intro h2 p2 x2
 refine zM ?_
 refine zN ?_
 have x12:Ext n h h2:=x1.trans x2 zo
 refine zZ (α:=Nat) (fun _=>[(0,.slice a T.length T.length),(1,.slice ax L.length cx),(5,.slice (some ⟨3*(n+1)+2,0,none⟩) 1 1)]) (fun _ h' n' w=>h2=h'∧n+1+1=n'∧w=[]) (fun z=>z) 0 ⟨rfl,rfl,rfl,trivial⟩ ⟨rfl,rfl,rfl⟩ (by show 0<LL;unfold LL;omega) ?_
 rintro _ t _ _ _ ⟨rfl,rfl,rfl⟩
 refine zN ?_
 repeat refine zR ?_
 refine zN ?_
 rw [za rfl]
 refine zN ?_
 refine zM ?_
 refine zM ?_
 refine zM ?_
 refine zr _ R5 (mK k (tg hG x12 hn) (n:=n+1+1) zo (g.ext x12 zo) hT (hs.ext x12 zo) nL hl h0) ?_
 intro v h3 n3 w3 a1
 obtain ⟨a',rfl⟩:=a1.g.shape
 have a2:=((AS.refl g).ext x12 zo).trans a1
 refine zM ?_
 refine zN ?_
 exact retH [.slice a' _ _] R3 a2
def intN (x:Int):List Nat:=(if x<0 then [45] else [])++decN x.natAbs
theorem gR (x:Int):(intN x).map UInt8.ofNat=intT x:=by
 unfold intN intT
 rw [List.map_append,←rU]
 congr 1
 split<;>rfl
theorem IW.few {b:Bool}{c:Nat}{x:Int}(i:IW h n b a l c x)(hx:x.natAbs<2^m)(hm:m≤1920):∃L,Sl h n 1 (.slice a l c) (u64s L)∧NW L∧L.length≤30∧wv L=x.natAbs:=by
 obtain ⟨_,L,h1,h2,h3⟩:=i
 refine ⟨L,h1,h2,h2.len_le (k:=30) ?_,h3⟩
 rw [h3]
 refine Nat.lt_of_lt_of_le hx (Nat.le_trans (Nat.pow_le_pow_right zd hm) ?_)
 decide+kernel
theorem aD {o:Nat}(hm:m≠0)(hl:L.length=m)(h:((u8s T).drop o).take m=u64s L):False:=by
 obtain ⟨d,L',rfl⟩:∃d L',L=d::L':=by
  cases L with
  |nil=>exact absurd hl.symm hm
  |cons d L'=>exact ⟨d,L',rfl⟩
 have h1:Value.int .u64 (d:Int)∈((u8s T).drop o).take m:=by rw [h];exact List.mem_cons_self
 have h2:=List.mem_of_mem_drop (List.mem_of_mem_take h1)
 obtain ⟨q,_,e⟩:=List.mem_map.1 h2
 cases e
theorem Sl.kept {u:Value}(s:Sl h n 1 v (u64s L))(k:Keep u n h h')(g:GroT h n u T)(hn:n≤n'):Sl h' n' 1 v (u64s L):=by
 generalize hL:u64s L=cl at s
 cases s with
 |nil ha=>exact .nil (wp ha hn)
 | @at_ b off len cap x cs c2 hb hx hc hcap hl he=>
  by_cases h0:len=0
  ·subst h0
   have:cl=[]:=by rw [←he];simp
   subst this
   exact .nil (.inr ⟨_,_,_,rfl,zo⟩)
  refine .at_ zo ((k b hb fun o l c e=>?_).trans hx) hc hcap hl he
  unfold GroT at g
  generalize T.length=tl at g
  generalize hT:u8s T=tc at g
  cases g with
  |nil=>cases e
  |at_ hg hlo hb2 hr hl2 ho=>
   cases e
   rw [hr] at hx
   cases hx
   injection hc with hc
   subst hc
   have hll:L.length=len*1:=by
    have:=congrArg List.length he
    rw [←hL,zw,List.length_take,List.length_drop] at this
    omega
   rw [←hT,←hL] at he
   exact aD zo hll he
theorem r8 (k:Nat)(hG:GK.G h)(hn:20≤n)(g:GroT h n (.slice a T.length T.length) T)(hT:T.length<10000000){b:Bool}{x:Int}(i:IW h n b ax lx cx x)(hx:x.natAbs<2^m)(hm:m≤1920):
  CF (cal (k+8)) 67 [.agg #[.bool b,.slice ax lx cx],.slice a T.length T.length] h n fun v h' n' w=>AS h n (.slice a T.length T.length) h' n' w v (T++intN x):=by
 refine zn (fn:=Tryz.f67) R4 ?_
 refine zN ?_
 refine pR [.bool b,.slice ax lx cx] R5 ?_
 intro h1 p1 x1
 have i1:=i.ext x1 zs
 obtain ⟨L,hs,nL,hl,hv⟩:=i1.few hx hm
 have a1:=(AS.refl g).ext x1 zs
 refine zM ?_
 refine zN ?_
 refine zM ?_
 refine zQ (v:=.bool b) R5 (zX rfl p1 R2) ?_
 refine zN ?_
 cases b
 ·have hx0:=i.ge
  rw [za rfl]
  refine zN ?_
  refine zM ?_
  refine zM ?_
  refine zQ (v:=.slice ax lx cx) R5 (zX rfl p1 R2) ?_
  refine zr _ R5 (qb k (tg hG x1 hn) (n:=n+1) zo a1.g zo hs nL hl) ?_
  intro v h3 n3 w3 a2
  obtain ⟨a',rfl⟩:=a2.g.shape
  have a3:=a1.trans a2
  rw [hv] at a3
  refine zM ?_
  refine zN ?_
  rw [show intN x=decN x.natAbs by unfold intN;rw [if_neg zo];rfl]
  exact retH [.slice a' _ _] R3 (by rw [hv];exact a3)
 have hx0:=i.lt
 rw [zc rfl]
 refine zN ?_
 refine zM ?_
 refine wB [.int .u8 45] (l:=1) (c:=1) R5 ?_
 intro h2 p2 x2
 have p12:h2 (3*n+2)=_:=(x2 _ zo).trans p1
 refine rq (m:=1) (new:=[45]) R9 zb rfl (xy p2 R2) (Nat.le_refl _) rfl zo (a1.ext x2 zs) ?_
 intro v' h3 w3 a2 k3
 obtain ⟨a',rfl⟩:=a2.g.shape
 have gg:GroT h2 (n+1+1) (.slice a T.length T.length) T:=(g.ext x1 zs).ext x2 zs
 have p13:h3 (3*n+2)=_:=(gg.keepB k3 (zC n) zo).trans p12
 have hG3:GK.G h3:=G_fr (tg hG (x1.trans x2 zs) hn) fun b hb hg=>gg.keepB k3 hg zo
 have hs3:Sl h3 (n+1+1+1) 1 (.slice ax lx cx) (u64s L):=(hs.ext x2 zs).kept k3 gg zs
 refine zM ?_
 refine zN ?_
 refine zM ?_
 refine zM ?_
 refine zQ (v:=.slice ax lx cx) R5 (zX rfl p13 R2) ?_
 refine zr _ R5 (qb k hG3 (n:=n+1+1+1) zo a2.g (by rw [List.length_append];simp;omega) hs3 nL hl) ?_
 intro v h4 n4 w4 a4
 obtain ⟨a5,rfl⟩:=a4.g.shape
 have a6:=a2.trans a4
 rw [hv] at a6
 refine zM ?_
 refine zN ?_
 rw [show T++intN x=T++[45]++decN x.natAbs by unfold intN;rw [if_pos hx0,List.append_assoc]]
 exact retH [.slice a5 _ _] R3 (by rw [hv];exact a6)
end
section
variable {h h0:HF}{cx l lx m n n0:Nat}{a ax:Option Addr}{T w:List Nat}{v:Value}{q:Rat}
theorem GroT.text (g:GroT h n (.slice a T.length T.length) T):argS h 1 (.slice a T.length T.length) T.length (u8s T):=uG (Gro.sl g)
theorem GroT.nil (h:HF)(n:Nat):GroT h n (.slice none ([]:List Nat).length ([]:List Nat).length) []:=Gro.nil
theorem cf:∀(m V:Nat),V<2^m→(decD V).length≤m:=by
 intro m
 induction m with
 |zero=>(intro V h;have:V=0:=by simpa using h);subst this;simp [decD]
 |succ m ih=>
  intro V h
  by_cases h0:V=0
  ·subst h0;simp [decD]
  rw [decD]
  simp only [h0,if_false,↓reduceDIte,↓reduceIte,List.length_cons,List.length_append,List.length_singleton,List.length_nil]
  have:=ih (V/10) (by rw [Nat.pow_succ] at h;omega)
  omega
theorem dM {x:Int}(h:x.natAbs<2^m):(intN x).length≤m+2:=by
 have h1:(decN x.natAbs).length≤m+1:=by
  unfold decN
  split
  ·simp
  have:=cf m _ h
  simp only [decB,List.length_map,List.length_reverse]
  omega
 unfold intN
 rw [List.length_append]
 split<;>simp<;>omega
theorem AS.w_nil {c:Nat}(a:AS h0 n0 (.slice none l c) h n w v T):w=[]:=by
 cases w with
 |nil=>rfl
 |cons b w=>
  obtain ⟨o,l,c,e⟩:=a.hw b List.mem_cons_self
  cases e
theorem iO (k:Nat)(hG:GK.G h)(hn:20≤n){b:Bool}{x:Int}(i:IW h n b ax lx cx x)(hx:x.natAbs<2^m)(hm:m≤1920):
  VF (cal (k+9)) 66 [.agg #[.bool b,.slice ax lx cx]] h n fun v=>v=.string ⟨⟨intT x⟩⟩:=by
 refine zu (fn:=Tryz.f66) R4 ?_
 refine zN ?_
 refine pR [.bool b,.slice ax lx cx] R5 ?_
 intro h1 p1 x1
 have i1:=i.ext x1 zs
 refine zM ?_
 refine zN ?_
 refine zQ (v:=.agg #[.bool b,.slice ax lx cx]) R5 (yi R2 p1 rfl zb rfl) ?_
 refine zr _ R5 (r8 k (tg hG x1 hn) (n:=n+1) zo (GroT.nil h1 (n+1)) (by show 0<10000000;omega) i1 hx hm) ?_
 intro v h2 n2 w2 a2
 obtain ⟨a',rfl⟩:=a2.g.shape
 have hw2:=a2.w_nil
 subst hw2
 refine rk R5 (uP (B:=[]++intN x) R3 a2.g.text) ?_
 refine zM ?_
 refine zN ?_
 refine retF _ rfl (zh rfl) R2 ?_
 show Value.string _=_
 rw [List.nil_append,gR]
theorem pQ {w:Nat}(hw:w≤9223372036854775808)(h0:0<w):IntKind.wrap .i64 ((18446744073709551616-w:Nat):Int)= -(w:Int):=by
 simp only [IntKind.wrap,IntKind.signed,IntKind.bits]
 simp
 omega
theorem dN (k:Nat){b:Bool}{x:Int}(i:IW h n b ax lx cx x):
  VF (cal (k+1)) 64 [.agg #[.bool b,.slice ax lx cx]] h n fun v=>∃y ok,v=.tuple #[.int .i64 y,.bool ok]∧(ok=true→y=x∧ -9223372036854775808≤x∧x<9223372036854775808):=by
 refine zu (fn:=Tryz.f64) R4 ?_
 obtain ⟨eb,L,hs,nL,hv⟩:=i
 have elx:=hs.lenW
 subst elx
 refine zN ?_
 refine pR [.bool b,.slice ax L.length cx] R5 ?_
 intro h1 p1 x1
 have hs1:=hs.ext x1 zs
 refine zM ?_
 refine zM ?_
 refine zN ?_
 refine zM ?_
 refine zQ (v:=.slice ax L.length cx) R5 (zX rfl p1 R2) ?_
 by_cases h0:L=[]
 ·subst h0
  have hx0:x=0:=by
   have:x.natAbs=0:=hv.symm.trans rfl
   omega
  repeat refine zR ?_
  refine zN ?_
  rw [zc rfl]
  refine zN ?_
  repeat refine zR ?_
  refine zN ?_
  exact retF [.int .i64 0,.bool true] rfl (yz rfl (yz rfl sd)) R2 ⟨_,_,rfl,fun _=>⟨hx0.symm,zo,zo⟩⟩
 have hl0:L.length≠0:=fun e=>h0 (List.length_eq_zero_iff.1 e)
 obtain ⟨w,L',rfl⟩:∃w L',L=w::L':=by
  cases L with
  |nil=>exact absurd rfl h0
  |cons w L'=>exact ⟨w,L',rfl⟩
 have hw64:w<18446744073709551616:=nL.1 w (by simp)
 repeat refine zR ?_
 refine zN ?_
 rw [za rfl]
 refine zN ?_
 refine zM ?_
 refine zQ (v:=.slice ax (w::L').length cx) R5 (zX rfl p1 R2) ?_
 refine yj (f:=fun d:Nat=>Value.int .u64 (d:Int)) (j:=0) (dv:=w) R7 hs1 R2 rfl (fun _=>rfl) R4 fun _=>?_
 refine zM ?_
 refine zN ?_
 refine zM ?_
 refine zQ (v:=.slice ax (w::L').length cx) R5 (zX rfl p1 R2) ?_
 by_cases h1:L'=[]
 ·subst h1
  rw [rd] at hv
  have hw0:w≠0:=nL.last (l:=[])
  refine zM ?_
  refine mZ R6 (by show ¬(((1:Nat):Int)>1);omega) ?_
  refine zM ?_
  refine zN ?_
  rw [za rfl]
  refine zN ?_
  refine zM ?_
  refine zQ (v:=.bool b) R5 (zX rfl p1 R2) ?_
  cases b
  ·have hx0:0≤x:=Int.not_lt.1 (of_decide_eq_false eb.symm)
   repeat refine zR ?_
   refine zN ?_
   rw [za rfl]
   refine zN ?_
   refine zM ?_
   refine zQ (v:=.bool false) R5 (zX rfl p1 R2) ?_
   by_cases hlt:w≤9223372036854775807
   ·refine zM ?_
    refine zM ?_
    refine zM ?_
    refine rn R6 zo ?_
    refine zM ?_
    refine zM ?_
    refine zN ?_
    rw [zc rfl]
    refine zN ?_
    refine zM ?_
    refine wa (a:=(w:Int)) R7 zo ?_
    refine zM ?_
    refine zM ?_
    refine zN ?_
    exact retF [.int .i64 (w:Int),.bool true] rfl (yz rfl (yz rfl sd)) R2 ⟨_,_,rfl,fun _=>⟨zo,zo,zo⟩⟩
   refine zM ?_
   refine zM ?_
   refine zM ?_
   refine qx R6 zo ?_
   refine zM ?_
   refine zM ?_
   refine zN ?_
   rw [za rfl]
   refine zN ?_
   refine zM ?_
   refine zM ?_
   refine zN ?_
   exact retF [.int .i64 0,.bool false] rfl (yz rfl (yz rfl sd)) R2 ⟨_,_,rfl,fun e=>by cases e⟩
  have hx0:x<0:=of_decide_eq_true eb.symm
  by_cases hlt:w≤9223372036854775808
  ·refine zM ?_
   refine zM ?_
   refine rn R6 zo ?_
   refine zM ?_
   refine zM ?_
   refine zN ?_
   rw [zc rfl]
   refine zN ?_
   refine zM ?_
   refine zA (v:=.int .u64 ((18446744073709551616-w:Nat):Int)) R4 (gF hw64 hw0) ?_
   refine xH (ik:=.i64) (a:= -(w:Int)) R6 (by show some (Value.int .i64 (IntKind.wrap .i64 _))=_;rw [pQ hlt zo]) ?_
   refine zM ?_
   refine zM ?_
   refine zN ?_
   exact retF [.int .i64 (-(w:Int)),.bool true] rfl (yz rfl (yz rfl sd)) R2 ⟨_,_,rfl,fun _=>⟨zo,zo,zo⟩⟩
  refine zM ?_
  refine zM ?_
  refine qx R6 zo ?_
  refine zM ?_
  refine zM ?_
  refine zN ?_
  rw [za rfl]
  refine zN ?_
  refine zM ?_
  refine zQ (v:=.bool true) R5 (zX rfl p1 R2) ?_
  repeat refine zR ?_
  refine zN ?_
  rw [za rfl]
  refine zN ?_
  refine zM ?_
  refine zM ?_
  refine zN ?_
  exact retF [.int .i64 0,.bool false] rfl (yz rfl (yz rfl sd)) R2 ⟨_,_,rfl,fun e=>by cases e⟩
 have hl2:2≤(w::L').length:=by
  cases L' with
  |nil=>exact absurd rfl h1
  |cons _ _=>simp
 refine zM ?_
 refine mY R6 zo ?_
 refine zM ?_
 refine zN ?_
 rw [zc rfl]
 refine zN ?_
 refine zM ?_
 refine zM ?_
 refine zN ?_
 exact retF [.int .i64 0,.bool false] rfl (yz rfl (yz rfl sd)) R2 ⟨_,_,rfl,fun e=>by cases e⟩
theorem tE (h:denZ q=0):ratT q=intT q.num:=by
 unfold ratT intT
 rw [if_pos (yo.1 h),List.append_nil]
theorem oh (h:¬denZ q=0):ratT q=(intN q.num++[47]++intN (denZ q)).map UInt8.ofNat:=by
 rw [List.map_append,List.map_append,gR,gR,wz h]
 unfold ratT intT
 rw [if_neg (mt yo.2 h),if_neg (show ¬((q.den:Nat):Int)<0 by omega)]
 simp only [List.append_assoc,Int.natAbs_natCast]
 rfl
theorem vC (k:Nat)(hG:GK.G h)(hn:20≤n){b d:Bool}{e:Option Addr}{c f g:Nat}(i:IW h n b a l c q.num)(j:IW h n d e f g (denZ q))(hq:Sz m q)(hm:m≤1920):
  VF (cal (k+10)) 30 [.agg #[.bool b,.slice a l c,.bool d,.slice e f g]] h n fun v=>v=.string ⟨⟨ratT q⟩⟩:=by
 refine zu (fn:=Tryz.f30) R4 ?_
 refine zN ?_
 refine pR [.bool b,.slice a l c,.bool d,.slice e f g] R5 ?_
 intro h1 p1 x1
 have i1:=i.ext x1 zs
 have j1:=j.ext x1 zs
 have hG1:=tg hG x1 hn
 refine zM ?_
 refine zN ?_
 refine zM ?_
 refine zQ (v:=.agg #[.bool d,.slice e f g]) R5 (yi R2 p1 rfl zb rfl) ?_
 refine z0 _ R5 (lK (k+8) j1) ?_
 rintro _ ⟨z,rfl,hz⟩
 refine zN ?_
 cases z
 ·have hz:¬denZ q=0:=fun e=>by cases hz.2 e
  rw [za rfl]
  refine zN ?_
  refine zM ?_
  refine zQ (v:=.agg #[.bool b,.slice a l c]) R5 (yi R2 p1 rfl zb rfl) ?_
  refine zr _ R5 (r8 (k+1) hG1 (n:=n+1) zo (GroT.nil h1 (n+1)) (by show 0<10000000;omega) i1 hq.1 hm) ?_
  intro v h2 n2 w2 a2
  obtain ⟨a',rfl⟩:=a2.g.shape
  have hw2:=a2.w_nil
  subst hw2
  have x2:Ext (n+1) h1 h2:=fun b hb=>a2.keep b hb fun o l c e=>by cases e
  have hn2:=a2.hn
  refine wB [.int .u8 47] (l:=1) (c:=1) R5 ?_
  intro h3 p3 x3
  have gT:GroT h3 (n2+1) _ _:=a2.g.ext x3 zs
  have hln:(intN q.num).length≤1922:=Nat.le_trans (dM hq.1) zo
  have hA:AS h (ctx (k+9) n 0).n0 (.slice none 0 0) h3 (n2+1) [] _ ([]++intN q.num):=⟨by show n≤n2+1;omega,fun b hb _=>(x3 b (by have hb:b<3*n:=hb;omega)).trans ((x2 b (by have hb:b<3*n:=hb;omega)).trans (x1 b hb)),fun b hb=>absurd hb List.not_mem_nil,gT,by rcases a2.or with h|h;exact .inl h;exact .inr (h.mono (Nat.le_succ n))⟩
  refine rq (m:=1) (new:=[47]) R9 zb rfl (xy p3 R2) (Nat.le_refl _) rfl (by show (([]++intN q.num).length+1)*1≤_;rw [List.nil_append];omega) hA ?_
  intro v' h4 w4 a4 k4
  obtain ⟨a5,rfl⟩:=a4.g.shape
  have hw4:=a4.w_nil
  subst hw4
  have p4:h4 (3*n+2)=_:=(gT.keepB k4 (zC n) zo).trans ((x3 _ zo).trans ((x2 _ zo).trans p1))
  have x13:Ext (n+1) h1 h3:=x2.trans x3 zo
  have hG3:GK.G h3:=tg hG1 x13 zo
  have hG4:GK.G h4:=G_fr hG3 fun b hb hg=>gT.keepB k4 hg zo
  obtain ⟨ej,Lj,hsj,nLj,hvj⟩:=j1.ext x13 (show n+1≤n2+1 by omega)
  have j4:IW h4 (n2+1+1) d e f g (denZ q):=⟨ej,Lj,hsj.kept k4 gT zs,nLj,hvj⟩
  refine zM ?_
  refine zN ?_
  refine zM ?_
  refine zQ (v:=.agg #[.bool d,.slice e f g]) R5 (yi R2 p4 rfl zb rfl) ?_
  refine zM ?_
  refine zr _ R5 (r8 (k+1) hG4 (n:=n2+1+1) zo a4.g (by rw [List.length_append,List.nil_append];simp;omega) j4 (by rw [wz hz,Int.natAbs_natCast];exact hq.2) hm) ?_
  intro v h5 n5 w5 a6
  obtain ⟨a7,rfl⟩:=a6.g.shape
  have hw5:addW (ctx (k+9) n 0).n0 w5 []=[]:=(a4.trans a6).w_nil
  refine rk R5 (uP (B:=[]++intN q.num++[47]++intN (denZ q)) R3 a6.g.text) ?_
  refine zM ?_
  refine zN ?_
  refine retF _ rfl (zh rfl) ⟨rfl,hw5⟩ ?_
  show Value.string _=_
  rw [List.nil_append,oh hz]
 have hz:denZ q=0:=hz.1 rfl
 rw [zc rfl]
 refine zN ?_
 refine zM ?_
 refine zQ (v:=.agg #[.bool b,.slice a l c]) R5 (yi R2 p1 rfl zb rfl) ?_
 refine z0 _ R5 (dN (k+8) i1) ?_
 rintro _ ⟨y,ok,rfl,hy⟩
 refine zM ?_
 refine zM ?_
 refine zM ?_
 refine zM ?_
 refine zM ?_
 refine zN ?_
 refine zM ?_
 refine zN ?_
 cases ok
 ·rw [za rfl]
  refine zN ?_
  refine zM ?_
  refine zQ (v:=.agg #[.bool b,.slice a l c]) R5 (yi R2 p1 rfl zb rfl) ?_
  refine z0 _ R5 (iO k hG1 (n:=n+1) zo i1 hq.1 hm) ?_
  rintro _ rfl
  refine zM ?_
  refine zN ?_
  exact retF _ rfl (zh rfl) R2 (by rw [tE hz];rfl)
 obtain ⟨rfl,hy1,hy2⟩:=hy rfl
 rw [zc rfl]
 refine zN ?_
 refine zM ?_
 refine z0 _ R5 (mp (k+4) hG1 (n:=n+1) zo ⟨hy1,hy2⟩) ?_
 rintro _ rfl
 refine zM ?_
 refine zN ?_
 exact retF _ rfl (zh rfl) R2 (by rw [tE hz];rfl)
end
section
def allN (S:List (List UInt8)):Prop:=∀s∈S,wu s
noncomputable def bndQ (p:LPD)(R C:List (List UInt8)):Rat:=sumS (xF p) ((R.map zm).take (xF p).length)+sumS (wj p) ((C.map zm).take (wj p).length)
def feaP (p:LPD)(S:List (List UInt8)):Prop:=inS (wj p) (S.map zm)∧∀d∈xF p,zaf (S.map zm) d
def bndP (p:LPD)(R C:List (List UInt8)):Prop:=okS (xF p) (R.map zm)∧okS (wj p) (C.map zm)
open Classical in
open Classical in
noncomputable def feaV (p:LPD)(S:List (List UInt8)):Value:=
 if VLP p∧allN S then (if S.length=p.obj.length then .tuple #[.bool (decide (feaP p S)),.int .i64 0] else .tuple #[.bool false,.int .i64 4]) else .tuple #[.bool false,.int .i64 1]
open Classical in
noncomputable def bndV (p:LPD)(R C:List (List UInt8)):Value:=
 if VLP p∧allN R∧allN C then (if R.length=p.rows.length∧C.length=p.obj.length then (if bndP p R C then .tuple #[.string ⟨⟨ratT (bndQ p R C)⟩⟩,.bool true,.int .i64 0] else .tuple #[.string ⟨⟨[]⟩⟩,.bool false,.int .i64 0]) else .tuple #[.string ⟨⟨[]⟩⟩,.bool false,.int .i64 4]) else .tuple #[.string ⟨⟨[]⟩⟩,.bool false,.int .i64 1]
section
variable {p:LPD}{S R C:List (List UInt8)}
theorem zed (h:¬(VLP p∧allN S)): .tuple #[.bool false,.int .i64 1]=feaV p S:=by unfold feaV;rw [if_neg h]
theorem zec (h:VLP p∧allN S)(h2:S.length≠p.obj.length): .tuple #[.bool false,.int .i64 4]=feaV p S:=by unfold feaV;rw [if_pos h,if_neg h2]
open Classical in
theorem zea (h:VLP p∧allN S)(h2:S.length=p.obj.length)(h3:feaP p S): .tuple #[.bool true,.int .i64 0]=feaV p S:=by unfold feaV;rw [if_pos h,if_pos h2,decide_eq_true h3]
open Classical in
theorem zeb (h:VLP p∧allN S)(h2:S.length=p.obj.length)(h3:¬feaP p S): .tuple #[.bool false,.int .i64 0]=feaV p S:=by unfold feaV;rw [if_pos h,if_pos h2,decide_eq_false h3]
theorem mH (h:¬(VLP p∧allN R∧allN C)): .tuple #[.string ⟨⟨[]⟩⟩,.bool false,.int .i64 1]=bndV p R C:=by unfold bndV;rw [if_neg h]
theorem zdj (h:VLP p∧allN R∧allN C)(h2:¬(R.length=p.rows.length∧C.length=p.obj.length)): .tuple #[.string ⟨⟨[]⟩⟩,.bool false,.int .i64 4]=bndV p R C:=by unfold bndV;rw [if_pos h,if_neg h2]
theorem zef (h:VLP p∧allN R∧allN C)(h2:R.length=p.rows.length∧C.length=p.obj.length)(h3:bndP p R C): .tuple #[.string ⟨⟨ratT (bndQ p R C)⟩⟩,.bool true,.int .i64 0]=bndV p R C:=by unfold bndV;rw [if_pos h,if_pos h2,if_pos h3]
theorem zeg (h:VLP p∧allN R∧allN C)(h2:R.length=p.rows.length∧C.length=p.obj.length)(h3:¬bndP p R C): .tuple #[.string ⟨⟨[]⟩⟩,.bool false,.int .i64 0]=bndV p R C:=by unfold bndV;rw [if_pos h,if_pos h2,if_neg h3]
end
theorem Txt.nums {b:Nat}{S:List (List UInt8)}(h:∀s∈S,Txt b s):∀q∈S.map zm,Sz b q:=by
 intro q hq
 obtain ⟨s,hs,rfl⟩:=List.mem_map.1 hq
 exact (h s hs).2
theorem VLP.rwb {a:Nat}{p:LPD}(h:VLP p)(hp:LPB a p):RwB a p.obj.length (xF p):=by
 intro d hd
 obtain ⟨r,hr,rfl⟩:=List.mem_map.1 hd
 exact ⟨Txt.nums (hp.rl r hr).2.2.2,by show (r.A.map zm).length≤_;rw [List.length_map,(h.rw r hr).2.2];exact Nat.le_refl _⟩
theorem VLP.cols {p:LPD}(h:VLP p):(wj p).length=p.obj.length:=by rw [fO (h.ll.trans h.lu.symm),h.ll]
end
end Go.Proofs.YtlmbghgklnmlkaaGreatDoor
