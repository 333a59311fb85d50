import Derived.Test.YtfajmfoofmienaaGreatDoorSlkD
open Array renaming map→IN
open Bool renaming and_self→EF,not_false→Gf
open Go.Proofs.Tryz renaming f39→an9,f7→ab7
open Go.Proofs.YtfajmfoofmienaaGreatDoor.ExtB renaming refl→IT
open Go.Proofs.YtfajmfoofmienaaGreatDoor.ExtT renaming refl→aj3
open Go.Proofs.YtfajmfoofmienaaGreatDoor.IW renaming zero→GH
open Go.Proofs.YtfajmfoofmienaaGreatDoor.KN renaming refl→FU,upd→GD
open Go.Proofs.YtfajmfoofmienaaGreatDoor.OR renaming fill→Ji,sl→ae6
open Go.Proofs.YtfajmfoofmienaaGreatDoor.Pt renaming of_below→Kg,of_fresh→ae4
open Go.Proofs.YtfajmfoofmienaaGreatDoor.Sz renaming zero→ar7
open Go.Proofs.YtfajmfoofmienaaGreatDoor.Tr renaming refl→FS,s→Il,trans→JO
open Go.Proofs.YtfajmfoofmienaaGreatDoor.intP renaming kp→HA
open Go.Proofs.YtfajmfoofmienaaGreatDoor.numP renaming kp→Fi
open Go.Proofs.YtfajmfoofmienaaGreatDoor.ratP renaming kp→Fq,stay→au7
open Go.Value renaming bool→Dk,func→HU,int→U,pointer→Dn,slice→Y,string→Dl
open Int renaming mul_pos→ae5,mul_tdiv_cancel_left→Hu,natAbs→F5,natAbs_mul→Fl,natAbs_natCast→DQ,natCast_mul→E0,tmod_lt_of_pos→KH,toNat_natCast→Ez,toNat_of_nonneg→Jc,zero_mul→ab3
open Int.ofNat renaming inj→ai4
open List renaming append_assoc→DN,append_nil→DZ,drop_drop→ES,drop_left'→GC,drop_nil→ai5,drop_replicate→Ih,drop_take→IG,eq_of_mem_replicate→Ht,ext_getElem?→Fh,getElem?_append_left→En,getElem?_append_right→DL,getElem?_drop→Em,getElem?_eq_getElem→Dm,getElem?_eq_none→DS,getElem?_eq_some_iff→Du,getElem?_inj→ab8,getElem?_map→DB,getElem?_range→Et,getElem?_replicate→HC,getElem?_set→Gd,getElem?_zipWith→IM,length→O,length_append→Do,length_cons→D3,length_drop→Ea,length_map→DC,length_range→Fg,length_replicate→DV,length_set→EU,length_take→DW,map_append→EN,map_cons→GJ,map_map→H2,map_nil→H9,map_set→JQ,map_toArray→H3,mem_append→Ec,mem_cons→DR,mem_cons_of_mem→Fm,mem_cons_self→Fj,mem_iff_getElem→Gs,mem_map→EX,mem_of_getElem?→Dq,mem_or_eq_of_mem_set→Fc,mem_range→Gy,mem_singleton→Dx,nodup_append→JE,nodup_nil→Iw,not_mem_nil→Ds,range→D9,range'→I2,range_succ→af2,replicate→Dp,replicate_succ→Fx,replicate_zero→FK,set_append_right→Eo,set_cons_zero→G3,take_append_drop→Ep,take_left'→HK,take_length→DO,take_nil→ai6,take_succ_cons→Ja,take_take→GO,take_zero→Fe
open List.Pairwise renaming nil→aa0
open Nat renaming add_comm→EY,add_mul→DE,add_sub_cancel_left→Fa,beq→Eh,ble→DX,ble_eq_true_of_le→Dv,dvd_trans→Ks,eq_of_beq_eq_true→Eb,gcd→DH,lcm→ab6,le_mul_of_pos_right→Gr,le_of_dvd→JH,le_of_eq→IH,le_of_lt→HG,le_refl→Fu,le_succ→DM,le_trans→Ed,lt_irrefl→GM,lt_of_le_of_lt→DP,lt_of_lt_of_le→DY,lt_or_ge→EG,lt_succ_self→G1,min→Jd,min_eq_left→Ev,mul_assoc→DG,mul_comm→Dt,mul_le_mul→Es,mul_le_mul_left→DT,mul_le_mul_right→Dw,mul_one→Ek,mul_pos→Fw,not_lt_zero→Fr,one_dvd→an7,one_mul→EM,one_pos→ao1,pow_add→EH,pow_le_pow_right→DJ,pow_mul→Hj,pow_succ→DI,sub_self→Ee,sub_zero→Gv,succ_mul→Fb,two_pow_pos→HN,zero_add→D7,zero_le→Hf,zero_mul→EI
open Nat.Coprime renaming symm→ac5
open Ne renaming symm→Iv
open Option renaming isNone_none→F2
open Option.some renaming inj→ET
open Rat renaming add_assoc→Hv,add_zero→Gh,den_intCast→Hc,divInt→Ef,divInt_eq_div→FP,divInt_ofNat→JN,div_def→FI,intCast_inj→J3,intCast_mul→FO,intCast_natCast→EZ,intCast_pos→He,inv_mul_cancel→Jq,inv_mul_rev→J5,lt_iff→aq4,mul_assoc→EJ,mul_comm→Hm,mul_inv_cancel→Gl,mul_one→Hn,mul_pos→Ke,mul_zero→Gg,natCast_mul→Ip,num_eq_zero→FM,num_intCast→GU,one_mul→It,zero_add→Jj,zero_mul→IE
set_option maxHeartbeats 8000000
set_option linter.unusedVariables false
set_option linter.unusedSimpArgs false
namespace Go.Proofs.YtfajmfoofmienaaGreatDoor
open Go Go.GL
variable {h h':HF}{ops r:List Oper}{cap m n' off bt D B least bytes b0 l n0 cE c size lo be F P nt st cY lE lY tb c1 bm B1 B2 lB cB lO cO lF cF cx cy fx fy gx gy lx ly:Nat}{w rb W L:List Nat}{X:CtxF}{t:TF}{Q:SV→Prop}{o:Oper}{al ld:List (Nat×Nat)}{e ty xT ty' e3:TypeId}{q:Rat}{cs cells args ce:List Value}{bf:Int}{aE aY ar aq aB aO aF ax ay ex ey:Option Addr}{v vB vF vO vL vD vE:Value}{α β:Type}{y hi:Operand}{ik ik':IntKind}{assign body:Code}{C ss Z3 S:List (List UInt8)}{rs:List SideD}{M':Nat→Nat→Nat→Rat}{a':Nat→Nat→Rat}{dx dy sx sy:Bool}
variable {n N i j M:Nat}{a:Option Addr}{s:List UInt8}{Ns:List Nat}{sT:TypeId}
def lcmD:List Rat→Nat→Nat
 |[],m=>m
 |q::l,m=>lcmD l (ab6 m q.den)
theorem mP:∀{l:List Rat} {q:Rat} {m:Nat},lcmD (l++[q]) m=ab6 (lcmD l m) q.den:=by
 intro l;induction l with
 |nil=>intro q m;rfl
 |cons x l ih=>intro q m;exact ih
theorem aR:∀{l:List Rat} {m:Nat},(∀q∈l,q.den∣D)→m∣D→lcmD l m∣D:=by
 intro l;induction l with
 |nil=>intro m _ h;exact h
 |cons x l ih=>intro m b c;exact ih (fun q d=>b q (Fm _ d)) (Nat.lcm_dvd c (b x (Fj ..)))
theorem XG:∀{l:List Rat} {m:Nat},m∣lcmD l m:=by
 intro l;induction l with
 |nil=>intro m;exact Nat.dvd_refl m
 |cons x l ih=>intro m;exact Ks (Nat.dvd_lcm_left _ _) ih
theorem XH:∀{l:List Rat} {m:Nat} {q:Rat},q∈l→q.den∣lcmD l m:=by
 intro l;induction l with
 |nil=>intro m q h;cases h
 |cons x l ih=>
  intro m q h;rcases DR.1 h with rfl|h
  .exact Ks (Nat.dvd_lcm_right _ _) XG
  exact ih h
theorem XI{l:List Rat}:∀{m:Nat},0<m→0<lcmD l m:=by
 induction l with
 |nil=>intro m h;exact h
 |cons x l ih=>intro m h;exact ih (Nat.lcm_pos h x.den_pos)
theorem th(q:Rat):q*(q.den:Rat)=(q.num:Rat):=by
 have h:=Rat.num_divInt_den q;have c:((q.den:Int):Rat)≠0:=fun e=>by have:=uQ.1 e;have:=q.den_pos;omega
 rw[FP,FI]at h;rw[←EZ];have b:(q.num:Rat)*((q.den:Int):Rat)⁻¹ *((q.den:Int):Rat)=q.num:=by rw[EJ,Jq _ c,Hn]
 rw[h]at b;exact b
def MZ(den:Nat)(x:Rat):Int:=x.num*(den:Int).tdiv (x.den:Int)
theorem QI{b:Nat}{x:Rat}(h:x.den∣b):((MZ b x:Int):Rat)=x*(b:Rat):=by
 obtain⟨m,rfl⟩:=h;have c:=x.den_pos;unfold MZ;rw[E0,Hu _ Z,FO,←th x,Ip,EJ,EZ]
def FN(D B:Nat)(q:Rat):Prop:=∃z:Int,q*(D:Rat)=(z:Rat)∧z.natAbs≤B
theorem XJ{b:Nat}{x:Rat}(h:x.den∣b)(o:b∣D)(l:0<D)(f:FN D B x):(MZ b x).natAbs≤B:=by
 obtain⟨m,rfl⟩:=o;obtain⟨z,q,c⟩:=f;have e:=QI h;have d:(z:Rat)=((MZ b x*(m:Int):Int):Rat):=by
  rw[FO,e,←q,Ip,EJ,EZ]
 have g:=J3.1 d;have p:0<m:=Nat.pos_of_mul_pos_left l;rw[g,Fl,DQ]at c;exact Ed (Gr _ p) c
def LS(f:Nat→Int):Nat→Nat
 |0=>0
 |j+1=>DH (LS f j) (f j).natAbs
theorem XK{f:Nat→Int}:∀{m j:Nat},j<m→LS f m∣(f j).natAbs:=by
 intro m;induction m with
 |zero=>intro j h;omega
 |succ m ih=>
  intro j h;rcases EG j m with b|b
  .exact Ks (Nat.gcd_dvd_left _ _) (ih b)
  rw[show j=m by omega];exact Nat.gcd_dvd_right _ _
theorem QJ{f:Nat→Int}(b:∀j,j<m→(f j).natAbs≤B):LS f m≤B:=by
 induction m with
 |zero=>exact Hf _
 |succ m ih=>
  have c:=ih fun j e=>b j Z;have d:=b m Z;show DH (LS f m) (f m).natAbs≤B;by_cases h0:LS f m=0
  .rw[h0,Nat.gcd_zero_left];exact d
  exact Ed (Nat.gcd_le_left _ (Nat.pos_of_ne_zero h0)) c
def LY(f:Nat→Int)(m:Nat):Nat:=if LS f m=0 then 1 else LS f m
theorem lR{f:Nat→Int}:0<LY f m:=by
 unfold LY;split
 .decide
 omega
theorem XL{f:Nat→Int}{j:Nat}(h:j<m):((LY f m:Nat):Int)∣f j:=by
 unfold LY;split
 .exact Int.one_dvd _
 exact Int.ofNat_dvd_left.2 (XK h)
theorem XM{f:Nat→Int}(b:1≤B)(c:∀j,j<m→(f j).natAbs≤B):LY f m≤B:=by
 unfold LY;split
 .exact b
 exact QJ c
def rowQ(N:Nat)(a:Nat→Nat→Rat)(i:Nat):List Rat:=(D9 N).map (a i)
def deni(N:Nat)(a:Nat→Nat→Rat)(i:Nat):Nat:=lcmD (rowQ N a i) 1
def Ln(N:Nat)(a:Nat→Nat→Rat)(i j:Nat):Int:=MZ (deni N a i) (a i j)
def Lz(N:Nat)(a:Nat→Nat→Rat)(i:Nat):Nat:=LY (Ln N a i) N
def tT(N:Nat)(a:Nat→Nat→Rat)(i j:Nat):Int:=(Ln N a i j).tdiv (Lz N a i:Int)
def tS(N:Nat)(a:Nat→Nat→Rat)(i:Nat):Rat:=Ef (deni N a i:Int) (Lz N a i:Int)
section
variable {N i j:Nat}{a:Nat→Nat→Rat}
theorem XN(b:j<N):a i j∈rowQ N a i:=EX.2 ⟨j,Gy.2 b,rfl⟩
theorem XO:0<deni N a i:=XI zd
theorem QK(b:j<N):(a i j).den∣deni N a i:=XH (XN b)
theorem QL(b:∀j,j<N→(a i j).den∣D):deni N a i∣D:=aR (fun q d=>by
 obtain⟨j,c,rfl⟩:=EX.1 d;exact b j (Gy.1 c)) (an7 _)
theorem lT(h:0<m):((m:Int):Rat)≠0:=fun e=>by have:=uQ.1 e;omega
theorem QM:tS N a i=(deni N a i:Int)/((Lz N a i:Int):Rat):=by
 unfold tS;rw[FP]
theorem kv:0<tS N a i:=by
 rw[QM,FI];have b:(0:Rat)<((deni N a i:Int):Rat):=He.2 (by have:=XO (N:=N) (a:=a) (i:=i);omega);have c:(0:Rat)<((Lz N a i:Int):Rat):=He.2 (by have:=lR (f:=Ln N a i) (m:=N);unfold Lz;omega);exact Ke b (Rat.inv_pos.2 c)
theorem XP(d:j<N):((tT N a i j:Int):Rat)=tS N a i*a i j:=by
 have o:=XL (f:=Ln N a i) d;have l:((Lz N a i:Int):Rat)≠0:=lT (lR (f:=Ln N a i) (m:=N));obtain⟨z,p⟩:=o;have c:Ln N a i j=(Lz N a i:Int)*z:=p;have g:(Lz N a i:Int)≠0:=by have:=lR (f:=Ln N a i) (m:=N);unfold Lz;omega
 have e:=QI (QK (N:=N) (a:=a) (i:=i) d);have b:((Ln N a i j:Int):Rat)=a i j*(deni N a i:Rat):=e;unfold tT;rw[c,Hu _ g];rw[c,FO]at b;rw[QM,FI,EJ,Hm _ (a i j),←EJ,Hm _ (a i j),EZ (deni N a i),←b,Hm _ (z:Rat),EJ,Gl _ l,Hn]
theorem XQ:TabR N (tT N a) 1 (tS N a) a 0:=by
 intro i j _ _ _ b;rw[XP b];show _=(1:Rat)*tS N a i*a i j;rw[It]
theorem jU(d:∀j,j<N→(a i j).den∣D)(c:0<D)(f:∀j,j<N→FN D B (a i j))(b:j<N):(Ln N a i j).natAbs≤B:=XJ (QK b) (QL d) c (f j b)
theorem XR(c:∀j,j<N→(a i j).den∣D)(b:0<D)(f:∀j,j<N→FN D B (a i j))(d:j<N):(tT N a i j).natAbs≤B:=by
 unfold tT;rw[Int.natAbs_tdiv];exact Ed (Nat.div_le_self _ _) (jU c b f d)
theorem QN(c:∀j,j<N→(a i j).den∣D)(b:0<D):deni N a i≤D:=JH b (QL c)
theorem QO(d:∀j,j<N→(a i j).den∣D)(c:0<D)(f:∀j,j<N→FN D B (a i j))(b:1≤B):Lz N a i≤B:=XM b fun j e=>jU d c f e
end
section
variable {j n:Nat}
theorem QP{l:List Rat}(a:0<D)(b:D<BW)(c:∀q∈l,q.den∣D):((lcmD (l.take j) 1:Nat):Int).natAbs<BW:=by
 rw[DQ];exact DP (JH a (aR (fun q d=>c q (List.mem_of_mem_take d)) (an7 _))) b
theorem QQ(b:0<D)(a:D<BW)(c:q.den∣D):(denZ q).natAbs<BW:=by
 have h:=DP (JH b c) a;unfold denZ;split
 .exact DP Di a
 rw[DQ];exact h
theorem XS{l:List Rat}(g:l[j]?=some q)(h:denZ q=0):((lcmD (l.take j) 1:Nat):Int)=((lcmD (l.take (j+1)) 1:Nat):Int):=by
 rw[xY g,mP,yN.1 h,Nat.lcm_one_right]
theorem XT{l:List Rat}(g:l[j]?=some q)(h0:¬denZ q=0)(h:denZ q=((lcmD (l.take j) 1:Nat):Int)):((lcmD (l.take j) 1:Nat):Int)=((lcmD (l.take (j+1)) 1:Nat):Int):=by
 rw[wV h0]at h;have h:q.den=lcmD (l.take j) 1:=ai4 h;rw[xY g,mP,←h,Nat.lcm_self]
theorem XU{l:List Rat}(g:l[j]?=some q)(h0:¬denZ q=0):((ab6 ((lcmD (l.take j) 1:Nat):Int).natAbs (denZ q).natAbs:Nat):Int)=((lcmD (l.take (j+1)) 1:Nat):Int):=by
 rw[wV h0,DQ,DQ,xY g,mP]
theorem XV(k:Nat)(g:GG h n){u M:Nat}{b:List Rat}(W:QS h n (Y aq u M) b)(v:0<D)(hb:D<BW)(hd:∀q∈b,q.den∣D)(hl:O b<1000000):CX (KO (k+9)) 227 [Y aq u M] h n (IV ((lcmD b 1:Nat):Int)):=by
 have ap:=W.len;refine zl (fn:=Tryz.f227) R4<|Zs ?_;intro ad b1 b6;refine zG ?_;refine sC (MT _ _ _) ?_;rintro _ ae e⟨A,w,H,C,rfl,Z4⟩ bd b7;refine sA ?_;intro af b2 b8;refine sS [Dk A,Y w H C] ?_;intro T a1 aw;refine zG ?_;refine sF (α:=Nat×Bool×Option Addr×Nat×Nat) (fun z=>[(2,Dn (some ⟨3*n+2,0,none⟩)),(3,Dn (some ⟨3*e+2,0,none⟩)),(7,Y aq u M),(8,U .i64 (u:Int)),(9,U .i64 (z.1:Int))]) (fun z N n' w'=>w'=[]∧e+1≤n'∧ExtB (e+1) [3*e+2] T N∧N (3*e+2)=some (.row [Dk z.2.1,Y z.2.2.1 z.2.2.2.1 z.2.2.2.2] 137)∧IW N n' z.2.1 z.2.2.1 z.2.2.2.1 z.2.2.2.2 (((lcmD (b.take z.1) 1:Nat):Int))∧z.1≤O b) (fun z=>O b-z.1) (0,A,w,H,C) ⟨rfl,Dh,IT _ _ _,a1,((Z4.t zt).as (by rw[Fe];rfl)),Di⟩ ?_;rintro⟨j,m,l,s,p⟩ t G a0 _ ⟨rfl,be,a9,f,a,hj⟩;dsimp only at f a hj;refine zG ?_;by_cases q16:(j:Int)<(u:Int)
 .refine zG ?_;obtain⟨ac,c⟩:∃d,(b)[j]?=some d:=⟨_,Dm Z⟩;obtain⟨ao,ax,P,Z1,Z3,R,a5,a6,a7,a8,S,Z0,a3,a4,an,o⟩:=QS.at W c;refine sI S a3 ?_;refine sL a4 Z0 0 ?_;refine sA ?_;intro ag b3 b9;refine sS [Dk P,Y Z1 Z3 R,Dk a5,Y a6 a7 a8] ?_;intro ah b4 ay;refine zG ?_;refine sC (xv _ (o.x zx)) ?_;rintro _ ai ar⟨aa,rfl,K⟩ bf ba;rcases K3 K with⟨rfl,i⟩|⟨rfl,i⟩
  .refine zG ?_;refine sC ((Wc _ (o.x zx) (a.t zt) (QQ v hb (hd _ (Dq c))) (QP v hb hd)).cx) ?_;rintro _ aj au⟨ab,rfl,L⟩ bg bb;rcases K3 L with⟨rfl,J⟩|⟨rfl,J⟩
   .refine zG ?_;refine sC (lcmX _ (g.x zx) (a.t zt) (o.x zx) (QP v hb hd) (QQ v hb (hd _ (Dq c)))) ?_;rintro _ ak av⟨B,y,I,F,rfl,V⟩ bh bc;refine sS [Dk B,Y y I F] ?_;intro al a2 az;refine zG ?_;exact sK (j+1,B,y,I,F) ⟨rfl,Z,zy,a2,((V.t zt).as (XU c i)),By⟩
   refine zG ?_;exact sK (j+1,m,l,s,p) ⟨rfl,Z,zy,zp,((a.t zt).as (XT c i J)),By⟩
  refine zG ?_;exact sK (j+1,m,l,s,p) ⟨rfl,Z,zy,zp,((a.t zt).as (XS c i)),By⟩
 refine zG ?_;refine sS [Dk m,Y l s p] ?_;intro am b5 b0;refine zq ?_;exact⟨_,_,_,_,rfl,(a.t zt).as (by rw[show j=O b by omega,DO])⟩
end
section
variable {b:Nat}
structure TapeI where
 m:Nat
 bt:Nat
 a:Option Addr
 len:Nat
 cap:Nat
 L:List Int
structure Tp (h:HF)(T:TapeI):Prop where
 bt:T.bt<3*T.m
 len:O T.L=T.len
 le:T.len≤400
 ne:∀x,T.a=some x→x.block≠T.bt
 sl:Sl h T.m 1 (Y T.a T.len T.cap) (i64s T.L)
 row:∃(pos:Nat) (e:TypeId),h T.bt=some (.row [Y T.a T.len T.cap,U .i64 (pos:Int)] e)∧pos≤T.len
theorem Tp.ext{T:TapeI}(t:Tp h T)(e:KN n h h')(f:T.m≤n):Tp h' T:=by
 obtain⟨a,g,c,d⟩:=t.row;exact⟨t.bt,t.len,t.le,t.ne,t.sl.ext (e.mono f) Dh,a,g,by rw[e _ (by have:=t.bt;omega)];exact c,d⟩
theorem Tp.upd{T:TapeI}{x:Option BF}(t:Tp h T)(a:3*T.m≤b):Tp (GL.upd h b x) T:=t.ext (n:=T.m) (GD a) Dh
theorem XW(v m:Int)(a:0<m):0≤(v.tmod m+m).tmod m∧(v.tmod m+m).tmod m<m∧ -m<v.tmod m∧v.tmod m<m:=by
 have c:=Int.lt_tmod_of_pos v a;have d:=KH v a;have e:=Int.tmod_nonneg m (show 0≤v.tmod m+m by omega);have f:=KH (v.tmod m+m) a;exact⟨e,f,c,d⟩
theorem tQ(k:Nat){T:TapeI}{m:Int}(G:0<m∧m<1000000000)(N:Tp h T)(K:T.m≤n):CF (KO (k+1)) 10 [Dn (some ⟨T.bt,0,none⟩),U .i64 m] h n fun v h' R w=>(∀b∈w,b=T.bt)∧R=n∧Tp h' T∧(∀b,b≠T.bt→h' b=h b)∧∃r,v=U .i64 r∧0≤r∧r<m:=by
 obtain⟨M,D,a,o,y,L⟩:=T;obtain⟨q,B,g,i,j,f,e,d,s⟩:=N;simp only at q B g i j d s K⊢;refine nM (fn:=Tryz.f10) rfl rfl rfl rfl<|Zc ?_;rw[uP rfl];repeat refine zR ?_
 refine zi R6 d (v:=U .i64 (f:Int)) R2 ?_;repeat refine zR ?_
 refine zi R6 d (v:=Y a o y) R2<|zM ?_;by_cases hp:f=o
 .refine Zo ?_;exact⟨rfl,_,zj rfl,fun b p=>oU p Ds,rfl,⟨q,B,g,i,j,f,e,d,s⟩,fun _ _=>rfl,0,rfl,Int.le_refl _,G.1⟩
 obtain⟨b,A,x,F,rfl,V,P,H,I,W,J⟩:=j.inv Z;obtain⟨v,Z1⟩:∃v,L[f]?=some v:=⟨L[f]'Z,Dm Z⟩;have u:F[A+f]?=some (U .i64 v):=wq J (by rw[i64s,DB,Z1];rfl);have C:b≠D:=i _ rfl;refine Zk ?_;rw[uP rfl];repeat refine zR ?_
 refine zi R6 d (v:=Y (some ⟨b,A,none⟩) o y) R2 ?_;repeat refine zR ?_
 refine zi R6 d (v:=U .i64 (f:Int)) R2<|wn R8 Z<|zi R6 P (v:=U .i64 v) ⟨H,(by rw[←u];congr 1;omega)⟩ ?_;refine Zj ?_;refine zi R6 d (v:=U .i64 (f:Int)) R2 ?_;repeat refine zR ?_
 refine iY (cs:=[U .i64 ((f:Int)+1)]) rfl rfl rfl rfl rfl rfl rfl rfl d zb (by show D<3*n;omega) ?_;refine zN ?_;obtain⟨S,Z4,Z3,Z0⟩:=XW v m G.1;repeat refine zR ?_
 refine bO R6 Z ?_;repeat refine zR ?_
 refine bO R6 Z<|Zb ?_;refine⟨rfl,_,zj rfl,fun b p=>?_,rfl,⟨q,B,g,i,j.keep (fun a l c e=>?_) Dh,f+1,e,ze _ _ _,by show f+1≤o;omega⟩,fun b p=>zg p,_,rfl,S,Z4⟩
 .exact Dx.1 p
 injection e with e1
 injection e1 with e1
 subst e1;exact zg C
theorem jq(k:Nat){T:TapeI}{K:Int}(L:0≤K∧K<1000000)(y:Tp h T)(M:T.m≤n):CF (KO (k+4)) 41 [Dn (some ⟨T.bt,0,none⟩),U .i64 K] h n fun v h' C w=>(∀b∈w,b=T.bt)∧n≤C∧Tp h' T∧ExtT n T.bt h h'∧∃d j i x,v=.agg #[d,j,Dk false,Y none 0 0]∧RatR h' C d j (Dk false) (Y none 0 0) ((x:Int):Rat) i []∧ -K≤x∧x≤K∧yh n j∧O i≤2:=by
 have F:=y.bt;refine zl (fn:=Tryz.f41) R4<|zN ?_;refine z6 R5<|Zp ?_;refine st_mul rfl rfl rfl rfl rfl rfl Z ?_;repeat refine zR ?_
 refine zk _ R5 (tQ (k+2) Z (y.upd Z) Z) ?_;rintro _ J _ N⟨B,rfl,A,l,r,rfl,H,I⟩;repeat refine zR ?_
 refine zk _ R5 (r_ok k _ _ (r-K) Z) ?_;rintro _ D j _⟨rfl,G,f,d,c,i,rfl,o,q,s⟩;have a:∃e,D (3*n+2)=some (.row [Dk false,Y none 0 0,Dk false,Y none 0 0] e):=⟨_,by rw[f _ Z,l _ Z,ze];rfl⟩;obtain⟨e,a⟩:=a;have p:ones [d,c,Dk false,Y none 0 0]=true:=by
  rw[o.num.neg];show ones (c::_)=true;rw[o.num.sl.ones];rfl
 refine zw [d,c,Dk false,Y none 0 0] R7 p a rfl eL ?_;refine zN ?_;refine xu R5 (ze _ _ _) rfl ⟨?_,Z,(A.ext f Z).upd Z,fun b g u=>by rw[zg Z,f b Z,l b u,zg Z],d,c,i,r-K,rfl,o.old q trivial Z,Z,Z,q.mono Z,s⟩;exact xa (W:=[]) (fun b g=>oU g Ds) (xa B (fun b g=>oU g Ds))
end
section
variable {len:Nat}
def vI(K:Int)(s:List UInt8):Prop:=∃x:Int,-K≤x∧x≤K∧s=ratT (x:Rat)
theorem XY(k:Nat){L:List Int}(m:∀ad,a=some ad→ad.spot=none)(g:Sl h n 1 (Y a len cap) (i64s L)):CF (KO (k+1)) 6 [Y a len cap] h n fun v d l w=>w=[]∧l=n+1∧KN n h d∧v=Dn (some ⟨3*n+2,0,none⟩)∧Tp d ⟨n+1,3*n+2,a,min len 400,cap,L.take 400⟩:=by
 have B:O L=len:=by
  obtain⟨A,u,p,e,s⟩:=g.len;injection e with e1 e2 e3
  simp[i64s]at s;omega
 refine zl (fn:=Tryz.f6) R4 ?_;have i:∀t:TF,t 2=Dn (some ⟨3*n+2,0,none⟩)→∀e,RetH Tryz.f6 (fun v d l w=>w=[]∧l=n+1∧KN n h d∧v=Dn (some ⟨3*n+2,0,none⟩)∧Tp d ⟨n+1,3*n+2,a,min len 400,cap,L.take 400⟩) .ret ⟨t,upd h (3*n+2) (some (.row [Y a (min len 400) cap,U .i64 0] e)),n+1,[]⟩:=fun t o e=>by
  refine retH _ ⟨rfl,(zj rfl),?_⟩ ⟨rfl,rfl,GD Z,o,BJ,by show(L.take 400).length=min len 400;simp;omega,by show min len 400≤400;omega,fun x j=>?_,?_,0,e,ze _ _ _,Di⟩
  .show tZ [t 2]=false;rw[o];rfl
  .have j:a=some x:=j;subst j;have:x.block<3*n:=g.below;show x.block≠3*n+2;omega
  show Sl _ (n+1) 1 (Y a (min len 400) cap) (i64s (L.take 400));have:=g.take (min len 400) Z;rw[show(i64s L).take (min len 400*1)=i64s (L.take 400)from by simp[i64s,List.map_take];omega]at this;exact this.ext (GD Z) zs
 refine Zu ?_;have f:(if(400:Int)<(len:Int)then 400 else(len:Int))=((min len 400:Nat):Int):=by
  split<;>omega
 have q:=g.cap;rcases(show a=none∨∃b c,a=some ⟨b,c,none⟩from by
  cases a with
  |none=>exact .inl rfl
  |some ad=>obtain⟨b,c,y⟩:=ad;obtain rfl:y=none:=m _ rfl;exact .inr ⟨b,c,rfl⟩)with rfl|⟨b,c,rfl⟩
 .refine ew (min len 400) rfl rfl rfl rfl rfl rfl rfl rfl f Z<|zA (v:=.agg #[Y none (min len 400) cap,U .i64 0]) R5<|xV (cs:=[Y none (min len 400) cap,U .i64 0]) R5<|Zb ?_;exact i _ rfl _
 refine u6 (min len 400) R8 f Z<|zA (v:=.agg #[Y (some ⟨b,c,none⟩) (min len 400) cap,U .i64 0]) R5 ?_;refine xV (cs:=[Y (some ⟨b,c,none⟩) (min len 400) cap,U .i64 0]) R5 ?_;refine Zb ?_;exact i _ rfl _
structure TLeft (T:TapeI)(h:HF)(n:Nat)(h':HF)(n':Nat)(w:List Nat):Prop where
 w:∀b∈w,b=T.bt
 le:n≤n'
 tp:Tp h' T
 ext:ExtT n T.bt h h'
theorem iV(k:Nat){T:TapeI}(hN:N≤1000)(F:Tp h T)(hn:T.m≤n):CF (KO (k+5)) 40 [Dn (some ⟨T.bt,0,none⟩),U .i64 (N:Int)] h n fun v d f w=>TLeft T h n d f w∧∃S,O S=N∧(∀s∈S,vI 2 s)∧Gro d n f 9 1 v N (strs S):=by
 have R:=F.bt;refine zl (fn:=Tryz.f40) R4<|Zc ?_;refine Zl ?_;refine zK (α:=Nat×Value×List (List UInt8)) (fun z=>[(0,Dn (some ⟨T.bt,0,none⟩)),(1,U .i64 (N:Int)),(5,z.2.1),(6,U .i64 (z.1:Int))])
  (fun z d f w=>TLeft T h n d f w∧z.1≤N∧O z.2.2=z.1∧(∀s∈z.2.2,vI 2 s)∧Gro d n f 9 1 z.2.1 z.1 (strs z.2.2)) (fun z=>N-z.1)
  (0,Y none 0 0,[]) V4 ⟨⟨fun b g=>oU g Ds,Dh,F,aj3 _ _ _⟩,Di,rfl,fun s c=>oU c Ds,.nil⟩ Bq ?_
 rintro⟨j,v5,S⟩ t Z3 n1 w1 ⟨⟨q,C,p,u⟩,M,L,e,i⟩;simp only at M L e i;obtain⟨W,rfl,_⟩:=i.shape;refine zN ?_;by_cases hjN:j=N
 .refine Zm ?_;refine retH _ ⟨rfl,(zj rfl),rfl⟩ ⟨⟨q,C,p,u⟩,S,Z,e,?_⟩;subst hjN;exact i
 refine Zr ?_;refine zk _ R5 (jq k (K:=2) Z p Z) ?_;rintro _ Z0 P w2⟨H,D,G,y,m1,m2,ln,x,rfl,Z1,I,B,hf,V⟩;refine ye _ R5 (nZ k Z1 eN) ?_;rintro _ rfl;refine ud (cs:=strs [ratT (x:Rat)]) R5<|kG (m:=1) R8 zd ((i.extT y Z D).ext (GD Z) zs) (yG (ze _ _ _) R2) Dh Z rfl rfl (by show n≤n∧_;omega) ?_;intro v3 h3 l A Z4;obtain⟨J,rfl,_⟩:=l.shape;refine Zl ?_;refine goOn (j+1,Y J (j+1) (j+1),S++[ratT (x:Rat)]) (by show N-(j+1)<N-j;omega) ⟨rfl,rfl,rfl,dO,Df⟩ ⟨⟨?_,by show n≤P+1+1;omega,(G.upd Z).ext A Z,fun b g o=>?_⟩,vT,by show(S++[_]).length=j+1;simp;omega,?_,?_⟩
 .exact xa H q
 .exact(A b g).trans ((zg Z).trans ((y b Z o).trans (u b g o)))
 .intro s c;rcases Ec.1 c with c|c
  .exact e s c
  simp at c;subst c;exact⟨x,I,B,rfl⟩
 show Gro _ _ _ _ _ _ (j+1) (strs (S++[_]));rw[eu];exact l
end
section
variable {sz:Nat}
structure Ent where
 b:Int
 r:Int
 c:Int
 v:List UInt8
def entC(e:Ent):List Value:=[U .i64 e.b,U .i64 e.r,U .i64 e.c,Dl ⟨⟨e.v⟩⟩]
def ents(l:List Ent):List Value:=l.flatMap entC
theorem qw(a b:List Ent):ents (a++b)=ents a++ents b:=by simp[ents]
theorem wD(a:List Ent):O (ents a)=O a*4:=by
 induction a with
 |nil=>rfl
 |cons e a ih=>simp only[ents,List.flatMap_cons,Do,D3]at*;rw[ih];simp[entC];omega
def MA(e:Ent)(b r c:Int):Prop:=e.b<b∨(e.b=b∧(e.r<r∨(e.r=r∧e.c<c)))
def MB(e f:Ent):Prop:=MA e f.b f.r f.c
structure EntOk (B:List Int)(e:Ent):Prop where
 b:0≤e.b∧e.b<O B
 rc:0≤e.r∧e.r≤e.c
 c:∀d,B[e.b.toNat]?=some d→e.c<d
 v:∃x:Int,-2≤x∧x≤2∧x≠0∧e.v=ratT (x:Rat)
structure EOk (B:List Int)(E:List Ent)(b r c:Int):Prop where
 ok:∀e∈E,EntOk B e
 asc:E.Pairwise MB
 lt:∀e∈E,MA e b r c
theorem aJ{e:Ent}{b r c d f c':Int}(h:MA e b r c)(h':b<d∨(b=d∧(r<f∨(r=f∧c≤c')))):MA e d f c':=by
 unfold MA at*
 omega
theorem EOk.mono{B:List Int}{E:List Ent}{b r c d f c':Int}(h:EOk B E b r c)(h':b<d∨(b=d∧(r<f∨(r=f∧c≤c')))):EOk B E d f c':=⟨h.ok,h.asc,fun e g=>aJ (h.lt e g) h'⟩
theorem EOk.snoc{B:List Int}{E:List Ent}{e:Ent}(h:EOk B E e.b e.r e.c)(g:EntOk B e):EOk B (E++[e]) e.b e.r (e.c+1):=by
 refine⟨fun x d=>?_,?_,fun x d=>?_⟩
 .rcases Ec.1 d with d|d
  .exact h.ok x d
  simp at d;subst d;exact g
 .rw[List.pairwise_append];refine⟨h.asc,cA,fun x d y f=>?_⟩;simp at f;subst f;exact h.lt x d
 rcases Ec.1 d with d|d
 .exact aJ (h.lt x d) (.inr ⟨rfl,.inr ⟨rfl,Z⟩⟩)
 simp at d;subst d;exact .inr ⟨rfl,.inr ⟨rfl,Z⟩⟩
theorem TLeft.refl{T:TapeI}(d:Tp h T):TLeft T h n h n []:=⟨fun b c=>oU c Ds,Dh,d,aj3 _ _ _⟩
theorem ja(k:Nat){T:TapeI}{B:List Int}(hB:O B≤4∧∀d∈B,0≤d∧d≤8)(ht:Tp h T)(hn:T.m≤n)(hs:Sl h n 1 (Y a (O B) cap) (i64s B))(ad:∀x,a=some x→x.block≠T.bt):
  CF (KO (k+5)) 39 [Dn (some ⟨T.bt,0,none⟩),Y a (O B) cap] h n fun v h' n' w=>TLeft T h n h' n' w∧∃E,EOk B E (O B) 0 0∧O E≤256∧Gro h' n n' 76 4 v (O E) (ents E):=by
 have ap:=ht.bt;refine zl (fn:=an9) R4 ?_;refine Zc ?_;refine Zl ?_;refine zK (α:=Nat×Value×List Ent) (fun z=>[(0,Dn (some ⟨T.bt,0,none⟩)),(5,z.2.1),(11,Y a (O B) cap),(12,U .i64 (O B:Int)),(13,U .i64 (z.1:Int))])
  (fun z h' n' w=>TLeft T h n h' n' w∧z.1≤O B∧EOk B z.2.2 z.1 0 0∧O z.2.2≤64*z.1∧Gro h' n n' 76 4 z.2.1 (O z.2.2) (ents z.2.2)) (fun z=>O B-z.1)
  (0,Y none 0 0,[]) ⟨rfl,rfl,rfl,rfl,rfl,Df⟩ ⟨TLeft.refl ht,Di,⟨fun e Z1=>oU Z1 Ds,aa0,fun e Z1=>oU Z1 Ds⟩,Dh,.nil⟩ (by show O B-0<LL;unfold LL;omega) ?_
 rintro⟨j,v5,E⟩ t h1 n1 w1 ⟨f,hj,o,A,i⟩;simp only at hj o A i;obtain⟨u,rfl,_⟩:=i.shape;refine zN ?_;by_cases hjB:j=O B
 .refine Zm ?_;exact retH _ ⟨rfl,(zj rfl),rfl⟩ ⟨f,E,hjB▸o,Z,i⟩
 obtain⟨d,hd⟩:∃d,B[j]?=some d:=⟨B[j]'Z,Dm Z⟩;have au:=hB.2 d (Dq hd);obtain⟨N,M,x,cs,rfl,ac,hx,hc,ar,aw,Z1⟩:=hs.inv Z;have Z4:cs[M+j]?=some (U .i64 d):=wq Z1 (by rw[i64s,DB,hd];rfl);have am:h1 N=some x:=by rw[f.ext N ac (ad _ rfl)];exact hx
 obtain⟨D,rfl⟩:∃D:Nat,d=(D:Int):=⟨d.toNat,Z⟩;refine Zr ?_;refine wn R8 Z ?_;refine zi R6 am (v:=U .i64 (D:Int)) ⟨hc,(by rw[←Z4];congr 1;omega)⟩ ?_;refine Zl ?_;refine zK (α:=Nat×Value×List Ent) (fun z=>[(0,Dn (some ⟨T.bt,0,none⟩)),(5,z.2.1),(6,U .i64 (j:Int)),(7,U .i64 (D:Int)),(8,U .i64 (z.1:Int)),(11,Y (some ⟨N,M,none⟩) (O B) cap),(12,U .i64 (O B:Int)),(13,U .i64 (j:Int))])
  (fun z h' n' w=>TLeft T h n h' n' w∧z.1≤D∧EOk B z.2.2 j z.1 0∧O z.2.2≤64*j+8*z.1∧Gro h' n n' 76 4 z.2.1 (O z.2.2) (ents z.2.2)) (fun z=>D-z.1)
  (0,Y u (O E) (O E),E) ⟨rfl,rfl,rfl,rfl,rfl,rfl,rfl,rfl,Df⟩ ⟨f,Di,o,by show O E≤64*j+0;omega,i⟩ (by show D-0<LL;unfold LL;omega) ?_
 rintro⟨r,v5,E⟩ t h1 n1 w1 ⟨f,hr,o,A,i⟩;simp only at hr o A i;obtain⟨u,rfl,_⟩:=i.shape;refine zN ?_;by_cases hrD:r=D
 .refine Zm ?_;exact goOn (j+1,Y u (O E) (O E),E) (by show O B-(j+1)<O B-j;omega) ⟨rfl,rfl,rfl,rfl,dO,Df⟩ ⟨f,by show j+1≤_;omega,o.mono (.inl (by show(j:Int)<((j+1:Nat):Int);omega)),by show O E≤64*(j+1);omega,i⟩
 refine Zo ?_;refine zK (α:=Nat×Value×List Ent) (fun z=>[(0,Dn (some ⟨T.bt,0,none⟩)),(5,z.2.1),(6,U .i64 (j:Int)),(7,U .i64 (D:Int)),(8,U .i64 (r:Int)),(9,U .i64 (z.1:Int)),(11,Y (some ⟨N,M,none⟩) (O B) cap),(12,U .i64 (O B:Int)),(13,U .i64 (j:Int))])
  (fun z h' n' w=>TLeft T h n h' n' w∧r≤z.1∧z.1≤D∧EOk B z.2.2 j r z.1∧O z.2.2≤64*j+8*r+(z.1-r)∧Gro h' n n' 76 4 z.2.1 (O z.2.2) (ents z.2.2)) (fun z=>D-z.1)
  (r,Y u (O E) (O E),E) ⟨rfl,rfl,rfl,rfl,rfl,rfl,rfl,rfl,rfl,Df⟩ ⟨f,Dh,hr,o.mono (.inr ⟨rfl,.inr ⟨rfl,Z⟩⟩),by show O E≤64*j+8*r+(r-r);omega,i⟩ (by show D-r<LL;unfold LL;omega) ?_
 rintro⟨c,v5,E⟩ t h1 n1 w1 ⟨f,ai,ae,o,A,i⟩;simp only at ai ae o A i;obtain⟨u,rfl,_⟩:=i.shape;refine zN ?_;by_cases hcD:c=D
 .refine Zm ?_;exact goOn (r+1,Y u (O E) (O E),E) (by show D-(r+1)<D-r;omega) ⟨rfl,rfl,rfl,rfl,dO,rfl,rfl,rfl,Df⟩ ⟨f,by show r+1≤_;omega,o.mono (.inr ⟨rfl,.inl (by show(r:Int)<((r+1:Nat):Int);omega)⟩),by show O E≤64*j+8*(r+1);omega,i⟩
 have aq:c<D:=Z;refine Zh ?_;simp only[zX,yi,zm,yj];refine yp (α:=Value×List Ent) (fun z=>[(0,Dn (some ⟨T.bt,0,none⟩)),(5,z.1),(6,U .i64 (j:Int)),(7,U .i64 (D:Int)),(8,U .i64 (r:Int)),(9,U .i64 (c:Int)),(11,Y (some ⟨N,M,none⟩) (O B) cap),(12,U .i64 (O B:Int)),(13,U .i64 (j:Int))])
  (fun z h' n' w=>TLeft T h n h' n' w∧EOk B z.2 j r (c+1:Nat)∧O z.2≤O E+1∧Gro h' n n' 76 4 z.1 (O z.2) (ents z.2)) ?_ ?_
 .refine Zg ?_;refine zk _ R5 (jq k (K:=2) Z f.tp (by have:=f.le;omega)) ?_;rintro _ h2 q w2⟨ak,af,aj,a4,I,F,ln,y,rfl,hq,an,ao,hf,ax⟩;have ay:=f.le;refine z6 R5 ?_;have aa:ones [I,F,Dk false,Y none 0 0]=true:=by
   rw[hq.num.neg];show ones (F::_)=true;rw[hq.num.sl.ones];rfl
  refine zw [I,F,Dk false,Y none 0 0] R7 aa (ze _ _ _) rfl eL ?_;rw[yI];refine zN ?_;generalize hh:upd h2 (3*q+2) _=h3;have L:KN q h2 h3:=by rw[←hh];exact C4
  have p:∃e,h3 (3*q+2)=some (.row [I,F,Dk false,Y none 0 0] e):=⟨_,kz⟩;obtain⟨e3,p⟩:=p;have s:=hq.ext L (DM q);have a1:=aj.ext L Z;have Z3:=(i.extT a4 Z af).ext L (DM q);have H:∀b,b<3*n→b≠T.bt→h3 b=h b:=fun b G g=>(L b Z).trans ((a4 b Z g).trans (f.ext b G g));have a3:∀b∈addW (Lf (k+4) n (an9).ntmps).n0 w2 w1,b=T.bt:=xa ak f.w;refine zO (v:=.agg #[I,F,Dk false,Y none 0 0]) R5 (zF R2 p rfl zb rfl) ?_;refine ye _ R5 (ag (k+2) s) ?_;rintro _ rfl;rw[GU];by_cases hy:y=0
  .subst hy;refine Zk ?_;exact zC (Y u (O E) (O E),E) ⟨rfl,rfl,rfl,rfl,rfl,rfl,rfl,rfl,rfl,Df⟩ ⟨⟨a3,by show n≤q+1;omega,a1,H⟩,o.mono (.inr ⟨rfl,.inr ⟨rfl,Z⟩⟩),by show O E≤O E+1;omega,Z3⟩
  have b1:¬y.sign=0:=fun e=>hy (Int.sign_eq_zero_iff_zero.1 e);repeat refine zR ?_
  refine zk _ R5 (tQ (k+3) (m:=2) Z a1 Z) ?_;rintro _ h4 _ w4⟨al,rfl,a2,C,rr,rfl,az,b0⟩;have Z0:Gro h4 n (q+1) 76 4 (Y u (O E) (O E)) (O E) (ents E):=Z3.extT (fun b G g=>C b g) Z Dh;have V:h4 (3*q+2)=some (.row [I,F,Dk false,Y none 0 0] e3):=by rw[C _ Z];exact p
  have R:=xa (n0:=(Lf (k+4) n (an9).ntmps).n0) al a3;by_cases hrr:rr=0
  .refine Zr ?_;refine zO (v:=.agg #[I,F,Dk false,Y none 0 0]) R5 (zF R2 V rfl zb rfl) ?_;have ah:RatR h4 (q+1) I F (Dk false) (Y none 0 0) ((y:Int):Rat) ln []:=by
    refine⟨⟨s.num.neg,s.num.sl.keep (fun a l cc e=>C _ ?_) Dh,s.num.norm,s.num.val⟩,rfl,.nil (.inl rfl),Norm.nil,s.val⟩;subst e;have hf:3*n1≤a.block:=hf;omega
   refine ye _ R5 (nZ k ah eN) ?_;rintro _ rfl;refine zA (v:=.agg #[U .i64 (j:Int),U .i64 (r:Int),U .i64 (c:Int),Dl ⟨⟨ratT ((y:Int):Rat)⟩⟩]) R5 ?_;refine ud (cs:=ents [⟨j,r,c,ratT ((y:Int):Rat)⟩]) R5 ?_;refine kG (m:=1) R8 zd (Z0.ext (GD Z) zs) (yG (ze _ _ _) R2) Dh Z rfl rfl (by show n≤n∧_;omega) ?_;intro v6 h6 a0 a8 av;obtain⟨a6,rfl,_⟩:=a0.shape;refine Zb ?_;refine zC (Y a6 (O E+1) (O E+1),E++[⟨j,r,c,ratT ((y:Int):Rat)⟩]) ⟨rfl,rfl,rfl,rfl,rfl,rfl,rfl,rfl,rfl,Df⟩ ⟨⟨R,by show n≤q+1+1+1;omega,(a2.upd Z).ext a8 Z,fun b G g=>?_⟩,?_,by show(E++[_]).length≤O E+1;simp,?_⟩
   .exact(a8 b G).trans ((zg Z).trans ((C b g).trans (H b G g)))
   .refine EOk.snoc (e:=⟨j,r,c,ratT ((y:Int):Rat)⟩) o ⟨by simp only;omega,by simp only;omega,fun d' J=>?_,y,an,ao,hy,rfl⟩;simp only[Ez]at J⊢;rw[hd]at J;injection J with J
    omega
   show Gro _ _ _ _ _ _ (O (E++[_])) (ents (E++[_]));rw[qw,Do];exact a0
  refine Zk ?_;exact zC (Y u (O E) (O E),E) ⟨rfl,rfl,rfl,rfl,rfl,rfl,rfl,rfl,rfl,Df⟩ ⟨⟨R,by show n≤q+1;omega,a2,fun b G g=>(C b g).trans (H b G g)⟩,o.mono (.inr ⟨rfl,.inr ⟨rfl,Z⟩⟩),by show O E≤O E+1;omega,Z0⟩
 rintro⟨v7,S⟩ t h7 n7 w7 ⟨ab,W,a9,P⟩;simp only at W a9 P;obtain⟨a7,rfl,_⟩:=P.shape;refine Zc ?_;exact goOn (c+1,Y a7 (O S) (O S),S) (by show D-(c+1)<D-c;omega) ⟨rfl,rfl,rfl,rfl,rfl,dO,rfl,rfl,rfl,Df⟩ ⟨ab,by show r≤c+1;omega,by show c+1≤D;omega,W,by show O S≤64*j+8*r+(c+1-r);omega,P⟩
end
structure Eqn where
 es:List Ent
 fr:List (List UInt8)
 rhs:List UInt8
structure Sdp where
 blocks:List Int
 free:Nat
 obj:List Ent
 objFree:List (List UInt8)
 eqs:List Eqn
inductive EqR (h:HF) (n:Nat):List Value→List Eqn→Prop
 |nil:EqR h n [] []
 |cons {ve vf:Value} {q:Eqn} {cs:List Value} {qs:List Eqn} (h1:Sl h n 4 ve (ents q.es)) (h2:Sl h n 1 vf (strs q.fr)) (h3:EqR h n cs qs):EqR h n (ve::vf:: Dl ⟨⟨q.rhs⟩⟩::cs) (q::qs)
theorem EqR.mapS{b:List Eqn}(e:EqR h n cs b)(a:∀v∈cs,∀sz c,Sl h n sz v c→Sl h' n' sz v c):EqR h' n' cs b:=by
 induction e with
 |nil=>exact .nil
 |cons h1 h2 h3 ih=>exact .cons (a _ cA _ _ h1) (a _ cA _ _ h2) (ih fun v d=>a v (by simp[d]))
theorem EqR.ext{a:List Eqn}(e:EqR h n cs a)(c:KN n h h')(b:n≤n'):EqR h' n' cs a:=e.mapS fun _ _ _ _ s=>s.ext c b
theorem EqR.belows{f:List Eqn}(e:EqR h n cs f):∀v∈cs,Pt (fun b=>b<3*n) v:=by
 induction e with
 |nil=>intro v d;cases d
 |cons h1 h2 h3 ih=>
  intro v d;simp only[DR]at d;rcases d with rfl|rfl|rfl|d
  .exact Kg h1.below
  .exact Kg h2.below
  .exact Cg
  exact ih v d
theorem EqR.len{a:List Eqn}(e:EqR h n cs a):O cs=O a*3:=by
 induction e with
 |nil=>rfl
 |cons h1 h2 h3 ih=>simp[ih];omega
theorem EqR.snoc{a:List Eqn}{b c:Value}{q:Eqn}(e:EqR h n cs a)(d:Sl h n 4 b (ents q.es))(f:Sl h n 1 c (strs q.fr)):EqR h n (cs++[b,c,Dl ⟨⟨q.rhs⟩⟩]) (a++[q]):=by
 induction e with
 |nil=>exact .cons d f .nil
 |cons g1 g2 g3 ih=>exact .cons g1 g2 ih
structure SdpR (h:HF)(n:Nat)(vB vO vF vE:Value)(p:Sdp):Prop where
 blocks:Sl h n 1 vB (i64s p.blocks)
 obj:Sl h n 4 vO (ents p.obj)
 objFree:Sl h n 1 vF (strs p.objFree)
 eqs:∃ce,Sl h n 3 vE ce∧EqR h n ce p.eqs
structure SdpOk (F least:Nat)(p:Sdp):Prop where
 bl:1≤O p.blocks∧O p.blocks≤2
 b3:∀d∈p.blocks,1≤d∧d≤3
 free:p.free≤F
 obj:EOk p.blocks p.obj (O p.blocks) 0 0
 objl:O p.obj≤256
 ofl:O p.objFree=p.free
 ofs:∀s∈p.objFree,vI 2 s
 eql:least≤O p.eqs∧O p.eqs≤4
 eqo:∀q∈p.eqs,EOk p.blocks q.es (O p.blocks) 0 0∧O q.es≤256∧O q.fr=p.free∧(∀s∈q.fr,vI 2 s)∧vI 4 q.rhs
theorem XZ(k:Nat){T:TapeI}(hF:F≤100∧least≤4)(ht:Tp h T)(hn:T.m≤n):CF (KO (k+6)) 7 [Dn (some ⟨T.bt,0,none⟩),U .i64 (F:Int),U .i64 (least:Int)] h n fun v h' n' w=>TLeft T h n h' n' w∧∃p vB vO vF vE,v=.agg #[vB,U .i64 (p.free:Int),vO,vF,vE]∧SdpR h' n' vB vO vF vE p∧SdpOk F least p∧yh n vB∧yh n vO∧yh n vF∧yh n vE:=by
 have dn:=ht.bt;refine zl (fn:=ab7) R4<|zN ?_;refine z6 R5<|Zg ?_;refine zk _ R5 (tQ (k+4) Z (ht.upd Z) Z) ?_;rintro _ P _ w1⟨d5,rfl,cz,bp,fr,rfl,dp,dq⟩;obtain⟨f,rfl⟩:∃f:Nat,fr=(f:Int):=⟨fr.toNat,Z⟩;refine zA (v:=.agg #[Y none 0 0,U .i64 (f:Int),Y none 0 0,Y none 0 0,Y none 0 0]) R5<|z6 R5<|zw [Y none 0 0,U .i64 (f:Int),Y none 0 0,Y none 0 0,Y none 0 0] R7 rfl (ze _ _ _) rfl eL ?_;rw[yI];refine Zg ?_;generalize hh:upd P (3*(n+1)+2) _=M;have cq:∃e,M (3*(n+1)+2)=some (.row [Y none 0 0,U .i64 (f:Int),Y none 0 0,Y none 0 0,Y none 0 0] e):=⟨_,kz⟩;have cv:∃e,M (3*n+2)=some (.row [Y none 0 0,U .i64 0,Y none 0 0,Y none 0 0,Y none 0 0] e):=⟨_,by rw[←hh,zg Z,bp _ Z,ze];rfl⟩;have d9:ExtT n T.bt h M:=fun b j g=>by rw[←hh,zg Z,bp b g,zg Z]
 have d0:Tp M T:=by rw[←hh];exact cz.upd Z
 refine zk _ R5 (tQ (k+4) (m:=2) Z d0 Z) ?_;rintro _ h3 _ w3⟨d6,rfl,d1,ba,i0,rfl,ds,dt⟩;obtain⟨i0,rfl⟩:∃f:Nat,i0=(f:Int):=⟨i0.toNat,Z⟩;refine Zb ?_;have ch:=xa (n0:=(Lf (k+5) n (ab7).ntmps).n0) d6 (xa (n0:=(Lf (k+5) n (ab7).ntmps).n0) (w:=[]) d5 (fun b j=>oU j Ds));have cr:∃e,h3 (3*(n+1)+2)=some (.row [Y none 0 0,U .i64 (f:Int),Y none 0 0,Y none 0 0,Y none 0 0] e):=by rw[ba _ Z];exact cq
 have cw:∃e,h3 (3*n+2)=some (.row [Y none 0 0,U .i64 0,Y none 0 0,Y none 0 0,Y none 0 0] e):=by rw[ba _ Z];exact cv
 have c9:ExtT n T.bt h h3:=fun b j g=>(ba b g).trans (d9 b j g);refine zK (α:=Nat×Value×List Int) (fun z=>[(0,Dn (some ⟨T.bt,0,none⟩)),(2,U .i64 (least:Int)),(6,Dn (some ⟨3*n+2,0,none⟩)),(7,Dn (some ⟨3*(n+1)+2,0,none⟩)),(8,U .i64 (z.1:Int))])
  (fun z h' n' w=>(∀b∈w,b=T.bt)∧n+2≤n'∧Tp h' T∧ExtT n T.bt h h'∧(∃e,h' (3*n+2)=some (.row [Y none 0 0,U .i64 0,Y none 0 0,Y none 0 0,Y none 0 0] e))∧(∃e,h' (3*(n+1)+2)=some (.row [z.2.1,U .i64 (f:Int),Y none 0 0,Y none 0 0,Y none 0 0] e))∧z.1+O z.2.2=i0+1∧(∀d∈z.2.2,1≤d∧d≤3)∧Gro h' (n+2) n' 3 1 z.2.1 (O z.2.2) (i64s z.2.2)) (fun z=>z.1)
  (i0+1,Y none 0 0,[]) ⟨rfl,rfl,rfl,rfl,aD,Df⟩ ⟨ch,Dh,d1,c9,cw,cr,rfl,fun d R=>oU R Ds,.nil⟩ (by show i0+1<LL;unfold LL;omega) ?_
 rintro⟨i,vB,B⟩ t h4 n4 w4 ⟨bo,dx,bm,bq,bl,⟨e4,aa⟩,co,a7,Z0⟩;simp only at aa co a7 Z0;obtain⟨L,rfl,_⟩:=Z0.shape;refine zN ?_;cases i with
 |succ i=>
  refine Zq ?_;refine zn [0,1,0,4,12,28,63,127,255] rfl ?_;repeat refine zE ?_
  refine zS R6 (zL rfl aa R2) R2 ?_;repeat refine zE ?_
  refine mX (bt:=T.bt) _ R7 (tQ (k+4) (m:=3) Z bm Z) (fun v h' n' W I=>⟨I.1,by rw[I.2.1];exact Fu _⟩) eN ?_;rintro _ h5 n4 w5⟨b7,rfl,b3,J,rr,rfl,dz,e0⟩;repeat refine zE ?_
  refine NM (cs:=i64s [1+rr]) R5<|PR (mm:=1) R8 zd rfl rfl rfl ((Z0.extT (fun b j g=>J b g) Z Dh).ext (GD Z) zs) (yG (ze _ _ _) R2) Dh Z rfl rfl (by show n≤n+2∧_;omega) ?_;intro v6 h6 W6 bi H du dr;obtain⟨a6,rfl,_⟩:=bi.shape;repeat refine zE ?_
  have b1:h6 (3*(n+1)+2)=some (.row [Y L (O B) (O B),U .i64 (f:Int),Y none 0 0,Y none 0 0,Y none 0 0] e4):=by rw[H _ Z,zg Z,J _ Z];exact aa
  refine xK (cs:=[Y a6 (O B+1) (O B+1)]) R7 rfl b1 zb eL R3 ?_;refine Zc ?_;refine goOn (i,Y a6 (O B+1) (O B+1),B++[1+rr]) (by show i<i+1;omega) ⟨rfl,rfl,rfl,rfl,aD,Df⟩ ⟨xa b7 bo,by show n+2≤n4+1+1;omega,?_,?_,?_,⟨e4,ze _ _ _⟩,by show i+O (B++[_])=_;simp;omega,?_,?_⟩
  .exact((b3.upd Z).ext H Z).upd Z
  .exact fun b j g=>(zg Z).trans ((H b Z).trans ((zg Z).trans ((J b g).trans (bq b j g))))
  .obtain⟨e,he⟩:=bl;exact⟨e,(zg Z).trans ((H _ Z).trans ((zg Z).trans ((J _ Z).trans he)))⟩
  .intro d R;rcases Ec.1 R with R|R
   .exact a7 d R
   simp at R;subst R;omega
  show Gro (upd h6 _ _) _ _ _ _ _ (O (B++[_])) (i64s (B++[_]));have:i64s (B++[1+rr])=i64s B++i64s [1+rr]:=by simp[i64s]
  rw[this,Do];exact bi.extT (bt:=3*(n+1)+2) (fun b j g=>zg g) Z Dh
 |zero=>
  have dm:O B=i0+1:=Z;refine Zv ?_;refine zi R6 aa (v:=Y L (O B) (O B)) R2 ?_;have a8:yh (n+2) (Y L (O B) (O B)):=Z0.fresh;refine zk _ R5 (ja k ⟨Z,fun d R=>by have:=a7 d R;omega⟩ bm Z Z0.sl (fun x hx=>by subst hx;have:3*(n+2)≤x.block:=a8;omega)) ?_;rintro vO h5 n5 w5⟨⟨b7,cp,b3,J⟩,E,hE,cd,aw⟩;obtain⟨Z4,rfl,_⟩:=aw.shape;have ct:h5 (3*(n+1)+2)=some (.row [Y L (O B) (O B),U .i64 (f:Int),Y none 0 0,Y none 0 0,Y none 0 0] e4):=by rw[J _ Z Z];exact aa
  repeat refine zR ?_
  refine yr (cs:=[Y Z4 (O E) (O E)]) R8 ct zb jy ?_;refine Zg ?_;refine zi R6 (ze _ _ _) (v:=U .i64 (f:Int)) R2<|zk _ R5 (iV k (N:=f) Z (b3.upd Z) Z) ?_;rintro vF h6 n6 w6⟨⟨d7,bj,d2,H⟩,S,cf,cg,au⟩;obtain⟨V,rfl,_⟩:=au.shape;have b1:h6 (3*(n+1)+2)=some (.row [Y L (O B) (O B),U .i64 (f:Int),Y Z4 (O E) (O E),Y none 0 0,Y none 0 0] e4):=by rw[H _ Z Z,ze];rfl
  repeat refine zR ?_
  refine yr (cs:=[Y V f f]) R8 b1 zb jy ?_;refine Zg ?_;refine zk _ R5 (tQ (k+4) Z (d2.upd Z) Z) ?_;rintro _ h7 G w7⟨d8,rfl,d3,a3,i1,rfl,dg,dh⟩;obtain⟨i1,rfl⟩:∃f:Nat,i1=(f:Int):=⟨i1.toNat,Z⟩;refine Zb ?_;have cu:∃e,h7 (3*(n+1)+2)=some (.row [Y L (O B) (O B),U .i64 (f:Int),Y Z4 (O E) (O E),Y V f f,Y none 0 0] e):=⟨e4,by rw[a3 _ Z,ze];rfl⟩;have cx:∃e,h7 (3*n+2)=some (.row [Y none 0 0,U .i64 0,Y none 0 0,Y none 0 0,Y none 0 0] e):=by
   obtain⟨e,he⟩:=bl;exact⟨e,by rw[a3 _ Z,zg Z,H _ Z Z,zg Z,J _ Z Z];exact he⟩
  have ca:ExtT n T.bt h h7:=fun b j g=>by rw[a3 b g,zg Z,H b Z g,zg Z,J b Z g];exact bq b j g
  have ar:Gro h7 (n+2) G 3 1 (Y L (O B) (O B)) (O B) (i64s B):=
   ((((Z0.extT J Z cp).extT (bt:=3*(n+1)+2) (fun b j g=>zg g) Z Dh).extT H Z bj).extT (bt:=3*(n+1)+2) (fun b j g=>zg g) Z Dh).extT (bt:=T.bt) (fun b j g=>a3 b g) Z Dh
  have ax:Gro h7 n4 G 76 4 (Y Z4 (O E) (O E)) (O E) (ents E):=
   (((aw.extT (bt:=3*(n+1)+2) (fun b j g=>zg g) Z Dh).extT H Z bj).extT (bt:=3*(n+1)+2) (fun b j g=>zg g) Z Dh).extT (bt:=T.bt) (fun b j g=>a3 b g) Z Dh
  have av:Gro h7 n5 G 9 1 (Y V f f) f (strs S):=
   (au.extT (bt:=3*(n+1)+2) (fun b j g=>zg g) Z Dh).extT (bt:=T.bt) (fun b j g=>a3 b g) Z Dh
  have c8:∀b∈addW (Lf (k+5) n (ab7).ntmps).n0 w7 (addW (Lf (k+5) n (ab7).ntmps).n0 w6 (addW (Lf (k+5) n (ab7).ntmps).n0 w5 w4)),b=T.bt:=xa d8 (xa d7 (xa b7 bo));have ap:yh n4 (Y Z4 (O E) (O E)):=aw.fresh;have ao:yh n5 (Y V f f):=au.fresh;refine zK (α:=Nat×Value×List Value×List Eqn) (fun z=>[(0,Dn (some ⟨T.bt,0,none⟩)),(6,Dn (some ⟨3*n+2,0,none⟩)),(7,Dn (some ⟨3*(n+1)+2,0,none⟩)),(9,U .i64 (z.1:Int))])
   (fun z h' n' w=>(∀b∈w,b=T.bt)∧G≤n'∧Tp h' T∧ExtT n T.bt h h'∧(∃e,h' (3*n+2)=some (.row [Y none 0 0,U .i64 0,Y none 0 0,Y none 0 0,Y none 0 0] e))∧(∃e,h' (3*(n+1)+2)=some (.row [Y L (O B) (O B),U .i64 (f:Int),Y Z4 (O E) (O E),Y V f f,z.2.1] e))∧z.1+O z.2.2.2=least+i1∧
    Sl h' n' 1 (Y L (O B) (O B)) (i64s B)∧Sl h' n' 4 (Y Z4 (O E) (O E)) (ents E)∧Sl h' n' 1 (Y V f f) (strs S)∧Gro h' G n' 81 3 z.2.1 (O z.2.2.2) z.2.2.1∧EqR h' n' z.2.2.1 z.2.2.2∧(∀v∈z.2.2.1,Pt (fun b=>3*G≤b) v)∧(∀v∈z.2.2.1,∀b o l c,z.2.1=Y (some ⟨b,o,none⟩) l c→Pt (fun b'=>b'≠b) v)∧
    (∀q∈z.2.2.2,EOk B q.es (O B) 0 0∧O q.es≤256∧O q.fr=f∧(∀s∈q.fr,vI 2 s)∧vI 4 q.rhs)) (fun z=>z.1)
   (least+i1,Y none 0 0,[],[]) ⟨rfl,rfl,rfl,dO,Df⟩ ⟨c8,Dh,d3,ca,cx,cu,rfl,ar.sl,ax.sl,av.sl,.nil,.nil,fun v u=>oU u Ds,fun v u=>oU u Ds,fun q hq=>oU hq Ds⟩ (by show least+i1<LL;unfold LL;omega) ?_
  rintro⟨i,vE,ce,A⟩ t h8 n8 w8 ⟨b8,dy,bn,br,a2,⟨e8,a1⟩,cn,aj,bg,bf,a0,af,ag,ak,b2⟩;simp only at a1 cn a0 af ag ak b2;obtain⟨aE,rfl,de⟩:=a0.shape;have an:yh G (Y aE (O A) (O A)):=a0.fresh;refine zN ?_;cases i with
  |zero=>
   refine Zk ?_;refine zO (v:=.agg #[Y L (O B) (O B),U .i64 (f:Int),Y Z4 (O E) (O E),Y V f f,Y aE (O A) (O A)]) R5 (zF R2 a1 rfl zb rfl) ?_;obtain⟨er,a2⟩:=a2;refine zw [Y L (O B) (O B),U .i64 (f:Int),Y Z4 (O E) (O E),Y V f f,Y aE (O A) (O A)] R7 rfl a2 rfl bR ?_;refine zN ?_;refine xu R5 (ze _ _ _) rfl ⟨⟨b8,by show n≤n8;omega,bn.upd Z,fun b j g=>(zg Z).trans (br b j g)⟩,⟨B,f,E,S,A⟩,_,_,_,_,rfl,⟨aj.old (m:=n+2) a8 Z,bg.old (m:=n4) ap Z,bf.old (m:=n5) ao Z,ce,a0.sl.old (m:=G) an Z,af.mapS fun v u sz c hs=>hs.keep (fun a l c' e=>zg (by have:=ag v u a l c' e;omega)) Dh⟩,?_,a8.mono Z,ap.mono Z,ao.mono Z,an.mono Z⟩;exact⟨by show 1≤O B∧O B≤2;omega,a7,by show f≤F;omega,hE,cd,cf,cg,by show least≤O A∧O A≤4;omega,b2⟩
  |succ i=>
   refine Zq ?_;refine zn [0,1,0,0,8,28,0,0,128,508,0,2044,4092,8188,16380,32767,65535,131071] rfl ?_;repeat refine zE ?_
   refine zS R6 (zL rfl a1 R2) R2 ?_;repeat refine zE ?_
   refine zS R6 (zL rfl a1 R2) R2<|mX (bt:=T.bt) _ R7 (ja k ⟨Z,fun d R=>by have:=a7 d R;omega⟩ bn Z aj (fun x hx=>by subst hx;have:3*(n+2)≤x.block:=a8;omega)) (fun v h' n' W I=>⟨I.1.w,I.1.le⟩) eN ?_;rintro v9 h9 n9 w9⟨⟨b9,bk,d4,bs⟩,C,cc,bv,ah⟩;obtain⟨a9,rfl,_⟩:=ah.shape;repeat refine zE ?_
   refine zS R6 (zL rfl a1 R2) ⟨(Vj (b:=3*(n+1)+2) (bt:=T.bt) Z (by simp;exact b9)),rfl⟩ ?_;refine mX (bt:=T.bt) _ R7 (iV k (N:=f) Z d4 Z) (fun v h' n' W I=>⟨I.1.w,I.1.le⟩) eN ?_;rintro e3 dj dc e6⟨⟨b5,c0,c6,ad⟩,ai,bb,bc,a4⟩;obtain⟨Z1,rfl,_⟩:=a4.shape;repeat refine zE ?_
   refine mX (bt:=T.bt) _ R7 (jq (k+1) (K:=4) Z c6 Z) (fun v h' n' W I=>⟨I.1,I.2.1⟩) eN ?_;rintro _ dk e2 e7⟨b6,c1,c7,a5,m1,m2,ln,y,rfl,c4,da,db,df,dv⟩;refine mX (bt:=T.bt) _ R7 (nZ (k+1) c4 eN) (fun v h' n' W I=>⟨by rw[I.2.2.1];exact fun b j=>oU j Ds,by rw[I.2.1];exact Fu _⟩) eN ?_;rintro _ be D e9⟨cb,bu,rfl,rfl⟩;subst cb bu;refine yQ (v:=.agg #[Y a9 (O C) (O C),Y Z1 f f,Dl ⟨⟨ratT ((y:Int):Rat)⟩⟩]) rfl rfl rfl rfl rfl ?_;refine NM (cs:=[Y a9 (O C) (O C),Y Z1 f f,Dl ⟨⟨ratT ((y:Int):Rat)⟩⟩]) R5 ?_;have az:∀b,b<3*n8→b≠T.bt→upd be (3*D+2) (some (.row [Y a9 (O C) (O C),Y Z1 f f,Dl ⟨⟨ratT ((y:Int):Rat)⟩⟩] 81)) b=h8 b:=fun b j g=>by rw[zg Z,a5 b Z g,ad b Z g,bs b j g]
   have bz:=(((a0.extT bs Z bk).extT ad Z c0).extT a5 Z c1).ext (GD (b:=3*D+2) (x:=some (.row [Y a9 (O C) (O C),Y Z1 f f,Dl ⟨⟨ratT ((y:Int):Rat)⟩⟩] 81)) Z) (DM D);refine PR (mm:=1) R8 zd rfl rfl rfl bz (yG (ze _ _ _) R2) Dh Z rfl rfl (by show n≤G∧_;omega) ?_;intro e5 Z3 di aq ae ay bx;obtain⟨bd,rfl,_⟩:=aq.shape;repeat refine zE ?_
   have c3:Z3 (3*(n+1)+2)=some (.row [Y L (O B) (O B),U .i64 (f:Int),Y Z4 (O E) (O E),Y V f f,Y aE (O A) (O A)] e8):=by rw[ae _ Z,az _ Z Z];exact a1
   refine xK (cs:=[Y bd (O A+1) (O A+1)]) R7 rfl c3 zb jy R3 ?_;refine Zc ?_;have ck:Below n8 (Y aE (O A) (O A)):=a0.below;have cj:Below G (Y L (O B) (O B)):=ar.below;have cm:Below G (Y Z4 (O E) (O E)):=ax.below;have cl:Below G (Y V f f):=av.below;have ci:Below n9 (Y a9 (O C) (O C)):=ah.below;have bw:Below dc (Y Z1 f f):=a4.below;have bh:yh n8 (Y a9 (O C) (O C)):=ah.fresh;have am:yh n9 (Y Z1 f f):=a4.fresh;have dd:∀b,(b<3*G∨3*n8≤b)→∀o l c,Y aE (O A) (O A)≠Y (some ⟨b,o,none⟩) l c:=fun b j o l c e=>by
    injection e with e1
    subst e1;have P:b<3*n8:=ck;have M:3*G≤b:=an;omega
   have ab:∀{x:Option BF} b,b<3*G→b≠T.bt→b≠3*(n+1)+2→upd Z3 (3*(n+1)+2) x b=h8 b:=fun b j P M=>(zg M).trans ((ae b j).trans (az b Z P));have ac:∀{x:Option BF} {sz:Nat} {v:Value} {c:List Value},Sl h8 n8 sz v c→Below G v→yh (n+2) v→Sl (upd Z3 (3*(n+1)+2) x) (D+1+1) sz v c:=fun hs j hf=>hs.keep (fun a l c e=>by
    subst e;have P:a.block<3*G:=j;have M:3*(n+2)≤a.block:=hf;exact ab _ P Z Z) Z
   have b0:∀{x:Option BF} {sz:Nat} {v:Value} {c:List Value} {hh:HF} {m m':Nat},Sl hh m' sz v c→yh m v→n8≤m→m'≤D→(∀b,3*m≤b→b<3*m'→be b=hh b)→Sl (upd Z3 (3*(n+1)+2) x) (D+1+1) sz v c:=fun hs hf hm dw hk=>hs.keep (fun a l c e=>by
    subst e;have M:3*_≤a.block:=hf;have P:a.block<3*_:=hs.below;refine(zg Z).trans ((ay _ Z (dd _ (.inr Z))).trans ((zg Z).trans (hk _ M P)))) Z
   have cy:∀{x:Option BF},Sl (upd Z3 (3*(n+1)+2) x) (D+1+1) 4 (Y a9 (O C) (O C)) (ents C):=b0 ah.sl bh Dh Z fun b P M=>by rw[a5 b Z Z,ad b Z Z]
   have c5:∀{x:Option BF},Sl (upd Z3 (3*(n+1)+2) x) (D+1+1) 1 (Y Z1 f f) (strs ai):=b0 a4.sl am bk Z fun b P M=>by rw[a5 b Z Z]
   have al:=af.belows;refine goOn (i,Y bd (O A+1) (O A+1),ce++[Y a9 (O C) (O C),Y Z1 f f,Dl ⟨⟨ratT ((y:Int):Rat)⟩⟩],A++[⟨C,ai,ratT ((y:Int):Rat)⟩]) (by show i<i+1;omega) ⟨rfl,rfl,rfl,aD,Df⟩ ⟨?_,by show G≤D+1+1;omega,?_,?_,?_,⟨e8,ze _ _ _⟩,by show i+O (A++[_])=_;simp;omega,ac aj cj a8,ac bg cm (ap.mono Z),ac bf cl (ao.mono Z),?_,?_,?_,?_,?_⟩
   .have b4:∀b∈([]:List Nat),b=T.bt:=fun b j=>oU j Ds;first|exact xa b4 (xa b6 (xa b5 (xa b9 b8)))|exact xa b4 (xa b4 (xa b6 (xa b5 (xa b9 b8))))
   .exact((c7.upd Z).ext ae Z).upd Z
   .exact fun b j g=>(ab b Z g Z).trans (br b j g)
   .obtain⟨er,a2⟩:=a2;exact⟨er,(ab _ Z Z Z).trans a2⟩
   .show Gro _ _ _ _ _ _ (O (A++[_])) _;rw[Do];exact aq.extT (bt:=3*(n+1)+2) (fun b j g=>zg g) Z Dh
   .refine EqR.snoc (q:=⟨C,ai,ratT ((y:Int):Rat)⟩) (af.mapS fun v u sz c hs=>hs.keep (fun a l c' e=>?_) (by show n8≤D+1+1;omega)) cy c5;have P:=al v u a l c' e;have M:=ag v u a l c' e;refine(zg Z).trans ((ay _ Z fun o l2 c2 ee=>?_).trans (az _ P Z));exact ak v u _ _ _ _ ee a l c' e rfl
   .intro v u;rcases Ec.1 u with u|u
    .exact ag v u
    simp only[DR,Ds,or_false]at u;rcases u with rfl|rfl|rfl
    .exact fun a l c e=>by have:=ae4 bh a l c e;omega
    .exact fun a l c e=>by have:=ae4 am a l c e;omega
    exact Cg
   .intro v u b o l c ee a l' c' e;simp only at ee;have dl:3*(D+1)≤b:=by
     have:3*(D+1)≤_:=ae4 bx _ _ _ ee;exact this
    rcases Ec.1 u with u|u
    .have:=al v u a l' c' e;omega
    simp only[DR,Ds,or_false]at u;rcases u with rfl|rfl|rfl
    .have:=Kg ci a l' c' e;omega
    .have:=Kg bw a l' c' e;omega
    cases e
   intro q hq;rcases Ec.1 hq with hq|hq
   .exact b2 q hq
   simp at hq;subst hq;exact⟨cc,bv,bb,bc,y,da,db,rfl⟩
section
variable {d len:Nat}
theorem ak(x:Int):ratT (x:Rat)=(if x<0 then[45]else[])++decT x.natAbs:=by
 unfold ratT;rw[GU,Hc,De rfl,DZ]
theorem yw(h:0<d∧d<10):decT d=[UInt8.ofNat (48+d)]:=by
 unfold decT decB;rw[CT Z,wE Z,Nat.div_eq_of_lt h.2,yZ,Nat.mod_eq_of_lt h.2];rfl
theorem jH{K:Int}(f:K≤4)(h:vI K s):GK.isSmall s=true:=by
 obtain⟨x,c,e,rfl⟩:=h;rw[ak];have b:x= -4∨x= -3∨x= -2∨x= -1∨x=0∨x=1∨x=2∨x=3∨x=4:=Z;rcases b with rfl|rfl|rfl|rfl|rfl|rfl|rfl|rfl|rfl<;>first
  |(rw[show decT (F5 0)=[48]from rfl];rfl)
  |(rw[show F5 (-4)=4 from rfl,yw Z];decide)
  |(rw[show F5 (-3)=3 from rfl,yw Z];decide)
  |(rw[show F5 (-2)=2 from rfl,yw Z];decide)
  |(rw[show F5 (-1)=1 from rfl,yw Z];decide)
  |(rw[show F5 1=1 from rfl,yw Z];decide)
  |(rw[show F5 2=2 from rfl,yw Z];decide)
  |(rw[show F5 3=3 from rfl,yw Z];decide)
  |(rw[show F5 4=4 from rfl,yw Z];decide)
theorem X0{x:Int}(c: -4≤x∧x≤4)(h0:x≠0):ratT (x:Rat)≠[48]:=by
 rw[ak];have b:x= -4∨x= -3∨x= -2∨x= -1∨x=1∨x=2∨x=3∨x=4:=Z;rcases b with rfl|rfl|rfl|rfl|rfl|rfl|rfl|rfl<;>first
  |(rw[show F5 (-4)=4 from rfl,yw Z];decide)
  |(rw[show F5 (-3)=3 from rfl,yw Z];decide)
  |(rw[show F5 (-2)=2 from rfl,yw Z];decide)
  |(rw[show F5 (-1)=1 from rfl,yw Z];decide)
  |(rw[show F5 1=1 from rfl,yw Z];decide)
  |(rw[show F5 2=2 from rfl,yw Z];decide)
  |(rw[show F5 3=3 from rfl,yw Z];decide)
  |(rw[show F5 4=4 from rfl,yw Z];decide)
theorem vy(k:Nat)(b:GK.G h)(n:Nat)(c:GK.isSmall s=true):VF (KO (k+1)) 82 [Dl ⟨⟨s⟩⟩] h n fun v=>v=Dk true:=
 ⟨_,_,_,_,fK k b n c,rfl,rfl,rfl,rfl⟩
theorem fM(k:Nat)(h:HF)(n:Nat)(e f:Ent):VF (KO (k+1)) 113 [.agg (entC e).toArray,.agg (entC f).toArray] h n fun v=>∃b:Bool,v=Dk b∧(b=true↔MB e f):=by
 refine zB (fn:=Tryz.f113) R4<|zN ?_;refine xV (cs:=entC e) R5<|xV (cs:=entC f) R5 ?_;generalize hh:upd (upd h (3*n+2) _) (3*(n+1)+2) _=h1;have g:∃ty,h1 (3*n+2)=some (.row (entC e) ty):=⟨_,AC⟩;have i:∃ty,h1 (3*(n+1)+2)=some (.row (entC f) ty):=⟨_,kz⟩;obtain⟨j,g⟩:=g;obtain⟨l,i⟩:=i;refine Zj ?_;refine zi R6 g (v:=U .i64 e.b) R2 ?_;repeat refine zR ?_
 refine zi R6 i (v:=U .i64 f.b) R2 ?_;by_cases hb:e.b=f.b
 .refine Zv ?_;refine zi R6 g (v:=U .i64 e.r) R2 ?_;repeat refine zR ?_
  refine zi R6 i (v:=U .i64 f.r) R2 ?_;by_cases hr:e.r=f.r
  .refine Zv ?_;refine zi R6 g (v:=U .i64 e.c) R2 ?_;repeat refine zR ?_
   refine zi R6 i (v:=U .i64 f.c) R2<|ql R6<|Zb ?_;exact CJ
  refine Zr ?_;refine zi R6 g (v:=U .i64 e.r) R2 ?_;repeat refine zR ?_
  refine zi R6 i (v:=U .i64 f.r) R2<|ql R6<|Zb ?_;exact CJ
 refine Zr ?_;refine zi R6 g (v:=U .i64 e.b) R2 ?_;repeat refine zR ?_
 refine zi R6 i (v:=U .i64 f.b) R2<|ql R6<|Zb ?_;exact CJ
theorem kR(k:Nat)(q:GK.G h){S:List (List UInt8)}(M:20≤n)(i:Sl h n 1 (Y a len cap) (strs S))(u:∀s∈S,GK.isSmall s=true)(K:O S<1000000):VF (KO (k+2)) 81 [Y a len cap] h n fun v=>v=Dk true:=by
 refine zB (fn:=Tryz.f81) R4 ?_;have g:len=O S:=by
  obtain⟨J,D,m,e,g⟩:=i.len;injection e with e1 e2 e3
  rw[bM]at g;omega
 subst g;refine Zx ?_;refine zK (α:=Nat) (fun j=>[(5,Y a (O S) cap),(6,U .i64 (O S:Int)),(7,U .i64 (j:Int))]) (fun j p F w=>h=p∧n=F∧w=[]∧j≤O S) (fun j=>O S-j) 0 V3 ⟨rfl,rfl,rfl,Di⟩ Ag ?_;rintro j t _ _ _⟨rfl,rfl,rfl,L⟩;refine zN ?_;by_cases hjS:j=O S
 .refine Zm ?_;exact B4
 obtain⟨s,f⟩:∃s,S[j]?=some s:=⟨S[j]'Z,Dm Z⟩;obtain⟨b,l,x,o,rfl,H,C,y,A,I,B⟩:=i.inv Z;have c:o[l+j]?=some (Dl ⟨⟨s⟩⟩):=wq B (by rw[strs,DB,f];rfl);refine Zq ?_;refine wn R8 Z<|zi R6 C (v:=Dl ⟨⟨s⟩⟩) ⟨y,(by rw[←c];congr 1;omega)⟩ ?_;refine Zj ?_;refine ye _ R5 (vy k q _ (u s (Dq f))) ?_;rintro _ rfl;refine Zm ?_;exact goOn (j+1) (by show O S-(j+1)<O S-j;omega) ⟨rfl,rfl,dO,Df⟩ ⟨rfl,rfl,rfl,by show j+1≤O S;omega⟩
end
theorem QR:∀{E:List Ent} {j:Nat} {e:Ent},E[j]?=some e→((ents E).drop (j*4)).take 4=entC e:=by
 intro E;induction E with
 |nil=>intro j e h;simp at h
 |cons x E ih=>
  intro j e h;cases j with
  |zero=>
   simp at h;subst h;rfl
  |succ j=>
   have:=ih (j:=j) (e:=e) AJ;rw[show(j+1)*4=O (entC x)+j*4 from by simp[entC];omega];show((entC x++ents E).drop _).take 4=_;rw[←ES,GC rfl];exact this
theorem mb{cs cells:List Value}{off m j k:Nat}(a:(cs.drop off).take m=cells)(b:j+k≤m):(cs.drop (off+j)).take k=(cells.drop j).take k:=by
 rw[←a,IG,GO,ES,Ev Z]
theorem pW(k:Nat){h:HF}(hG:GK.G h){n:Nat}{u T:Option Addr}{lE D lB Z4:Nat}{E:List Ent}{B:List Int}(hn:20≤n)(hE:Sl h n 4 (Y u lE D) (ents E))(hB:Sl h n 1 (Y T lB Z4) (i64s B))(hok:∀e∈E,EntOk B e)(Z3:E.Pairwise MB)(hb:O E<1000000∧O B<1000000):VF (KO (k+2)) 80 [Y u lE D,Y T lB Z4] h n fun v=>v=Dk true:=by
 refine zB (fn:=Tryz.f80) R4 ?_;have ac:lE=O E:=by
  obtain⟨a',a3,V,e,Z0⟩:=hE.len;injection e with e1 e2 e3
  rw[wD]at Z0;omega
 have ab:lB=O B:=by
  obtain⟨a',a3,V,e,Z0⟩:=hB.len;injection e with e1 e2 e3
  simp[i64s]at Z0;omega
 subst ac ab;refine Zx ?_;refine zK (α:=Nat) (fun j=>[(0,Y u (O E) D),(1,Y T (O B) Z4),(7,Y u (O E) D),(8,U .i64 (O E:Int)),(9,U .i64 (j:Int))]) (fun j h' n' w=>KN n h h'∧n≤n'∧w=[]∧j≤O E) (fun j=>O E-j) 0 V5 ⟨FU _ _,Dh,rfl,Di⟩ (by show O E-0<LL;unfold LL;omega) ?_;rintro j t F l _⟨g,q,rfl,hj⟩;refine zN ?_;by_cases hjE:j=O E
 .refine Zm ?_;exact B4
 obtain⟨e,p⟩:∃e,E[j]?=some e:=⟨E[j]'Z,Dm Z⟩;obtain⟨ao,aq,a9,y,ag,ah,ai,S⟩:=hok e (Dq p);obtain⟨C,oE,xE,I,rfl,a6,af,L,ak,am,N⟩:=hE.inv Z;obtain⟨A,oB,xB,a4,rfl,a5,ae,a8,aj,al,aa⟩:=hB.inv Z;have H:(I.drop (oE+j*4)).take 4=entC e:=by rw[mb N Z,QR p]
 have s:F C=some xE:=by rw[g C a6];exact af
 have a0:F A=some xB:=by rw[g A a5];exact ae
 refine Zr ?_;refine wn R8 Z<|zO (v:=.agg (entC e).toArray) R5 (zF R2 s L Z (by rw[←H];congr 2<;>omega)) ?_;refine z6 R5 ?_;repeat refine zR ?_
 refine zw (entC e) R7 rfl (ze _ _ _) rfl (by show 3*n≤3*l+2;omega) ?_;rw[yI];generalize hh:upd F (3*l+2) _=h2;have a:∃ty,h2 (3*l+2)=some (.row (entC e) ty):=⟨_,kz⟩;obtain⟨ar,a⟩:=a;have i:KN l F h2:=by rw[←hh];exact C4
 have a2:h2 C=some xE:=by rw[i C Z];exact s
 have a1:h2 A=some xB:=by rw[i A Z];exact a0
 have J:GK.G h2:=uB hG (g.trans i q) hn;obtain⟨W,M⟩:∃d,B[e.b.toNat]?=some d:=⟨B[e.b.toNat]'Z,Dm Z⟩;have ap:=a9 W M;have m:a4[oB+e.b.toNat]?=some (U .i64 W):=wq aa (by rw[i64s,DB,M];rfl);refine zN ?_;rw[uP rfl];repeat refine zR ?_
 refine zi R6 a (v:=U .i64 e.b) R2 ?_;repeat refine zR ?_
 refine zi R6 a (v:=U .i64 e.b) R2 ?_;repeat refine zR ?_
 refine zi R6 a (v:=U .i64 e.r) R2 ?_;repeat refine zR ?_
 refine zi R6 a (v:=U .i64 e.r) R2 ?_;repeat refine zR ?_
 refine zi R6 a (v:=U .i64 e.c) R2 ?_;repeat refine zR ?_
 refine zi R6 a (v:=U .i64 e.c) R2 ?_;repeat refine zR ?_
 refine zi R6 a (v:=U .i64 e.b) R2<|wn R8 Z<|zi R6 a1 (v:=U .i64 W) ⟨a8,(by rw[←m];congr 1;omega)⟩ ?_;refine Zk ?_;refine zn [0,1,3,7,7,23,63,127,7,511,1023,2047,4095,8191,16383,32767,65535,131071,262143,524287,1048575,2097151,4194303] rfl ?_;have R:GK.isSmall e.v=true:=jH (K:=2) Z ⟨y,ag,ah,S⟩;have P:(e.v==[48])=false:=by
  rw[S];simpa using X0 Z ai
 have an:∀(Q:SV→Prop) (t:TF),True:=fun _ _=>trivial;by_cases hj0:j=0
 .repeat refine zD ?_
  refine zS R6 (zL rfl a (v:=Dl ⟨⟨e.v⟩⟩) R2) R2 ?_;refine mW _ R7 (vy k J _ R) ?_;rintro _ rfl;repeat refine zD ?_
  exact Dd
 obtain⟨f,Z1⟩:∃f,E[j-1]?=some f:=⟨E[j-1]'Z,Dm Z⟩;have ad:MB f e:=by
  obtain⟨p1,q1⟩:=Du.1 Z1;obtain⟨p2,q2⟩:=Du.1 p;have:=List.pairwise_iff_getElem.1 Z3 (j-1) j p1 p2 Z;rw[q1,q2]at this;exact this
 have o:(I.drop (oE+(j-1)*4)).take 4=entC f:=by rw[mb N Z,QR Z1]
 repeat refine zD ?_
 refine mY R8 Z<|zS (v:=.agg (entC f).toArray) R6 (zF R2 a2 L Z (by rw[←o];congr 2<;>omega)) R2 ?_;refine zS (v:=.agg (entC e).toArray) R6 (zF R2 a rfl zb rfl) R2<|mW _ R7 (fM k h2 (l+1) f e) ?_;rintro _⟨b,rfl,a7⟩;have:b=true:=a7.2 ad;subst this;repeat refine zD ?_
 refine zS R6 (zL rfl a (v:=Dl ⟨⟨e.v⟩⟩) R2) ⟨(vn cA),rfl⟩ ?_;refine mW _ R7 (vy k J _ R) ?_;rintro _ rfl;repeat refine zD ?_
 exact Dd
section
variable {b j len sz:Nat}{x:Operand}{z:Value}{a:Option Addr}
theorem X1{m i:Nat}(c:(cs.drop off).take m=cells)(hi:i<m):cs[off+i]?=cells[i]?:=by
 rw[←c,List.getElem?_take_of_lt hi,Em]
theorem Ya:∀{E:List Ent} {j:Nat} {e:Ent},E[j]?=some e→(ents E)[j*4]?=some (U .i64 e.b):=by
 intro E;induction E with
 |nil=>intro j e h;simp at h
 |cons x E ih=>
  intro j e h;cases j with
  |zero=>simp at h;subst h;rfl
  |succ j=>
   have:=ih (j:=j) (e:=e) AJ;rw[show(j+1)*4=j*4+4 from Z];show(entC x++ents E)[j*4+4]?=_;rw[DL (by simp[entC])];exact this
theorem Sl.ents_sub{h:HF}{n:Nat}{E P g R:List Ent}(s:Sl h n 4 (Y (some ⟨b,off,none⟩) len cap) (ents E))(c:E=P++(g++R))(A:g≠[]):Sl h n 4 (Y (some ⟨b,off+O P*4,none⟩) (O g) (cap-O P)) (ents g):=by
 have f:len=O E:=by
  obtain⟨_,_,_,e,f⟩:=s.len;injection e with e1 e2 e3
  rw[wD]at f;omega
 have B:O E=O P+(O g+O R):=by rw[c];simp
 have D:0<O g:=List.length_pos_iff.2 A;obtain⟨_,_,x,cs,e,p,C,q,u,F,v⟩:=s.inv Z;injection e with e
 injection e with e1 e2
 subst e1 e2;refine .at_ p C q Z Z ?_;rw[mb (j:=O P*4) (k:=O g*4) v Z,c,qw,qw,GC (wD P),HK (wD g)]
section
variable {ms:List Nat}{i n:Nat}{ef:List (Nat×HF×List Nat)}{d:Tmp}
theorem Yb(s:zh ops t o=true)(g:o.dst=some d)(q:zu X.nt (some d)=true)(c:o.op=.indexAddr ty x y)(hu:X.E.und ty=some (.slice e))(hi:X.E.inf e=some (sz,bt,z))
  (u:KM t x=Y (some ⟨b,off,none⟩) len cap)(p:KM t y=U ik (j:Int))(v:j<len)(k:ED X ops r ms (i+1) ⟨⟨upd t d (Dn (some ⟨b,off+j*sz,none⟩)),h,n,w⟩,al,ld,ef⟩ Q):ED X ops (o::r) (m::ms) i ⟨⟨t,h,n,w⟩,al,ld,ef⟩ Q:=by
 refine yQ s g q (by rw[c];rfl) ?_ k;have f:(0:Int)≤(j:Int)∧(j:Int)<(len:Int):=Z;rw[c];show yU X.E ty (KM t x) (KM t y)=_;rw[u,p];simp only[yU,hu,hi,De f,ws,Ez]
theorem Yc{j:Int}(mm:Nat)(c:Za X ops t o d (o.op=.slice ty x none (some hi) none∧X.E.und ty=some (.slice e)∧X.E.inf e=some (sz,bt,z)∧KM t x=Y (some ⟨b,off,none⟩) len cap∧KM t hi=U ik j∧j=(mm:Int)))(D:mm≤cap)(k:ED X ops r ms (i+1) ⟨⟨upd t d (Y (some ⟨b,off,none⟩) mm cap),h,n,w⟩,al,ld,ef⟩ Q):ED X ops (o::r) (m::ms) i ⟨⟨t,h,n,w⟩,al,ld,ef⟩ Q:=by
 obtain⟨c,s,A,g,B,f,C,u,v⟩:=c;refine yQ c s A pl ?_ k;rw[g];subst v;show yY X.E ty (KM t x) none (some (KM t hi))=_;rw[C,u];have p:(0:Int)≤(mm:Int)∧(mm:Int)≤cap:=Z;have q:(gro b&&(DX 1 0&&DX cap 0))=false:=by cases gro b<;>rfl
 simp only[yY,B,f,Ld,De p,Ez,q,gF,Gv]
theorem Yd{lo:Operand}{j:Int}(mm:Nat)(p:Za X ops t o d (o.op=.slice ty x (some lo) none none∧X.E.und ty=some (.slice e)∧X.E.inf e=some (sz,bt,z)∧KM t x=Y (some ⟨b,off,none⟩) len cap∧KM t lo=U ik j∧j=(mm:Int)))(G:mm≤len)(q:len≤cap)
  (k:∀v,(mm=len∧∃a c,v=Y a 0 c)∨(mm<len∧v=Y (some ⟨b,off+mm*sz,none⟩) (len-mm) (cap-mm))→EO X ops r ⟨upd t d v,h,n,w⟩ Q):EO X ops (o::r) ⟨t,h,n,w⟩ Q:=by
 obtain⟨p,s,B,C,D,g,F,u,A⟩:=p;by_cases h1:mm<cap
 .refine u5 mm ⟨p,s,B,C,D,g,F,u,A⟩ G q (.inl h1) (k _ ?_);rw[CT Z];by_cases f:mm=len
  .exact .inl ⟨f,_,_,by rw[f,Ee]⟩
  exact .inr ⟨Z,rfl⟩
 have f:mm=len:=Z;cases hg:gro b with
 |false=>exact u5 mm ⟨p,s,B,C,D,g,F,u,A⟩ G q (.inr (.inl hg)) (k _ (.inl ⟨f,_,_,by rw[f,Ee]⟩))
 |true=>
  by_cases h3:mm=0
  .exact u5 mm ⟨p,s,B,C,D,g,F,u,A⟩ G q (.inr (.inr h3)) (k _ (.inl ⟨f,_,_,by rw[f,Ee]⟩))
  exact ez mm p s B C D g F u A f Z hg Z (k _ (.inl ⟨f,_,_,rfl⟩))
end
def Ye(k:Nat)(E:List Ent)(I:List Ent→HF→Nat→Prop)(W V:Nat→Prop)(l:Nat)(h:HF)(n:Nat):Prop:=
 ∀(P g R:List Ent) (b0:Int) (h':HF) (n':Nat) (b off c:Nat),E=P++(g++R)→g≠[]→(∀x∈g,x.b=b0)→n≤n'→(∀c,c<3*n→¬W c→h' c=h c)→I P h' n'→Sl h' n' 4 (Y (some ⟨b,off,none⟩) (O g) c) (ents g)→¬W b→b<3*n→
  YF (KO k) l [U .i64 b0,Y (some ⟨b,off,none⟩) (O g) c] h' n' fun h2 n2 w=>I (P++g) h2 n2∧n'≤n2∧(∀c,c<3*n'→¬W c→h2 c=h' c)∧(∀c∈w,W c∨3*n'≤c)∧l∈w∧∃c∈w,V c
theorem cD(k:Nat){h:HF}{n:Nat}{W V:Nat→Prop}{E:List Ent}{I:List Ent→HF→Nat→Prop}(hl:l<3*n)(af:h c1=some (.row [Y a (O E) cap] e))(hs:Sl h n 4 (Y a (O E) cap) (ents E))(hb:O E<1000000)(ae:∀ad,a=some ad→¬W ad.block)(hI:I [] h n)(hV:∀c,V c→c<3*n)(hy:Ye k E I W V l h n):
  CF (KO (k+1)) 121 [.func (.yield l) #[] #[],Dn (some ⟨c1,0,none⟩)] h n fun _ g p w=>I E g p∧n≤p∧(∀c,c<3*n→¬W c→g c=h c)∧(∀c∈w,W c∧c<3*n)∧(E=[]∨∃c∈w,V c):=by
 refine ph (fn:=Tryz.f121) R4 ?_;refine zN ?_;refine zi R6 af R2 ?_;refine Zb ?_;refine zK (α:=List Ent×List Ent×Value) (fun z=>[(0,.func (.yield l) #[] #[]),(3,z.2.2)])
  (fun z g p w=>E=z.1++z.2.1∧((z.2.1=[]∧∃a c,z.2.2=Y a 0 c)∨(z.2.1≠[]∧∃b off,a=some ⟨b,off,none⟩∧z.2.2=Y (some ⟨b,off+O z.1*4,none⟩) (O z.2.1) (cap-O z.1)))∧I z.1 g p∧n≤p∧(∀c,c<3*n→¬W c→g c=h c)∧(∀c∈w,W c∧c<3*n)∧(w=[]→z.1=[]∧g=h∧p=n)∧(z.1=[]∨∃c∈w,V c)) (fun z=>O z.2.1)
  ([],E,Y a (O E) cap) ⟨rfl,rfl,Df⟩ ⟨rfl,?_,hI,Dh,fun _ _ _=>rfl,fun c s=>oU s Ds,fun _=>⟨rfl,rfl,rfl⟩,.inl rfl⟩ (by show O E<LL;unfold LL;omega) ?_
 .cases E with
  |nil=>exact .inl ⟨rfl,_,_,rfl⟩
  |cons x E=>
   obtain⟨b,off,x,cs,rfl,_⟩:=hs.inv cA;exact .inr ⟨List.cons_ne_nil _ _,b,off,rfl,cA⟩
 rintro⟨P,R,v3⟩ t N n1 Z0 ⟨L,T,C,S,G,Z3,a7,a5⟩;simp only at L T C Z3 a7 a5;have a9:O E=O P+O R:=by rw[L];simp
 cases R with
 |nil=>
  obtain⟨a',c',rfl⟩:∃a c,v3=Y a 0 c:=by
   rcases T with⟨_,h⟩|⟨h,_⟩
   .exact h
   exact oU rfl h
  rw[DZ]at L;refine Zc ?_;refine ZF ?_;subst L;exact⟨rfl,[],rfl,⟨C,S,G,Z3,a5⟩,fun Z4=>by
   obtain⟨z1,z2,z3⟩:=a7 Z4;subst z2 z3;exact⟨C,S,fun _ _ _=>trivial,fun c s=>oU s Ds,.inl z1⟩⟩
 |cons x R=>
  obtain⟨b,off,rfl,rfl⟩:∃b off,a=some ⟨b,off,none⟩∧v3=Y (some ⟨b,off+O P*4,none⟩) (O (x::R)) (cap-O P):=by
   rcases T with⟨h,_⟩|⟨_,h⟩
   .cases h
   exact h
  have a1:¬W b:=ae _ rfl;have ap:0<O (x::R):=Nat.succ_pos _;obtain⟨_,_,xb,cs,M,a2,ao,F,a8,aj,he⟩:=hs.inv (by rw[a9];simp);injection M with M
  injection M with M e2
  subst M e2;have J:N b=some xb:=(G b a2 a1).trans ao;have ai:O (x::R)≤cap-O P:=Z;have A:∀{i:Nat} {y:Ent},(x::R)[i]?=some y→cs[off+O P*4+i*4]?=some (U .i64 y.b):=fun {i y} hi=>by
   have aq:=(Du.1 hi).1;have:E[O P+i]?=some y:=by rw[L,DL Z,Fa];exact hi
   rw[show off+O P*4+i*4=off+(O P+i)*4 from Z,X1 he Z];exact Ya this
  refine Zc ?_;rw[zc rfl];refine Zg ?_;rw[yi,zm,yj];refine yp (α:=Nat) (fun m=>[(0,.func (.yield l) #[] #[]),(3,Y (some ⟨b,off+O P*4,none⟩) (O (x::R)) (cap-O P)),(4,U .i64 (m:Int))]) (fun m g p w=>N=g∧n1=p∧Z0=w∧1≤m∧m≤O (x::R)∧∀y∈(x::R).take m,y.b=x.b) ?_ ?_
  .refine zN ?_;refine zK (α:=Nat) (fun m=>[(0,.func (.yield l) #[] #[]),(3,Y (some ⟨b,off+O P*4,none⟩) (O (x::R)) (cap-O P)),(4,U .i64 (m:Int))]) (fun m g p w=>N=g∧n1=p∧Z0=w∧1≤m∧m≤O (x::R)∧∀y∈(x::R).take m,y.b=x.b) (fun m=>O (x::R)-m) 1 ⟨rfl,rfl,rfl,Df⟩ ⟨rfl,rfl,rfl,Dh,cA,fun y hy=>by simp at hy;rw[hy]⟩ (by show(x::R).length-1<LL;unfold LL;omega) ?_;rintro m t _ _ _⟨rfl,rfl,rfl,Z1,H,q⟩;refine zN ?_;rw[yH rfl];by_cases hmR:m=O (x::R)
   .exact LB
   obtain⟨y,a6⟩:∃y,(x::R)[m]?=some y:=⟨_,Dm Z⟩;repeat refine zR ?_
   refine wn R8 Z ?_;refine zM ?_;refine zi R6 J ⟨F,(A a6)⟩ ?_;refine zM ?_;refine wn R8 cA ?_;refine zM ?_;refine zi R6 J ⟨F,(A (i:=0) (y:=x) rfl)⟩ ?_;by_cases hbb:y.b=x.b
   .refine Zo ?_;refine goOn (m+1) (by show _-_<_-_;omega) ⟨rfl,rfl,rfl,Df⟩ ⟨rfl,rfl,rfl,Z,Z,?_⟩;intro u B;rw[List.take_add_one,a6]at B;rcases Ec.1 B with B|B
    .exact q u B
    simp at B;rw[B];exact hbb
   exact LB
  rintro m t _ _ _⟨rfl,rfl,rfl,Z1,H,q⟩;have hg:O ((x::R).take m)=m:=by rw[DW];omega
  have a4:(x::R).take m≠[]:=fun h=>by rw[h]at hg;simp at hg;omega
  have f:E=P++((x::R).take m++(x::R).drop m):=by rw[Ep];exact L
  have ab:Sl N n1 4 (Y (some ⟨b,off+O P*4,none⟩) (O ((x::R).take m)) (cap-O P)) (ents ((x::R).take m)):=
   Sl.ents_sub (.at_ Z J F a8 aj he) f a4
  refine zN ?_;refine zn [0,0,2,6,14,0,0,96,255,511] rfl ?_;refine yQ (v:=.func (.yield l) #[] #[]) rfl rfl rfl rfl rfl ?_;refine dr_S R4 rfl ?_;refine Yb (j:=0) rfl rfl rfl rfl rfl rfl rfl rfl cA ?_;refine dr_P R5 ?_;refine zS R6 (zL rfl J ⟨F,(A (i:=0) (y:=x) rfl)⟩) R2 ?_;refine dr_S R4 rfl ?_;refine dr_I R5 ?_;refine Yc m R9 Z ?_;have D:=hy P ((x::R).take m) ((x::R).drop m) x.b N n1 b (off+O P*4) (cap-O P) f a4 q S G C ab a1 a2;rw[hg]at D;refine WS _ rfl rfl rfl rfl rfl rfl rfl D ?_;rintro h2 n2 w2⟨ac,am,ah,an,ak,c2,ag,a0⟩;refine⟨rfl,am,?_⟩;refine dr_B R5 ?_;rw[uO];refine zN ?_;rw[za rfl];refine Zg ?_;refine Yd m R9 H ai ?_;intro v T;refine zA (v:=v) R5 ?_;refine zN ?_;have aa:∀c∈addW n w2 Z0,W c∧c<3*n:=fun c s=>by
   rcases wG _ _ c s with⟨K,h4⟩|K
   .rcases an c K with h5|h5
    .exact⟨h5,h4⟩
    omega
   exact Z3 c K
  refine goOn (P++(x::R).take m,(x::R).drop m,v) (by show((x::R).drop m).length<O (x::R);rw[Ea];omega) ⟨rfl,rfl,Df⟩ ⟨by rw[DN];exact f,?_,ac,by show n≤n2;omega,fun c s a3=>(ah c Z a3).trans (G c s a3),aa,fun Z4=>?_,.inr ⟨c2,ub (hV c2 a0) ag,a0⟩⟩
  .rcases T with⟨K,h4⟩|⟨K,rfl⟩
   .exact .inl ⟨List.drop_eq_nil_of_le Z,h4⟩
   refine .inr ⟨fun h=>?_,b,off,rfl,?_⟩
   .have:=congrArg O h;simp at this;simp at K;omega
   show _=Y (some ⟨b,off+O (P++(x::R).take m)*4,none⟩) _ _;rw[Do,hg,Ea,show off+O P*4+m*4=off+(O P+m)*4 from Z,Nat.sub_sub]
  have Z4:addW n w2 Z0=[]:=Z4;have:l∈addW n w2 Z0:=ub hl ak;rw[Z4]at this;exact oU this Ds
end
section
variable {ms:List Nat}{i n:Nat}{ef:List (Nat×HF×List Nat)}{d:Tmp}
theorem Yf{ty e:TypeId}{x lo a f:Operand}{b off len cap sz bt i j m:Nat}{z:Value}{G H I:IntKind}(c:Za X ops t o d (o.op=.slice ty x (some lo) (some a) (some f)∧X.E.und ty=some (.slice e)∧X.E.inf e=some (sz,bt,z)∧KM t x=Y (some ⟨b,off,none⟩) len cap∧KM t lo=U G (i:Int)∧KM t a=U H (j:Int)∧KM t f=U I (m:Int)))(l:i≤j)(p:j≤m)(B:m≤cap)(J:i<m)(A:gro b=false)
  (k:EO X ops r ⟨upd t d (Y (some ⟨b,off+i*sz,none⟩) (j-i) (m-i)),h,n,w⟩ Q):EO X ops (o::r) ⟨t,h,n,w⟩ Q:=by
 obtain⟨c,y,C,q,D,g,F,s,u,v⟩:=c;refine zA ⟨c,y,C,A3,?_⟩ k;rw[q];show mr X.E ty (KM t x) (KM t lo) (KM t a) (KM t f)=_;rw[F,s,u,v];have e:offA m i sz ⟨b,off,none⟩=⟨b,off+i*sz,none⟩:=by
  unfold offA;have:Eh m i=false:=by
   cases hb:Eh m i with
   |false=>rfl
   |true=>have:=Eb hb;omega
  rw[this,ws]
 simp only[mr,D,g,Dv l,Dv p,Dv B,A,EF,Gf,F2,e,Int.ofNat_eq_natCast]
end
def Yg(k:Nat)(b off c K:Nat)(I:Nat→HF→Nat→Prop)(W:Nat→Prop)(l:Nat)(h:HF)(n:Nat):Prop:=
 ∀(s:Nat) (h':HF) (n':Nat),s<K→n≤n'→(∀c,c<3*n→¬W c→h' c=h c)→I s h' n'→
  YF (KO k) l [Y (some ⟨b,off+s*c*4,none⟩) c c] h' n' fun h2 n2 w=>I (s+1) h2 n2∧n'≤n2∧(∀c,c<3*n'→¬W c→h2 c=h' c)∧(∀c∈w,W c∨3*n'≤c)∧l∈w
theorem Yh(k:Nat){h:HF}{n l q p b off c K cap:Nat}{W:Nat→Prop}{e e2:TypeId}{I:Nat→HF→Nat→Prop}(hl:l<3*n)(Z4:h q=some (.row [Y (some ⟨b,off,none⟩) (K*c) cap] e))(V:h p=some (.row [U .i64 (c:Int)] e2))(R:q<3*n∧¬W q)(J:p<3*n∧¬W p)(f:0<c)(M:K*c≤cap)(hb:K*c<1000000)(hg:gro b=false)(hI:I 0 h n)(hy:Yg k b off c K I W l h n):
  CF (KO (k+1)) 242 [.func (.yield l) #[] #[],Dn (some ⟨q,0,none⟩),Dn (some ⟨p,0,none⟩)] h n fun _ u y w=>I K u y∧n≤y∧(∀c,c<3*n→¬W c→u c=h c)∧∀c∈w,W c∧c<3*n:=by
 refine ph (fn:=Tryz.f242) R4 ?_;refine Zc ?_;refine zK (α:=Nat) (fun s=>[(0,.func (.yield l) #[] #[]),(1,Dn (some ⟨q,0,none⟩)),(2,Dn (some ⟨p,0,none⟩)),(4,U .i64 ((s*c:Nat):Int))])
  (fun s u y w=>s≤K∧I s u y∧n≤y∧(∀c,c<3*n→¬W c→u c=h c)∧(∀c∈w,W c∧c<3*n)∧(w=[]→s=0∧u=h∧y=n)) (fun s=>K-s)
  0 ⟨rfl,rfl,rfl,by rw[EI];rfl,Df⟩ ⟨Di,hI,Dh,fun _ _ _=>rfl,fun c f=>oU f Ds,fun _=>⟨rfl,rfl,rfl⟩⟩ (by show K-0<LL;have:=Gr K f;unfold LL;omega) ?_
 rintro s t h3 n3 Z1⟨hs,A,B,g,H,a1⟩;have D:=(g q R.1 R.2).trans Z4;have p2:=(g p J.1 J.2).trans V;by_cases hsK:s=K
 .subst hsK;refine Zd ?_;refine zi R6 D R2 ?_;refine Zk ?_;exact⟨rfl,[],rfl,⟨A,B,g,H⟩,fun C=>by
   obtain⟨z1,z2,z3⟩:=a1 C;subst z2 z3;exact⟨A,B,fun _ _ _=>trivial,fun c f=>oU f Ds⟩⟩
 have Z3:(s+1)*c≤K*c:=Dw _ Z;rw[Fb]at Z3;refine Zd ?_;refine zi R6 D R2 ?_;refine Zq ?_;rw[yH rfl];refine zi R6 p2 R2 ?_;refine zi R6 D R2 ?_;refine zM ?_;refine u5 (s*c) R9 Z M (.inl Z) ?_;refine zM ?_;refine st_I (ik:=.i64) (a:=(c:Int)) ⟨rfl,rfl,rfl,rfl,?_⟩ ?_
 .show some (U .i64 (if((K*c-s*c:Nat):Int)<(c:Int)then((K*c-s*c:Nat):Int)else(c:Int)))=_;rw[CT Z]
 refine Zn ?_;refine zA (v:=.func (.yield l) #[] #[]) R5 ?_;refine zi R6 D R2 ?_;repeat refine zR ?_
 refine Yf (i:=s*c) (j:=s*c+c) (m:=s*c+c) Rq Z Z Z Z hg ?_;rw[Fa];refine WR _ rfl rfl rfl rfl rfl (hy s h3 n3 Z B g A) ?_;rintro h4 n4 P⟨T,a3,G,a0,Z0⟩;refine Zk ?_;have a2:=(G p Z J.2).trans p2;refine zM ?_;refine zi R6 a2 R2 ?_;refine Zb ?_;have N:∀c∈addW n P Z1,W c∧c<3*n:=fun c f=>by
  rcases wG _ _ c f with⟨L,h6⟩|L
  .rcases a0 c L with S|S
   .exact⟨S,h6⟩
   omega
  exact H c L
 refine goOn (s+1) (by show K-(s+1)<K-s;omega) ⟨rfl,rfl,rfl,by rw[Fb];rfl,Df⟩ ⟨by show s+1≤K;omega,T,by show n≤n4;omega,fun c f F=>(G c Z F).trans (g c f F),N,fun C=>?_⟩;have C:addW n P Z1=[]:=C;have:l∈addW n P Z1:=ub hl Z0;rw[C]at this;exact oU this Ds
section
variable {N b k len:Nat}{sT:TypeId}{x:Operand}{z:Value}
def GR{D:Type}(sz:Nat)(P:List Value→D→HF→Nat→Prop)(lo:Nat)(h:HF)(n:Nat)(e:TypeId)(v:Value)(ds:List D):Prop:=∃C,Gro h lo n e sz v (O ds) C∧Rec sz (fun c d=>P c d h n) C ds∧C.all nu=true
section
variable {D:Type}{sz n:Nat}{P:List Value→D→HF→Nat→Prop}{ds:List D}
theorem GR.nil:GR sz P lo h n e (Y none 0 0) ([]:List D):=⟨[],.nil,.nil,rfl⟩
theorem GR.as{a:List D}(g:GR sz P lo h n e v ds)(f:ds=a):GR sz P lo h n e v a:=f▸g
theorem GR.go(g:GR sz P lo h n e v ds)(q:KP sz P)(t:Tr n h n' h')(p:∀b,BkOf v b→h' b=h b):GR sz P lo h' n' e v ds:=by
 obtain⟨C,a,f,j⟩:=g;refine⟨C,?_,f.mono fun _ _ r=>q.t r t,j⟩;generalize (O ds)=L at a;cases a with
 |nil=>exact .nil
 |at_ hg hlo hb hr hl ho=>exact .at_ hg hlo BN ((p _ ⟨_,_,_,rfl⟩).trans hr) hl ho
theorem GR.bk(g:GR sz P lo h n e v ds):∀b,BkOf v b→3*lo≤b∧b<3*n∧gro b=true∧Ni (h b):=by
 obtain⟨C,a,j,f⟩:=g;generalize (O ds)=L at a;rintro b⟨o,l,c,rfl⟩;cases a with
 |at_ hg hlo hb hr hl ho=>exact⟨hlo,hb,hg,.row hr f⟩
theorem GR.shape(g:GR sz P lo h n e v ds){L:Nat}(j:O ds=L):∃a,v=Y a L L:=by
 obtain⟨C,f,p,q⟩:=g;subst j;obtain⟨a,e,_⟩:=f.shape;exact⟨a,e⟩
theorem GR.or(g:GR sz P lo h n e v ds){L:Nat}(p:O ds=L)(h0:L≠0):∃b,v=Y (some ⟨b,0,none⟩) L L∧gro b=true∧3*lo≤b∧OR sz P h n b ds∧MX h b e:=by
 obtain⟨C,a,f,j⟩:=g;rw[p]at a;cases a with
 |nil=>exact oU rfl h0
 |at_ hg hlo hb hr hl ho=>exact⟨_,rfl,hg,hlo,⟨hb,_,_,hr,j,f⟩,_,hr⟩
theorem OR.gr(o:OR sz P h n b ds)(B:KP sz P)(A:MX h b e)(y:gro b=true)(p:3*lo≤b){L:Nat}(s:O ds=L):GR sz P lo h n e (Y (some ⟨b,0,none⟩) L L) ds:=by
 obtain⟨u,C,G,g,j,a⟩:=o;obtain⟨F,f⟩:=A;rw[f]at g;cases g;subst s;have q:ones C=true:=by
  clear f j;induction a with
  |nil=>rfl
  |cons hl hp hr ih=>exact wI (B.c hp).2.2 ih
 exact⟨_,.at_ y p u f a.len q,a,j⟩
end
theorem QT{m lo i:Nat}{r:List (Nat×Nat)}(f:b<3*lo)(a:∀b∈W,3*lo≤b)(k:yd m W r=true):yd m W ((i,b)::r)=true:=by
 have g:memN b W=false:=by
  clear k;induction W with
  |nil=>rfl
  |cons c W ih=>
   have j:=a c (Fj ..);unfold memN;cases he:Eh b c with
   |true=>have:=Eb he;omega
   |false=>exact ih fun b f=>a b (Fm _ f)
 unfold yd;rw[g,Gf,Bool.or_true];exact k
theorem QU{m i:Nat}{r:List (Nat×Nat)}(a:m.testBit i=true)(k:yd m W r=true):yd m W ((i,b)::r)=true:=by
 unfold yd;rw[a,Bool.true_or];exact k
section
variable {ms:List Nat}{i n:Nat}{ef:List (Nat×HF×List Nat)}{d:Tmp}
theorem QW{D:Type}{sz:Nat}{P:List Value→D→HF→Nat→Prop}{e:TypeId}{s:Operand}{lo:Nat}{ds:List D}{q:D}{v:Value}(c:List Value)(g:GR sz P lo h n e v ds)(u:KP sz P)(p:P c q h n)(V:argS h sz (KM t x) 1 c)(T:ds.length<1000000)(G:lo≤n)(F:∀W:List Nat,(∀b∈W,3*lo≤b)→yd m W ld=true)
  (k:∀f h' W,(∀b∈W,3*lo≤b)→GR sz P lo h' (n+1) e f (ds++[q])→Tr n h (n+1) h'→Exa lo h h'→(∀b,b<3*n→¬BkOf v b→h' b=h b)→(∀b,BkOf f b→3*n≤b)→ED X ops r ms (i+1) ⟨⟨upd t d f,h',n+1,addW n0 W w⟩,al,ld,(i,h,W)::ef⟩ Q)
  (Z4:zh ops t o=true:=by exact rfl)(hd:o.dst=some d:=by exact rfl)(hn:zu X.nt (some d)=true:=by exact rfl)(ho:o.op=.call {callee:=.builtin .append,args:=#[s,x],argTypes:=#[sT,xT]}:=by exact rfl)(hv:KM t s=v:=by exact rfl)(hxT:(match X.E.und xT with|some (.int _)=>false|none=>false|_=>true)=true:=by exact rfl)(hu:X.E.und sT=some (.slice e):=by exact rfl)(hi:X.E.inf e=some (sz,bytes,z):=by exact rfl)(hz:(zr z).length=sz:=by exact rfl)(h1:1≤sz∧1≤bytes∧bytes≤1000:=by decide)(g1:xF m ef=true:=by exact rfl)(g2:xW m al=true:=by exact rfl)(hX:X.n0=n0:=by exact rfl):ED X ops (o::r) (m::ms) i ⟨⟨t,h,n,w⟩,al,ld,ef⟩ Q:=by
 have S:=g;obtain⟨C,J,Z0,Z3⟩:=g;subst hv;obtain⟨y,H,I⟩:=u.c p;have a:(ds.length+1)*bytes≤1099511627776:=Nat.le_trans (Nat.mul_le_mul (show ds.length+1≤1000000 by omega) h1.2.2) zd;obtain⟨f,h',W,K,L,M,Z1,A,R⟩:=uk hu hi hz ⟨h1.1,h1.2.1⟩ J V (Nat.le_refl _) a (by rw[Nat.one_mul];exact y) I G;refine lg Z4 hd hn ho hxT K g1 g2 (F W A) zs ?_;rw[hX];have B:∀b,b<3*n→¬BkOf (KM t s) b→h' b=h b:=fun b a hn=>Z1 b a fun o l c e=>hn ⟨o,l,c,e⟩;have j:Tr n h (n+1) h':=⟨Nat.le_succ _,fun b a=>by
  by_cases hB:BkOf (KM t s) b
  .exact .inr (S.bk b hB).2.2.2
  .exact .inl (B b a hB)⟩
 refine k f h' W A ⟨C++c,by rw[List.length_append];exact L,(Z0.mono fun _ _ r=>u.t r j).snoc y (u.t p j),by rw[List.all_append,Z3,H];rfl⟩ j ⟨M⟩ B fun b⟨o,l,cc,e⟩=>?_;subst e;exact R
theorem LN{a:Operand}{sz:Nat}{c:List Value}{e:TypeId}(c':List Value)(k:∀h',h' b=some (.row c' e)→Lm b h h'→EO X ops r ⟨t,h',n,w⟩ Q)(f:zh ops t o=true:=by exact rfl)(hd:o.dst=none:=by exact rfl)(ho:o.op=.store ty a x:=by exact rfl)(hi:X.E.inf ty=some (sz,bt,z):=by exact rfl)(ha:KM t a=.pointer (some ⟨b,off,none⟩):=by exact rfl)(hb:h b=some (.row c e):=by exact zp)(hu:c.all nu=true:=by exact rfl)(hx:zr (KM t x)=cs:=by exact rfl)(hs:cs.length=sz:=by exact rfl)(h1:ones cs=true:=by exact rfl)(hl:off+sz≤c.length:=by exact zb)(hsp:zv c off cs=c':=by exact rfl)(hX:X.n0=n0:=by exact rfl)(hnew:3*n0≤b:=by omega):EO X ops (o::r) ⟨t,h,n,w⟩ Q:=
 MY c' hb (fun h' p q=>by rw[wF hnew];exact k h' p q) f hd ho hi ha hu hx hs h1 hl hsp hX
theorem QX{e:TypeId}(cs:List Value)(k:∀h',h' (3*n+2)=some (.row cs e)→KN n h h'→ED X ops r ms (i+1) ⟨⟨upd t d (.slice (some ⟨3*n+2,0,none⟩) l c),h',n+1,w⟩,(i,3*n+2)::al,ld,ef⟩ Q)(a:zh ops t o=true:=by exact rfl)(hd:o.dst=some d:=by exact rfl)(hn:zu X.nt (some d)=true:=by exact rfl)(hc:KS o.op=2:=by exact rfl)(hm:KX X.E o.op (KM t)=some ⟨cs,e,false,some (l,c)⟩:=by exact rfl):ED X ops (o::r) (m::ms) i ⟨⟨t,h,n,w⟩,al,ld,ef⟩ Q:=
 NM ⟨a,hd,hn,hc,hm⟩ (k _ (ze _ _ _) (KN.upd (show 3*n≤3*n+2 by omega)))
end
theorem vZ{l w:List Nat}{p:Nat→Prop}(a:∀c∈l,p c)(f:∀c∈w,p c):∀c∈addW n0 l w,p c:=fun c g=>by
 rcases wG _ _ c g with⟨h,_⟩|h
 .exact a c h
 exact f c h
theorem oF(h:gro b=true):b≠3*k+2:=fun e=>by rw[e,yv]at h;cases h
theorem RS.sub{D:Type}{sz:Nat}{P:List Value→D→HF→Nat→Prop}(y:0<sz){h:HF}{n:Nat}{l:List D}(q:RS sz P h n (Y (some ⟨b,off,none⟩) len cap) l){m f:Nat}(H:m+c≤len)(A:c≤f):RS sz P h n (Y (some ⟨b,off+m*sz,none⟩) c f) ((l.drop m).take c):=by
 have G:=q.len' y;obtain⟨a,s,r⟩:=q;by_cases h0:len=0
 .have j:c=0:=Z;have g:=s.below;subst j;rw[Fe];exact⟨[],.nil (.inr ⟨_,_,_,rfl,g⟩),.nil⟩
 obtain⟨_,_,x,cs,e,g,J,p,B,K,F⟩:=s.inv h0;injection e with e
 injection e with e1 e2
 subst e1 e2;have u:=Dw sz H;rw[DE]at u;refine⟨(a.drop (m*sz)).take (c*sz),.at_ g J p A Z (mb F Z),?_⟩;have C:∀{m:Nat} {a:List Value} {l:List D},Rec sz (fun c d=>P c d h n) a l→Rec sz (fun c d=>P c d h n) (a.drop (m*sz)) (l.drop m):=by
  intro m;induction m with
  |zero=>intro a l r;rw[EI];exact r
  |succ m ih=>
   intro a l r;cases r with
   |nil=>rw[ai5,ai5];exact .nil
   | @cons c1 cs1 d1 ds1 hl hp hr=>
    rw[List.drop_succ_cons,Fb,EY (m*sz) sz,←ES,GC hl];exact ih hr
 have I:∀{c:Nat} {a:List Value} {l:List D},Rec sz (fun c d=>P c d h n) a l→Rec sz (fun c d=>P c d h n) (a.take (c*sz)) (l.take c):=by
  intro c;induction c with
  |zero=>intro a l r;rw[EI,Fe,Fe];exact .nil
  |succ c ih=>
   intro a l r;cases r with
   |nil=>rw[ai6,ai6];exact .nil
   | @cons c1 cs1 d1 ds1 hl hp hr=>
    rw[Ja,Fb,EY (c*sz) sz,List.take_append,List.take_of_length_le Z,hl,Fa];exact .cons hl hp (ih hr)
 exact I (C r)
theorem QS.sub{h:HF}{n:Nat}{l:List Rat}(q:QS h n (Y (some ⟨b,off,none⟩) len cap) l){m a:Nat}(g:m+c≤len)(f:c≤a):QS h n (Y (some ⟨b,off+m*4,none⟩) c a) ((l.drop m).take c):=RS.sub zd q g f
theorem jv{i:Nat}{a:Nat→Nat→Rat}(f:i<N):((tabL N a).drop (i*N)).take N=rowQ N a i:=by
 refine Fh fun j=>?_;unfold rowQ;rw[List.getElem?_take,Em,DB];by_cases hj:j<N
 .rw[De hj,rz f hj,Et hj];rfl
 rw[CT hj,DS Ab];rfl
theorem Yi(k:Nat)(h:HF)(n:Nat){v:Value}(hv:∃a l k,v=Y a l k)(hc:0<c∧c<1000000):CX (KO (k+1)) 226 [v,U .i64 (c:Int)] h n fun u h' n'=>u=.func (.func 242) #[] #[Dn (some ⟨3*n+2,0,none⟩),Dn (some ⟨3*(n+1)+2,0,none⟩)]∧n'=n+2∧(∃e,h' (3*n+2)=some (.row [v] e))∧∃e,h' (3*(n+1)+2)=some (.row [U .i64 (c:Int)] e):=by
 obtain⟨a,l,f,rfl⟩:=hv;refine zl (fn:=Tryz.f226) R4<|zG ?_;refine sB [Y a l f] ?_;intro g p s;refine sB [U .i64 (c:Int)] ?_;intro j q y;refine zA (v:=.nilFunc) R5<|zG ?_;refine zA (v:=.func (.func 242) #[] #[Dn (some ⟨3*n+2,0,none⟩),Dn (some ⟨3*(n+1)+2,0,none⟩)]) ⟨rfl,rfl,rfl,rfl,?_⟩ ?_
 .show some (HU (.func _) (IN (KM _) #[]) (IN (KM _) #[.tmp 2,.tmp 3]))=_;simp only[H3,GJ,H9];rfl
 refine zA (v:=.func (.func 242) #[] #[Dn (some ⟨3*n+2,0,none⟩),Dn (some ⟨3*(n+1)+2,0,none⟩)]) R5 ?_;refine zq ?_;exact⟨rfl,rfl,⟨_,zp⟩,⟨_,zp⟩⟩
end
section
variable {d k n:Nat}
theorem fW{X:CtxF}{g:Operand}{i:FuncId}{first cap:Array Value}{o:Array Tmp}{t:TF}{Q:Ex→SV→Prop}(B:X.round=none)(A:KM t g=.func (.func i) first cap)
  (f:∀hB,hB (3*n+2)=some .dfr→hB (3*(n+1)+2)=some (.loop true none t X.nt o.toList assign body (3*n+2))→KN n h hB→CF X.C i (first.toList++([.func (.yield (3*(n+1)+2)) #[] #[]]++cap.toList)) hB (n+2)
   fun _ b m p=>b (3*(n+1)+2)=hB (3*(n+1)+2)∧b (3*n+2)=hB (3*n+2)∧∀e,(∀c,c≠3*(n+1)+2→c≠3*n+2→e c=b c)→Q .normal ⟨t,e,m,addW X.n0 p w⟩):EC X (.rangeFunc g o assign body) ⟨t,h,n,w⟩ Q:=by
 refine WQ B A (yD (f _ ((zg Z).trans (ze _ _ _)) (ze _ _ _) (fun c f=>by rw[zg Z,zg Z])) ?_);rintro v b m p⟨q,e,u⟩;exact⟨⟨_,_,_,_,_,_,q.trans (ze _ _ _)⟩,e.trans ((zg Z).trans (ze _ _ _)),u _ fun c f y=>by rw[zg y,zg f]⟩
theorem fV{τ q:TF}{o:List Tmp}{P:HF→Nat→List Nat→Prop}(i:h l=some (.loop true none τ nt o assign body d))(y:Eh (O args) (O o)=true)(A:oh nt o args τ=some q)
  (B:EC (ctxR k n nt l) assign ⟨q,h,n,[]⟩ fun e s=>e=.normal∧s.h l=h l∧∀b,LJ l s.h b→EC (ctxR k n nt l) body ⟨s.t,b,s.n,l::s.w⟩ fun u g=>u=.normal∧g.h l=b l∧∀f,f l=h l→LJ l g.h f→P f g.n (l::g.w)):YF (KO (k+1)) l args h n P:=by
 refine WP i y A (si B ?_);rintro e s⟨rfl,b,f⟩;refine⟨rfl,b.trans i,si (f _ ⟨fun c m=>zg m,_,b.trans i,rfl⟩) ?_⟩;rintro e g⟨rfl,p,v⟩;exact⟨rfl,p.trans (ze _ _ _),v _ ((ze _ _ _).trans i.symm) ⟨fun c m=>zg m,_,p.trans (ze _ _ _),rfl⟩⟩
def LU(N:Nat)(a:Nat→Nat→Rat)(s:Nat):List Int:=(D9 (s*N)).map fun m=>tT N a (m/N) (m%N)
def preL(N:Nat)(a:Nat→Nat→Rat)(s j:Nat):List Int:=LU N a s++(D9 j).map (Ln N a s)
def midL(N:Nat)(a:Nat→Nat→Rat)(s k:Nat):List Int:=LU N a s++(D9 N).map fun j=>if j<k then tT N a s j else Ln N a s j
section
variable {N s j:Nat}{a:Nat→Nat→Rat}
theorem ul:O (LU N a s)=s*N:=by unfold LU;rw[DC,Fg]
theorem nv:O (preL N a s j)=s*N+j:=by unfold preL;rw[Do,ul,DC,Fg]
theorem az:O (midL N a s j)=s*N+N:=by unfold midL;rw[Do,ul,DC,Fg]
theorem Yj:preL N a s 0=LU N a s:=by unfold preL;rw[List.range_zero,H9,DZ]
theorem Yk:preL N a s j++[Ln N a s j]=preL N a s (j+1):=by unfold preL;rw[af2,EN,DN];rfl
theorem Yl:preL N a s N=midL N a s 0:=by
 unfold preL midL;congr 1
theorem Ym(b:j<N):(midL N a s j)[s*N+j]?=some (Ln N a s j):=by
 unfold midL;rw[DL (by rw[ul];omega),ul,Fa,DB,Et b];show some (if j<j then _ else _)=_;rw[CT (GM _)]
theorem Yn(b:j<N):(midL N a s j).set (s*N+j) (tT N a s j)=midL N a s (j+1):=by
 unfold midL;rw[Eo _ _ (by rw[ul];omega),ul,Fa];congr 1;refine Fh fun m=>?_;rw[Gd,DC,Fg,DB,DB];by_cases hm:m<N
 .rw[Et hm];by_cases e:j=m
  .subst e;rw[De rfl,De b];show _=some (if _ then _ else _);rw[De (G1 _)]
  rw[CT e];show some (if _ then _ else _)=some (if _ then _ else _);by_cases h2:m<j
  .rw[De h2,De Z]
  rw[CT h2,CT Z]
 rw[DS (l:=D9 N) Ab,CT Z];rfl
theorem Yo:midL N a s N=LU N a (s+1):=by
 unfold midL;refine Fh fun m=>?_;by_cases h1:m<s*N
 .rw[En (by rw[ul];exact h1)];unfold LU;rw[DB,DB,Et h1,Et AY]
 rw[DL (by rw[ul];omega),ul,DB];unfold LU;rw[DB];by_cases h2:m<s*N+N
 .obtain⟨j,rfl⟩:∃j,m=s*N+j:=⟨m-s*N,Z⟩;have b:j<N:=Z;rw[Fa,Et b,Et (by rw[DE,EM];omega)];show some (if _ then _ else _)=some (tT N a ((s*N+j)/N) ((s*N+j)%N));rw[De b,(iu b).1,(iu b).2]
 rw[DS Ab,DS (by rw[Fg,DE,EM];omega)];rfl
end
end
section
variable {b k n:Nat}
theorem qf:(Lf k n nt).n0=n:=rfl
def NT(N:Nat)(a:Nat→Nat→Rat)(lo bt l:Nat)(B:Option BF)(s:Nat)(h:HF)(n:Nat):Prop:=h l=B∧∃vE vS ty,h bt=some (.row [U .i64 (N:Int),vE,vS] ty)∧GR 2 intP lo h n 137 vE (LU N a s)∧GR 4 ratP lo h n 139 vS ((D9 s).map (tS N a))∧∀b,BkOf vE b→¬BkOf vS b
section
variable {N:Nat}{a:Nat→Nat→Rat}
theorem dr(k:Nat)(g:GG h n)(hq:QS h n (Y (some ⟨b,off,none⟩) (N*N) cap) (tabL N a))(e8:gro b=false)(d6:N*N≤cap)(hN:1≤N∧N≤3)(hD:0<D)(cn:D<BW)(hd:∀i j,i<N→j<N→(a i j).den∣D)(hB:∀i j,i<N→j<N→FN D B (a i j))(e6:1≤B)(bo:B<BW)(hz:∀i j,i<N→j<N→Sz m (a i j))(hm:m≤2496):
  CX (KO (k+13)) 202 [Y (some ⟨b,off,none⟩) (N*N) cap,U .i64 (N:Int)] h n fun v u w=>∃bt d bs,v=Dn (some ⟨bt,0,none⟩)∧(∃ty,u bt=some (.row [U .i64 (N:Int),Y (some ⟨d,0,none⟩) (N*N) (N*N),Y (some ⟨bs,0,none⟩) N N] ty))∧OZ u w d (tabL N (tT N a))∧OR 4 ratP u w bs ((D9 N).map (tS N a))∧bt<3*w∧d≠bs∧d≠bt∧bs≠bt∧3*n≤bt∧3*n≤d:=by
 have G:=LH hN.2;have fg:b<3*n:=by
  obtain⟨f2,s,_⟩:=hq;exact s.below
 refine zl (fn:=Tryz.f202) R4<|zG ?_;refine sT #[U .i64 (N:Int),Y none 0 0,Y none 0 0] ?_;refine sB [U .i64 (N:Int),Y none 0 0,Y none 0 0] ?_;intro h1 p1 x1;refine sA ?_;intro h2 p2 x2;refine sS [Dn (some ⟨3*n+2,0,none⟩)] ?_;intro h3 p3 o3;refine zG ?_;refine sC (Yi _ _ _ (c:=N) ⟨_,_,_,rfl⟩ ⟨Z,Z⟩) ?_;rintro _ h4 n4⟨rfl,rfl,⟨e1,q1⟩,e2,q2⟩ y4 x4;refine zG ?_;refine fW rfl rfl ?_;intro bn dp bd xB;have q3:=(xB (3*n+2) Z).trans ((x4 (3*n+2) Z).trans ((o3.1 (3*n+2) Z).trans ((x2 (3*n+2) Z).trans p1)));have q5:=(xB (3*(n+1)+2) Z).trans ((x4 (3*(n+1)+2) Z).trans p3);have xh:KN n h bn:=(zx:Tx n h (n+1+1+2) bn).2;obtain⟨y,e9⟩:∃y,y=n+1+1+2+2:=⟨_,rfl⟩;obtain⟨l,hl⟩:∃l,l=3*(n+1+1+2+1)+2:=⟨_,rfl⟩;rw[←hl]at bd;rw[←e9,←hl];have Z4:∀c,c<3*y→c≠3*n+2→c≠l→¬(c=3*n+2∨c=l∨3*y≤c):=fun c h1 h2 h3 h=>Z
 refine yD (Yh (k+11) (I:=NT N a y (3*n+2) l (bn l)) (W:=fun c=>c=3*n+2∨c=l∨3*y≤c) (K:=N) (c:=N) Z ((xB _ Z).trans q1) ((xB _ Z).trans q2) ⟨Z,Z4 _ Z Z Z⟩ ⟨Z,Z4 _ Z Z Z⟩ Z d6 Z e8 ⟨rfl,_,_,_,q3,GR.nil.as (by unfold LU;rw[EI];rfl),GR.nil,fun b⟨_,_,_,h⟩=>by cases h⟩ ?_) ?_
 .intro s hr A hs fi cq ⟨ct,vE,vS,c6,qT,gE,gS,dj⟩;refine fV (ct.trans bd) rfl rfl<|zG ?_;refine⟨trivial,trivial,fun S L1=>?_⟩;have xr:KN n h S:=fun c hc=>(L1.1 c Z).trans ((cq c Z (Z4 c Z Z Z)).trans (xh c hc));have fw:=(L1.1 (3*n+2) Z).trans qT;have ev:=(L1.1 (3*(n+1)+2) Z).trans ((cq _ Z (Z4 _ Z Z Z)).trans q5);have cd:Tr A hr A S:=Tr.l L1 (FS _ _);have bg:=gE.go HA cd (fun b hb=>L1.1 b (by have:=(gE.bk b hb).1;omega));have bh:=gS.go Fq cd (fun b hb=>L1.1 b (by have:=(gS.bk b hb).1;omega));obtain⟨aE,rfl⟩:=bg.shape ul;obtain⟨aS,rfl⟩:=bh.shape (L:=s) nP;have da:=kK hs;have c3:QS h n (Y (some ⟨b,off+s*N*4,none⟩) N N) (rowQ N a s):=(jv hs)▸hq.sub da (Fu N);have fj:O (rowQ N a s)=N:=by unfold rowQ;rw[DC,Fg]
  have bv:∀j,j<N→(Ln N a s j).natAbs<BW:=fun j hj=>DP (jU (hd s · hs) hD (hB s · hs) hj) bo;have d7:∀j,j≤N→((LS (Ln N a s) j:Nat):Int).natAbs<BW:=fun j hj=>by
   rw[DQ];exact DP (QJ fun i hi=>jU (hd s · hs) hD (hB s · hs) (show i<N by omega)) bo
  have co:(Lz N a s:Int).natAbs<BW:=by
   rw[DQ];exact DP (QO (hd s · hs) hD (hB s · hs) e6) bo
  have bp:(Lz N a s:Int)≠0:=by have:=lR (f:=Ln N a s) (m:=N);unfold Lz;omega
  have cp:((deni N a s:Nat):Int).natAbs<BW:=by
   rw[DQ];exact DP (QN (hd s · hs) hD) cn
  refine zG ?_;refine sC (XV _ (g.x zx) (c3.x zx) hD cn (fun q ea=>by
   obtain⟨j,hj,rfl⟩:=EX.1 ea;exact hd s j hs (Gy.1 hj)) Z) ?_
  rintro _ h5 o⟨b5,a5,l5,c5,rfl,i5⟩ y5 x5;have i5:IW h5 o b5 a5 l5 c5 ((deni N a s:Nat):Int):=i5;refine sA ?_;intro h6 p6 x6;refine LN (n0:=A) [Dk b5,Y a5 l5 c5] ?_;intro h7 p7 o7;refine Zs ?_;intro h8 p8 x8;refine zG ?_;have e4:=bg.go HA (zt:Tr A S (o+1+1) h8) (fun b hb=>by
   have h1:=bg.bk b hb;have e0:S b=S b:=rfl;exact zp)
  have e5:=bh.go Fq (zt:Tr A S (o+1+1) h8) (fun b hb=>by
   have h1:=bh.bk b hb;have e0:S b=S b:=rfl;exact zp)
  refine sF (α:=Nat×Value×Bool×Option Addr×Nat×Nat) (fun z=>[(5,Dn (some ⟨3*(n+1)+2,0,none⟩)),(6,Y (some ⟨b,off+s*N*4,none⟩) N N),(7,Dn (some ⟨3*o+2,0,none⟩)),(8,U .i64 ((s*N:Nat):Int)),(9,Dn (some ⟨3*(o+1)+2,0,none⟩)),(29,Y (some ⟨b,off+s*N*4,none⟩) N N),(30,U .i64 (N:Int)),(31,U .i64 (z.1:Int))])
   (fun z u w w'=>o+1+1≤w∧ExtB y [3*n+2] S u∧Tr (o+1+1) h8 w u∧u (3*n+2)=some (.row [U .i64 (N:Int),z.2.1,Y aS s s] c6)∧u (3*o+2)=some (.row [Dk b5,Y a5 l5 c5] 137)∧u (3*(o+1)+2)=some (.row [Dk z.2.2.1,Y z.2.2.2.1 z.2.2.2.2.1 z.2.2.2.2.2] 137)∧GR 2 intP y u w 137 z.2.1 (preL N a s z.1)∧GR 4 ratP y u w 139 (Y aS s s) ((D9 s).map (tS N a))∧IW u w z.2.2.1 z.2.2.2.1 z.2.2.2.2.1 z.2.2.2.2.2 ((LS (Ln N a s) z.1:Nat):Int)∧(∀b,BkOf z.2.1 b→¬BkOf (Y aS s s) b)∧z.1≤N∧(∀c∈w',c=3*n+2∨c=l∨3*y≤c)∧l∈w')
   (fun z=>N-z.1) (0,Y aE (s*N) (s*N),false,none,0,0) ⟨Dh,fun c hc hn=>(zy:ExtB A [3*n+2] S h8) c Z hn,FS _ _,zp,zp,p8,e4.as Yj.symm,e5,GH _ _,dj,Di,fun c hc=>.inr (.inl (Dx.1 hc)),Dx.2 rfl⟩ ?_
  rintro⟨j,v,bC,aC,lC,kC⟩ t G Z0 w9 ⟨y9,Y9,T9,q9,ch,ci,V,gT,iC,ai,hj,b4,b3⟩;have y9:o+1+1≤Z0:=y9;have T9:Tr (o+1+1) h8 Z0 G:=T9;have q9:G (3*n+2)=some (.row [U .i64 (N:Int),v,Y aS s s] c6):=q9;have ci:G (3*(o+1)+2)=some (.row [Dk bC,Y aC lC kC] 137):=ci;have V:GR 2 intP y G Z0 137 v (preL N a s j):=V;have iC:IW G Z0 bC aC lC kC ((LS (Ln N a s) j:Nat):Int):=iC;have hj:j≤N:=hj;have ai:∀b,BkOf v b→¬BkOf (Y aS s s) b:=ai;have b4:∀c∈w9,c=3*n+2∨c=l∨3*y≤c:=b4;have b3:l∈w9:=b3;have i9:IW G Z0 b5 a5 l5 c5 ((deni N a s:Nat):Int):=(i5.x zx:IW h8 (o+1+1) b5 a5 l5 c5 _).t T9;obtain⟨aV,rfl⟩:=V.shape nv;refine zG ?_;by_cases qj:(j:Int)<(N:Int)
  .have a7:j<N:=Z;refine zG ?_;obtain⟨kk,fm,dm,dk,l10,dq,dw,dx,dy,dz,e,en,ew,ex,ee,ek⟩:=QS.at c3 (q:=a s j) (j:=j) (by unfold rowQ;rw[DB,Et a7];rfl);refine sI e ew ?_;refine sL ex en 0 ?_;refine sA ?_;intro ay fr cx;refine LN (n0:=A) [Dk dm,Y dk l10 dq,Dk dw,Y dx dy dz] ?_;intro H fs fo;refine zG ?_;refine sC (XE _ (ee.x zx) (ek.x zx) (i9.t zt) (uR (hz s j hs a7).1 hm) (uR (hz s j hs a7).z hm) cp) ?_;rintro _ p M⟨ag,af,ak,ah,rfl,a9⟩ c8 fz;have a9:IW p M ag af ak ah (Ln N a s j):=a9;refine sA ?_;intro bm ft f1;refine LN (n0:=A) [Dk ag,Y af ak ah] ?_;intro a4 c1 fp;refine zG ?_;refine sC (gcdX _ (g.x zx) (iC.t zt) (a9.t zt) (d7 j hj) (bv j a7)) ?_;rintro _ cl al⟨ap,ao,b6,aq,rfl,eg⟩ g6 g0;refine LN (n0:=A) [Dk ap,Y ao b6 aq] ?_;intro b0 cw ac;refine zG ?_;refine zn [0,0,2,6,14,0,32,126,255,511,1023] rfl<|zH ?_;refine QX [Dk ag,Y af ak ah] ?_;intro Z3 er g2;have b2:∀c,c<3*Z0→c≠3*(o+1)+2→Z3 c=G c:=fun c hc hn=>by
    have e0:G c=G c:=rfl;exact zp
   have ba:Tr Z0 G (al+1) Z3:=zt;have d3:=V.go HA ba (fun b hb=>b2 b (V.bk b hb).2.1 (oF (V.bk b hb).2.2.1));have am:=gT.go Fq ba (fun b hb=>b2 b (gT.bk b hb).2.1 (oF (gT.bk b hb).2.2.1));have eh:IW Z3 (al+1) ag af ak ah (Ln N a s j):=a9.t zt;have ei:IW Z3 (al+1) ap ao b6 aq _:=eg.t zt;have dv:Z3 (3*(o+1)+2)=some (.row [Dk ap,Y ao b6 aq] 137):=zp;refine QW (n0:=A) [Dk ag,Y af ak ah] d3 HA ⟨_,_,_,_,rfl,eh⟩ (yG er R2) (by rw[nv];omega) Z (fun W Z4=>by(repeat (first|rfl|(refine QU rfl ?_)|(refine QT Z Z4 ?_)))) ?_;intro v' ff f6 d5 ck di dd b9 ca;obtain⟨aW,rfl⟩:=ck.shape (L:=s*N+j+1) (by rw[Do,nv];rfl);refine zH ?_;refine Mm (n0:=A) [U .i64 (N:Int),Y aW (s*N+j+1) (s*N+j+1),Y aS s s] ((dd.e _ Z).trans ((b2 _ Z Z).trans q9)) ?_;intro cm es ad;refine zG ?_;have nb:∀k,¬BkOf (Y aV (s*N+j) (s*N+j)) (3*k+2):=fun k hb=>oF (V.bk _ hb).2.2.1 rfl;have bu:∀c,c<3*Z0→c≠3*(o+1)+2→c≠3*n+2→¬BkOf (Y aV (s*N+j) (s*N+j)) c→cm c=G c:=fun c hc h1 h2 h3=>(ad.1 c h2).trans ((b9 c Z h3).trans (b2 c hc h1));have bb:Tr (al+1) Z3 (al+1+1) cm:=di.trans (Il ad (FS _ _));exact sK (j+1,Y aW (s*N+j+1) (s*N+j+1),ap,ao,b6,aq) ⟨Z,fun c hc hn=>(by
    have hn:c≠3*n+2:=fun e=>hn (Dx.2 e);exact(bu c Z Z hn (fun hb=>by have:=(V.bk c hb).1;omega)).trans (Y9 c hc (fun e=>hn (Dx.1 e)))),T9.trans (ba.trans bb),es,(bu _ Z Z Z (nb _)).trans ch,(ad.1 _ Z).trans ((b9 _ Z (nb _)).trans dv),(ck.go HA (Il ad (FS _ _)) (fun b hb=>ad.1 b (by have:=ca b hb;omega))).as Yk,am.go Fq bb (fun b hb=>(ad.1 b (by have:=(am.bk b hb).1;omega)).trans (b9 b (am.bk b hb).2.1 (fun hv=>ai b hv hb))),(ei.t bb).as (by show _=((DH _ _:Nat):Int);rw[DQ]),fun b hb hs=>(by have:=ca b hb;have:=(gT.bk b hs).2.1;omega),vT,vZ (fun c hc=>.inl (Dx.1 hc)) (vZ (fun c hc=>.inr (.inr (d5 c hc))) b4),vH _ _ _ (vH _ _ _ b3)⟩
  have a7:N=j:=Z;subst a7;refine zG ?_;refine sC (xv _ iC) ?_;rintro _ ay b7⟨f8,rfl,cz⟩ g4 cx;refine zG ?_;refine oQ [(5,Dn (some ⟨3*(n+1)+2,0,none⟩)),(7,Dn (some ⟨3*o+2,0,none⟩)),(8,U .i64 ((s*N:Nat):Int)),(9,Dn (some ⟨3*(o+1)+2,0,none⟩))] (fun u w w'=>b7≤w∧Tr b7 ay w u∧(∀c,c<3*b7→c≠3*(o+1)+2→u c=ay c)∧(∃b a' l c,u (3*(o+1)+2)=some (.row [Dk b,Y a' l c] 137)∧IW u w b a' l c (Lz N a s:Int))∧w'=w9) ?_ ?_
  .rcases K3 cz with⟨rfl,c2⟩|⟨rfl,c2⟩
   .refine zG ?_;exact vG V4 ⟨Dh,FS _ _,fun _ _ _=>rfl,⟨_,_,_,_,zp,(iC.x zx).as (by unfold Lz LY;rw[CT (fun e=>c2 A0)])⟩,rfl⟩
   refine zG ?_;refine sC (MT _ _ _) ?_;rintro _ H F⟨dn,dl,em,ds,rfl,bx⟩ cy f0;refine LN (n0:=A) [Dk dn,Y dl em ds] ?_;intro p eq Z1;refine zG ?_;exact vG V4 ⟨cy,zt,fun c hc hn=>(Z1.1 c hn).trans (f0 c hc),⟨_,_,_,_,eq,(bx.t zt).as (by unfold Lz LY;rw[De (ai4 c2)];rfl)⟩,rfl⟩
  intro t H F fx ⟨cy,dg,d8,⟨f9,f7,fl,fk,du,ej⟩,d0⟩;subst d0;have bc:Tr Z0 G F H:=(zt:Tr Z0 G b7 ay).trans dg;have P:∀c,c<3*Z0→c≠3*(o+1)+2→H c=G c:=fun c hc hn=>(d8 c Z hn).trans (cx c hc);have d2:=V.go HA bc (fun b hb=>P b (V.bk b hb).2.1 (oF (V.bk b hb).2.2.1));have bi:=gT.go Fq bc (fun b hb=>P b (gT.bk b hb).2.1 (oF (gT.bk b hb).2.2.1));obtain⟨d,bf,ax,bl,oE,ez⟩:=d2.or nv Z;injection bf with bf
  subst bf;have et:=(P (3*n+2) Z Z).trans q9;have db:=(P (3*(n+1)+2) Z Z).trans ((Y9 (3*(n+1)+2) Z (fun e=>by have:=Dx.1 e;omega)).trans ev);have dt:=(P (3*o+2) Z Z).trans ch;have bx:IW H F b5 a5 l5 c5 ((deni N a s:Nat):Int):=i9.t bc;have f3:d<3*F:=oE.1;refine zG ?_;refine u5 (s*N) R9 Z Dh (.inl Z) ?_;rw[CT (show ¬s*N+N=s*N by omega),Fa];refine zG ?_;refine sF (α:=Nat) (fun z=>[(5,Dn (some ⟨3*(n+1)+2,0,none⟩)),(7,Dn (some ⟨3*o+2,0,none⟩)),(8,U .i64 ((s*N:Nat):Int)),(9,Dn (some ⟨3*(o+1)+2,0,none⟩)),(60,Y (some ⟨d,0+s*N*2,none⟩) N N),(61,U .i64 (N:Int)),(62,U .i64 (z:Int))])
   (fun z u w w'=>F≤w∧(∀c,c<3*F→c≠d→u c=H c)∧Tr F H w u∧OR 2 intP u w d (midL N a s z)∧MX u d 137∧z≤N∧(∀c∈w',c=3*n+2∨c=l∨3*y≤c)∧l∈w') (fun z=>N-z) 0 ⟨Dh,fun _ _ _=>rfl,FS _ _,oE.as Yl,ez,Di,b4,b3⟩ ?_
  rintro R t p M fy⟨c8,J,a0,Z1,c4,cr,bw,d9⟩;have c8:F≤M:=c8;have cr:R≤N:=cr;have J:∀c,c<3*F→c≠d→p c=H c:=J;have a0:Tr F H M p:=a0;have Z1:OR 2 intP p M d (midL N a s R):=Z1;have fc:=(J (3*(o+1)+2) Z (Iv (oF ax))).trans du;have fb:=(J (3*o+2) Z (Iv (oF ax))).trans dt;have eu:=(J (3*n+2) Z Z).trans et;have f4:=(J (3*(n+1)+2) Z Z).trans db;have cu:=ej.t a0;have a9:=bx.t a0;refine zG ?_;by_cases qk:(R:Int)<(N:Int)
  .have a8:R<N:=Z;have an:=Z1.1;obtain⟨cc,⟨a2,a1,aa,a3,rfl,aj⟩,_,ey⟩:=Z1.get (Ym a8) (off:=0+s*N*2+R*2) AY;refine zG ?_;refine sI rfl a8 ?_;refine sL ey an 0 ?_;refine sA ?_;intro a4 c1 c7;refine zG ?_;refine LN (n0:=A) [Dk a2,Y a1 aa a3] ?_;intro cl fu fq;refine zG ?_;refine zn [0,1,3,7,0,0,48,0,0,384,1023,2047] rfl<|zH ?_;refine dC (quoX _ (aj.t zt) (cu.t zt) (bv R a8) co bp) ?_;rintro _ b0 eo⟨cf,ce,cv,cg,rfl,bz⟩ g7 g1;have bz:IW b0 eo cf ce cv cg (tT N a s R):=bz;refine zH ?_;refine dI (j:=s*N+R) rfl (show s*N+R<s*N+N by omega) ?_;refine dZ (n0:=A) (j:=s*N+R) [Dk cf,Y ce cv cg] (Z1.xx HA zx) HA (by rw[az];omega) (D7 _) ⟨_,_,_,_,rfl,bz⟩ ?_;intro Z3 ep df dc;refine zG ?_;exact sK (R+1) ⟨Z,fun c hc hn=>(df.1 c hn).trans (by
    refine Eq.trans ?_ (J c hc hn);have e0:p c=p c:=rfl;exact zp),a0.trans zt,ep.as (Yn a8),dc _ (by
    obtain⟨C,hC⟩:=c4;exact⟨C,zp⟩),(by show R+1≤N;omega),vZ (fun c hc=>.inr (.inr (by rw[Dx.1 hc];exact bl))) bw,vH _ _ _ d9⟩
  have a8:N=R:=Z;have bj:=bi.go Fq a0 (fun b hb=>J b (bi.bk b hb).2.1 (fun e=>ai b (by subst e;exact⟨_,_,_,rfl⟩) hb));refine zG ?_;refine zn [0,0,2,6,14,0,0,96,224,510,1023,2047,4095] rfl<|zH ?_;have bq:∀c,c<3*y→c≠3*n+2→p c=S c:=fun c hc hn=>(J c Z Z).trans ((P c Z Z).trans (Y9 c hc (fun e=>hn (Dx.1 e))));have e3:GG p M:=g.ext (fun c hc=>(bq c Z Z).trans (xr c hc)) Z;refine dC (fa _ e3 (a9.t zt) (cu.t zt) cp co bp) ?_;rintro _ bm ab⟨a2,a1,aa,a3,ar,au,av,aw,rfl,aj,c0⟩ g5 f1;have aj:IW bm ab a2 a1 aa a3 (tS N a s).num:=aj;have c0:IW bm ab ar au av aw (denZ (tS N a s)):=c0;refine zH ?_;refine QX [Dk a2,Y a1 aa a3,Dk ar,Y au av aw] ?_;intro a4 c1 c7;have ae:∀c,c<3*M→a4 c=p c:=fun c hc=>by
   have e0:p c=p c:=rfl;exact zp
  have cb:Tr M p (ab+1) a4:=zt;have ef:IW a4 (ab+1) a2 a1 aa a3 (tS N a s).num:=aj.ext c7 zs;have el:IW a4 (ab+1) ar au av aw (denZ (tS N a s)):=c0.ext c7 zs;have d1:=bj.go Fq cb (fun b hb=>ae b (bj.bk b hb).2.1);refine QW (n0:=A) (q:=tS N a s) [Dk a2,Y a1 aa a3,Dk ar,Y au av aw] d1 Fq ⟨_,_,_,_,_,_,_,_,rfl,ef,el⟩ (yG c1 R2) tv Z (fun W Z4=>by(repeat (first|rfl|(refine QU rfl ?_)|(refine QT Z Z4 ?_)))) ?_;intro v' cl f5 d4 cj dh c9 de b8;obtain⟨aT,rfl⟩:=cj.shape (L:=s+1) (by rw[Do,DC,Fg];rfl);refine zH ?_;refine Mm (n0:=A) [U .i64 (N:Int),Y (some ⟨d,0,none⟩) (s*N+N) (s*N+N),Y aT (s+1) (s+1)] ((c9.e _ Z).trans ((ae _ Z).trans eu)) ?_;intro b0 cw ac;refine zG ?_;have nS:¬BkOf (Y aS s s) d:=ai d ⟨_,_,_,rfl⟩;have an:=Z1.1;have br:∀c,c<3*y→c≠3*n+2→b0 c=S c:=fun c hc hn=>(ac.1 c hn).trans ((c9.e c hc).trans ((ae c Z).trans (bq c hc hn)));refine⟨trivial,br l Z Z,fun hZ e2 L2=>⟨⟨e2.trans ct,_,_,_,(L2.1 _ Z).trans cw,?_,?_,?_⟩,Z,fun c hc hn=>?_,fun c hc=>?_,Fj ..⟩⟩
  .have T:Tr M p (ab+1+1) hZ:=Tr.l L2 (Il ac (cb.trans dh));obtain⟨C,hC⟩:=c4;have eb:hZ d=p d:=(L2.1 d Z).trans ((ac.1 d Z).trans ((de d Z nS).trans (ae d an)));exact((Z1.go HA T eb).gr HA ⟨C,eb.trans hC⟩ ax bl az).as (by rw[←a8,Yo])
  .exact(cj.go Fq (Tr.l L2 (Il ac (FS _ _))) (fun b hb=>(L2.1 b (by have:=b8 b hb;omega)).trans (ac.1 b (by have:=b8 b hb;omega)))).as (by rw[af2,EN];rfl)
  .rintro b⟨_,_,_,e⟩ hb;injection e with e
   injection e with e
   injection e with e _ _
   subst e;have:=b8 d hb;omega
  .have h1:c≠l:=fun e=>hn (.inr (.inl e));have h2:c≠3*n+2:=fun e=>hn (.inl e);have h3:c<3*y:=Nat.lt_of_not_le fun h=>hn (.inr (.inr h));exact(L2.1 c h1).trans ((br c h3 h2).trans (L1.1 c h1))
  rcases DR.1 hc with rfl|hc
  .exact .inl (.inr (.inl rfl))
  exact .inl (vZ (fun c hc=>.inl (Dx.1 hc)) (vZ (fun c hc=>.inr (.inr (d4 c hc))) bw) c hc)
 rintro _ u w w'⟨⟨cs,vE,vS,c6,qT,gE,gS,dj⟩,fh,b1,ec⟩;refine⟨cs,b1 _ Z (Z4 _ Z Z Z),fun h2 a6=>?_⟩;have fv:=(a6 (3*(n+1)+2) Z Z).trans ((b1 _ Z (Z4 _ Z Z Z)).trans q5);have g3:KN n h h2:=fun c hc=>(a6 c Z Z).trans ((b1 c Z (Z4 c Z Z Z)).trans (xh c hc));have ed:addW n w' []=[]:=zZ fun c hc=>by
  rcases(ec c hc).1 with h|h|h<;>omega
 have T2:Tr w u w h2:=⟨Dh,fun c _=>by
  by_cases h1:c=l
  .subst h1;exact .inr ⟨_,cs.trans bd,.inr rfl⟩
  .by_cases h2:c=3*(n+1+1+2)+2
   .subst h2;exact .inr ⟨_,(b1 _ Z (Z4 _ Z Z Z)).trans dp,.inr rfl⟩
   .exact .inl (a6 c h1 h2)⟩
 obtain⟨d,rfl,ax,bl,oE,_⟩:=gE.or ul (show N*N≠0 from Nat.mul_ne_zero Z Z);obtain⟨bs,rfl,fd,fe,oS,_⟩:=gS.or (L:=N) nP Z;have e7:d≠bs:=fun e=>dj d ⟨_,_,_,rfl⟩ ⟨_,_,_,by rw[e]⟩;rw[qf,ed];refine ZB ?_;exact⟨_,d,bs,rfl,⟨_,(a6 _ Z Z).trans qT⟩,oE.go HA T2 (a6 _ Z Z),oS.go Fq T2 (a6 _ Z Z),Z,e7,Z,Z,Z,Z⟩
end
end
structure EL (h:HF)(n b0 bt be bs:Nat)(N st:Nat)(T:Nat→Nat→Int)(s:Nat→Rat)(bf:Int)(vL vD:Value):Prop where
 e:∃sb ab lb cb ty,h b0=some (.row [U .i64 (N:Int),U .i64 (st:Int),Dn (some ⟨bt,0,none⟩),Dk sb,Y ab lb cb,vL,vD] ty)∧IW h n sb ab lb cb bf
 t:∃ty,h bt=some (.row [U .i64 (N:Int),Y (some ⟨be,0,none⟩) (N*N) (N*N),Y (some ⟨bs,0,none⟩) N N] ty)
 z:OZ h n be (tabL N T)
 s:OR 4 ratP h n bs ((D9 N).map s)
 o:bt<b0∧b0<3*n∧be≠bs∧be≠bt∧be≠b0∧bs≠bt∧bs≠b0
 u:nu vL=true∧nu vD=true
theorem EL.ext{h h':HF}{n b b0 bt be bs N st:Nat}{T:Nat→Nat→Int}{s:Nat→Rat}{bf:Int}{vL vD:Value}(E:EL h n b0 bt be bs N st T s bf vL vD)(x:KN n h h')(a:n≤b):EL h' b b0 bt be bs N st T s bf vL vD:=by
 obtain⟨⟨j,d,i,e,m,f,g⟩,⟨c,l⟩,z,s,o,u⟩:=E;exact⟨⟨j,d,i,e,m,(x _ o.2.1).trans f,g.ext x a⟩,⟨c,(x _ Z).trans l⟩,z.ext HA x a,s.ext Fq x a,Z,u⟩
theorem EL.x{h h':HF}{n a b0 bt be bs N st:Nat}{T:Nat→Nat→Int}{s:Nat→Rat}{bf:Int}{vL vD:Value}(E:EL h n b0 bt be bs N st T s bf vL vD)(t:Tx n h a h'):EL h' a b0 bt be bs N st T s bf vL vD:=E.ext t.2 t.1
theorem EL.at{h:HF}{n b0 bt be bs N st i:Nat}{T:Nat→Nat→Int}{s:Nat→Rat}{bf:Int}{vL vD:Value}(E:EL h n b0 bt be bs N st T s bf vL vD)(m:i<N):∃b a l c d e f g,At h bs (0+i*4) [Dk b,Y a l c,Dk d,Y e f g]∧IW h n b a l c (s i).num∧IW h n d e f g (denZ (s i)):=by
 obtain⟨c,⟨b,a,l,k,d,e,f,g,rfl,o,p⟩,_,t⟩:=E.s.get (j:=i) (d:=s i) (by rw[DB,Et m];rfl) (D7 (i*4));exact⟨b,a,l,k,d,e,f,g,t,o,p⟩
section
variable {n bs N:Nat}{T:Nat→Nat→Int}{s:Nat→Rat}
theorem Om(k:Nat)(g:GG h n)(E:EL h n b0 bt be bs N st T s bf vL vD){i j:Nat}(hi:i<N)(hj:j<N)(C:N≤3)(D:(T i j).natAbs<BW)(f:bf.natAbs<BW)(m:bf≠0){a b:Nat}(P:Sz a (Ef (T i j) bf))(R:Sz b (s i))(d:a+b≤2496):CX (KO (k+12)) 164 [Dn (some ⟨b0,0,none⟩),U .i64 (i:Int),U .i64 (j:Int)] h n (QV (Ef (T i j) bf/s i)):=by
 obtain⟨sb,ab,lb,cb,ty,hE,J⟩:=E.e;obtain⟨W,c⟩:=E.t;obtain⟨o1,o2,_⟩:=E.o;have l:=E.z.1;have p:=E.s.1;obtain⟨b4,Z0,l4,c4,S,G⟩:=E.z.el hi hj;obtain⟨b5,a5,l5,c5,d5,e5,f5,g5,Z4,H,L⟩:=E.at hi;refine zl (fn:=Tryz.f164) R4<|Zs ?_;intro h1 p1 V;refine zG ?_;refine zn [0,1,3,7,0,31,0,127,255,0,512,1536,3584,8191,0,16384,49152,114688,245760,507904,1032192,0,4177920,8372224,16777215,33554431] rfl<|zH ?_;refine dC (rowX _ ((V bt Z).trans c) hi C) ?_;rintro _ h2 n2 rfl y2 x2;refine zH ?_;refine dI rfl hj ?_;refine dL S l 0 ?_;refine zH ?_;refine dC (fa _ (g.x zx) (G.x zx) (J.x zx) D f m) ?_;rintro _ h3 n3⟨b3,Z3,l3,c3,d3,e3,f3,g3,rfl,F,K⟩ y3 x3;refine zH ?_;refine dI rfl hi ?_;refine dL Z4 p 0 ?_;refine dC (divQ _ (g.x zx) F K (H.x zx) (L.x zx) P R d) ?_;rintro _ h6 n6⟨u,q,Z1,v,w,y,A,B,rfl,I,M⟩ y6 x6;refine dS [Dk u,Y q Z1 v,Dk w,Y y A B] ?_;intro h7 p7 o7;refine zq ?_;exact⟨_,_,_,_,_,_,_,_,rfl,I.t zt,M.t zt⟩
theorem Yp(k:Nat)(E:EL h n b0 bt be bs N st T s bf vL vD)(d:st<N)(B:N≤3):VF (KO (k+2)) 165 [Dn (some ⟨b0,0,none⟩)] h n fun v=>(∃i:Nat,st<i∧i<N∧T i st≠0∧v=.tuple #[U .i64 (i:Int),Dk true])∨((∀i,st<i→i<N→T i st=0)∧v=.tuple #[U .i64 0,Dk false]):=by
 obtain⟨sb,M,W,S,ty,Z4,V⟩:=E.e;obtain⟨K,m⟩:=E.t;obtain⟨Z0,o2,_⟩:=E.o;have p:=E.z.1;refine zB (fn:=Tryz.f165) R4<|zG ?_;refine sF (α:=Nat) (fun z=>[(0,Dn (some ⟨b0,0,none⟩)),(2,U .i64 0),(3,Dk false),(4,U .i64 (z:Int))]) (fun z A D H=>H=[]∧n≤D∧KN n h A∧st+1≤z∧z≤N∧∀a,st<a→a<z→T a st=0) (fun z=>N-z) (st+1) ⟨rfl,Dh,FU _ _,Dh,d,fun a h1 h2=>Z⟩ ?_;rintro i t h1 F _⟨rfl,y,w,b,f,u⟩;have f:i≤N:=f;have b:st+1≤i:=b;have y:n≤F:=y;refine zG ?_;by_cases q:(i:Int)<(N:Int)
 .have hi:i<N:=Z;obtain⟨P,L,l4,R,G,C⟩:=E.z.el hi d;refine zG ?_;refine zn [0,1,3,7,0,31,0,64,192,448,1023,2047,4095,8191] rfl<|zH ?_;refine dC (rowX _ ((w bt Z).trans m) hi B) ?_;rintro _ h2 Z3 rfl y2 I;refine zH ?_;refine dI rfl d ?_;refine dL G p 0 ?_;refine dC (xv _ (C.x zx)) ?_;rintro _ g n3⟨Z1,rfl,l⟩ y3 J;rcases K3 l with⟨rfl,j⟩|⟨rfl,j⟩
  .refine zH ?_;refine zf ?_;exact .inl ⟨i,b,hi,j,rfl⟩
  refine zH ?_;refine zG ?_;exact sK (i+1) ⟨rfl,Z,fun c hc=>(J c Z).trans ((I c Z).trans (w c hc)),Z,xl,fun a h1 h2=>by
   have h2:a<i+1:=h2;rcases EG a i with g|g
   .exact u a h1 g
   .rw[show a=i by omega];exact j⟩
 refine zf ?_;exact .inr ⟨fun a h1 h2=>u a h1 Z,rfl⟩
end
def advU(T:Nat→Nat→Int)(p:Nat)(bf:Int)(i:Nat):Nat→Nat→Int:=fun a b=>if p<a∧a<i then(T p p*T a b-T a p*T p b).tdiv bf else T a b
theorem Yq{T:Nat→Nat→Int}{p:Nat}{bf:Int}:advU T p bf (p+1)=T:=by
 funext a b;unfold advU;rw[CT Z]
theorem uN{T:Nat→Nat→Int}{p i a b:Nat}{bf:Int}(h:a≤p∨i≤a):advU T p bf i a b=T a b:=by
 unfold advU;rw[CT Z]
theorem Yr{N:Nat}{T:Nat→Nat→Int}{p i:Nat}{bf:Int}(e:p<i):tabL N (rowU (advU T p bf i) i p bf N)=tabL N (advU T p bf (i+1)):=by
 refine uY fun a b f d=>?_;unfold rowU;rw[uN (a:=p) (.inl Dh),uN (a:=i) (.inr Dh),uN (a:=i) (.inr Dh),uN (a:=p) (.inl Dh)];by_cases h:a=i
 .subst h;rw[De ⟨rfl,d⟩];unfold advU;rw[De ⟨e,G1 _⟩]
 rw[CT (fun c=>h c.1)];unfold advU;by_cases c:p<a∧a<i
 .rw[De c,De Z]
 rw[CT c,CT Z]
theorem Ys{N:Nat}{T:Nat→Nat→Int}{p:Nat}{bf:Int}:tabL N (advU T p bf N)=tabL N (yR T p bf):=by
 refine uY fun a b d e=>?_;unfold advU yR;by_cases h:p<a
 .rw[De ⟨h,d⟩,De h]
 rw[CT (fun c=>h c.1),CT h]
theorem Yt{N:Nat}{T:Nat→Nat→Int}{p i:Nat}{bf:Int}(e:∀a c,a<N→c<N→(T a c).natAbs<BW)(f:∀i j,p<i→i<N→j<N→(T p p*T i j-T i p*T p j).natAbs<BW):∀a c,a<N→c<N→(advU T p bf i a c).natAbs<BW:=by
 intro a c b d;unfold advU;split
 .rename_i h;exact ut (f a c h.1 b d)
 exact e a c b d
section
variable {n bs N p:Nat}{T:Nat→Nat→Int}{s:Nat→Rat}
theorem jn(k:Nat)(E:EL h n b0 bt be bs N p T s bf vL vD)(hp:p<N)(Z4:N≤3)(Z3:bf≠0)(W:bf.natAbs<BW)(hb:∀a c,a<N→c<N→(T a c).natAbs<BW)(hx:∀i j,p<i→i<N→j<N→(T p p*T i j-T i p*T p j).natAbs<BW):
  CF (KO (k+10)) 170 [Dn (some ⟨b0,0,none⟩)] h n fun _ d g w=>n≤g∧ExtB n [be,b0] h d∧Tr n h g d∧EL d g b0 bt be bs N (p+1) (yR T p bf) s (T p p) vL vD∧(∀c∈w,c=be∨c=b0):=by
 obtain⟨sb,ab,lb,cb,ty,hE,ib⟩:=E.e;obtain⟨a7,V⟩:=E.t;obtain⟨o1,o2,o3,o4,o5,o6,o7⟩:=E.o;have a6:=E.z.1;have Z0:=E.s.1;refine ph (fn:=Tryz.f170) R4<|zG ?_;refine sF (α:=Nat) (fun z=>[(0,Dn (some ⟨b0,0,none⟩)),(2,U .i64 (p:Int)),(3,U .i64 (z:Int))]) (fun z d g w'=>n≤g∧ExtB n [be] h d∧Tr n h g d∧OZ d g be (tabL N (advU T p bf z))∧p+1≤z∧z≤N∧∀c∈w',c=be) (fun z=>N-z) (p+1) ⟨Dh,IT _ _ _,FS _ _,E.z.as (by rw[Yq]),Dh,hp,fun c hc=>oU hc Ds⟩ ?_;rintro i t h1 l w1⟨y1,y,v,z1,m,G,I⟩;have G:i≤N:=G;have m:p+1≤i:=m;have y1:n≤l:=y1;have z1:OZ h1 l be (tabL N (advU T p bf i)):=z1;have v:Tr n h l h1:=v;have e1:h1 b0=_:=(y b0 o2 (by simp[Iv o5])).trans hE;have L:h1 bt=_:=(y bt Z (by simp[Iv o4])).trans V;have a2:=ib.t v;refine zG ?_;by_cases q:(i:Int)<(N:Int)
 .have hi:i<N:=Z;refine zG ?_;refine zn [0,1,3,7,0,0,0,0,128,384,896,2047] rfl<|zH ?_;have hc:=W2 k L ⟨Z,Iv o4⟩ z1 a2 Z3 W hi hp Z Z4 (Yt hb hx) (fun j hj=>by
   rw[uN (a:=p) (.inl Dh),uN (a:=i) (.inr Dh),uN (a:=i) (.inr Dh),uN (a:=p) (.inl Dh)];exact hx i j m hi hj)
  refine yy _ R7 hc ?_;rintro _ h2 F w2⟨M,A,z2,a1⟩;refine⟨rfl,M,?_⟩;rw[uO];refine zG ?_;have z3:OZ h2 F be (tabL N (advU T p bf (i+1))):=z2.as (Yr m);obtain⟨C,e3,q3,q4⟩:=z1.2;have T2:Tr l h1 F h2:=⟨M,fun c hc=>by
   by_cases b:c=be
   .subst b;exact .inr (.row q3 q4.1)
   .exact .inl (A c hc (by simp[b]))⟩
  exact sK (i+1) ⟨Z,fun c hc b=>(A c Z b).trans (y c hc b),v.trans T2,z3,Z,xl,fun c hc=>by
   rcases wG _ _ c hc with⟨f,_⟩|f
   .exact a1 c f
   .exact I c f⟩
 have a0:i=N:=Z;subst a0;have z2:OZ h1 l be (tabL i (yR T p bf)):=z1.as Ys;refine zG ?_;refine sC (rowX _ L hp Z4) ?_;rintro _ h2 F rfl M A;obtain⟨P,Z1,l4,R,t4,i4⟩:=z2.el hp hp;rw[show yR T p bf p p=T p p from lQ Dh]at i4;refine zG ?_;refine sI rfl hp ?_;refine sL t4 z2.1 0 ?_;refine zG ?_;refine MY [U .i64 (i:Int),U .i64 (p:Int),Dn (some ⟨bt,0,none⟩),Dk P,Y Z1 l4 R,vL,vD] ((A b0 Z).trans e1) ?_ (hu:=A6);intro h5 p5 a3;refine zG ?_;refine MY [U .i64 (i:Int),U .i64 ((p+1:Nat):Int),Dn (some ⟨bt,0,none⟩),Dk P,Y Z1 l4 R,vL,vD] p5 ?_ (hu:=A6);intro S p6 a5;refine zG ?_;have D:∀c,c<3*l→c≠b0→S c=h1 c:=fun c hc hn=>(a5.1 c hn).trans ((a3.1 c hn).trans (A c hc));have H:b0∈addW n [b0] (addW n [b0] w1):=ub o2 cA;have B:Tr l h1 F S:=zt;refine⟨rfl,[],rfl,⟨Z,fun c hc b=>?_,v.trans B,⟨⟨_,_,_,_,_,p6,i4.t B⟩,⟨_,(D bt Z Z).trans L⟩,z2.go HA B (D be z2.1 o5),E.s.go Fq (v.trans B) ((D bs Z o7).trans (y bs Z0 (by simp[Iv o3]))),Z,E.u⟩,fun c hc=>?_⟩,fun K=>by have K:addW n [b0] (addW n [b0] w1)=[]:=K;rw[K]at H;cases H⟩
 .simp only[DR,Ds,or_false,not_or]at b;exact(D c Z b.2).trans (y c hc (by simp[b.1]))
 rcases wG _ _ c hc with⟨f,_⟩|f
 .exact .inr (Dx.1 f)
 rcases wG _ _ c f with⟨J,_⟩|J
 .exact .inr (Dx.1 J)
 exact .inl (I c J)
end
section
variable {b:Nat}
theorem uu{x y:Int}(o:0<y)(l:x.natAbs<2^m)(e:y.natAbs<2^m):Sz m (Ef x y):=by
 obtain⟨f,g⟩:=mS (x:=x) o;refine⟨?_,?_⟩
 .rw[f];exact ut l
 have d:=ut (y:=((DH x.natAbs y.natAbs:Nat):Int)) e;rw[←g,DQ]at d;exact d
theorem sH{x:Nat}{a:Nat}(h:x<2^a)(d:a≤b):x<2^b:=DY h (DJ zd d)
theorem pC{x y:Nat}{a:Nat}(e:x<2^a)(f:y<2^b)(d:a+b≤c):x*y<2^c:=by
 refine sH (a:=a+b) ?_ d;rw[EH];exact Nat.mul_lt_mul'' e f
theorem cI{P:Nat}(d:B<2^P):bndT B 1<2^(2*P+1):=by
 show 2*(B*B)<_;have h:=pC d d (c:=2*P) Z;rw[DI];omega
theorem Yu{P:Nat}(d:B<2^P):bndT B 2<2^(3*P+3):=by
 show 6*(B*(B*B))<_;have h:=pC d (pC d d Dh) (c:=3*P) Z;rw[DI,DI,DI];omega
structure LdZ (n P k:Nat)(T:Nat→Nat→Int)(bf:Int):Prop where
 t:∀i j,i<n→j<n→(T i j).natAbs<2^(3*P+3)
 b:bf.natAbs<2^(2*P+1)
 t1:k≤1→∀i j,i<n→j<n→(T i j).natAbs<2^(2*P+1)
 b1:k≤1→bf.natAbs<2^P
theorem LdS.z{n k P:Nat}{o T:Nat→Nat→Int}{bf:Int}(y:n≤3)(p:1≤B)(v:∀i j,i<n→j<n→(o i j).natAbs≤B)(d:B<2^P)(h:LdS n o k T bf)(w:k<n):LdZ n P k T bf:=by
 obtain⟨q,s,u⟩:=h.bound y p v w;have f:k=0∨k=1∨k=2:=Z;have m:=lU p;refine⟨fun i j g l=>?_,DP s (cI d),fun e i j g l=>?_,fun e=>DP (u e) d⟩
 .refine DP (q i j g l) ?_;rcases f with rfl|rfl|rfl
  .exact sH d Z
  .exact sH (cI d) Z
  exact Yu d
 refine DP (q i j g l) ?_;rcases f with rfl|rfl|rfl
 .exact sH d Z
 .exact cI d
 omega
theorem Yv{n P k:Nat}{T:Nat→Nat→Int}{bf:Int}(z:LdZ n P k T bf)(v:P≤600)(w:n≤3):∀i j,k<i→i<n→j<n→(T k k*T i j-T i k*T k j).natAbs<BW:=by
 intro i j p f g;have d:k≤1:=Z;have e:∀{a b:Int},a.natAbs<2^(2*P+1)→b.natAbs<2^(2*P+1)→(a*b).natAbs<2^(4*P+2):=fun l o=>by
  rw[Fl];exact pC l o Z
 have q:=e (z.t1 d k k Z Z) (z.t1 d i j f g);have s:=e (z.t1 d i k f Z) (z.t1 d k j Z g);have u:=Int.natAbs_sub_le (T k k*T i j) (T i k*T k j);refine uR (e:=4*P+3) ?_ Z;rw[DI];omega
structure LdP (n P:Nat)(D:Nat)(a0:Nat→Nat→Rat)(k:Nat)(T:Nat→Nat→Int)(bf:Int)(a:Nat→Nat→Rat):Prop where
 i:LdI n (tT n a0) (tS n a0) a0 k T bf a
 v:∃V0 V bv,(∀i j,i<n→j<n→(V0 i j).natAbs<2^P)∧LdI n V0 (fun _=>((D:Int):Rat)) a0 k V bv a
section
variable {n k:Nat}{a0 a:Nat→Nat→Rat}{T:Nat→Nat→Int}
theorem LdP.val(y:n≤3)(p:1≤P)(F:0<D)(A:D<2^P)(h:LdP n P D a0 k T bf a)(w:k<n):∃V d,LdZ n P k V d∧0<d∧∀i j,k≤i→i<n→k≤j→j<n→a i j=Ef (V i j) (d*D):=by
 obtain⟨C,V,d,q,g⟩:=h.v;have e:2^P-1<2^P:=by have:=HN P;omega
 have f:1≤2^P-1:=by
  have:2^1≤2^P:=DJ zd p;omega
 refine⟨V,d,g.ls.z y f (fun i j s u=>by have:=q i j s u;omega) e w,g.pos,fun i j l e f o=>?_⟩;rw[g.value (D:=(D:Int)) Z (fun _=>rfl) l e f o,FP]
theorem LdP.sz(C:n≤3)(w:1≤P)(v:0<D)(d:D<2^P)(h:LdP n P D a0 k T bf a)(A:k<n)(s:k≤i)(l:i<n)(u:k≤j)(o:j<n):Sz (3*P+3) (a i j)∧(k≤1→Sz (2*P+1) (a i j)):=by
 obtain⟨V,q,f,y,e⟩:=h.val C w v d A;rw[e i j s l u o];have p:0<q*(D:Int):=ae5 y Z;refine⟨uu p (f.t i j l o) ?_,fun g=>uu p (f.t1 g i j l o) ?_⟩
 .rw[Fl,DQ];exact pC f.b d Z
 rw[Fl,DQ];exact pC (f.b1 g) d Z
theorem LdP.quo(H:n≤3)(A:1≤P)(y:0<D)(s:D<2^P)(h:LdP n P D a0 k T bf a)(d:k<n)(hp:0<a k k)(J:k<i)(p:i<n):Sz (2*P+1) (a i k/a k k):=by
 obtain⟨V,l,u,C,e⟩:=h.val H A y s d;have g:k≤1:=Z;have F:0<l*(D:Int):=ae5 C Z;have f:((l*(D:Int):Int):Rat)≠0:=fun e=>by have:=uQ.1 e;omega
 have v:=e i k Z p Dh d;have o:=e k k Dh d Dh d;have I:0<V k k:=by
  rw[o,FP,FI]at hp;have G:(0:Rat)<((l*(D:Int):Int):Rat):=He.2 F;have q:=Ke hp G;rw[EJ,Jq _ f,Hn]at q;exact He.1 q
 have w:a i k/a k k=Ef (V i k) (V k k):=by
  rw[v,o,FP,FP,FP,FI,FI,FI,FI,J5,Rat.inv_inv];rw[EJ,←EJ _ _ ((V k k:Rat)⁻¹),Jq _ f,It]
 rw[w];exact uu I (u.t1 g i k p d) (u.t1 g k k d d)
theorem jN(d:0<D):∀_:Nat,(0:Rat)<((D:Int):Rat):=fun _=>He.2 Z
theorem LdP.start(s:0<D)(o:B<2^P)(p:∀i j,i<n→j<n→FN D B (a0 i j)):LdP n P D a0 0 (tT n a0) 1 a0:=by
 have d:∀i j,∃z:Int,i<n→j<n→a0 i j*(D:Rat)=(z:Rat)∧z.natAbs≤B:=fun i j=>by
  by_cases h:i<n∧j<n
  .obtain⟨z,q⟩:=p i j h.1 h.2;exact⟨z,fun _ _=>q⟩
  exact⟨0,fun g l=>oU ⟨g,l⟩ h⟩
 refine⟨LdI.start XQ,fun i j=>(d i j).choose,_,_,fun i j e f=>DP ((d i j).choose_spec e f).2 o,LdI.start fun i j _ e _ f=>?_⟩;rw[←((d i j).choose_spec e f).1,Hm];show _=(1:Rat)*_*_;rw[It,EZ]
theorem LdP.step(e:n≤3)(g:0<D)(h:LdP n P D a0 k T bf a)(d:k<n)(hp:0<a k k):LdP n P D a0 (k+1) (yR T k bf) (T k k) (qn a k):=by
 obtain⟨p,f,V,q,o,l⟩:=h;exact⟨p.step e (fun _=>kv) d hp,f,_,_,o,l.step e (jN g) d hp⟩
theorem LdP.skip(l:0<D)(h:LdP n P D a0 k T bf a)(d:k<n)(p:a k k=0)(o:∀i,k<i→i<n→T i k=0):LdP n P D a0 (k+1) T bf a:=by
 obtain⟨g,q,V,s,v,f⟩:=h;refine⟨g.skip (fun _=>kv) d p o,q,V,s,v,f.skip (jN l) d p fun i u e=>?_⟩;exact(ry f.tab f.pos (jN l) Z e Dh d).2 ((ry g.tab g.pos (fun _=>kv) Z e Dh d).1 (o i u e))
theorem LdP.at(h:LdP n P D a0 k T bf a)(l:k≤i)(o:i<n)(p:k≤j)(q:j<n):Ef (T i j) bf/tS n a0 i=a i j:=by
 have e:=h.i.tab i j l o p q;have s:(bf:Rat)≠0:=fun e=>by have:=uQ.1 e;have:=h.i.pos;omega
 have u:tS n a0 i≠0:=fun e=>by have:=kv (N:=n) (a:=a0) (i:=i);rw[e]at this;exact oU this zd
 have d:=Gl _ s;have f:=Gl _ u;rw[FP,FI,FI,e];generalize (bf:Rat)=x at*
 generalize x⁻¹ =x' at*
 generalize tS n a0 i=y at*
 generalize y⁻¹ =y' at*
 generalize a i j=z at*
 have g:x*y*z*x'*y'=(x*x')*(y*y')*z:=by grind
 rw[g,d,f,It,It]
theorem LdP.tz(h:LdP n P D a0 k T bf a)(l:n≤3)(d:1≤B)(e:B<2^P)(f:∀i j,i<n→j<n→(tT n a0 i j).natAbs≤B)(g:k<n):LdZ n P k T bf:=h.i.ls.z l d f e g
end
end
section
variable {b j sz:Nat}{z:Value}{x:Operand}
section
variable {n:Nat}{d:Tmp}
theorem LV{l c:Operand}{L:Nat}(zs:List Value)(k:∀h',h' (3*n+2)=some (.row (K1 L zs) e)→KN n h h'→EO X ops r ⟨upd t d (.slice (some ⟨3*n+2,0,none⟩) L L),h',n+1,w⟩ Q)(f:L≤1000)(g:zh ops t o=true:=by exact rfl)(hd:o.dst=some d:=by exact rfl)(hn:zu X.nt (some d)=true:=by exact rfl)(ho:o.op=.makeSlice ty l c:=by exact rfl)(hu:X.E.und ty=some (.slice e):=by exact rfl)(hi:X.E.inf e=some (sz,bt,z):=by exact rfl)(hz:zr z=zs:=by exact rfl)(hl:KM t l=.int ik (L:Int):=by exact rfl)(hc:KM t c=.int ik' (L:Int):=by exact rfl)(hs:zs.length=sz:=by exact rfl)(hb:bt≤1000:=by exact Nat.le_of_ble_eq_true rfl):EO X ops (o::r) ⟨t,h,n,w⟩ Q:=
 xP ⟨g,hd,hn,ho,hu,hi,hl,hc,(by rw[hz];exact hs)⟩ ⟨Nat.le_refl _,Nat.le_trans (Nat.mul_le_mul f hb) zd,Z⟩ (k _ (by rw[←hz];exact ze _ _ _) (KN.upd Z))
theorem LZ(a b:Nat)(f:a*b<1000000)(k:EO X ops r ⟨upd t d (.int .i64 ((a*b:Nat):Int)),h,n,w⟩ Q)(c:zh ops t o=true:=by exact rfl)(hd:o.dst=some d:=by exact rfl)(hn:zu X.nt (some d)=true:=by exact rfl)(ho:o.op=.binOp .mul ty x y ty':=by exact rfl)(hx:KM t x=.int .i64 (a:Int):=by exact rfl)(hy:KM t y=.int .i64 (b:Int):=by exact rfl):EO X ops (o::r) ⟨t,h,n,w⟩ Q:=by
 refine st_mul c hd hn ho hx hy (by rw[←Int.natCast_mul];omega) ?_;rw[←Int.natCast_mul];exact k
end
section
variable {ms:List Nat}{i n:Nat}{ef:List (Nat×HF×List Nat)}{d:Tmp}
theorem L8(a b:Nat)(f:a*b<1000000)(k:ED X ops r ms (i+1) ⟨⟨upd t d (.int .i64 ((a*b:Nat):Int)),h,n,w⟩,al,ld,ef⟩ Q)(c:zh ops t o=true:=by exact rfl)(hd:o.dst=some d:=by exact rfl)(hn:zu X.nt (some d)=true:=by exact rfl)(ho:o.op=.binOp .mul ty x y ty':=by exact rfl)(hx:KM t x=.int .i64 (a:Int):=by exact rfl)(hy:KM t y=.int .i64 (b:Int):=by exact rfl):ED X ops (o::r) (m::ms) i ⟨⟨t,h,n,w⟩,al,ld,ef⟩ Q:=by
 refine yQ c hd hn (by rw[ho];rfl) ?_ k;rw[ho];show binE X.E .mul ty (KM t x) (KM t y)=_;rw[hx,hy];show some (Value.int .i64 (IntKind.wrap .i64 ((a:Int)*(b:Int))))=_;rw[←Int.natCast_mul,xI Z]
theorem LI{D:Type}{P:List Value→D→HF→Nat→Prop}{a:Operand}{zs:List D}{q:D}(c:List Value)(A:OR sz P h n b zs)(u:KP sz P)(l:j<zs.length)(g:off=j*sz)(s:P c q h n)(f:3*n0≤b)(k:∀h',OR sz P h' n b (zs.set j q)→Lm b h h'→ED X ops r ms (i+1) ⟨⟨t,h',n,w⟩,al,ld,(i,h,[b])::ef⟩ Q)(p:zh ops t o=true:=by exact rfl)(hd:o.dst=none:=by exact rfl)(ho:o.op=.store ty a x:=by exact rfl)(hi:X.E.inf ty=some (sz,bt,z):=by exact rfl)(ha:KM t a=.pointer (some ⟨b,off,none⟩):=by exact rfl)(hx:zr (KM t x)=c:=by exact rfl)(h1:xF m ef=true:=by exact rfl)(h2:xW m al=true:=by exact rfl)(h3:yd m [b] ld=true:=by exact rfl)(hX:X.n0=n0:=by exact rfl):ED X ops (o::r) (m::ms) i ⟨⟨t,h,n,w⟩,al,ld,ef⟩ Q:=
 dZ c A u l g s (fun h' v C _=>by rw[wF f];exact k h' v C) p hd ho hi ha hx h1 h2 h3 hX
end
theorem EL.go{h:HF}{n bs N:Nat}{T:Nat→Nat→Int}{s:Nat→Rat}(E:EL h n b0 bt be bs N st T s bf vL vD)(t:Tr n h n' h')(e:∀c,c=b0∨c=bt∨c=be∨c=bs→h' c=h c):EL h' n' b0 bt be bs N st T s bf vL vD:=by
 obtain⟨⟨A,g,v,l,ty,p,q⟩,⟨f,C⟩,z,s,o,u⟩:=E;have:=t.1;exact⟨⟨A,g,v,l,ty,(e _ (.inl rfl)).trans p,q.t t⟩,⟨f,(e _ (.inr (.inl rfl))).trans C⟩,z.go HA t (e _ (.inr (.inr (.inl rfl)))),s.go Fq t (e _ (.inr (.inr (.inr rfl)))),Z,u⟩
theorem On(k:Nat)(h:HF)(n:Nat):CX (KO (k+3)) 168 [U .i64 1] h n (QV 1):=by
 refine zl (fn:=Tryz.f168) R4<|Zs ?_;intro h1 A F;refine zG ?_;refine sC (MT _ _ _) ?_;rintro _ q u⟨f,c,l,g,rfl,p⟩ H G;refine sT #[Dk f,Y c l g,Dk false,Y none 0 0] ?_;refine sS [Dk f,Y c l g,Dk false,Y none 0 0] ?_;intro s C v;refine zq ?_;exact⟨_,_,_,_,_,_,_,_,rfl,(p.t zt:IW _ _ _ _ _ _ 1),GH _ _⟩
section
variable {N:Nat}{a:Nat→Nat→Rat}
theorem Yw(k:Nat){h:HF}{n:Nat}(g:GG h n)(L:QS h n (Y (some ⟨b,off,none⟩) (N*N) cap) (tabL N a))(C:gro b=false)(f:N*N≤cap)(K:1≤N∧N≤3)(J:0<D)(A:D<BW)(hd:∀i j,i<N→j<N→(a i j).den∣D)(I:∀i j,i<N→j<N→FN D B (a i j))(s:1≤B)(u:B<BW)(M:∀i j,i<N→j<N→Sz m (a i j))(hm:m≤2496):
  CX (KO (k+14)) 163 [Y (some ⟨b,off,none⟩) (N*N) cap,U .i64 (N:Int)] h n fun v h' n'=>∃b0 bt be c,v=Dn (some ⟨b0,0,none⟩)∧EL h' n' b0 bt be c N 0 (tT N a) (tS N a) 1 (Y none 0 0) (Y none 0 0)∧(3*n≤bt∧3*n≤be)∧3*n≤b0∧gro b0=false:=by
 refine zl (fn:=Tryz.f163) R4<|zG ?_;refine sC (dr _ g L C f K J A hd I s u M hm) ?_;rintro _ V n1⟨bt,be,c,rfl,⟨ty,Z0⟩,G,H,o1,o2,o3,o4,P,R⟩ y1 x1;refine sC (MT _ _ _) ?_;rintro _ W n2⟨p,l,F,q,rfl,Z1⟩ y2 x2;refine sT #[U .i64 (N:Int),U .i64 0,Dn (some ⟨bt,0,none⟩),Dk p,Y l F q,Y none 0 0,Y none 0 0] ?_;refine sB [U .i64 (N:Int),U .i64 0,Dn (some ⟨bt,0,none⟩),Dk p,Y l F q,Y none 0 0,Y none 0 0] ?_;intro Z3 S x3;refine zq ?_;have T:=G.1;have Z4:=H.1;exact⟨_,bt,be,c,rfl,⟨⟨_,_,_,_,_,S,Z1.t zt⟩,⟨_,zp⟩,G.xx HA zx,H.xx Fq zx,Z,⟨rfl,rfl⟩⟩,⟨P,R⟩,Z,yv _⟩
end
end
section
variable {b j len sz:Nat}{x:Operand}{z:Value}{a:Option Addr}
section
variable {ms:List Nat}{i n:Nat}{d:Tmp}
theorem sZ{D:Type}{P:List Value→D→HF→Nat→Prop}{a:Operand}{zs:List D}{q:D}(c:List Value)(v:OR sz P h n b zs)(u:KP sz P)(g:j<zs.length)(f:off=j*sz)(p:P c q h n)(k:∀h',OR sz P h' n b (zs.set j q)→Lm b h h'→EO X ops r ⟨t,h',n,addW n0 [b] w⟩ Q)(J:zh ops t o=true:=by exact rfl)(hd:o.dst=none:=by exact rfl)(ho:o.op=.store ty a x:=by exact rfl)(hi:X.E.inf ty=some (sz,bt,z):=by exact rfl)(ha:KM t a=.pointer (some ⟨b,off,none⟩):=by exact rfl)(hx:zr (KM t x)=c:=by exact rfl)(hX:X.n0=n0:=by exact rfl):EO X ops (o::r) ⟨t,h,n,w⟩ Q:=by
 have A:=v;obtain⟨N,C,e,B,Z1,K⟩:=v;have I:=K.len;obtain⟨F,M,G⟩:=u.c p;have L:j*sz+sz≤zs.length*sz:=by
  have:=Nat.mul_le_mul_right sz (show j+1≤zs.length from g);rw[Nat.add_mul,Nat.one_mul]at this;exact this
 subst f;rw[pg J (by rw[hd];rfl) (by rw[ho];rfl) (by rw[ho];exact wx hi ha (by rw[hx];exact F) (by rw[hx];exact G) B Z),hd,hx,hX];have s:=A.set (h':=upd h b (some (.row (zv C (j*sz) c) e))) u B g p (ze _ _ _) (fun c H=>zg H);exact k _ s.1 s.2
theorem MC{D:Type}{P:List Value→D→HF→Nat→Prop}{a:Operand}{zs:List D}{q:D}(c:List Value)(C:OR sz P h n b zs)(A:KP sz P)(s:j<zs.length)(p:off=j*sz)(v:P c q h n)(g:3*n0≤b)(k:∀f,OR sz P f n b (zs.set j q)→Lm b h f→EO X ops r ⟨t,f,n,w⟩ Q)(u:zh ops t o=true:=by exact rfl)(hd:o.dst=none:=by exact rfl)(ho:o.op=.store ty a x:=by exact rfl)(hi:X.E.inf ty=some (sz,bt,z):=by exact rfl)(ha:KM t a=.pointer (some ⟨b,off,none⟩):=by exact rfl)(hx:zr (KM t x)=c:=by exact rfl)(hX:X.n0=n0:=by exact rfl):EO X ops (o::r) ⟨t,h,n,w⟩ Q:=
 sZ c C A s p v (fun f B F=>by rw[wF g];exact k f B F) u hd ho hi ha hx hX
end
section
variable {n:Nat}{d:Tmp}
theorem sQ{a b:List UInt8}(v:Bool)(hv:(a==b)=v)(k:EO X ops r ⟨upd t d (.bool v),h,n,w⟩ Q)(f:zh ops t o=true:=by exact rfl)(hd:o.dst=some d:=by exact rfl)(hn:zu X.nt (some d)=true:=by exact rfl)(ho:o.op=.binOp .eql ty x y ty':=by exact rfl)(hx:KM t x=.string ⟨⟨a⟩⟩:=by exact rfl)(hy:KM t y=.string ⟨⟨b⟩⟩:=by exact rfl):EO X ops (o::r) ⟨t,h,n,w⟩ Q:=
 zA (v:=.bool v) ⟨f,hd,hn,(by rw[ho];rfl),(by rw[ho];show binE X.E .eql ty (KM t x) (KM t y)=_;rw[hx,hy];show some (Value.bool (a==b))=_;rw[hv])⟩ k
theorem Oo{a b:List UInt8}(v:Bool)(hv:(a==b)=v)(k:EO X ops r ⟨upd t d (.bool (!v)),h,n,w⟩ Q)(f:zh ops t o=true:=by exact rfl)(hd:o.dst=some d:=by exact rfl)(hn:zu X.nt (some d)=true:=by exact rfl)(ho:o.op=.binOp .neq ty x y ty':=by exact rfl)(hx:KM t x=.string ⟨⟨a⟩⟩:=by exact rfl)(hy:KM t y=.string ⟨⟨b⟩⟩:=by exact rfl):EO X ops (o::r) ⟨t,h,n,w⟩ Q:=
 zA (v:=.bool (!v)) ⟨f,hd,hn,(by rw[ho];rfl),(by rw[ho];show binE X.E .neq ty (KM t x) (KM t y)=_;rw[hx,hy];show some (Value.bool (!(a==b)))=_;rw[hv])⟩ k
end
section
variable {ms:List Nat}{i n:Nat}{ef:List (Nat×HF×List Nat)}{d:Tmp}
theorem Yx{a b:List UInt8}(v:Bool)(hv:(a==b)=v)(k:ED X ops r ms (i+1) ⟨⟨upd t d (.bool (!v)),h,n,w⟩,al,ld,ef⟩ Q)(f:zh ops t o=true:=by exact rfl)(hd:o.dst=some d:=by exact rfl)(hn:zu X.nt (some d)=true:=by exact rfl)(ho:o.op=.binOp .neq ty x y ty':=by exact rfl)(hx:KM t x=.string ⟨⟨a⟩⟩:=by exact rfl)(hy:KM t y=.string ⟨⟨b⟩⟩:=by exact rfl):ED X ops (o::r) (m::ms) i ⟨⟨t,h,n,w⟩,al,ld,ef⟩ Q:=
 yQ (v:=.bool (!v)) f hd hn (by rw[ho];rfl) (by rw[ho];show binE X.E .neq ty (KM t x) (KM t y)=_;rw[hx,hy];show some (Value.bool (!(a==b)))=_;rw[hv]) k
end
def strP(c:List Value)(s:List UInt8)(_:HF)(_:Nat):Prop:=c=[Dl ⟨⟨s⟩⟩]
theorem strP.kp:KP 1 strP:=⟨fun e _=>e,fun e=>by cases e;exact R3⟩
theorem Rec.strsE{C:List Value}{h:HF}{n:Nat}(r:Rec 1 (fun c s=>strP c s h n) C ss):C=strs ss:=by
 induction r with
 |nil=>rfl
 |cons h1 h2 h3 ih=>rw[ih,h2];rfl
theorem Rec.ofStrs(ss:List (List UInt8))(h:HF)(n:Nat):Rec 1 (fun c s=>strP c s h n) (strs ss) ss:=by
 induction ss with
 |nil=>exact .nil
 |cons s ss ih=>exact .cons (c:=[Dl ⟨⟨s⟩⟩]) rfl rfl ih
abbrev OT(h:HF)(n b:Nat)(ss:List (List UInt8)):Prop:=OR 1 strP h n b ss
theorem OT.sl{h:HF}{n:Nat}(o:OT h n b ss)(g:len=O ss)(f:len≤cap):Sl h n 1 (Y (some ⟨b,0,none⟩) len cap) (strs ss):=by
 obtain⟨C,s,r⟩:=ae6 o g f;exact r.strsE▸s
theorem OT.row{h:HF}{n:Nat}(o:OT h n b ss):∃e,h b=some (.row (strs ss) e):=by
 obtain⟨_,C,e,f,_,r⟩:=o;exact⟨e,r.strsE▸f⟩
theorem OT.of{h:HF}{n:Nat}(g:b<3*n)(f:h b=some (.row (Go.Proofs.YtfajmfoofmienaaGreatDoor.strs ss) e)):OT h n b ss:=by
 refine⟨g,_,_,f,?_,Rec.ofStrs ss h n⟩;rw[List.all_eq_true];intro x p;obtain⟨s,_,rfl⟩:=EX.1 p;rfl
theorem Yy(k:Nat){h:HF}{n:Nat}(g:GG h n){b d:Bool}{e:Option Addr}{f p:Nat}(i:IW h n b a l c q.num)(j:IW h n d e f p (denZ q)){m:Nat}(u:Sz m q)(s:m≤1920):CX (KO (k+10)) 89 [.agg #[Dk b,Y a l c,Dk d,Y e f p]] h n fun v _ _=>v=Dl ⟨⟨ratT q⟩⟩:=(sE k g.1 g.2 i j u s).cx
theorem bN(k:Nat){h:HF}{n:Nat}(g:GG h n){L:Nat}{A:List Rat}(H:QS h n (Y a L cap) A)(V:L≤1000){m:Nat}(hz:∀q∈A,Sz m q)(hm:m≤1920):
  CX (KO (k+11)) 140 [Y a L cap] h n fun v f p=>∃b ss,v=Y (some ⟨b,0,none⟩) L L∧3*n≤b∧OT f p b ss∧O ss=L:=by
 have lq:=H.len;refine zl (fn:=Tryz.f140) R4<|zG ?_;refine LV (L:=L) [Dl ⟨⟨[]⟩⟩] ?_ V;intro h1 K x1;refine zG ?_;have J:OT h1 (n+1) (3*n+2) (Dp L []):=Ji Z K strP.kp rfl;obtain⟨B,Z4⟩:∃B,B=3*n+2:=⟨_,rfl⟩;rw[←Z4]at J⊢;refine sF (α:=Nat×List (List UInt8)) (fun z=>[(2,Y none 0 0),(3,Y (some ⟨B,0,none⟩) L L),(9,Y a L cap),(10,U .i64 (L:Int)),(11,U .i64 (z.1:Int))])
  (fun z f p w'=>w'=[]∧n+1≤p∧KN n h f∧OT f p B z.2∧O z.2=L∧z.1≤L) (fun z=>L-z.1) (0,Dp L []) ⟨rfl,Dh,x1,J,DV,Di⟩ ?_
 rintro⟨j,ss⟩ t h2 I _ ⟨rfl,M,N,s,l2,hj⟩;dsimp only at M s l2 hj;refine zG ?_;by_cases q2:(j:Int)<(L:Int)
 .refine zG ?_;obtain⟨u,F⟩:∃d,(A)[j]?=some d:=⟨_,Dm Z⟩;obtain⟨k3,u3,P,Z1,l3,R,C,S,T,w3,D,Z0,r3,t3,W,Z3⟩:=QS.at H F;refine sI D r3 ?_;refine sL t3 Z0 0 ?_;refine sA ?_;intro h4 p4 x4;refine zG ?_;refine sS [Dk P,Y Z1 l3 R,Dk C,Y S T w3] ?_;intro h5 p5 o5;refine zG ?_;refine sC (Yy _ (g.x zx) (W.x zx) (Z3.x zx) (hz _ (Dq F)) hm) ?_;rintro _ G n6 rfl y6 x6;refine sI (j:=j) rfl Z ?_;have o6:OT G n6 B ss:=s.xx strP.kp zx;refine MC (n0:=n) (j:=j) (q:=ratT u) [Dl ⟨⟨ratT u⟩⟩] o6 strP.kp Z (show(0:Nat)+j*1=j*1 by omega) rfl Z ?_;intro h7 o7 s7;refine zG ?_;exact sK (j+1,ss.set j (ratT u)) ⟨rfl,Z,fun c hc=>(s7.1 c Z).trans ((show G c=h2 c by
   have e0:h2 c=h2 c:=rfl;exact zp).trans (N c hc)),o7,by rw[EU];exact l2,Bp⟩
 refine ZB ?_;exact⟨_,_,rfl,Z,s,l2⟩
end
section
variable {b n:Nat}
theorem Yz(m:Nat)(a:1≤m):Sz m 1:=by
 have h:2^1≤2^m:=DJ zd a;refine⟨?_,?_⟩
 .show 1<_;omega
 show 1<_;omega
theorem Oq:Sz 1890 1:=Yz _ zd
theorem dn(h:q.num<0):q<0:=by
 rw[aq4];show q.num*((1:Nat):Int)<0*(q.den:Int);rw[ab3];omega
theorem jT(h:0<q.num):0<q:=by
 rw[aq4];show 0*(q.den:Int)<q.num*((1:Nat):Int);rw[ab3];omega
theorem QY:Sz 1890 0:=ar7 _ zd
section
variable {N:Nat}{a0:Nat→Nat→Rat}
theorem YA(k0:Nat)(g:GG h n)(l:QS h n (Y (some ⟨b,off,none⟩) (N*N) cap) (tabL N a0))(e2:gro b=false)(db:N*N≤cap)(hN:1≤N∧N≤3)(aj:1≤P)(cz:P≤600)(hD:0<D)(a8:D<2^P)(hd:∀i j,i<N→j<N→(a0 i j).den∣D)(hB:∀i j,i<N→j<N→FN D B (a0 i j))(c9:1≤B)(b8:B<2^P):
  CX (KO (k0+15)) 139 [Y (some ⟨b,off,none⟩) (N*N) cap,U .i64 (N:Int)] h n fun v h' n'=>∃b0 ok,v=.tuple #[Dn (some ⟨b0,0,none⟩),Dk ok]∧(ok=true↔psdA N N 0 a0)∧(ok=true→∃y A ls ds x1 x2 x3 x4 x5 ty,h' b0=some (.row [x1,x2,x3,x4,x5,Y (some ⟨y,0,none⟩) (N*N) (N*N),Y (some ⟨A,0,none⟩) N N] ty)∧b0<3*n'∧3*n≤b0∧OR 4 ratP h' n' y ls∧OR 4 ratP h' n' A ds∧O ls=N*N∧O ds=N∧(∀q∈ls,Sz 1890 q)∧∀q∈ds,Sz 1890 q):=by
 have h9:=LH hN.2;have dt:B<BW:=uR b8 Z;have du:D<BW:=uR a8 Z;have hz:∀i j,i<N→j<N→Sz P (a0 i j):=fun i j hi hj=>by
  obtain⟨z,hz,e5⟩:=hB i j hi hj;have e1:((D:Int):Rat)≠0:=lT hD;have e:a0 i j=Ef z D:=by
   rw[FP,FI,←hz,←EZ,EJ,Gl _ e1,Hn]
  rw[e];exact uu Z (DP e5 b8) (by rw[DQ];exact a8)
 have cf:∀i,i<N→Sz P (tS N a0 i):=fun i hi=>uu (by have:=lR (f:=Ln N a0 i) (m:=N);unfold Lz;omega) (by rw[DQ];exact DP (QN (hd i · hi) hD) a8) (by rw[DQ];exact DP (QO (hd i · hi) hD (hB i · hi) c9) b8);have e4:∀i j,i<N→j<N→(tT N a0 i j).natAbs≤B:=fun i j hi hj=>XR (hd i · hi) hD (hB i · hi) hj;refine zl (fn:=Tryz.f139) R4<|zG ?_;refine sC (Yw _ g l e2 db hN hD du hd hB c9 dt hz Z) ?_;rintro _ h1 n1⟨b0,bt,be,bs,rfl,E1,o1,o2,o3⟩ y1 x1;obtain⟨sb,ab,lb,cb,ty,hE,ib⟩:=E1.e;obtain⟨fh,ez⟩:=E1.t;obtain⟨f7,f8,f9,fa,fb,fc,fd⟩:=E1.o;have f0:=E1.z.1;have f1:=E1.s.1;have f3:ratP [Dk false,Y none 0 0,Dk false,Y none 0 0] 0=ratP [Dk false,Y none 0 0,Dk false,Y none 0 0] 0:=rfl;refine zG ?_;refine LZ N N Z ?_;refine LV (L:=N*N) [Dk false,Y none 0 0,Dk false,Y none 0 0] ?_ Z;intro h2 p2 x2;refine zG ?_;refine sS [U .i64 (N:Int),U .i64 0,Dn (some ⟨bt,0,none⟩),Dk sb,Y ab lb cb,Y (some ⟨3*n1+2,0,none⟩) (N*N) (N*N),Y none 0 0] ?_;intro h3 p3 eb;refine zG ?_;refine LV (L:=N) [Dk false,Y none 0 0,Dk false,Y none 0 0] ?_ Z;intro h4 p4 x4;refine zG ?_;refine sS [U .i64 (N:Int),U .i64 0,Dn (some ⟨bt,0,none⟩),Dk sb,Y ab lb cb,Y (some ⟨3*n1+2,0,none⟩) (N*N) (N*N),Y (some ⟨3*(n1+1)+2,0,none⟩) N N] ?_;intro h5 p5 ec;refine zG ?_;obtain⟨y,cc⟩:∃b,b=3*n1+2:=⟨_,rfl⟩;obtain⟨A,ca⟩:∃b,b=3*(n1+1)+2:=⟨_,rfl⟩;have zq0:∀(h:HF) (n:Nat),ratP [Dk false,Y none 0 0,Dk false,Y none 0 0] 0 h n:=fun h n=>⟨_,_,_,_,_,_,_,_,rfl,GH _ _,GH _ _⟩;have ee:OR 4 ratP h5 (n1+1+1) y (Dp (N*N) 0):=by
  obtain⟨e,he⟩:∃e,h5 y=some (.row (K1 (N*N) [Dk false,Y none 0 0,Dk false,Y none 0 0]) e):=⟨_,by rw[cc];exact zp⟩;exact Ji Z he Fq (zq0 _ _)
 have ed:OR 4 ratP h5 (n1+1+1) A (Dp N 0):=by
  obtain⟨e,he⟩:∃e,h5 A=some (.row (K1 N [Dk false,Y none 0 0,Dk false,Y none 0 0]) e):=⟨_,by rw[ca];exact zp⟩;exact Ji Z he Fq (zq0 _ _)
 rw[←cc,←ca]at p5;have bh:IW h5 (n1+1+1) sb ab lb cb 1:=ib.t zt;have E5:EL h5 (n1+1+1) b0 bt be bs N 0 (tT N a0) (tS N a0) 1 (Y (some ⟨y,0,none⟩) (N*N) (N*N)) (Y (some ⟨A,0,none⟩) N N):=⟨⟨_,_,_,_,_,p5,bh⟩,⟨_,zp⟩,E1.z.go HA zt (by
  have e0:h1 be=h1 be:=rfl;exact zp),E1.s.go Fq zt (by
  have e0:h1 bs=h1 bs:=rfl;exact zp),Z,⟨rfl,rfl⟩⟩
 have X5:KN n h h5:=(zx:Tx n h (n1+1+1) h5).2;rw[←cc,←ca];refine sF (α:=Nat×(Nat→Nat→Int)×Int×(Nat→Nat→Rat)×List Rat×List Rat) (fun z=>[(1,U .i64 (N:Int)),(4,Dn none),(5,Dk false),(6,Dn (some ⟨b0,0,none⟩)),(7,Dk true),(28,U .i64 (N:Int)),(29,U .i64 (z.1:Int))])
  (fun z h' n' w'=>w'=[]∧n1+1+1≤n'∧KN n h h'∧EL h' n' b0 bt be bs N z.1 z.2.1 (tS N a0) z.2.2.1 (Y (some ⟨y,0,none⟩) (N*N) (N*N)) (Y (some ⟨A,0,none⟩) N N)∧LdP N P D a0 z.1 z.2.1 z.2.2.1 z.2.2.2.1∧OR 4 ratP h' n' y z.2.2.2.2.1∧OR 4 ratP h' n' A z.2.2.2.2.2∧O z.2.2.2.2.1=N*N∧O z.2.2.2.2.2=N∧(∀q∈z.2.2.2.2.1,Sz 1890 q)∧(∀q∈z.2.2.2.2.2,Sz 1890 q)∧z.1≤N)
  (fun z=>N-z.1) (0,tT N a0,1,a0,Dp (N*N) 0,Dp N 0) ⟨rfl,Dh,X5,E5,LdP.start hD b8 hB,ee,ed,DV,DV,fun q l=>by rw[Ht l];exact QY,fun q l=>by rw[Ht l];exact QY,Di⟩ ?_
 rintro⟨k,T,bf,a,ls,ds⟩ t w af _ ⟨rfl,d8,av,E,hP,oL,oD,lL,lD,sL,sD,hk⟩;dsimp only at d8 av E hP oL oD lL lD sL sD hk;have dj:GG w af:=g.ext av Z;obtain⟨fg,et,f4,eu,fi,dv,f2⟩:=E.e;refine zG ?_;by_cases qk:(k:Int)<(N:Int)
 .have d:k<N:=Z;have cd:=ow d d;have hZ:LdZ N P k T bf:=hP.tz hN.2 c9 b8 e4 d;have b9:∀i j,i<N→j<N→(T i j).natAbs<BW:=fun i j hi hj=>uR (hZ.t i j hi hj) Z;have bb:bf.natAbs<BW:=uR hZ.b Z;have dz:=hP.i.pos;have ba:bf≠0:=Z;have bp:∀i j,i<N→j<N→Sz (3*P+3) (Ef (T i j) bf):=fun i j hi hj=>uu dz (hZ.t i j hi hj) (sH hZ.b Z);have ce:3*P+3+P≤2496:=Z;have cp:=(hP.sz hN.2 aj hD a8 d Dh d Dh d).1;refine zG ?_;refine sC (Om _ dj E d d hN.2 (b9 k k d d) bb ba (bp k k d d) (cf k d) ce) ?_;rintro _ ev ad⟨R,Z1,Z0,S,Z4,V,W,Z3,rfl,H,I⟩ fo fk;rw[hP.at Dh d Dh d]at H I;refine sA ?_;intro ew fe fl;refine sS [Dk R,Y Z1 Z0 S,Dk Z4,Y V W Z3] ?_;intro ex ff f6;refine zG ?_;refine sC (Yp _ (E.x zx) d hN.2).cx ?_;rintro v ey f5 hv fp fm;rcases hv with⟨i,ac,ak,dy,rfl⟩|⟨dw,rfl⟩
  .refine zG ?_;refine sC (Qg _ (H.t zt) (I.t zt)) ?_;rintro _ dl e7⟨eh,rfl,M⟩ en ek;rcases M with⟨rfl,M⟩|⟨rfl,M⟩|⟨rfl,M⟩
   .exact CY
   .have ae:a k k=0:=FM.1 M;refine zG ?_;refine sC (qr _ (H.t zt) (I.t zt)) ?_;rintro _ c7 cm⟨bz,rfl,a9⟩ cs cq;rcases K3 a9 with⟨rfl,aq⟩|⟨rfl,_⟩
    .exact oU ae aq
    refine ZB ?_;exact⟨_,_,rfl,⟨fun l=>(by cases l),fun l=>oU l (hP.i.found (fun _=>kv) d ae ac ak dy)⟩,fun l=>(by cases l)⟩
   have a1:0<a k k:=jT M;refine zG ?_;refine sC (qr _ (H.t zt) (I.t zt)) ?_;rintro _ c7 cm⟨bz,rfl,a9⟩ cs cq;rcases K3 a9 with⟨rfl,_⟩|⟨rfl,aq⟩
   rotate_left
   .exact oU aq (fun e=>by rw[e]at a1;exact oU a1 zd)
   refine zG ?_;refine zn [0,1,3,7,0,0,48,0,240,0,1023,2047] rfl<|zH ?_;refine L8 k N Z ?_;refine zH ?_;refine dC (On _ _ _) ?_;rintro _ cv bm⟨b1,az,bk,b2,b3,b4,b5,b6,rfl,bc,bi⟩ d9 d6;refine dI (j:=k*N+k) rfl cd ?_;refine LI (n0:=n) (j:=k*N+k) [Dk b1,Y az bk b2,Dk b3,Y b4 b5 b6] (oL.xx Fq zx) Fq Z (D7 _) ⟨_,_,_,_,_,_,_,_,rfl,bc,bi⟩ Z ?_;intro a5 ao d3;refine zG ?_;refine zn [0,1,3,7,0,0,63,127] rfl<|zH ?_;refine dI rfl d ?_;have al:OR 4 ratP a5 bm A ds:=oD.go Fq zt (by
    have e0:w A=w A:=rfl;exact zp)
   refine LI (n0:=n) (j:=k) [Dk R,Y Z1 Z0 S,Dk Z4,Y V W Z3] al Fq Z (D7 _) ⟨_,_,_,_,_,_,_,_,rfl,H.t zt,I.t zt⟩ Z ?_;intro cw am d4;refine zG ?_;refine sC (qr _ (H.t zt) (I.t zt)) ?_;rintro _ p u⟨ct,rfl,ai⟩ da d7;have a7:EL p u b0 bt be bs N k T (tS N a0) bf (Y (some ⟨y,0,none⟩) (N*N) (N*N)) (Y (some ⟨A,0,none⟩) N N):=E.go zt (fun c hc=>by
    have e0:w c=w c:=rfl;have d0:c<3*af:=by rcases hc with rfl|rfl|rfl|rfl<;>omega
    have d1:c≠y∧c≠A:=by rcases hc with rfl|rfl|rfl|rfl<;>omega
    exact zp)
   have ap:OR 4 ratP p u y (ls.set (k*N+k) 1):=ao.go Fq zt (by
    have e0:a5 y=a5 y:=rfl;exact zp)
   have an:OR 4 ratP p u A (ds.set k (a k k)):=am.xx Fq zx;have au:∀q∈ls.set (k*N+k) 1,Sz 1890 q:=fun q l=>by
    rcases Fc l with l|rfl
    .exact sL q l
    exact Oq
   have ar:∀q∈ds.set k (a k k),Sz 1890 q:=fun q l=>by
    rcases Fc l with l|rfl
    .exact sD q l
    exact cp.mono Z
   have br:IW p u R Z1 Z0 S (a k k).num:=H.t zt;have bu:IW p u Z4 V W Z3 (denZ (a k k)):=I.t zt;obtain⟨cu,d2⟩:∃e,p (3*ad+2)=some (.row [Dk R,Y Z1 Z0 S,Dk Z4,Y V W Z3] e):=⟨_,zp⟩;have ah:∀c,c<3*n→p c=h c:=fun c hc=>(show p c=w c by
    have e0:w c=w c:=rfl;exact zp).trans (av c hc)
   rcases K3 ai with⟨rfl,_⟩|⟨rfl,bn⟩
   rotate_left
   .exact oU bn (fun e=>by rw[e]at a1;exact oU a1 zd)
   refine zG ?_;refine sF (α:=Nat×List Rat) (fun z=>[(1,U .i64 (N:Int)),(4,Dn none),(5,Dk false),(6,Dn (some ⟨b0,0,none⟩)),(7,Dk true),(8,U .i64 (k:Int)),(9,Dn (some ⟨3*ad+2,0,none⟩)),(12,U .i64 (z.1:Int)),(28,U .i64 (N:Int)),(29,U .i64 (k:Int))])
    (fun z h' n' w'=>w'=[]∧u≤n'∧ExtB u [y] p h'∧Tr u p n' h'∧OR 4 ratP h' n' y z.2∧O z.2=N*N∧(∀q∈z.2,Sz 1890 q)∧k+1≤z.1∧z.1≤N) (fun z=>N-z.1) (k+1,ls.set (k*N+k) 1) ⟨rfl,Dh,IT _ _ _,FS _ _,ap,Bh,au,Dh,d⟩ ?_
   rintro⟨i,a6⟩ t C G _ ⟨rfl,bo,a4,J,K,a2,a3,ac,ak⟩;dsimp only at bo ac ak K a2 a3 J;have ag:EL C G b0 bt be bs N k T (tS N a0) bf (Y (some ⟨y,0,none⟩) (N*N) (N*N)) (Y (some ⟨A,0,none⟩) N N):=a7.go J (fun c hc=>a4 c (by rcases hc with rfl|rfl|rfl|rfl<;>omega) AX);obtain⟨co,bx,cl,c2,d5,cy,bh⟩:=ag.e;have b7:GG C G:=g.ext (fun c hc=>(a4 c Z lj).trans (ah c hc)) Z;have cg:IW C G R Z1 Z0 S (a k k).num:=br.t J;have ci:IW C G Z4 V W Z3 (denZ (a k k)):=bu.t J;have eg:C (3*ad+2)=some (.row [Dk R,Y Z1 Z0 S,Dk Z4,Y V W Z3] _):=(a4 _ Z lj).trans (show p (3*ad+2)=_ from zp);refine zG ?_;by_cases qi:(i:Int)<(N:Int)
   .have F:i<N:=Z;have e3:=kK F;refine zG ?_;refine zn [0,1,3,7,0,0,48,0,240,0,0,0,3584,0,15872,32767,65535] rfl<|zH ?_;refine L8 i N Z ?_;refine zH ?_;refine dC (Om _ b7 ag F d hN.2 (b9 i k F d) bb ba (bp i k F d) (cf i F) ce) ?_;rintro _ dp e8⟨de,dd,e6,df,dg,dh,di,dk,rfl,bg,bj⟩ eo el;rw[hP.at Z F Dh d]at bg bj;refine zH ?_;refine dC (divQ _ (b7.x zx) bg bj (cg.t zt) (ci.t zt) ((hP.sz hN.2 aj hD a8 d Z F Dh d).2 Z) ((hP.sz hN.2 aj hD a8 d Dh d Dh d).2 Z) Z) ?_;rintro _ dq e9⟨c0,bw,ck,c1,c3,c4,c5,c6,rfl,ch,cj⟩ ep em;refine dI (j:=i*N+k) rfl (show i*N+k<N*N by omega) ?_;refine LI (n0:=n) (j:=i*N+k) [Dk c0,Y bw ck c1,Dk c3,Y c4 c5 c6] (K.xx Fq zx) Fq Z (D7 _) ⟨_,_,_,_,_,_,_,_,rfl,ch,cj⟩ Z ?_;intro dr cn ei;refine zG ?_;exact sK (i+1,a6.set (i*N+k) (a i k/a k k)) ⟨rfl,Z,zy,J.trans zt,cn,by rw[EU];exact a2,fun q l=>(by
     rcases Fc l with l|rfl
     .exact a3 q l
     .exact(hP.quo hN.2 aj hD a8 d a1 ac F).mono Z),Z,xl⟩
   exact B3
  refine zG ?_;refine sC (Qg _ (H.t zt) (I.t zt)) ?_;rintro _ dl e7⟨eh,rfl,M⟩ en ek;rcases M with⟨rfl,M⟩|⟨rfl,M⟩|⟨rfl,M⟩
  .exact CY
  .have ae:a k k=0:=FM.1 M;refine zG ?_;refine sC (qr _ (H.t zt) (I.t zt)) ?_;rintro _ c7 cm⟨bz,rfl,a9⟩ cs cq;rcases K3 a9 with⟨rfl,aq⟩|⟨rfl,_⟩
   .exact oU ae aq
   refine zG ?_;refine zn [0,1,3,7,0,0,48,0,240,0,1023,2047] rfl<|zH ?_;refine L8 k N Z ?_;refine zH ?_;refine dC (On _ _ _) ?_;rintro _ cv bm⟨b1,az,bk,b2,b3,b4,b5,b6,rfl,bc,bi⟩ d9 d6;refine dI (j:=k*N+k) rfl cd ?_;refine LI (n0:=n) (j:=k*N+k) [Dk b1,Y az bk b2,Dk b3,Y b4 b5 b6] (oL.xx Fq zx) Fq Z (D7 _) ⟨_,_,_,_,_,_,_,_,rfl,bc,bi⟩ Z ?_;intro a5 ao d3;refine zG ?_;refine zn [0,1,3,7,0,0,63,127] rfl<|zH ?_;refine dI rfl d ?_;have al:OR 4 ratP a5 bm A ds:=oD.go Fq zt (by
    have e0:w A=w A:=rfl;exact zp)
   refine LI (n0:=n) (j:=k) [Dk R,Y Z1 Z0 S,Dk Z4,Y V W Z3] al Fq Z (D7 _) ⟨_,_,_,_,_,_,_,_,rfl,H.t zt,I.t zt⟩ Z ?_;intro cw am d4;refine zG ?_;refine sC (qr _ (H.t zt) (I.t zt)) ?_;rintro _ p u⟨ct,rfl,ai⟩ da d7;have a7:EL p u b0 bt be bs N k T (tS N a0) bf (Y (some ⟨y,0,none⟩) (N*N) (N*N)) (Y (some ⟨A,0,none⟩) N N):=E.go zt (fun c hc=>by
    have e0:w c=w c:=rfl;have d0:c<3*af:=by rcases hc with rfl|rfl|rfl|rfl<;>omega
    have d1:c≠y∧c≠A:=by rcases hc with rfl|rfl|rfl|rfl<;>omega
    exact zp)
   have ap:OR 4 ratP p u y (ls.set (k*N+k) 1):=ao.go Fq zt (by
    have e0:a5 y=a5 y:=rfl;exact zp)
   have an:OR 4 ratP p u A (ds.set k (a k k)):=am.xx Fq zx;have au:∀q∈ls.set (k*N+k) 1,Sz 1890 q:=fun q l=>by
    rcases Fc l with l|rfl
    .exact sL q l
    exact Oq
   have ar:∀q∈ds.set k (a k k),Sz 1890 q:=fun q l=>by
    rcases Fc l with l|rfl
    .exact sD q l
    exact cp.mono Z
   have br:IW p u R Z1 Z0 S (a k k).num:=H.t zt;have bu:IW p u Z4 V W Z3 (denZ (a k k)):=I.t zt;obtain⟨cu,d2⟩:∃e,p (3*ad+2)=some (.row [Dk R,Y Z1 Z0 S,Dk Z4,Y V W Z3] e):=⟨_,zp⟩;have ah:∀c,c<3*n→p c=h c:=fun c hc=>(show p c=w c by
    have e0:w c=w c:=rfl;exact zp).trans (av c hc)
   rcases K3 ai with⟨rfl,bn⟩|⟨rfl,_⟩
   .exact oU ae bn
   obtain⟨co,bx,cl,c2,d5,cy,bh⟩:=a7.e;refine zG ?_;refine LN (n0:=n) [U .i64 (N:Int),U .i64 ((k+1:Nat):Int),Dn (some ⟨bt,0,none⟩),Dk co,Y bx cl c2,Y (some ⟨y,0,none⟩) (N*N) (N*N),Y (some ⟨A,0,none⟩) N N] ?_;intro dm ef aw;refine zG ?_;have er:=a7.z.1;have es:=a7.s.1;obtain⟨fj,dx⟩:=a7.t;have dc:EL dm u b0 bt be bs N (k+1) T (tS N a0) bf (Y (some ⟨y,0,none⟩) (N*N) (N*N)) (Y (some ⟨A,0,none⟩) N N):=⟨⟨_,_,_,_,_,ef,bh.t zt⟩,⟨_,(aw.1 bt Z).trans dx⟩,a7.z.go HA zt (aw.1 be Z),a7.s.go Fq zt (aw.1 bs Z),Z,⟨rfl,rfl⟩⟩;exact sK (k+1,T,bf,a,ls.set (k*N+k) 1,ds.set k (a k k)) ⟨rfl,Z,fun c hc=>(aw.1 c Z).trans (ah c hc),dc,hP.skip hD d ae dw,ap.go Fq zt (aw.1 y Z),an.go Fq zt (aw.1 A Z),Bh,Bi,au,ar,by show k+1≤N;omega⟩
  have a1:0<a k k:=jT M;refine zG ?_;refine sC (qr _ (H.t zt) (I.t zt)) ?_;rintro _ c7 cm⟨bz,rfl,a9⟩ cs cq;rcases K3 a9 with⟨rfl,_⟩|⟨rfl,aq⟩
  rotate_left
  .exact oU aq (fun e=>by rw[e]at a1;exact oU a1 zd)
  refine zG ?_;refine zn [0,1,3,7,0,0,48,0,240,0,1023,2047] rfl<|zH ?_;refine L8 k N Z ?_;refine zH ?_;refine dC (On _ _ _) ?_;rintro _ cv bm⟨b1,az,bk,b2,b3,b4,b5,b6,rfl,bc,bi⟩ d9 d6;refine dI (j:=k*N+k) rfl cd ?_;refine LI (n0:=n) (j:=k*N+k) [Dk b1,Y az bk b2,Dk b3,Y b4 b5 b6] (oL.xx Fq zx) Fq Z (D7 _) ⟨_,_,_,_,_,_,_,_,rfl,bc,bi⟩ Z ?_;intro a5 ao d3;refine zG ?_;refine zn [0,1,3,7,0,0,63,127] rfl<|zH ?_;refine dI rfl d ?_;have al:OR 4 ratP a5 bm A ds:=oD.go Fq zt (by
   have e0:w A=w A:=rfl;exact zp)
  refine LI (n0:=n) (j:=k) [Dk R,Y Z1 Z0 S,Dk Z4,Y V W Z3] al Fq Z (D7 _) ⟨_,_,_,_,_,_,_,_,rfl,H.t zt,I.t zt⟩ Z ?_;intro cw am d4;refine zG ?_;refine sC (qr _ (H.t zt) (I.t zt)) ?_;rintro _ p u⟨ct,rfl,ai⟩ da d7;have a7:EL p u b0 bt be bs N k T (tS N a0) bf (Y (some ⟨y,0,none⟩) (N*N) (N*N)) (Y (some ⟨A,0,none⟩) N N):=E.go zt (fun c hc=>by
   have e0:w c=w c:=rfl;have d0:c<3*af:=by rcases hc with rfl|rfl|rfl|rfl<;>omega
   have d1:c≠y∧c≠A:=by rcases hc with rfl|rfl|rfl|rfl<;>omega
   exact zp)
  have ap:OR 4 ratP p u y (ls.set (k*N+k) 1):=ao.go Fq zt (by
   have e0:a5 y=a5 y:=rfl;exact zp)
  have an:OR 4 ratP p u A (ds.set k (a k k)):=am.xx Fq zx;have au:∀q∈ls.set (k*N+k) 1,Sz 1890 q:=fun q l=>by
   rcases Fc l with l|rfl
   .exact sL q l
   exact Oq
  have ar:∀q∈ds.set k (a k k),Sz 1890 q:=fun q l=>by
   rcases Fc l with l|rfl
   .exact sD q l
   exact cp.mono Z
  have br:IW p u R Z1 Z0 S (a k k).num:=H.t zt;have bu:IW p u Z4 V W Z3 (denZ (a k k)):=I.t zt;obtain⟨cu,d2⟩:∃e,p (3*ad+2)=some (.row [Dk R,Y Z1 Z0 S,Dk Z4,Y V W Z3] e):=⟨_,zp⟩;have ah:∀c,c<3*n→p c=h c:=fun c hc=>(show p c=w c by
   have e0:w c=w c:=rfl;exact zp).trans (av c hc)
  rcases K3 ai with⟨rfl,_⟩|⟨rfl,bn⟩
  rotate_left
  .exact oU bn (fun e=>by rw[e]at a1;exact oU a1 zd)
  refine zG ?_;refine sF (α:=Nat×List Rat) (fun z=>[(1,U .i64 (N:Int)),(4,Dn none),(5,Dk false),(6,Dn (some ⟨b0,0,none⟩)),(7,Dk true),(8,U .i64 (k:Int)),(9,Dn (some ⟨3*ad+2,0,none⟩)),(12,U .i64 (z.1:Int)),(28,U .i64 (N:Int)),(29,U .i64 (k:Int))])
   (fun z h' n' w'=>w'=[]∧u≤n'∧ExtB u [y] p h'∧Tr u p n' h'∧OR 4 ratP h' n' y z.2∧O z.2=N*N∧(∀q∈z.2,Sz 1890 q)∧k+1≤z.1∧z.1≤N) (fun z=>N-z.1) (k+1,ls.set (k*N+k) 1) ⟨rfl,Dh,IT _ _ _,FS _ _,ap,Bh,au,Dh,d⟩ ?_
  rintro⟨i,a6⟩ t C G _ ⟨rfl,bo,a4,J,K,a2,a3,ac,ak⟩;dsimp only at bo ac ak K a2 a3 J;have ag:EL C G b0 bt be bs N k T (tS N a0) bf (Y (some ⟨y,0,none⟩) (N*N) (N*N)) (Y (some ⟨A,0,none⟩) N N):=a7.go J (fun c hc=>a4 c (by rcases hc with rfl|rfl|rfl|rfl<;>omega) AX);obtain⟨co,bx,cl,c2,d5,cy,bh⟩:=ag.e;have b7:GG C G:=g.ext (fun c hc=>(a4 c Z lj).trans (ah c hc)) Z;have cg:IW C G R Z1 Z0 S (a k k).num:=br.t J;have ci:IW C G Z4 V W Z3 (denZ (a k k)):=bu.t J;have eg:C (3*ad+2)=some (.row [Dk R,Y Z1 Z0 S,Dk Z4,Y V W Z3] _):=(a4 _ Z lj).trans (show p (3*ad+2)=_ from zp);refine zG ?_;by_cases qi:(i:Int)<(N:Int)
  .have F:i<N:=Z;have e3:=kK F;refine zG ?_;refine zn [0,1,3,7,0,0,48,0,240,0,0,0,3584,0,15872,32767,65535] rfl<|zH ?_;refine L8 i N Z ?_;refine zH ?_;refine dC (Om _ b7 ag F d hN.2 (b9 i k F d) bb ba (bp i k F d) (cf i F) ce) ?_;rintro _ dp e8⟨de,dd,e6,df,dg,dh,di,dk,rfl,bg,bj⟩ eo el;rw[hP.at Z F Dh d]at bg bj;refine zH ?_;refine dC (divQ _ (b7.x zx) bg bj (cg.t zt) (ci.t zt) ((hP.sz hN.2 aj hD a8 d Z F Dh d).2 Z) ((hP.sz hN.2 aj hD a8 d Dh d Dh d).2 Z) Z) ?_;rintro _ dq e9⟨c0,bw,ck,c1,c3,c4,c5,c6,rfl,ch,cj⟩ ep em;refine dI (j:=i*N+k) rfl (show i*N+k<N*N by omega) ?_;refine LI (n0:=n) (j:=i*N+k) [Dk c0,Y bw ck c1,Dk c3,Y c4 c5 c6] (K.xx Fq zx) Fq Z (D7 _) ⟨_,_,_,_,_,_,_,_,rfl,ch,cj⟩ Z ?_;intro dr cn ei;refine zG ?_;exact sK (i+1,a6.set (i*N+k) (a i k/a k k)) ⟨rfl,Z,zy,J.trans zt,cn,by rw[EU];exact a2,fun q l=>(by
    rcases Fc l with l|rfl
    .exact a3 q l
    .exact(hP.quo hN.2 aj hD a8 d a1 ac F).mono Z),Z,xl⟩
  exact B3
 have d:k=N:=Z;refine ZB ?_;exact⟨_,_,rfl,⟨fun _=>hP.i.done d,fun _=>rfl⟩,fun _=>⟨y,A,ls,ds,_,_,_,_,_,_,dv,Z,o2,oL,oD,lL,lD,sL,sD⟩⟩
end
end
def Ot(x:Rat)(lo hi:List UInt8):Prop:=(lo=[]∨numOf lo≤x)∧(hi=[]∨x≤numOf hi)
def QZ(m:Rat)(lo hi:List UInt8):Prop:=(0<m.num→lo≠[])∧(m.num<0→hi≠[])
def hS{α β:Type}(R:α→β→Prop)(ds:List α)(xs:List β):Prop:=∀(j:Nat) d q,ds[j]?=some d→xs[j]?=some q→R d q
def hT{α β:Type}(R:α→β→Prop)(ds:List α)(xs:List β)(j:Nat):Prop:=∀i,i<j→∀d q,ds[i]?=some d→xs[i]?=some q→R d q
section
variable {R:α→β→Prop}{ds:List α}{ms:List β}{j:Nat}{d:α}{m:β}
end
abbrev okS(ds:List SideD)(ms:List Rat):Prop:=hS (fun d m=>QZ m d.lo d.hi) ds ms
abbrev okT(ds:List SideD)(ms:List Rat)(j:Nat):Prop:=hT (fun d m=>QZ m d.lo d.hi) ds ms j
abbrev inS(ds:List SideD)(xs:List Rat):Prop:=hS (fun d q=>Ot q d.lo d.hi) ds xs
abbrev inT(ds:List SideD)(xs:List Rat)(j:Nat):Prop:=hT (fun d q=>Ot q d.lo d.hi) ds xs j
def rowH(P:Rat→List UInt8→List UInt8→Prop)(xs:List Rat)(d:SideD):Prop:=P (dotR d.A (xs.take (O d.A))) d.lo d.hi
abbrev rowIn(xs:List Rat)(d:SideD):Prop:=rowH Ot xs d
section
variable {ms cs:List Rat}{i j:Nat}
end
section
variable {ms:List Nat}{i n:Nat}{ef:List (Nat×HF×List Nat)}{d:Tmp}
end
open Classical in
open Classical in
open Classical in
section
variable {p:LPD}{R:List (List UInt8)}
open Classical in
open Classical in
end
def wU:List Rat→Nat
 |[]=>1
 |q::l=>q.den*wU l
theorem rh:∀l:List Rat,0<wU l
 |[]=>ao1
 |q::l=>Fw q.den_pos (rh l)
theorem Q0{a:Nat}:∀{l:List Rat} {k:Nat},(∀q∈l,Sz a q)→O l≤k→wU l≤2^(a*k):=by
 intro l;induction l with
 |nil=>intro k _ _;exact HN _
 |cons q l ih=>
  intro k h b;cases k with
  |zero=>simp at b
  |succ k=>
   show q.den*wU l≤_;rw[Nat.mul_succ,EH,Dt (2^(a*k))];exact Es (HG (h q cA).2) (ih (fun q c=>h q Bm) (by simpa using b))
section
variable {n p:Nat}{s:List UInt8}
structure SR (s:List UInt8)(x y:Int):Prop where
 e1:x=(numOf s).num
 e2:y=((numOf s).den:Int)
 b1: -1000000000<x∧x<1000000000
 b2:0<y∧y<1000000000
theorem mul9{a b:Int}(c: -1000000000<a∧a<1000000000)(d: -1000000000<b∧b<1000000000): -1000000000000000000≤a*b∧a*b≤1000000000000000000:=by
 have h:(a*b).natAbs≤1000000000*1000000000:=by
  rw[Fl];exact Es Z Z
 omega
theorem Q1{a b:Int}(c:0<a∧a<1000000000)(d:0<b∧b<1000000000):0<a*b∧a*b≤1000000000000000000:=⟨ae5 c.1 d.1,(mul9 ⟨Z,c.2⟩ ⟨Z,d.2⟩).2⟩
theorem kN(k:Nat)(h:HF)(n:Nat)(s:List UInt8)(i:O s<1000000):CX (KO (k+5)) 114 [Dl ⟨⟨s⟩⟩] h n fun v _ _=>∃x y a,v=.tuple #[.agg #[U .i64 x,U .i64 y],Dk a]∧(a=true→SR s x y):=by
 refine yD (oj k h n s i) ?_;rintro v m o w⟨b,c,d,x,y,a,rfl,g⟩;refine⟨b,c,d,x,y,a,rfl,fun f=>?_⟩;obtain⟨q,e,rfl,rfl,j,l⟩:=g f;rw[←rL e]at*
 have:=(numOf s).den_pos;exact⟨rfl,rfl,Z,Z⟩
theorem fe(k:Nat)(g:GG h n){N D:Int}(a: -9000000000000000000≤N∧N≤9000000000000000000)(b:0<D∧D≤9000000000000000000):CX (KO (k+6)) 86 [U .i64 N,U .i64 D] h n fun v _ _=>v=Dl ⟨⟨ratT (Ef N D)⟩⟩:=by
 obtain⟨d,rfl⟩:∃d:Nat,D=(d:Int):=⟨D.toNat,Z⟩;exact(dY k g.1 g.2 a ⟨Z,Z⟩).cx
theorem SR.add{a b:List UInt8}{x y u v:Int}(p:SR a x y)(q:SR b u v):Ef (x*v+u*y) (y*v)=numOf a+numOf b:=by
 rw[p.e1,p.e2,q.e1,q.e2,Rat.add_def',←JN,E0]
theorem SR.mul{a b:List UInt8}{x y u v:Int}(p:SR a x y)(q:SR b u v):Ef (x*u) (y*v)=numOf a*numOf b:=by
 rw[p.e1,p.e2,q.e1,q.e2,Rat.mul_def',←JN,E0]
theorem TL.ratT(h:Sz 1890 q):TL (ratT q):=by
 have a:∀V,V<2^1890→O (decT V)≤570:=fun V b=>by
  unfold decT;split
  .decide
  rw[DC,nH];exact wJ 570 V (DY b kF)
 refine⟨?_,fun m d e=>?_⟩
 .have c:=a _ h.1;have f:=a _ h.2;unfold Go.Proofs.YtfajmfoofmienaaGreatDoor.ratT;simp only[Do];split<;>split<;>simp<;>omega
 rw[np]at e;injection e with e1 e2
 injection e2 with e2 _
 subst e1 e2;refine⟨a _ h.1,?_⟩;split
 .exact Hf _
 exact a _ h.2
theorem aj(k:Nat){a b:List UInt8}(ha:O a<1000000)(hb:O b<1000000):CX (KO (k+6)) 85 [Dl ⟨⟨a⟩⟩,Dl ⟨⟨b⟩⟩] h n fun v _ _=>∃x y u t ok,v=.tuple #[.agg #[U .i64 x,U .i64 y],.agg #[U .i64 u,U .i64 t],Dk ok]∧(ok=true→SR a x y∧SR b u t):=by
 refine zl (fn:=Tryz.f85) R4<|Zs ?_;intro o a5 am;refine sA ?_;intro w a6 an;refine zG ?_;refine sC (kN _ _ _ a ha) ?_;rintro _ A S⟨c,e,l,rfl,g⟩ aw ao;cases l
 .refine Zs ?_;intro B a7 ap;refine sS [U .i64 c,U .i64 e] ?_;intro C a8 Z4;refine zG ?_;refine sT #[U .i64 0,U .i64 0] ?_;refine sT #[U .i64 0,U .i64 0] ?_;refine sS [U .i64 0,U .i64 0] ?_;intro D a9 V;refine sS [U .i64 0,U .i64 0] ?_;intro F aa W;refine zq ?_;exact⟨_,_,_,_,_,rfl,fun j=>(by cases j)⟩
 have g:=g rfl;refine Zs ?_;intro G ab aq;refine sS [U .i64 c,U .i64 e] ?_;intro H ac Z3;refine zG ?_;refine sC (kN _ _ _ b hb) ?_;rintro _ I T⟨d,f,m,rfl,i⟩ ax ar;cases m
 .refine Zs ?_;intro J ad au;refine sS [U .i64 d,U .i64 f] ?_;intro K ae Z0;refine zG ?_;refine sT #[U .i64 0,U .i64 0] ?_;refine sT #[U .i64 0,U .i64 0] ?_;refine sS [U .i64 0,U .i64 0] ?_;intro L af a0;refine sS [U .i64 0,U .i64 0] ?_;intro M ag a1;refine zq ?_;exact⟨_,_,_,_,_,rfl,fun j=>(by cases j)⟩
 have i:=i rfl;refine Zs ?_;intro N ah av;refine sS [U .i64 d,U .i64 f] ?_;intro Z1 ai a2;refine zG ?_;refine zn [0,0,1,7,15] rfl<|zH ?_;refine dS [U .i64 c,U .i64 e] ?_;intro P ak a3;refine dS [U .i64 d,U .i64 f] ?_;intro R al a4;refine zq ?_;exact⟨_,_,_,_,_,rfl,fun _=>⟨g,i⟩⟩
theorem bz(k:Nat)(g:GG h n)(hs:TL s):CX (KO (k+10)) 87 [Dl ⟨⟨s⟩⟩] h n (QV (numOf s)):=by
 refine zl (fn:=Tryz.f87) R4<|Zs ?_;intro u G K;refine zG ?_;refine sC (Qu _ (g.x zx) hs) ?_;rintro _ v C⟨b,a,j,c,d,e,f,i,o,rfl,l,m,B⟩ N L;refine Zs ?_;intro w H M;refine sS [Dk b,Y a j c,Dk d,Y e f i] ?_;intro y I D;refine zG ?_;refine sS [Dk b,Y a j c,Dk d,Y e f i] ?_;intro A J F;refine zq ?_;exact⟨_,_,_,_,_,_,_,_,rfl,(l.t zt),(m.t zt)⟩
theorem addS(k:Nat)(g:GG h n){a b:List UInt8}(ha:TL a)(hb:TL b){q r:Nat}(C:Sz p (numOf a))(F:Sz q (numOf b))(ar:p+q+1≤2496)(G:Sz r (numOf a+numOf b))(hr:r≤1920):VF (KO (k+11)) 48 [Dl ⟨⟨a⟩⟩,Dl ⟨⟨b⟩⟩] h n fun v=>v=Dl ⟨⟨ratT (numOf a+numOf b)⟩⟩:=by
 refine zB (fn:=Tryz.f48) R4<|zG ?_;refine sC (aj _ ha.1 hb.1) ?_;rintro _ ac ax⟨f,d,e,c,l,rfl,B⟩ br bh;cases l
 .refine Zs ?_;intro ad b9 bi;refine sA ?_;intro ae ba bj;refine sS [U .i64 f,U .i64 d] ?_;intro af bb b5;refine sS [U .i64 e,U .i64 c] ?_;intro ag bc b6;refine zG ?_;refine sC (bz _ (g.x zx) ha) ?_;rintro _ ah ay⟨K,H,au,S,W,a1,a5,a9,rfl,m,w⟩ bs bk;refine zG ?_;refine sC (bz _ (g.x zx) hb) ?_;rintro _ ai az⟨L,I,av,T,Z3,a2,a6,aa,rfl,o,y⟩ bt bl;refine sC (addQ _ (g.x zx) (m.t zt) (w.t zt) o y C F Z) ?_;rintro _ ak b0⟨M,J,aw,Z4,Z0,a3,a7,ab,rfl,u,A⟩ bu bm;refine sC ((sE _ (g.x zx).1 (g.x zx).2 u A G hr).cx) ?_;rintro _ al b3 rfl bv bn;refine zf ?_;exact rfl
 obtain⟨i,j⟩:=B rfl;have V:=i.b1;have a0:=i.b2;have a4:=j.b1;have a8:=j.b2;refine Zs ?_;intro am bd bo;refine sA ?_;intro an be bp;refine sS [U .i64 f,U .i64 d] ?_;intro ao bf b7;refine sS [U .i64 e,U .i64 c] ?_;intro ap bg b8;refine zG ?_;have Z1:=mul9 (a:=f) (b:=c) Z Z;refine st_mul rfl rfl rfl rfl rfl rfl Z ?_;refine zG ?_;have P:=mul9 (a:=e) (b:=d) Z Z;refine st_mul rfl rfl rfl rfl rfl rfl Z ?_;refine zG ?_;have R:=Q1 (a:=d) (b:=c) Z Z;refine st_mul rfl rfl rfl rfl rfl rfl Z ?_;refine sC (fe _ (g.x zx) (N:=((f*c)+(e*d))) (D:=(d*c)) Z Z) ?_;rintro _ aq b4 rfl bw bq;refine zf ?_;exact by rw[SR.add i j];rfl
theorem mulS(k:Nat)(g:GG h n){a b:List UInt8}(ha:TL a)(hb:TL b){q r:Nat}(C:Sz p (numOf a))(F:Sz q (numOf b))(aq:p+q+1≤2496)(G:Sz r (numOf a*numOf b))(hr:r≤1920):VF (KO (k+11)) 49 [Dl ⟨⟨a⟩⟩,Dl ⟨⟨b⟩⟩] h n fun v=>v=Dl ⟨⟨ratT (numOf a*numOf b)⟩⟩:=by
 refine zB (fn:=Tryz.f49) R4<|zG ?_;refine sC (aj _ ha.1 hb.1) ?_;rintro _ ab aw⟨e,f,c,d,l,rfl,B⟩ bq bg;cases l
 .refine Zs ?_;intro ac b8 bh;refine sA ?_;intro ad b9 bi;refine sS [U .i64 e,U .i64 f] ?_;intro ae ba b4;refine sS [U .i64 c,U .i64 d] ?_;intro af bb b5;refine zG ?_;refine sC (bz _ (g.x zx) ha) ?_;rintro _ ag ax⟨K,H,ar,R,V,a0,a4,a8,rfl,m,w⟩ br bj;refine zG ?_;refine sC (bz _ (g.x zx) hb) ?_;rintro _ ah ay⟨L,I,au,S,W,a1,a5,a9,rfl,o,y⟩ bs bk;refine sC (mulQ _ (g.x zx) (m.t zt) (w.t zt) o y C F Z) ?_;rintro _ ai az⟨M,J,av,T,Z3,a2,a6,aa,rfl,u,A⟩ bt bl;refine sC ((sE _ (g.x zx).1 (g.x zx).2 u A G hr).cx) ?_;rintro _ ak b0 rfl bu bm;refine zf ?_;exact rfl
 obtain⟨i,j⟩:=B rfl;have Z4:=i.b1;have Z0:=i.b2;have a3:=j.b1;have a7:=j.b2;refine Zs ?_;intro al bc bn;refine sA ?_;intro am bd bo;refine sS [U .i64 e,U .i64 f] ?_;intro an be b6;refine sS [U .i64 c,U .i64 d] ?_;intro ao bf b7;refine zG ?_;have Z1:=mul9 (a:=e) (b:=c) Z Z;refine st_mul rfl rfl rfl rfl rfl rfl Z ?_;refine zG ?_;have P:=Q1 (a:=f) (b:=d) Z Z;refine st_mul rfl rfl rfl rfl rfl rfl Z ?_;refine sC (fe _ (g.x zx) (N:=(e*c)) (D:=(f*d)) Z Z) ?_;rintro _ ap b3 rfl bv bp;refine zf ?_;exact by rw[SR.mul i j];rfl
end
section
variable {k len n sz:Nat}{a:Option Addr}
theorem strs_len1(l:List (List UInt8)):O (strs l)=O l*1:=by simp[strs]
theorem ones_strs(l:List (List UInt8)):ones (strs l)=true:=by
 induction l with
 |nil=>rfl
 |cons e l ih=>exact ih
end
section
variable {s:List UInt8}{a:Option Addr}{j:Nat}
theorem YB(V:Nat):V<10^O (decT V):=by
 have h:∀V,V<10^O (decD V):=by
  intro V;induction V using Nat.strongRecOn with
  |_ V ih=>
   by_cases h0:V=0
   .subst h0;rw[yZ];exact ao1
   rw[wE h0,Do];have:=ih (V/10) Z;rw[show(decD (V/10)).length+[V%10].length=O (decD (V/10))+1 from rfl,DI];omega
 unfold decT;split
 .rename_i h0;rw[h0];decide
 rw[DC,nH];exact h V
theorem LR.of{m a:Nat}(h:O s≤m)(g:m<500)(e:10^m≤2^a)(c:1≤a):LR a s:=by
 refine⟨Z,?_⟩;by_cases hn:xC s
 .have f:=rK hn;generalize numOf s=q at f;have b:=congrArg O f;unfold ratT at b;simp only[Do]at b;constructor
  .exact Cv
  by_cases h2:q.den=1
  .rw[h2];exact DY (by decide:(1:Nat)<2^1) (DJ zd c)
  rw[CT h2,D3]at b;exact Cv
 rw[uI hn];exact ar7 a c
def YC(r:RowD):Prop:=O r.A≤7∧(∀s∈r.A,(O s:Int)≤8)∧∀s∈[r.lo,r.hi],(O s:Int)≤8
structure SmlP (p:LPD):Prop where
 n1:O p.obj≤5
 n2:O p.rows≤6
 n3:O p.lower≤7
 n4:O p.upper≤7
 ob:∀s∈p.obj,(O s:Int)≤8
 lw:∀s∈p.lower,(O s:Int)≤8
 up:∀s∈p.upper,(O s:Int)≤8
 rw:∀r∈p.rows,YC r
section
variable {n:Nat}{d:Tmp}
end
section
variable {ms:List Nat}{i n:Nat}{ef:List (Nat×HF×List Nat)}{d:Tmp}
end
end
section
variable {n:Nat}
section
variable {x y:Rat}{p q r:Nat}
theorem zT(x:Rat):numOf (ratT x)=x:=rL rfl
theorem addR(k:Nat)(g:GG h n)(e:Sz p x)(f:Sz q y)(hp:p≤1890)(l:q≤1890)(c:p+q+1≤2496){z:Rat}(d:x+y=z)(o:Sz r z)(m:r≤1920):VF (KO (k+11)) 48 [Dl ⟨⟨ratT x⟩⟩,Dl ⟨⟨ratT y⟩⟩] h n fun v=>v=Dl ⟨⟨ratT z⟩⟩:=by
 have:=addS k g (a:=ratT x) (b:=ratT y) (TL.ratT (e.mono hp)) (TL.ratT (f.mono l)) (p:=p) (q:=q) (r:=r) (by rw[zT];exact e) (by rw[zT];exact f) c (by rw[zT,zT,d];exact o) m;rw[zT,zT,d]at this;exact this
theorem mulR(k:Nat)(g:GG h n)(c:Sz p x)(d:Sz q y)(hp:p≤1890)(e:q≤1890)(f:p+q≤1900):VF (KO (k+11)) 49 [Dl ⟨⟨ratT x⟩⟩,Dl ⟨⟨ratT y⟩⟩] h n fun v=>v=Dl ⟨⟨ratT (x*y)⟩⟩:=by
 have:=mulS k g (a:=ratT x) (b:=ratT y) (TL.ratT (c.mono hp)) (TL.ratT (d.mono e)) (p:=p) (q:=q) (r:=p+q) (by rw[zT];exact c) (by rw[zT];exact d) Z (by rw[zT,zT];exact c.mul d) Z;rw[zT,zT]at this;exact this
end
section
variable {p:LPD}{R X:List (List UInt8)}{i j:Nat}
theorem mE:ratT 0=[48]:=rfl
end
end
section
variable {s:List UInt8}
theorem rI(h:Sz 600 q):O (ratT q)<500:=by
 have b:∀V,V<2^600→O (decT V)≤181:=fun V d=>by
  unfold decT;split
  .decide
  rw[DC,nH];exact wJ 181 V (DY d kF)
 have e:=b _ h.1;have f:=b _ h.2;unfold Go.Proofs.YtfajmfoofmienaaGreatDoor.ratT;simp only[Do];split<;>split<;>simp<;>omega
theorem YD(k:Nat)(h:HF)(n:Nat){N:Nat}{a:Option Addr}(b:1≤N∧N≤3):VF (KO (k+1)) 200 [.agg #[U .i64 (N:Int),U .i64 (N:Int),Y a (N*N) c]] h n fun v=>v=Dk true:=by
 have e:=LH b.2;refine zB (fn:=Tryz.f200) R4<|zG ?_;refine sB [U .i64 (N:Int),U .i64 (N:Int),Y a (N*N) c] ?_;intro d f g;refine zG ?_;refine LZ N N Z ?_;refine Zt ?_;rfl
theorem bK{N:Nat}{a:Nat→Nat→Rat}:((tabL N a).map ratT).map numOf=tabL N a:=by
 rw[H2,show numOf ∘ ratT=id from funext zT,List.map_id]
theorem FN.den{x:Rat}(h:FN D B x):x.den∣D:=by
 obtain⟨z,e,_⟩:=h;have b:x.num*(D:Int)=z*(x.den:Int):=by
  apply J3.1;rw[FO,FO,←e,←th x,EZ,EZ,EJ,EJ,Hm (x.den:Rat)]
 have d:x.num.natAbs*D=z.natAbs*x.den:=by
  have:=congrArg F5 b;rwa [Fl,Fl,DQ,DQ]at this
 exact(ac5 x.reduced).dvd_of_dvd_mul_left ⟨z.natAbs,by rw[d,Dt]⟩
theorem FN.sz{P:Nat}(h:FN D B q)(i:0<D)(d:D<2^P)(b:B<2^P):Sz P q:=by
 obtain⟨z,j,g⟩:=h;have f:((D:Int):Rat)≠0:=lT i;have e:q=Ef z D:=by
  rw[FP,FI,←j,←EZ,EJ,Gl _ f,Hn]
 rw[e];exact uu Z (DP g b) (by rw[DQ];exact d)
section
variable {N n:Nat}{a:Nat→Nat→Rat}
theorem bL(f:s∈(tabL N a).map ratT):∃i j,i<N∧j<N∧s=ratT (a i j):=by
 obtain⟨q,e,rfl⟩:=EX.1 f;obtain⟨m,b,rfl⟩:=EX.1 e;have b:=Gy.1 b;have d:0<N:=by
  rcases Nat.eq_zero_or_pos N with rfl|h
  .simp at b
  exact h
 exact⟨_,_,Nat.div_lt_of_lt_mul b,Nat.mod_lt _ d,rfl⟩
theorem YE(k:Nat)(g:GG h n)(p:1≤N∧N≤3)(s:Sl h n 1 (Y aE (N*N) cE) (strs ((tabL N a).map ratT)))(C:∀i j,i<N→j<N→Sz P (a i j))(K:P≤600):
  CX (KO (k+11)) 162 [.agg #[U .i64 (N:Int),U .i64 (N:Int),Y aE (N*N) cE]] h n fun v h' n'=>∃d m f,v=.tuple #[Y d m f,Dk true]∧Od n h' n' (Y d m f) (tabL N a):=by
 refine zl (fn:=Tryz.f162) R4<|zG ?_;refine sB [U .i64 (N:Int),U .i64 (N:Int),Y aE (N*N) cE] ?_;intro L R S;refine zG ?_;refine sC (YD _ _ _ p).cx ?_;rintro _ o y rfl V T;refine zG ?_;have J:Sl o y 1 (Y aE (N*N) cE) (strs ((tabL N a).map ratT)):=s.ext (zx:Tx n h y o).2 Z;refine sC (WK _ (g.x zx) J (fun s l=>by
  obtain⟨i,j,F,G,rfl⟩:=bL l;exact DY (rI ((C i j F G).mono Z)) zd) (by rw[DC,yF];have:=LH p.2;omega)) ?_
 rintro _ M Z1⟨d,m,f,I,rfl,u,b⟩ W Z4;have H:I=true:=u.2 (fun s l=>by
  obtain⟨q,_,rfl⟩:=EX.1 l;exact⟨q,rfl⟩)
 subst H;have b:=b rfl;rw[bK]at b;refine ZB ?_;exact⟨_,_,_,rfl,b.1,fun A w cap e=>by have:=b.2 A w cap e;exact⟨Z,this.2⟩⟩
theorem YG(k:Nat)(g:GG h n)(p:1≤N∧N≤3)(s:Sl h n 1 (Y aE (N*N) cE) (strs ((tabL N a).map ratT)))(I:∀i j,i<N→j<N→Sz P (a i j))(u:P≤600)(J:∀i j,i<N→j<N→a i j=a j i):
  CX (KO (k+12)) 138 [.agg #[U .i64 (N:Int),U .i64 (N:Int),Y aE (N*N) cE]] h n fun v h' n'=>∃a' l' c',v=.tuple #[Y a' l' c',U .i64 0]∧Od n h' n' (Y a' l' c') (tabL N a):=by
 have T:=LH p.2;refine zl (fn:=Tryz.f138) R4<|zG ?_;refine sB [U .i64 (N:Int),U .i64 (N:Int),Y aE (N*N) cE] ?_;intro h1 W x1;refine zG ?_;refine sC (YE _ (g.x zx) p (s.ext (zx:Tx n h _ h1).2 Z) I u) ?_;rintro _ h2 f⟨m,l2,o,rfl,w⟩ y2 x2;refine zG ?_;have y:Sl h2 f 1 (Y aE (N*N) cE) (strs ((tabL N a).map ratT)):=s.ext (zx:Tx n h f h2).2 Z;refine sF (α:=Nat) (fun z=>[(1,Dn (some ⟨3*n+2,0,none⟩)),(4,Y m l2 o),(21,U .i64 (N:Int)),(22,U .i64 (z:Int))])
  (fun z h' n' l=>l=[]∧h2=h'∧f=n'∧z≤N) (fun z=>N-z) 0 ⟨rfl,rfl,rfl,Di⟩ ?_
 rintro i t _ _ _⟨rfl,rfl,rfl,hi⟩;have hi:i≤N:=hi;refine zG ?_;by_cases qi:(i:Int)<(N:Int)
 .have b:i<N:=Z;refine zG ?_;refine sF (α:=Nat) (fun z=>[(1,Dn (some ⟨3*n+2,0,none⟩)),(4,Y m l2 o),(6,U .i64 (i:Int)),(21,U .i64 (N:Int)),(22,U .i64 (i:Int)),(25,U .i64 (i:Int)),(26,U .i64 (z:Int))])
   (fun z h' n' l=>l=[]∧h2=h'∧f=n'∧z≤i) (fun z=>i-z) 0 ⟨rfl,rfl,rfl,Di⟩ ?_
  rintro j t _ _ _⟨rfl,rfl,rfl,hj⟩;have hj:j≤i:=hj;refine zG ?_;by_cases qj:(j:Int)<(i:Int)
  .have d:j<N:=Z;have C:=ow b d;have F:=ow d b;obtain⟨R,Z4,G,K,Z3,M⟩:=xN (s:=ratT (a i j)) y (by rw[DB,rz b d];rfl);obtain⟨S,V,H,L,Z0,Z1⟩:=xN (s:=ratT (a i j)) y (j:=j*N+i) (by rw[DB,rz d b,J j i d b];rfl);refine zG ?_;refine zn [0,1,0,0,8,28,0,124,255,511,0,1024,0,0,8192,28672,0,126976,261120,523264,1048575] rfl<|zH ?_;refine L8 i N Z ?_;refine zH ?_;refine dI (j:=i*N+j) G C ?_;refine dL M K 0 ?_;refine zH ?_;refine L8 j N Z ?_;refine zH ?_;refine dI (j:=j*N+i) H F ?_;refine dL Z1 L 0 ?_;refine Yx true (beq_self_eq_true _) ?_;refine zH ?_;refine zG ?_;exact sK (j+1) ⟨rfl,rfl,rfl,by show j+1≤i;omega⟩
  refine zG ?_;exact sK (i+1) ⟨rfl,rfl,rfl,xl⟩
 refine ZB ?_;exact⟨_,_,_,rfl,w.1,fun A len cap e=>by have:=w.2 A len cap e;exact⟨Z,this.2⟩⟩
theorem YH(k:Nat)(g:GG h n)(b:1≤N∧N≤3)(s:Sl h n 1 (Y aE (N*N) cE) (strs ((tabL N a).map ratT)))(hs:∀i j,i<N→j<N→a i j=a j i)(H:1≤P)(I:P≤600)(G:0<D)(o:D<2^P)(hd:∀i j,i<N→j<N→(a i j).den∣D)(C:∀i j,i<N→j<N→FN D B (a i j))(F:1≤B)(m:B<2^P):
  CX (KO (k+16)) 93 [.agg #[U .i64 (N:Int),U .i64 (N:Int),Y aE (N*N) cE]] h n fun v _ _=>∃L M Z1 R S T x7 Z4 f,v=.tuple #[.agg #[U .i64 L,U .i64 M,Y Z1 R S,Y T x7 Z4],Dk f,U .i64 0]∧(f=true↔psdA N N 0 a):=by
 have Z0:=LH b.2;have a1:1≤N*N:=Fw b.1 b.1;have hz:∀i j,i<N→j<N→Sz P (a i j):=fun i j hi hj=>FN.sz (C i j hi hj) G o m;refine zl (fn:=Tryz.f93) R4<|zG ?_;refine sB [U .i64 (N:Int),U .i64 (N:Int),Y aE (N*N) cE] ?_;intro h1 p1 L;refine sA ?_;intro h2 p2 M;refine zG ?_;refine sC (YG _ (g.x zx) b (s.ext (zx:Tx n h _ h2).2 Z) hz I hs) ?_;rintro _ W n3⟨a3,l3,c3,rfl,l⟩ y3 Z1;have u:=l.1.len;rw[yF]at u;subst u;obtain⟨V,sl,rc⟩:=l.1;obtain⟨b3,o3,xb,cs,rfl,a4,a8,a5,e,a0,a6⟩:=sl.inv Z;have J:=(l.2 _ _ _ rfl).2;refine zG ?_;refine sC (YA _ (g.x zx) ((l.1.ext (FU _ _) Dh).ext (zx:Tx n3 W _ _).2 Z) J e b H Z G o hd C F m) ?_;rintro _ A K⟨b0,f,rfl,p,w⟩ y4 R;cases f with
 |false=>
  refine zG ?_;refine sT #[U .i64 0,U .i64 0,Y none 0 0,Y none 0 0] ?_;refine zG ?_;refine sS [U .i64 0,U .i64 0,Y none 0 0,Y none 0 0] ?_;intro Z3 p5 o5;refine ZB ?_;exact⟨_,_,_,_,_,_,_,_,_,rfl,p⟩
 |true=>
  obtain⟨bl,bd,ls,ds,z1,z2,z3,z4,z5,ty,hE,a2,a7,oL,oD,lL,lD,sL,sD⟩:=w rfl;refine zG ?_;refine zn [0,1,0,4,0,16,48,112,240,511,0,2047] rfl<|zH ?_;refine dC (bN _ (g.x zx) ((ae6 oL lL.symm Dh).ext' au7 (zx:Tx K A _ _).2 Z) Z sL Z) ?_;rintro _ Z3 n5⟨d,a9,rfl,o5,t5,l5⟩ y5 S;refine dT #[U .i64 (N:Int),U .i64 (N:Int),Y (some ⟨d,0,none⟩) (N*N) (N*N)] ?_;refine zH ?_;refine dB [U .i64 0,U .i64 0,Y none 0 0] ?_;intro h6 p6 T;refine dS [U .i64 (N:Int),U .i64 (N:Int),Y (some ⟨d,0,none⟩) (N*N) (N*N)] ?_;intro h7 p7 o7;refine zG ?_;refine zn [0,0,2,6,14,30,63,127,255,511] rfl<|zH ?_;refine dC (bN _ (g.x zx) ((ae6 oD lD.symm Dh).ext' au7 (zx:Tx K A _ _).2 Z) Z sD Z) ?_;rintro _ h8 n8⟨y,aa,rfl,o8,t8,l8⟩ y8 Z4;refine dT #[U .i64 (N:Int),U .i64 (N:Int),Y (some ⟨d,0,none⟩) (N*N) (N*N),Y (some ⟨y,0,none⟩) N N] ?_;refine zH ?_;refine dS [U .i64 (N:Int),U .i64 (N:Int),Y (some ⟨d,0,none⟩) (N*N) (N*N),Y (some ⟨y,0,none⟩) N N] ?_;intro Z0 p9 o9;refine ZB ?_;exact⟨_,_,_,_,_,_,_,_,_,rfl,p⟩
end
structure MD where
 n:Nat
 a:Option Addr
 c:Nat
def Ll(c:List Value)(d:MD)(_:HF)(_:Nat):Prop:=c=[U .i64 (d.n:Int),U .i64 (d.n:Int),Y d.a (d.n*d.n) d.c]
theorem Ll.stay:Stay Ll:=⟨fun _ _ _ _ _ _ e _ _=>e⟩
theorem Ll.kp:KP 3 Ll:=⟨fun e _=>e,fun e=>by cases e;exact R3⟩
structure MS (h:HF)(n:Nat)(v:Value)(ds:List MD)(M:Nat→Nat→Nat→Rat):Prop where
 r:RS 3 Ll h n v ds
 t:∀(k:Nat) (d:MD),ds[k]?=some d→Sl h n 1 (Y d.a (d.n*d.n) d.c) (strs ((tabL d.n (M k)).map ratT))
theorem MS.ext{h:HF}{n:Nat}{b:List MD}{M:Nat→Nat→Nat→Rat}(m:MS h n v b M)(x:KN n h h')(e:n≤n'):MS h' n' v b M:=⟨m.r.ext' Ll.stay x e,fun k d f=>(m.t k d f).ext x e⟩
structure MOk (P D B:Nat)(ds:List MD)(M:Nat→Nat→Nat→Rat):Prop where
 hn:∀(k:Nat) (d:MD),ds[k]?=some d→1≤d.n∧d.n≤3
 hs:∀(k:Nat) (d:MD),ds[k]?=some d→∀i j,i<d.n→j<d.n→M k i j=M k j i
 P1:1≤P
 P2:P≤600
 D0:0<D
 D2:D<2^P
 hB:∀(k:Nat) (d:MD),ds[k]?=some d→∀i j,i<d.n→j<d.n→FN D B (M k i j)
 B1:1≤B
 B2:B<2^P
theorem YI(k:Nat){h:HF}{n:Nat}(g:GG h n){a:Option Addr}{L:Nat}{e:List MD}{M:Nat→Nat→Nat→Rat}(m:MS h n (Y a L cap) e M){P:Nat}(o:MOk P D B e M)(hl:O e<1000000):
  VF (KO (k+17)) 51 [Y a L cap] h n fun v=>∃l,v=.tuple #[Dk l,U .i64 0]∧(l=true↔∀k d,e[k]?=some d→psdA d.n d.n 0 (M k)):=by
 have lm:L=O e:=m.r.len' zd;refine zB (fn:=Tryz.f51) R4<|zG ?_;refine sF (α:=Nat) (fun z=>[(9,Y a L cap),(10,U .i64 (L:Int)),(11,U .i64 (z:Int))])
  (fun z h' n' w'=>w'=[]∧n≤n'∧KN n h h'∧z≤L∧∀k d,k<z→e[k]?=some d→psdA d.n d.n 0 (M k)) (fun z=>L-z) 0 ⟨rfl,Dh,FU _ _,Di,fun k d y=>oU y (Fr _)⟩ ?_
 rintro j t h1 J _⟨rfl,C,A,hj,b⟩;have C:n≤J:=C;have A:KN n h h1:=A;have hj:j≤L:=hj;have b:∀k d,k<j→e[k]?=some d→psdA d.n d.n 0 (M k):=b;refine zG ?_;by_cases qj:(j:Int)<(L:Int)
 .refine zG ?_;obtain⟨d,hd⟩:∃d,e[j]?=some d:=⟨_,Dm Z⟩;obtain⟨b2,o2,F,H,I,K,Z1,_,w⟩:=RS.at' zd (m.ext A C).r hd;have w:F=[U .i64 (d.n:Int),U .i64 (d.n:Int),Y d.a (d.n*d.n) d.c]:=w;subst w;refine sI H K ?_;refine sL Z1 I 0 ?_;refine sA ?_;intro h3 p3 x3;refine zG ?_;refine sS [U .i64 (d.n:Int),U .i64 (d.n:Int),Y d.a (d.n*d.n) d.c] ?_;intro h4 p4 o4;refine zG ?_;refine sC (YH _ (g.x zx) (o.hn _ _ hd) ((m.t _ _ hd).ext (zx:Tx n h _ _).2 Z) (o.hs _ _ hd) o.P1 o.P2 o.D0 o.D2 (fun i j hi hj=>(o.hB _ _ hd i j hi hj).den) (o.hB _ _ hd) o.B1 o.B2) ?_;rintro _ h5 n5⟨R,S,T,Z4,V,W,Z3,Z0,l,rfl,u⟩ y5 x5;refine Zs ?_;intro h6 p6 x6;refine zG ?_;refine sS [U .i64 R,U .i64 S,Y T Z4 V,Y W Z3 Z0] ?_;intro h7 p7 o7;cases l with
  |false=>
   refine Zt ?_;exact⟨_,rfl,fun h=>Aq,fun h=>oU (u.2 (h _ _ hd)) cA⟩
  |true=>
   refine zG ?_;exact sK (j+1) ⟨rfl,Z,(zx:Tx n h _ _).2,Bp,fun k G y f=>by
    rcases EG k j with p|p
    .exact b k G p f
    .have:k=j:=by have:k<j+1:=y;omega
     subst this;rw[hd]at f;cases f;exact u.1 rfl⟩
 refine Zt ?_;exact⟨_,rfl,fun _ k d hd=>b k d (by have:=(Du.1 hd).1;omega) hd,fun _=>rfl⟩
end
section
variable {N b i j k len sz:Nat}{a:Option Addr}
noncomputable def Lo(e:Ent)(k i j:Nat):Rat:=if e.b=(k:Int)∧(e.r=(i:Int)∧e.c=(j:Int)∨e.r=(j:Int)∧e.c=(i:Int))then(if e.r=e.c then numOf e.v else numOf e.v*(1/2))else 0
noncomputable def KW:List Ent→Nat→Nat→Nat→Rat
 |[],_,_,_=>0
 |e::E,k,i,j=>Lo e k i j+KW E k i j
theorem YJ(P Q:List Ent)(k i j:Nat):KW (P++Q) k i j=KW P k i j+KW Q k i j:=by
 induction P with
 |nil=>show KW Q k i j=0+KW Q k i j;rw[Jj]
 |cons e P ih=>show Lo e k i j+KW (P++Q) k i j=Lo e k i j+KW P k i j+KW Q k i j;rw[ih,Hv]
theorem Q2(P:List Ent)(e:Ent)(k i j:Nat):KW (P++[e]) k i j=KW P k i j+Lo e k i j:=by
 rw[YJ];show KW P k i j+(Lo e k i j+0)=_;rw[Gh]
theorem iJ(e:Ent)(k i j:Nat):Lo e k i j=Lo e k j i:=by
 unfold Lo;have:(e.b=(k:Int)∧(e.r=(i:Int)∧e.c=(j:Int)∨e.r=(j:Int)∧e.c=(i:Int)))↔(e.b=(k:Int)∧(e.r=(j:Int)∧e.c=(i:Int)∨e.r=(i:Int)∧e.c=(j:Int))):=by
  constructor
  .rintro⟨h,d|d⟩
   .exact⟨h,.inr d⟩
   exact⟨h,.inl d⟩
  rintro⟨h,d|d⟩
  .exact⟨h,.inr d⟩
  exact⟨h,.inl d⟩
 simp only[this]
theorem iI(E:List Ent)(k i j:Nat):KW E k i j=KW E k j i:=by
 induction E with
 |nil=>rfl
 |cons e E ih=>show Lo e k i j+KW E k i j=Lo e k j i+KW E k j i;rw[iJ,ih]
def EntF(Ns:List Nat)(e:Ent):Prop:=∃k N i j:Nat,∃v:Rat,e=⟨(k:Int),(i:Int),(j:Int),ratT v⟩∧Ns[k]?=some N∧i≤j∧j<N∧Sz 2 v∧∃x:Int,v=(x:Rat)∧ -2≤x∧x≤2
theorem fG{v:Rat}:Lo ⟨(k:Int),(i:Int),(j:Int),ratT v⟩ k i j=if i=j then v else v*(1/2):=by
 unfold Lo;rw[De ⟨rfl,.inl ⟨rfl,rfl⟩⟩];show(if(i:Int)=(j:Int)then numOf (ratT v)else numOf (ratT v)*(1/2))=_;rw[zT];by_cases h:i=j
 .rw[De h,De Z]
 rw[CT h,CT Z]
theorem lM{e c d:Nat}{v:Rat}(h:e≠k∨¬(c=i∧d=j∨c=j∧d=i)):Lo ⟨(k:Int),(i:Int),(j:Int),ratT v⟩ e c d=0:=by
 unfold Lo;rw[CT];rintro⟨f,g⟩;dsimp only at f g;omega
theorem bJ{T:Nat→Nat→Nat→Rat}{v c s:Rat}(e:i<N)(f:j<N)(d:∀k i j,T k i j=T k j i)(g:s=T k i j+c*Lo ⟨(k:Int),(i:Int),(j:Int),ratT v⟩ k i j):
  (((tabL N (T k)).map ratT).set (i*N+j) (ratT s)).set (j*N+i) (ratT s)=(tabL N fun a b=>T k a b+c*Lo ⟨(k:Int),(i:Int),(j:Int),ratT v⟩ k a b).map ratT:=by
 rw[←JQ,←JQ,nj e f,nj f e];congr 1;refine uY fun a b _ _=>?_;unfold updT;by_cases h1:a=j∧b=i
 .rw[De h1,g,h1.1,h1.2,d k j i,iJ]
 rw[CT h1];by_cases h2:a=i∧b=j
 .rw[De h2,g,h2.1,h2.2]
 rw[CT h2,lM (.inr Z),Gg,Gh]
theorem jM(q:Rat):(ratT q==[48])=decide (q=0):=by
 by_cases h:q=0
 .subst h;rfl
 rw[aA h];cases hb:(ratT q==[48])with
 |false=>rfl
 |true=>exact oU (jL ((eq_of_beq hb).trans mE.symm)) h
def Lk(Ns bs:List Nat):List MD:=List.zipWith (fun N b=>⟨N,some ⟨b,0,none⟩,N*N⟩) Ns bs
structure MW (h:HF)(n bm:Nat)(Ns bs:List Nat)(M:Nat→Nat→Nat→Rat):Prop where
 r:OR 3 Ll h n bm (Lk Ns bs)
 e:∀k N b,Ns[k]?=some N→bs[k]?=some b→OT h n b ((tabL N (M k)).map ratT)
 l:O bs=O Ns
 d:bs.Nodup
 m:bm∉bs
section
variable {n:Nat}{Ns bs:List Nat}{M:Nat→Nat→Nat→Rat}
theorem pE{d:MD}(c:(Lk Ns bs)[k]?=some d):∃N b,Ns[k]?=some N∧bs[k]?=some b∧d=⟨N,some ⟨b,0,none⟩,N*N⟩:=by
 unfold Lk at c;rw[IM]at c;cases h1:Ns[k]? with
 |none=>rw[h1]at c;simp at c
 |some N=>
  cases h2:bs[k]? with
  |none=>rw[h1,h2]at c;simp at c
  |some b=>rw[h1,h2]at c;exact⟨N,b,rfl,rfl,by simpa using c.symm⟩
theorem aH(c:Ns[k]?=some N)(d:bs[k]?=some b):(Lk Ns bs)[k]?=some ⟨N,some ⟨b,0,none⟩,N*N⟩:=by
 unfold Lk;rw[IM,c,d]
theorem sO(h:O bs=O Ns):O (Lk Ns bs)=O Ns:=by unfold Lk;rw[List.length_zipWith];omega
theorem MW.bget(m:MW h n bm Ns bs M)(c:Ns[k]?=some N):∃b,bs[k]?=some b∧b<3*n:=by
 have f:=m.l;have d:=(Du.1 c).1;refine⟨bs[k]'Z,Dm Z,?_⟩;exact(m.e k N _ c (Dm Z)).1
theorem MW.blt(m:MW h n bm Ns bs M)(c:b∈bs):b<3*n:=by
 obtain⟨k,d,rfl⟩:=Gs.1 c;have f:=m.l;exact(m.e k (Ns[k]'Z) _ (Dm Z) (Dm d)).1
theorem MW.go(m:MW h n bm Ns bs M)(t:Tr n h n' h')(x:∀c,c=bm∨c∈bs→h' c=h c):MW h' n' bm Ns bs M:=
 ⟨m.r.go Ll.kp t (x _ (.inl rfl)),fun k N b g f=>(m.e k N b g f).go strP.kp t (x _ (.inr (Dq f))),m.l,m.d,m.m⟩
theorem MW.ext(m:MW h n bm Ns bs M)(x:KN n h h')(e:n≤n'):MW h' n' bm Ns bs M:=
 m.go ⟨e,fun c d=>.inl (x c d)⟩ fun c d=>x c (by
  rcases d with rfl|d
  .exact m.r.1
  .exact m.blt d)
theorem MW.as(m:MW h n bm Ns bs M)(e:∀k i j,M k i j=M' k i j):MW h n bm Ns bs M':=by
 exact CL
theorem MW.set(m:MW h n bm Ns bs M){g u:Nat}(w:Ns[g]?=some u)(p:bs[g]?=some b0)(t:Tr n h n' h')(x:∀c,c≠b0→c=bm∨c∈bs→h' c=h c)(o:OT h' n' b0 ((tabL u (M' g)).map ratT))(e:∀k,k≠g→∀i j,M' k i j=M k i j):MW h' n' bm Ns bs M':=by
 refine⟨m.r.go Ll.kp t (x _ (fun h=>m.m (h▸Dq p)) (.inl rfl)),fun k N b q f=>?_,m.l,m.d,m.m⟩;by_cases hk:k=g
 .subst hk;rw[w]at q;cases q;rw[p]at f;cases f;exact o
 have s:b≠b0:=fun s=>by
  subst s;exact hk ((ab8 (Du.1 f).1 m.d).1 (f.trans p.symm))
 have v:M' k=M k:=funext fun i=>funext fun j=>e k hk i j;rw[v];exact(m.e k N b q f).go strP.kp t (x _ s (.inr (Dq f)))
theorem MW.ms(m:MW h n bm Ns bs M){L:Nat}(g:L=O Ns)(o:L≤cap):MS h n (Y (some ⟨bm,0,none⟩) L cap) (Lk Ns bs) M:=
 ⟨ae6 m.r (by rw[sO m.l];exact g) o,fun k d p=>by
  obtain⟨N,b,c,f,rfl⟩:=pE p;exact OT.sl (m.e k N b c f) BO Dh⟩
end
theorem GG.ofB{h h':HF}{n n':Nat}{bs:List Nat}(g:GG h n)(x:∀c,c<3*n→c∉bs→h' c=h c)(d:∀b∈bs,60≤b)(f:n≤n'):GG h' n':=
 ⟨uB g.1 (n:=20) (fun c e=>x c (by have:=g.2;omega) (fun h=>by have:=d c h;omega)) Dh,by have:=g.2;omega⟩
theorem At.keep{h h':HF}{o:Nat}{c:List Value}(a:At h b o c)(e:h' b=h b):At h' b o c:=by
 obtain⟨y,d,f,g,l,m⟩:=a.ex;exact⟨y,d,e.trans f,g,l,m⟩
theorem nk{h:HF}{n:Nat}{c:List Value}(r:Sl h n sz (Y a len cap) cells)(g:(cells.drop (j*sz)).take sz=c)(m:O c=sz)(w:0<sz):∃b d,a=some ⟨b,d,none⟩∧b<3*n∧j<len∧At h b (d+j*sz) c:=by
 have f:j*sz+sz≤O cells:=by
  rw[←g,DW,Ea]at m;omega
 obtain⟨_,_,_,e,o⟩:=r.len;injection e with e1 e2 e3
 subst e2;have v:j<len:=by
  rw[o,←Fb]at f;exact Nat.le_of_mul_le_mul_right f w
 obtain⟨b,d,x,p,rfl,q,y,l,s,A,u⟩:=r.inv Z;refine⟨b,d,rfl,q,v,⟨x,p,y,l,Z,?_⟩⟩;rw[m,←g,←u,IG,GO,ES,Ev Z]
def entP(c:List Value)(e:Ent)(_:HF)(_:Nat):Prop:=c=entC e
theorem Rec.ofEnts(E:List Ent)(h:HF)(n:Nat):Rec 4 (fun c e=>entP c e h n) (ents E) E:=by
 induction E with
 |nil=>exact .nil
 |cons e E ih=>exact .cons (c:=entC e) rfl rfl ih
theorem kZ{h:HF}{n:Nat}{E:List Ent}{e:Ent}(r:Sl h n 4 (Y a len cap) (ents E))(o:E[j]?=some e):∃b d,a=some ⟨b,d,none⟩∧b<3*n∧j<len∧At h b (d+j*4) (entC e):=by
 obtain⟨b,d,c,f,g,l,m,_,rfl⟩:=RS.at' (P:=entP) zd ⟨_,r,Rec.ofEnts E h n⟩ o;exact⟨b,d,f,g,l,m⟩
theorem YK(k:Nat)(h:HF)(n:Nat)(a:Option Addr)(l c:Nat):CX (KO (k+1)) 84 [Y a l c] h n fun u h' n'=>u=.func (.func 121) #[] #[Dn (some ⟨3*n+2,0,none⟩)]∧n'=n+1∧∃e,h' (3*n+2)=some (.row [Y a l c] e):=by
 refine zl (fn:=Tryz.f84) R4<|zG ?_;refine sB [Y a l c] ?_;intro d f g;refine zA (v:=.nilFunc) R5<|zG ?_;refine zA (v:=.func (.func 121) #[] #[Dn (some ⟨3*n+2,0,none⟩)]) ⟨rfl,rfl,rfl,rfl,?_⟩ ?_
 .show some (HU (.func _) (IN (KM _) #[]) (IN (KM _) #[.tmp 1]))=_;simp only[H3,GJ,H9];rfl
 refine zA (v:=.func (.func 121) #[] #[Dn (some ⟨3*n+2,0,none⟩)]) R5 ?_;refine zq ?_;exact⟨rfl,rfl,⟨_,zp⟩⟩
end
section
variable {D1 D2:Nat}{x y:Rat}
theorem FN.mono(h:FN D B x)(a:B≤B1):FN D B1 x:=by
 obtain⟨z,e,d⟩:=h;exact⟨z,e,Ed d a⟩
theorem FN.add(h:FN D B1 x)(g:FN D B2 y):FN D (B1+B2) (x+y):=by
 obtain⟨z,d,e⟩:=h;obtain⟨u,a,f⟩:=g;exact⟨z+u,by rw[Rat.add_mul,d,a,Rat.intCast_add],Z⟩
theorem FN.mul(h:FN D1 B1 x)(g:FN D2 B2 y):FN (D1*D2) (B1*B2) (x*y):=by
 obtain⟨z,f,a⟩:=h;obtain⟨u,e,d⟩:=g;refine⟨z*u,?_,by rw[Fl];exact Es a d⟩;rw[Ip,EJ,←EJ y,Hm y,EJ,←EJ,f,e,FO]
theorem FN.int(z:Int)(h:z.natAbs≤B):FN 1 B (z:Rat):=⟨z,by rw[show((1:Nat):Rat)=1 from rfl,Hn],h⟩
theorem FN.up(h:FN D B x)(k:Nat):FN (k*D) (k*B) x:=by
 obtain⟨z,d,a⟩:=h;refine⟨(k:Int)*z,?_,by rw[Fl,DQ];exact DT _ a⟩;rw[Ip,←EJ,Hm x,EJ,d,FO,EZ]
theorem FN.zero(D B:Nat):FN D B 0:=⟨0,by rw[IE];rfl,Di⟩
end
theorem YL{K:Nat}(a b e:Nat)(hK:K≤2^a)(h:m*c≤2^b)(d:a+b<e):K*c*m<2^e:=by
 refine DP (m:=2^a*2^b) ?_ ?_
 .rw[DG,Dt c];exact Es hK h
 rw[←EH];exact Nat.pow_lt_pow_right zd d
theorem Nt{x:Nat}(a e:Nat)(h:x<2^a)(d:a≤e):x<2^e:=DY h (DJ zd d)
theorem YM{a:Nat}:∀{l:List Rat},(∀q∈l,Sz a q)→∀q∈l,∃R,wU l=q.den*R∧R*2^a≤(2^a)^O l:=by
 intro l;induction l with
 |nil=>intro _ q d;cases d
 |cons p l ih=>
  intro f q d;have j:=f p Fj;have e:∀q∈l,Sz a q:=fun q d=>f q (Fm _ d);rcases DR.1 d with rfl|d
  .refine⟨wU l,rfl,?_⟩;have:=Q0 (k:=O l) e Dh;rw[D3,DI,←Hj];exact Dw _ this
  obtain⟨R,g,i⟩:=ih e q d;refine⟨p.den*R,?_,?_⟩
  .show p.den*wU l=_;rw[g,←DG,←DG,Dt p.den]
  rw[D3,DI,DG,Dt ((2^a)^O l)];exact Es (HG j.2) i
theorem FN.of{a K:Nat}{l:List Rat}(d:∀q∈l,Sz a q)(e:q∈l)(hK:(2^a)^O l≤K):FN (wU l) K q:=by
 obtain⟨R,f,g⟩:=YM d q e;refine⟨q.num*(R:Int),?_,?_⟩
 .rw[f,Ip,←EJ,th,FO,EZ]
 rw[Fl,DQ,Dt];exact Ed (DT _ (HG (d q e).1)) (Ed g hK)
noncomputable def yq(ys:List Rat)(m:Nat):Rat:=(ys[m]?).getD 0
def eqEs(p:Sdp)(m:Nat):List Ent:=((p.eqs[m]?).map (·.es)).getD []
def eqFr(p:Sdp)(m t:Nat):List UInt8:=((((p.eqs[m]?).map (·.fr)).getD [])[t]?).getD [48]
def eqRh(p:Sdp)(m:Nat):List UInt8:=((p.eqs[m]?).map (·.rhs)).getD [48]
noncomputable def Lh(p:Sdp)(ys:List Rat):Nat→Nat→Nat→Nat→Rat
 |0,k,i,j=>(-1)*KW p.obj k i j
 |m+1,k,i,j=>Lh p ys m k i j+yq ys m*KW (eqEs p m) k i j
noncomputable def KZ(p:Sdp)(ys:List Rat):Nat→Nat→Rat
 |0,t=> -numOf ((p.objFree[t]?).getD [48])
 |m+1,t=>KZ p ys m t+yq ys m*numOf (eqFr p m t)
noncomputable def Lg(p:Sdp)(ys:List Rat):Nat→Rat
 |0=>0
 |m+1=>Lg p ys m+yq ys m*numOf (eqRh p m)
theorem bX(p:Sdp)(ys:List Rat)(m k i j:Nat):Lh p ys m k i j=Lh p ys m k j i:=by
 induction m with
 |zero=>show(-1)*KW p.obj k i j=(-1)*KW p.obj k j i;rw[iI]
 |succ m ih=>show Lh p ys m k i j+yq ys m*KW (eqEs p m) k i j=Lh p ys m k j i+yq ys m*KW (eqEs p m) k j i;rw[ih,iI]
def dimN(p:Sdp):List Nat:=p.blocks.map Int.toNat
theorem tG{x:Int}(h: -2≤x∧x≤2):Sz 2 (x:Rat):=by
 refine⟨?_,?_⟩
 .rw[GU];show x.natAbs<4;omega
 rw[Hc];decide
theorem EntOk.f{p:Sdp}{e:Ent}(h:EntOk p.blocks e):EntF (dimN p) e:=by
 obtain⟨⟨i,s⟩,⟨o,v⟩,j,x,d,g,_,l⟩:=h;have a:e.b.toNat<O p.blocks:=Z;have u:=j _ (Dm a);refine⟨e.b.toNat,(p.blocks[e.b.toNat]'a).toNat,e.r.toNat,e.c.toNat,(x:Rat),?_,?_,Z,Z,tG ⟨d,g⟩,x,rfl,d,g⟩
 .cases e;simp only at*
  rw[l,Jc i,Jc o,Jc Z]
 unfold dimN;rw[DB,Dm a];rfl
theorem YN{e:Ent}(h:EntF Ns e)(k i j:Nat):FN 2 4 (Lo e k i j):=by
 obtain⟨f,N,a,d,v,rfl,_,_,_,_,x,rfl,g,l⟩:=h;unfold Lo;split
 .show FN 2 4 (if(a:Int)=(d:Int)then numOf (ratT (x:Rat))else numOf (ratT (x:Rat))*(1/2));rw[zT];split
  .exact⟨x*2,by rw[FO];rfl,Z⟩
  exact⟨x,by rw[EJ,show(1/2:Rat)*((2:Nat):Rat)=1 from by decide+kernel,Hn],Z⟩
 exact FN.zero _ _
theorem Nu{E:List Ent}(h:∀e∈E,EntF Ns e)(k i j:Nat):FN 2 (4*O E) (KW E k i j):=by
 induction E with
 |nil=>exact FN.zero _ _
 |cons e E ih=>
  have a:=YN (h e Fj) k i j;have d:=ih fun x f=>h x (Fm _ f);exact(a.add d).mono (by rw[D3];omega)
structure SlB (p:Sdp)(ys:List Rat)(K:Nat):Prop where
 y:∀q∈ys,Sz 133 q
 yl:(2^133)^O ys≤K
 o:∀e∈p.obj,EntF (dimN p) e
 ol:O p.obj≤256
 e:∀q∈p.eqs,∀e∈q.es,EntF (dimN p) e
 el:∀q∈p.eqs,O q.es≤256
 of:∀s∈p.objFree,vI 2 s
 f:∀q∈p.eqs,∀s∈q.fr,vI 2 s
 r:∀q∈p.eqs,vI 4 q.rhs
section
variable {p:Sdp}{ys:List Rat}{K:Nat}(b:SlB p ys K)
include b
theorem SlB.yf(m:Nat):FN (wU ys) K (yq ys m):=by
 unfold yq;cases h:ys[m]? with
 |none=>exact FN.zero _ _
 |some q=>exact FN.of b.y (Dq h) b.yl
theorem SlB.yz(m:Nat):Sz 133 (yq ys m):=by
 unfold yq;cases h:ys[m]? with
 |none=>exact ar7 _ zd
 |some q=>exact b.y q (Dq h)
theorem SlB.dl:wU ys≤K:=by
 have:=Q0 (k:=O ys) b.y Dh;rw[Hj]at this;exact Ed this b.yl
theorem SlB.ef(m:Nat):(∀e∈eqEs p m,EntF (dimN p) e)∧O (eqEs p m)≤256:=by
 unfold eqEs;cases h:p.eqs[m]? with
 |none=>exact⟨fun e a=>(by cases a),by decide⟩
 |some q=>exact⟨b.e q (Dq h),b.el q (Dq h)⟩
theorem SlB.pre{E:List Ent}(a:∀e∈E,EntF (dimN p) e)(d:O E≤256)(m k i j:Nat):FN (wU ys*2) (K*1024) (yq ys m*KW E k i j):=
 (b.yf m).mul ((Nu a k i j).mono Z)
theorem SlB.mf(m k i j:Nat):FN (wU ys*2) (K*1024*(m+1)) (Lh p ys m k i j):=by
 induction m with
 |zero=>
  have a:=(FN.int (-1) (B:=1) zd).mul ((Nu b.o k i j).mono (B1:=1024) (by have:=b.ol;omega));have d:=a.up (wU ys);refine FN.mono (D:=wU ys*2) ?_ (IH (Ek _).symm);refine FN.mono (B:=wU ys*(1*1024)) ?_ (Es b.dl zd);exact d
 |succ m ih=>
  have a:=b.pre (b.ef m).1 (b.ef m).2 m k i j;exact CO
theorem SlB.ff(m t:Nat):FN (wU ys) (K*2*(m+1)) (KZ p ys m t):=by
 have d:∀(l:List (List UInt8)),(∀s∈l,vI 2 s)→FN 1 2 (numOf ((l[t]?).getD [48])):=fun l j=>by
  cases h:l[t]? with
  |none=>exact FN.mono (B:=0) Br zd
  |some s=>
   obtain⟨x,g,a,i⟩:=j s (Dq h);show FN 1 2 (numOf s);rw[i,zT];exact FN.int x Z
 induction m with
 |zero=>
  have g:=d p.objFree b.of;have a:=((FN.int (-1) (B:=1) zd).mul g).up (wU ys);have e:(((-1:Int):Rat))*numOf ((p.objFree[t]?).getD [48])=KZ p ys 0 t:=by
   show((-1:Int):Rat)*_= -_;rw[show((-1:Int):Rat)= -1 from rfl,Rat.neg_mul,It]
  rw[e,Ek]at a;have u:=b.dl;exact FN.mono (B:=wU ys*(1*2)) (D:=wU ys) a Z
 |succ m ih=>
  have g:FN 1 2 (numOf (eqFr p m t)):=by
   unfold eqFr;cases h:p.eqs[m]? with
   |none=>exact d [] (fun s o=>by cases o)
   |some q=>exact d q.fr (b.f q (Dq h))
  have a:=(b.yf m).mul g;rw[Ek]at a;exact CO
theorem SlB.vf(m:Nat):FN (wU ys) (K*4*m) (Lg p ys m):=by
 induction m with
 |zero=>exact FN.zero _ _
 |succ m ih=>
  have d:FN 1 4 (numOf (eqRh p m)):=by
   unfold eqRh;cases h:p.eqs[m]? with
   |none=>exact FN.mono (B:=0) Br zd
   |some q=>
    obtain⟨x,d,a,e⟩:=b.r q (Dq h);show FN 1 4 (numOf q.rhs);rw[e,zT];exact FN.int x Z
  have a:=(b.yf m).mul d;rw[Ek]at a;exact CO
end
theorem Ma{K:Nat}(hK:K≤2^532)(h:m*c≤2^13):K*c*m<2^560:=YL 532 13 560 hK h zd
theorem lh(ys:List Rat):0<wU ys*2:=Fw (rh _) zd
theorem YO{E:List Ent}(d:∀e∈E,EntF Ns e)(f:O E≤256)(k i j:Nat):Sz 560 (0+(-1)*KW E k i j):=by
 have a:=(FN.int (-1) (B:=1) zd).mul ((Nu d k i j).mono (B1:=1024) Z);rw[Jj];exact FN.sz a zd (Nt 11 560 zd zd) (Nt 11 560 zd zd)
section
variable {p:Sdp}{ys:List Rat}{K:Nat}(b:SlB p ys K)(hK:K≤2^532)
include b hK
theorem SlB.D2:wU ys*2<2^560:=by
 have h:=Ma hK (m:=1) (c:=2) zd;rw[Ek]at h;exact DP (Dw 2 b.dl) h
theorem SlB.D1:wU ys<2^560:=DP (Gr _ zd) (b.D2 hK)
theorem SlB.mz(f:m≤4){E:List Ent}(a:∀e∈E,EntF (dimN p) e)(d:O E≤256)(k i j:Nat):Sz 560 (Lh p ys m k i j+yq ys m*KW E k i j):=
 FN.sz (((b.mf m k i j).add (b.pre a d m k i j)).mono (IH Al)) (lh _) (b.D2 hK) (Ma hK (m:=m+1+1) Z)
theorem SlB.mz0(a:m≤4)(k i j:Nat):Sz 560 (Lh p ys m k i j):=FN.sz (b.mf m k i j) (lh _) (b.D2 hK) (Ma hK (m:=m+1) Z)
theorem SlB.fz(a:m≤4)(t:Nat):Sz 560 (KZ p ys m t):=FN.sz (b.ff m t) (rh _) (b.D1 hK) (Ma hK (m:=m+1) Z)
theorem SlB.vz(a:m≤4):Sz 560 (Lg p ys m):=FN.sz (b.vf m) (rh _) (b.D1 hK) (Ma hK (m:=m) Z)
end
def EntD(D B:Nat)(Ns:List Nat)(e:Ent):Prop:=∃k N i j:Nat,∃v:Rat,e=⟨(k:Int),(i:Int),(j:Int),ratT v⟩∧Ns[k]?=some N∧i≤j∧j<N∧FN D B v
theorem EntF.d{Ns:List Nat}{e:Ent}(h:EntF Ns e):EntD 1 2 Ns e:=by
 obtain⟨k,N,i,j,v,a,b,c,f,_,x,rfl,g,l⟩:=h;exact⟨k,N,i,j,_,a,b,c,f,FN.int x Z⟩
section
variable {n:Nat}{Ns bs:List Nat}
theorem YP:ratT (1/2)=[49,47,50]:=by decide+kernel
theorem Q3:Sz 2 (1/2):=⟨kF,kF⟩
theorem fT(k:Nat)(g:GG h n){bm:Nat}{M:Nat→Nat→Nat→Rat}{E:List Ent}{c:Rat}(mw:MW h n bm Ns bs M)(bg:∀b∈bs,60≤b)(hN:∀N∈Ns,1≤N∧N≤3)(hs:Sl h n 4 (Y aE (O E) cE) (ents E))(bx:∀ad,aE=some ad→ad.block∉bs)(av:0<D∧D<4096∧B<4096)(hE:∀e∈E,EntD D B Ns e)(c2:∀k i j,M k i j=M k j i)(hl:O E<1000000)(hc:Sz 140 c)(hz:∀P Q,E=P++Q→∀k i j,Sz 600 (M k i j+c*KW P k i j)):
  CF (KO (k+14)) 46 [Y (some ⟨bm,0,none⟩) (O Ns) (O Ns),Y aE (O E) cE,Dl ⟨⟨ratT c⟩⟩] h n fun _ Z1 J w=>n≤J∧ExtB n bs h Z1∧Tr n h J Z1∧MW Z1 J bm Ns bs (fun k i j=>M k i j+c*KW E k i j)∧∀x∈w,x∈bs:=by
 have da:=mw.r.1;have a0:∀b∈bs,b<3*n:=fun b hb=>mw.blt hb;have a3:∀c,3*n≤c→c∉bs:=fun c hc hb=>by have:=a0 c hb;omega
 refine ph (fn:=Tryz.f46) R4<|zG ?_;refine sB [Y (some ⟨bm,0,none⟩) (O Ns) (O Ns)] ?_;intro h1 p1 x1;refine sB [Dl ⟨⟨ratT c⟩⟩] ?_;intro h2 p2 x2;refine zG ?_;refine sQ (decide (c=0)) (jM c) ?_;by_cases hc0:c=0
 .rw[kA hc0];refine zG ?_;have X:KN n h h2:=(zx:Tx n h _ h2).2;have e:∀k i j,M k i j=M k i j+c*KW E k i j:=fun k i j=>by rw[hc0,IE,Gh]
  exact⟨rfl,[],rfl,⟨Z,fun b hb _=>X b hb,zt,(mw.ext X Z).as e,fun b hb=>oU hb Ds⟩,fun _=>⟨Dh,IT _ _ _,FS _ _,mw.as e,fun b hb=>oU hb Ds⟩⟩
 rw[aA hc0];refine zG ?_;have bj:=mulR (k+2) (g.x (zx:Tx n h (n+1+1) h2)) hc Q3 Z Z Z;rw[YP]at bj;refine sC bj.cx ?_;rintro _ F n3 rfl y3 x3;refine sA ?_;intro h4 p4 x4;refine sS [Dl ⟨⟨ratT (c*(1/2))⟩⟩] ?_;intro h5 p5 o5;refine zG ?_;refine sC (YK _ _ _ _ _ _) ?_;rintro _ h6 n6⟨rfl,rfl,e6,p6⟩ y6 x6;refine zG ?_;refine fW rfl rfl ?_;intro G c5 au xB;obtain⟨e3,q3⟩:∃e,G (3*n+2)=some (.row [Y (some ⟨bm,0,none⟩) (O Ns) (O Ns)] e):=⟨_,zp⟩;obtain⟨e5,q5⟩:∃e,G (3*(n+1)+2)=some (.row [Dl ⟨⟨ratT c⟩⟩] e):=⟨_,zp⟩;obtain⟨e7,q6⟩:∃e,G (3*n3+2)=some (.row [Dl ⟨⟨ratT (c*(1/2))⟩⟩] e):=⟨_,zp⟩;have q7:G (3*(n3+1)+2)=some (.row [Y aE (O E) cE] e6):=zp;have xh:KN n h G:=(zx:Tx n h (n3+1+1) G).2;obtain⟨lo,cj⟩:∃lo,lo=n3+1+1+2:=⟨_,rfl⟩;obtain⟨l,bh⟩:∃l,l=3*(n3+1+1+1)+2:=⟨_,rfl⟩;rw[←bh]at au;rw[←cj,←bh];obtain⟨p,a6⟩:∃p:List Ent→Nat→Nat→Nat→Rat,p=fun P k i j=>M k i j+c*KW P k i j:=⟨_,rfl⟩;have b8:∀P Q,E=P++Q→∀k i j,Sz 600 (p P k i j):=fun P Q e k i j=>by rw[a6];exact hz P Q e k i j
 have cf:∀P k i j,p P k i j=p P k j i:=fun P k i j=>by rw[a6];show M k i j+c*KW P k i j=_;rw[c2,iI]
 have cd:∀P e k i j,p (P++[e]) k i j=p P k i j+c*Lo e k i j:=fun P e k i j=>by rw[a6];show M k i j+c*KW (P++[e]) k i j=M k i j+c*KW P k i j+_;rw[Q2,Rat.mul_add,Hv]
 have cb:∀k i j,M k i j=p [] k i j:=fun k i j=>by rw[a6];show _=M k i j+c*0;rw[Gg,Gh]
 have ce:p E=fun k i j=>M k i j+c*KW E k i j:=by rw[a6]
 refine yD (cD (k+12) (E:=E) (I:=fun P Z1 J=>Z1 l=G l∧Tr lo G J Z1∧MW Z1 J bm Ns bs (p P)) (W:=fun c=>c∈bs∨c=l∨3*lo≤c) (V:=fun c=>c∈bs) Z q7 (hs.ext xh Z) hl (fun ad e=>?_) ⟨rfl,FS _ _,(mw.ext xh Z).as cb⟩ (fun c hc=>by have:=a0 c hc;omega) ?_) ?_
 .subst e;have:=hs.below;have hb:ad.block<3*n:=this;have h2:=bx _ rfl;rintro(F|F|F)
  .exact h2 F
  .omega
  omega
 .intro P m R b0 hr o bb off cc a5 bf aj de bd ⟨bi,c4,bp⟩ bk ba d9;have bt:bb∉bs:=fun h=>ba (.inl h);obtain⟨e1,g2,rfl⟩:∃e g2,m=e::g2:=by
   cases m with
   |nil=>exact oU rfl bf
   |cons e g2=>exact⟨e,g2,rfl⟩
  obtain⟨k0,N,i1,j1,v1,rfl,Z4,_⟩:=hE e1 (by rw[a5];simp);have ch:b0=(k0:Int):=(aj _ Fj).symm;subst ch;obtain⟨m,ai⟩:∃g,g=(⟨(k0:Int),(i1:Int),(j1:Int),ratT v1⟩:Ent)::g2:=⟨_,rfl⟩;rw[←ai]at a5 bk aj⊢;have bz:0<O m:=by rw[ai];simp
  have cg:=hN N (Dq Z4);have y:=LH cg.2;obtain⟨C,a9,_⟩:=bp.bget Z4;have A:C∈bs:=Dq a9;have d5:C<3*n:=a0 _ A;have ci:=(Du.1 Z4).1;refine fV (bi.trans au) rfl rfl<|zG ?_;refine⟨trivial,trivial,fun hM L1=>?_⟩;have hq:∀c,c<3*lo→3*n≤c→c≠l→hM c=G c:=fun c h1 h2 F=>(L1.1 c F).trans (bd c Z (fun h=>by rcases h with h|h|h;exact a3 c h2 h;exact F h;omega));have cu:=(hq _ Z Z Z).trans q3;have cv:=(hq _ Z Z Z).trans q5;have cw:=(hq _ Z Z Z).trans q6;have b7:Tr o hr o hM:=Tr.l L1 (FS _ _);have b2:MW hM o bm Ns bs (p P):=bp.go b7 (fun c hc=>L1.1 c Ad);have gM:GG hM o:=by
   refine GG.ofB (bs:=l::bs) g (fun c hc hn=>?_) (fun b hb=>?_) Z
   .simp only[DR,not_or]at hn;exact(L1.1 c hn.1).trans ((bd c Z (fun h=>by rcases h with h|h|h;exact hn.2 h;exact hn.1 h;omega)).trans (xh c hc))
   rcases DR.1 hb with rfl|hb
   .have:=g.2;omega
   exact bg b hb
  have cy:Sl hM o 4 (Y (some ⟨bb,off,none⟩) (O m) cc) (ents m):=bk.keep (fun a l' cap e=>by cases e;exact L1.1 _ (fun h=>ba (.inr (.inl h)))) Dh;refine zG ?_;obtain⟨cm,fm,lm,ar⟩:=b2.r.get (aH Z4 a9) (off:=k0*3) rfl;have fm:cm=[U .i64 (N:Int),U .i64 (N:Int),Y (some ⟨C,0,none⟩) (N*N) (N*N)]:=fm;subst fm;refine sI (j:=k0) rfl ci ?_;have ar:At hM bm (0+k0*3) _:=(D7 (k0*3)).symm▸ar;refine sL ar b2.r.1 0 ?_;refine sA ?_;intro h7 p7 x7;refine LN (n0:=o) [U .i64 (N:Int),U .i64 (N:Int),Y (some ⟨C,0,none⟩) (N*N) (N*N)] ?_;intro h8 p8 o8;refine zG ?_;have x8:KN o hM h8:=(zx:Tx o hM _ h8).2;have cs:MW h8 (o+1) bm Ns bs (p P):=b2.ext x8 Z;have db:O m<1000000:=by
   have e2:O E=O P+(O m+O R):=by rw[a5];simp
   omega
  refine sF (α:=Nat) (fun z=>[(3,Dn (some ⟨3*n+2,0,none⟩)),(5,Dn (some ⟨3*(n+1)+2,0,none⟩)),(6,Dn (some ⟨3*n3+2,0,none⟩)),(9,Dn (some ⟨3*o+2,0,none⟩)),(26,Y (some ⟨bb,off,none⟩) (O m) cc),(27,U .i64 (O m:Int)),(28,U .i64 (z:Int))])
   (fun z Z1 J w'=>o+1≤J∧(∀b,b<3*(o+1)→b∉bs→Z1 b=h8 b)∧Tr (o+1) h8 J Z1∧MW Z1 J bm Ns bs (p (P++m.take z))∧(∀b∈w',b∈bs∨b=l)∧l∈w'∧(0<z→∃b∈w',b∈bs)∧z≤O m)
   (fun z=>O m-z) 0 ⟨Dh,fun _ _ _=>rfl,FS _ _,by rw[Fe,DZ];exact cs,fun b hb=>.inr (Dx.1 hb),Dx.2 rfl,fun h=>oU h (GM _),Di⟩ ?_
  rintro z t y H w9⟨y9,x9,T9,K,ac,ao,cl,bl⟩;have y9:o+1≤H:=y9;have bl:z≤O m:=bl;have T9:Tr (o+1) h8 H y:=T9;have ac:∀b∈w9,b∈bs∨b=l:=ac;have ao:l∈w9:=ao;have di:=(x9 _ Z (a3 _ Z)).trans ((x8 _ Z).trans cu);have dj:=(x9 _ Z (a3 _ Z)).trans ((x8 _ Z).trans cv);have dk:=(x9 _ Z (a3 _ Z)).trans ((x8 _ Z).trans cw);have br:=(x9 _ Z (a3 _ Z)).trans p8;have gM:GG y H:=by
   refine GG.ofB (bs:=bs) gM (fun c hc hn=>(x9 c Z hn).trans (x8 c hc)) bg Z
  refine zG ?_;by_cases qz:(z:Int)<(O m:Int)
  .obtain⟨e0,ay⟩:∃e,m[z]?=some e:=⟨_,Dm Z⟩;have b1:=Dq ay;obtain⟨u,N2,i0,f,v,rfl,an,dc,c0,cz⟩:=hE e0 (by rw[a5];simp[b1]);have sv:Sz 12 v:=FN.sz cz av.1 av.2.1 av.2.2;have c1:u=k0:=by have:(u:Int)=(k0:Int):=aj _ b1;omega
   subst c1;rw[Z4]at an;cases an;have ab:f<N:=c0;have aa:i0<N:=Z;have a4:=ow aa ab;have al:=ow ab aa;refine zG ?_;obtain⟨bq,oq,c7,mq,rq,tq⟩:=kZ cy ay;cases c7;refine sI rfl rq ?_;have d0:At y bb (off+z*4) _:=tq.keep ((x9 bb Z bt).trans (x8 bb Z));refine sL d0 (show bb<3*H by omega) 0 ?_;refine sA ?_;intro d7 dg dl;refine LN (n0:=o) [U .i64 (u:Int),U .i64 (i0:Int),U .i64 (f:Int),Dl ⟨⟨ratT v⟩⟩] ?_;intro d8 dh df;refine zG ?_;obtain⟨L,aw⟩:∃L,L=P++m.take z:=⟨_,rfl⟩;have ax:P++m.take (z+1)=L++[⟨(u:Int),(i0:Int),(f:Int),ratT v⟩]:=by rw[xY ay,aw,DN]
   rw[←aw]at K;have bn:∀i j,Sz 600 (p L u i j):=fun i j=>b8 L (m.drop z++R) (by rw[aw,DN,←DN (m.take z),Ep];exact a5) u i j;have a2:=fun k i j=>cd L ⟨(u:Int),(i0:Int),(f:Int),ratT v⟩ k i j;have am:=cf L;obtain⟨S,hS⟩:∃S,S=p L u i0 f+c*Lo ⟨(u:Int),(i0:Int),(f:Int),ratT v⟩ u i0 f:=⟨_,rfl⟩;have b9:Sz 600 S:=by
    rw[hS,←a2,←ax];exact b8 (P++m.take (z+1)) (m.drop (z+1)++R) (by rw[DN,←DN (m.take (z+1)),Ep];exact a5) u i0 f
   have ae:=K.e u N C Z4 a9;obtain⟨cS,fS,lS,tS⟩:=ae.get (j:=i0*N+f) (d:=ratT (p L u i0 f)) (by rw[DB,rz aa ab];rfl) (off:=i0*N+f) Z;have fS:cS=[Dl ⟨⟨ratT (p L u i0 f)⟩⟩]:=fS;subst fS;have tS:At y C (0+(i0*N+f)*1) _:=(show i0*N+f=0+(i0*N+f)*1 by omega)▸tS;have d6:=Z4;have ap:Sz (140+2) (c*(1/2)):=hc.mul Q3;by_cases hd:i0=f
   .refine zG ?_;refine zG ?_;refine zn [0,1,0,4,0,16,60,0,128,508,1023,2047,0,0,8192,28672,65535,131071] rfl<|zH ?_;refine L8 i0 N Z ?_;refine zH ?_;refine dI (j:=i0*N+f) rfl a4 ?_;refine dL tS ae.1 0 ?_;refine zH ?_;refine dC (mulR _ (gM.x zx) hc sv Z Z Z).cx ?_;rintro _ c8 ct rfl d3 d1;refine dC (addR _ (gM.x zx) (bn i0 f) (hc.mul sv) Z Z Z (z:=S) (by rw[hS,fG,De hd]) b9 Z).cx ?_;rintro _ T Z3 rfl d4 d2;refine zH ?_;refine zG ?_;refine LZ i0 N Z ?_;refine zG ?_;refine sI (j:=i0*N+f) rfl a4 ?_;have b3:OT T Z3 C ((tabL N (p L u)).map ratT):=ae.go strP.kp zt (by
     have e0:y C=y C:=rfl;exact zp)
    have aq:Tr H y Z3 T:=zt;obtain⟨c6,a7⟩:∃e,T (3*H+2)=some (.row [U .i64 (u:Int),U .i64 (i0:Int),U .i64 (f:Int),Dl ⟨⟨ratT v⟩⟩] e):=⟨_,zp⟩;have af:∀b,b<3*H→T b=y b:=fun b hb=>by
     have e0:y b=y b:=rfl;exact zp
    exact BZ
   refine zG ?_;refine zG ?_;refine zn [0,1,0,4,0,16,60,0,128,508,1023,2047,0,0,8192,28672,65535,131071] rfl<|zH ?_;refine L8 i0 N Z ?_;refine zH ?_;refine dI (j:=i0*N+f) rfl a4 ?_;refine dL tS ae.1 0 ?_;refine zH ?_;refine dC (mulR _ (gM.x zx) ap sv Z Z Z).cx ?_;rintro _ c8 ct rfl d3 d1;refine dC (addR _ (gM.x zx) (bn i0 f) (ap.mul sv) Z Z Z (z:=S) (by rw[hS,fG,CT hd];rw[EJ,Hm (1/2) v]) b9 Z).cx ?_;rintro _ T Z3 rfl d4 d2;refine zH ?_;refine zG ?_;refine LZ i0 N Z ?_;refine zG ?_;refine sI (j:=i0*N+f) rfl a4 ?_;have b3:OT T Z3 C ((tabL N (p L u)).map ratT):=ae.go strP.kp zt (by
    have e0:y C=y C:=rfl;exact zp)
   have aq:Tr H y Z3 T:=zt;obtain⟨c6,a7⟩:∃e,T (3*H+2)=some (.row [U .i64 (u:Int),U .i64 (i0:Int),U .i64 (f:Int),Dl ⟨⟨ratT v⟩⟩] e):=⟨_,zp⟩;have af:∀b,b<3*H→T b=y b:=fun b hb=>by
    have e0:y b=y b:=rfl;exact zp
   exact BZ
  have cq:z=O m:=Z;subst cq;rw[DO]at K;refine zG ?_;obtain⟨bv,bu,bw⟩:=cl bz;refine⟨trivial,(x9 l Z (a3 l Z)).trans ((x8 l Z)),fun h2 e2 L2=>?_⟩;have an:∀c,c<3*o→c∉bs→c≠l→h2 c=hr c:=fun c hc hn F=>(L2.1 c F).trans ((x9 c Z hn).trans ((x8 c hc).trans (L1.1 c F)));have T2:Tr o hr H h2:=Tr.l L2 (b7.trans (JO ⟨Z,fun c hc=>.inl (x8 c hc)⟩ T9));refine⟨⟨e2.trans bi,c4.trans T2,K.go (Tr.l L2 (FS _ _)) (fun c hc=>L2.1 c Ad)⟩,Z,fun c hc hn=>an c hc (fun h=>hn (.inl h)) (fun h=>hn (.inr (.inl h))),fun c hc=>?_,Fj,bv,Fm _ bu,bw⟩;rcases DR.1 hc with rfl|hc
  .exact .inl (.inr (.inl rfl))
  rcases ac c hc with h|h
  .exact .inl (.inl h)
  exact .inl (.inr (.inl h))
 rintro v Z1 J w'⟨⟨e1,T1,cr⟩,dd,bc,cn,ck⟩;have e2:Z1 (3*(n3+1+1)+2)=G (3*(n3+1+1)+2):=bc _ Z (fun h=>by rcases h with h|h|h;exact a3 _ Z h;omega;omega);refine⟨e1,e2,fun h2 az=>?_⟩;refine zG ?_;have hk:∀c,c<3*n→c∉bs→h2 c=h c:=fun c hc hn=>(az c Z Z).trans ((bc c Z (fun h=>by rcases h with h|h|h;exact hn h;omega;omega)).trans (xh c hc));have Tz:Tr J Z1 J h2:=⟨Dh,fun c hc=>by
  by_cases h1:c=l
  .exact .inr ⟨_,by rw[h1];exact e1.trans au,.inr rfl⟩
  .by_cases F:c=3*(n3+1+1)+2
   .exact .inr ⟨_,by rw[F];exact e2.trans c5,.inr rfl⟩
   .exact .inl (az c Z F)⟩
 have T2:Tr lo G J h2:=T1.trans Tz;have T3:Tr n h J h2:=JO ⟨Z,fun c hc=>.inl (xh c hc)⟩ T2;have bo:MW h2 J bm Ns bs (p E):=cr.go Tz (fun c hc=>az c Ad Ad);rw[ce]at bo;refine⟨rfl,[],rfl,⟨Z,hk,T3,bo,fun x hx=>?_⟩,fun hw=>?_⟩
 .rcases wG _ _ x hx with⟨F,h4⟩|F
  .rcases(cn x F).1 with h5|h5|h5
   .exact h5
   .have h4:x<3*n:=h4;omega
   have h4:x<3*n:=h4;omega
  exact oU F Ds
 rcases ck with ca|⟨x,co,cp⟩
 .subst ca;exact⟨Dh,IT _ _ _,FS _ _,mw.as (fun k i j=>by show _=M k i j+c*0;rw[Gg,Gh]),fun b hb=>oU hb Ds⟩
 have:=ub (w:=[]) (a0 x cp) co;have hw:addW n w' []=[]:=hw;rw[hw]at this;cases this
end
theorem Q4(a:NW L)(hv:wv L=dval s)(c:AllD s)(b:O s≤19):O L≤1:=by
 refine a.len_le ?_;rw[hv];have:=vK c;have d:=jQ b;omega
theorem Q6(a:NW L)(hv:wv L=dval s)(b:AllD s)(c:O s≤100):O L<1000000:=by
 have:=a.len_pow (i:=O s) (by rw[hv];exact vK b);omega
theorem YQ(k:Nat)(w:GK.G h)(Z4:20≤n)(s:List UInt8)(hs:O s≤40):VF (KO (k+7)) 82 [Dl ⟨⟨s⟩⟩] h n fun v=>∃b:Bool,v=Dk b∧(b=true↔xC s):=by
 cases hsm:GK.isSmall s with
 |true=>exact⟨_,_,_,_,fK (k+6) w n hsm,rfl,rfl,rfl,true,rfl,fun _=>dG hsm,fun _=>rfl⟩
 |false=>
 cases hbd:GK.isBad s with
 |true=>exact⟨_,_,_,_,Ts (k+6) w n hsm hbd,rfl,rfl,rfl,false,rfl,(fun h=>by cases h),fun h=>oU h (Ww hbd).1⟩
 |false=>
 refine zB (fn:=Tryz.f82) ⟨(by show(match GK.isSmall s with|true=>some (Dk true)|false=>(match GK.isBad s with|true=>some (Dk false)|false=>none))=none;rw[hsm,hbd]),rfl,rfl,rfl⟩ ?_;refine Zc ?_;refine zM ?_;refine zk _ R5 (oj (k+1) h n s Z) ?_;rintro _ h0 N _⟨rfl,a9,a2,x,y,Z1,rfl,F⟩;repeat refine zR ?_
 refine z6 R5<|zw [U .i64 x,U .i64 y] R7 rfl (ze _ _ _) rfl (by show 3*n≤3*N+2;omega) ?_;rw[yI];generalize hh:upd h0 (3*N+2) _=h1;have p:KN n h h1:=fun b f=>by rw[←hh,zg Z,a2 b f]
 refine Zl ?_;cases Z1 with
 |true=>
  rw[zc rfl];refine Zc ?_;obtain⟨q,hq,_⟩:=F rfl;exact retF _ rfl (zj rfl) R2 ⟨true,rfl,fun _=>⟨q,hq⟩,fun _=>rfl⟩
 |false=>
 refine ZF ?_;refine zM ?_;refine zk _ R5 (jE (k+2) h1 (N+1) s Z) ?_;rintro _ B A _⟨rfl,aa,J,rfl⟩;replace p:KN n h B:=fun b f=>(J b Z).trans (p b f);have a:=sV s;have c:(K2 s).2.2=true→Frm s (K2 s).1 (K2 s).2.1:=fun e=>qm (by rw[←e]);generalize (K2 s).1=M at c a⊢;generalize (K2 s).2.1=D at c a⊢;generalize (K2 s).2.2=Z1 at c a⊢;generalize hmi:zI s=mi;repeat refine zR ?_
 refine z6 R5<|zw [Dk mi,Dl ⟨⟨M⟩⟩,Dl ⟨⟨D⟩⟩] R7 rfl (ze _ _ _) rfl (by show 3*n≤3*A+2;omega) ?_;rw[yI];generalize hh:upd B (3*A+2) _=i;have d:∃e,i (3*A+2)=some (.row [Dk mi,Dl ⟨⟨M⟩⟩,Dl ⟨⟨D⟩⟩] e):=⟨_,kz⟩;have H:KN n h i:=fun b f=>by rw[←hh,zg Z,p b f]
 obtain⟨e5,d⟩:=d;refine ZG ?_;cases Z1 with
 |false=>
  refine Zo ?_;exact retF _ rfl (zj rfl) R2 ⟨false,rfl,(fun h=>by cases h),fun h=>oU (a.1 h).1 cA⟩
 |true=>
 have g:=c rfl;repeat refine zR ?_
 refine zi R6 d (v:=Dl ⟨⟨D⟩⟩) R2 ?_;cases D with
 |nil=>
  refine Zo ?_;exact retF _ rfl (zj rfl) R2 ⟨true,rfl,fun _=>a.2 ⟨rfl,.inl rfl⟩,fun _=>rfl⟩
 |cons u D=>
 have a7:O M+O (u::D)+1≤40:=by
  have:=congrArg O g.eq;have i:O (if u::D=[]then[]else(47:UInt8)::u::D)=O (u::D)+1:=by rw[CT cA];rfl
  rw[Do,Do,i]at this;omega
 generalize hD:u::D=DD at*
 have R:DD≠[]:=by rw[←hD];simp
 refine Zb ?_;rw[za (by show Dk _=_;rw[←hD];rfl)];refine zN ?_;have a8:=uB w H Z4;refine zn [0,1,3,0,8,31,63,127,255] rfl ?_;repeat refine zE ?_
 refine zS R6 (zL rfl d (v:=Dl ⟨⟨M⟩⟩) R2) R2 ?_;refine yy _ R7 (mG k i (A+1) g.dm Z) ?_;rintro _ h3 n3 _⟨a3,l3,c3,L3,rfl,⟨rfl,V,a6,Z3,j⟩,m⟩;refine⟨wa,V,?_⟩;repeat refine zE ?_
 refine zS R6 (zL rfl d (v:=Dl ⟨⟨DD⟩⟩) R2) ⟨(vn cA),rfl⟩ ?_;refine yy _ R7 (mG k h3 n3 g.dd Z) ?_;rintro _ h4 n4 _⟨a4,l4,c4,L4,rfl,⟨rfl,C,I,Z0,l⟩,o⟩;refine⟨wa,C,?_⟩;have K:KN n h h4:=fun b f=>by rw[I b Z,a6 b Z,H b f]
 have P:O L3≤1∨O L4≤1:=by
  rcases EG 19 (O M) with T|T
  .exact .inr (Q4 l o g.dd Z)
  exact .inl (Q4 j m g.dm T)
 refine yy _ R7 (Vh k (uB w K Z4) Z (Z3.ext I C) Z0 j l ⟨Q6 j m g.dm Z,Q6 l o g.dd Z⟩ P) ?_;rintro _ h5 n5 _⟨a5,l5,c5,L5,rfl,⟨rfl,W,ab,a0,S⟩,a1⟩;refine⟨wa,W,?_⟩;refine mW _ R7 (aZ (k+5) (neg:=false) a0 S) ?_;rintro _ rfl;repeat refine zE ?_
 refine zN ?_;refine retF _ rfl (zj rfl) R2 ⟨_,rfl,?_⟩;rw[a1,m,o,Gf,Bool.true_and,decide_eq_true_iff,a];exact⟨fun h=>⟨rfl,.inr h⟩,fun h=>h.2.resolve_left R⟩
def Fits(B:List Int)(e:Ent):Prop:=(0≤e.b∧e.b<O B)∧(0≤e.r∧e.r≤e.c)∧∀d,B[e.b.toNat]?=some d→e.c<d
def EntV(B:List Int)(E:List Ent)(j:Nat)(e:Ent):Prop:=Fits B e∧(∀f,0<j→E[j-1]?=some f→MB f e)∧xC e.v∧e.v≠[48]
def Q7(B:List Int)(E:List Ent):Prop:=∀j e,E[j]?=some e→EntV B E j e
section
variable {len sz:Nat}{qs:List Eqn}
theorem EqR.get(e:EqR h n ce qs):∀{j:Nat} {q:Eqn},qs[j]?=some q→∃c d,(ce.drop (j*3)).take 3=[c,d,Dl ⟨⟨q.rhs⟩⟩]∧Sl h n 4 c (ents q.es)∧Sl h n 1 d (strs q.fr):=by
 induction e with
 |nil=>intro j q b;simp at b
 |cons h1 h2 h3 ih=>
  intro j q b;cases j with
  |zero=>simp at b;subst b;exact⟨_,_,rfl,h1,h2⟩
  |succ j=>
   obtain⟨c,d,f,g,i⟩:=ih (j:=j) (q:=q) (by simpa using b);refine⟨c,d,?_,g,i⟩;rw[←f,show(j+1)*3=3+j*3 from Z,←ES];rfl
theorem Sl.lenEq{c:List Value}(s:Sl h n sz (Y a len cap) c)(b:0<sz)(f:O c=m*sz):len=m:=by
 obtain⟨j,i,d,e,g⟩:=s.len;injection e with e1 e2 e3
 subst e2;exact Nat.eq_of_mul_eq_mul_right b (g.symm.trans f)
theorem YR(k:Nat)(hG:GK.G h){p:Sdp}(hF:F≤100)(hn:20≤n)(hp:SdpR h n vB vO vF vE p)(hok:SdpOk F least p):VF (KO (k+3)) 42 [.agg #[vB,U .i64 (p.free:Int),vO,vF,vE]] h n fun v=>v=Dk true:=by
 refine zB (fn:=Tryz.f42) R4 ?_;obtain⟨Z4,hO,K,ce,hE,W⟩:=hp;obtain⟨l,lB,o,rfl,_⟩:=Z4.len;obtain⟨S,lO,T,rfl,_⟩:=hO.len;obtain⟨H,lF,J,rfl,_⟩:=K.len;obtain⟨D,lE,C,rfl,_⟩:=hE.len;have ai:=Z4.lenEq (m:=O p.blocks) Z (by simp[i64s]);have al:=hO.lenEq (m:=O p.obj) Z (wD _);have ak:=K.lenEq (m:=O p.objFree) Z (by simp[strs]);have aj:=hE.lenEq (m:=O p.eqs) Z W.len;subst ai al ak aj;have b1:=hok.bl;have b4:=hok.free;have b0:=hok.ofl;have ax:=hok.eql;refine zN ?_;refine xV (cs:=[Y l (O p.blocks) o,U .i64 (p.free:Int),Y S (O p.obj) T,Y H (O p.objFree) J,Y D (O p.eqs) C]) R5 ?_;generalize hh:upd h (3*n+2) _=h1;have e:KN n h h1:=by rw[←hh];exact C4
 have b:∃ty,h1 (3*n+2)=some (.row [Y l (O p.blocks) o,U .i64 (p.free:Int),Y S (O p.obj) T,Y H (O p.objFree) J,Y D (O p.eqs) C] ty):=⟨_,kz⟩;obtain⟨au,b⟩:=b;have L:GK.G h1:=uB hG e hn;refine Zj ?_;refine zi R6 b (v:=Y l (O p.blocks) o) R2 ?_;repeat refine zR ?_
 refine zi R6 b (v:=Y l (O p.blocks) o) R2 ?_;repeat refine zR ?_
 refine zi R6 b (v:=U .i64 (p.free:Int)) R2 ?_;repeat refine zR ?_
 refine zi R6 b (v:=U .i64 (p.free:Int)) R2 ?_;repeat refine zR ?_
 refine zi R6 b (v:=Y D (O p.eqs) C) R2<|Zv ?_;refine zi R6 b (v:=Y l (O p.blocks) o) R2<|Zb ?_;refine zK (α:=Nat) (fun j=>[(1,Dn (some ⟨3*n+2,0,none⟩)),(34,Y l (O p.blocks) o),(35,U .i64 (O p.blocks:Int)),(36,U .i64 (j:Int))]) (fun j h' n' w=>h1=h'∧n'=n+1∧w=[]∧j≤O p.blocks) (fun j=>O p.blocks-j) 0 V4 ⟨rfl,rfl,rfl,Di⟩ (by show O p.blocks-0<LL;unfold LL;omega) ?_;rintro j t _ _ _⟨rfl,rfl,rfl,hj⟩;refine zN ?_;by_cases Z3:j≠O p.blocks
 .obtain⟨d,hd⟩:∃d,p.blocks[j]?=some d:=⟨p.blocks[j]'Z,Dm Z⟩;have b2:=hok.b3 d (Dq hd);obtain⟨bB,oB,xB,a4,rfl,a9,aq,ab,av,ay,ag⟩:=Z4.inv Z;have u:a4[oB+j]?=some (U .i64 d):=wq ag (by rw[i64s,DB,hd];rfl);have a2:h1 bB=some xB:=by rw[e bB a9];exact aq
  refine Zq ?_;refine wn R8 Z<|zi R6 a2 (v:=U .i64 d) ⟨ab,(by rw[←u];congr 1;omega)⟩ ?_;refine Zb ?_;refine Zm ?_;exact goOn (j+1) (by show O p.blocks-(j+1)<O p.blocks-j;omega) ⟨rfl,rfl,rfl,dO,Df⟩ ⟨rfl,rfl,rfl,by show j+1≤O p.blocks;omega⟩
 have Z3:j=O p.blocks:=Classical.not_not.1 Z3;have A:∀{s:List UInt8},vI 2 s→GK.isSmall s=true:=fun N=>jH Z N;have V:=Z4.ext e (DM n);have a8:=hO.ext e (DM n);have a7:=K.ext e (DM n);have a6:=hE.ext e (DM n);have a1:=W.ext e (DM n);refine Zv ?_;refine zi R6 b (v:=Y H (O p.objFree) J) R2 ?_;repeat refine zR ?_
 refine zi R6 b (v:=U .i64 (p.free:Int)) R2 ?_;repeat refine zR ?_
 refine zi R6 b (v:=Y S (O p.obj) T) R2 ?_;repeat refine zR ?_
 refine zi R6 b (v:=Y l (O p.blocks) o) R2<|ye _ R5 (pW k L Z a8 V hok.obj.ok hok.obj.asc (by have:=hok.objl;omega)) ?_;rintro _ rfl;repeat refine zR ?_
 refine zi R6 b (v:=Y H (O p.objFree) J) R2<|ye _ R5 (kR k L Z a7 (fun s N=>A (hok.ofs s N)) Z) ?_;rintro _ rfl;refine Zv ?_;refine zi R6 b (v:=Y D (O p.eqs) C) R2<|Zb ?_;refine zK (α:=Nat) (fun j=>[(1,Dn (some ⟨3*n+2,0,none⟩)),(68,Y D (O p.eqs) C),(69,U .i64 (O p.eqs:Int)),(70,U .i64 (j:Int))]) (fun j h' n' w=>KN (n+1) h1 h'∧n+1≤n'∧w=[]∧j≤O p.eqs) (fun j=>O p.eqs-j) 0 V4 ⟨FU _ _,Dh,rfl,Di⟩ (by show O p.eqs-0<LL;unfold LL;omega) ?_;rintro i t h2 R _⟨a0,ao,rfl,hi⟩;refine zN ?_;by_cases hiE:i=O p.eqs
 .refine Zm ?_;exact B4
 obtain⟨q,hq⟩:∃q,p.eqs[i]?=some q:=⟨p.eqs[i]'Z,Dm Z⟩;obtain⟨q1,q2,q3,q4,q5⟩:=hok.eqo q (Dq hq);obtain⟨ve,vf,ad,Z1,P⟩:=a1.get hq;obtain⟨I,le,y,rfl,_⟩:=Z1.len;obtain⟨B,lf,f,rfl,_⟩:=P.len;have am:=Z1.lenEq (m:=O q.es) Z (wD _);have an:=P.lenEq (m:=O q.fr) Z (by simp[strs]);subst am an;obtain⟨bE,oE,xE,a5,rfl,aa,ar,ac,aw,az,ah⟩:=a6.inv Z;have u:(a5.drop (oE+i*3)).take 3=[Y I (O q.es) y,Y B (O q.fr) f,Dl ⟨⟨q.rhs⟩⟩]:=by rw[mb ah Z,ad]
 have a3:h2 bE=some xE:=by rw[a0 bE aa];exact ar
 refine Zq ?_;refine wn R8 Z<|zO (v:=.agg #[Y I (O q.es) y,Y B (O q.fr) f,Dl ⟨⟨q.rhs⟩⟩]) R5 (zF R2 a3 ac Z (by rw[←u];congr 2<;>omega)) ?_;refine z6 R5<|zw [Y I (O q.es) y,Y B (O q.fr) f,Dl ⟨⟨q.rhs⟩⟩] R7 rfl (ze _ _ _) rfl (by show 3*n≤3*R+2;omega) ?_;rw[yI];generalize hh:upd h2 (3*R+2) _=h3;have g:∃ty,h3 (3*R+2)=some (.row [Y I (O q.es) y,Y B (O q.fr) f,Dl ⟨⟨q.rhs⟩⟩] ty):=⟨_,kz⟩;obtain⟨b5,g⟩:=g;have ap:KN R h2 h3:=by rw[←hh];exact C4
 have c:KN (n+1) h1 h3:=a0.trans ap ao;have Z0:h3 (3*n+2)=some (.row [Y l (O p.blocks) o,U .i64 (p.free:Int),Y S (O p.obj) T,Y H (O p.objFree) J,Y (some ⟨bE,oE,none⟩) (O p.eqs) C] au):=by rw[c _ Z];exact b
 have M:GK.G h3:=uB L c Z;refine Zg ?_;refine zi R6 g (v:=Y B (O q.fr) f) R2 ?_;repeat refine zR ?_
 refine zi R6 Z0 (v:=U .i64 (p.free:Int)) R2 ?_;repeat refine zR ?_
 refine zi R6 g (v:=Y I (O q.es) y) R2 ?_;repeat refine zR ?_
 refine zi R6 Z0 (v:=Y l (O p.blocks) o) R2<|ye _ R5 (pW k M Z (Z1.ext c Z) (V.ext c Z) q1.ok q1.asc Z) ?_;rintro _ rfl;repeat refine zR ?_
 refine zi R6 g (v:=Y B (O q.fr) f) R2<|ye _ R5 (kR k M Z (P.ext c Z) (fun s N=>A (q4 s N)) Z) ?_;rintro _ rfl;repeat refine zR ?_
 refine zi R6 g (v:=Dl ⟨⟨q.rhs⟩⟩) R2 ?_;refine ye _ R5 (vy (k+1) M _ (jH Z q5)) ?_;rintro _ rfl;refine Zm ?_;exact goOn (i+1) (by show O p.eqs-(i+1)<O p.eqs-i;omega) ⟨rfl,rfl,rfl,dO,Df⟩ ⟨c,by show n+1≤R+1;omega,rfl,AG⟩
end
structure SdpB (p:Sdp):Prop where
 bl:O p.blocks<1000000
 ol:O p.obj<1000000
 fl:O p.objFree<1000000
 el:O p.eqs<1000000
 os:∀e∈p.obj,O e.v<1000000
 fs:∀s∈p.objFree,O s<1000000
 qs:∀q∈p.eqs,O q.es<1000000∧O q.fr<999999∧(∀e∈q.es,O e.v<1000000)∧∀s∈q.rhs::q.fr,O s<1000000
structure SdpV (p:Sdp)(fr:Int):Prop where
 bl:1≤O p.blocks∧O p.blocks≤64
 free:0≤fr∧fr≤512
 el:O p.eqs≤512
 b:∀d∈p.blocks,1≤d∧d≤32
 obj:Q7 p.blocks p.obj
 ofl:(O p.objFree:Int)=fr
 ofs:∀s∈p.objFree,xC s
 eqs:∀q∈p.eqs,Q7 p.blocks q.es∧(O q.fr:Int)=fr∧∀s∈q.rhs::q.fr,xC s
def RV(kr:Nat)(R:List UInt8→Prop):Prop:=∀(j:Nat) {h:HF},GK.G h→∀(n:Nat),20≤n→∀(s:List UInt8),R s→VF (KO (kr+j)) 82 [Dl ⟨⟨s⟩⟩] h n fun v=>∃b:Bool,v=Dk b∧(b=true↔xC s)
theorem dk(k:Nat){R:List UInt8→Prop}(A:RV (k+1) R){h:HF}(y:GK.G h){n:Nat}(D:20≤n){a:Option Addr}{len cap:Nat}{S:List (List UInt8)}(p:Sl h n 1 (Y a len cap) (strs S))(B:∀s∈S,R s)(J:O S<1000000):VF (KO (k+2)) 81 [Y a len cap] h n fun v=>∃b:Bool,v=Dk b∧(b=true↔∀s∈S,xC s):=by
 refine zB (fn:=Tryz.f81) R4 ?_;have u:=wo p;subst u;refine Zx ?_;refine zK (α:=Nat) (fun z=>[(0,Y a (O S) cap),(5,Y a (O S) cap),(6,U .i64 (O S:Int)),(7,U .i64 (z:Int))]) (fun z w F I=>h=w∧F=n∧I=[]∧z≤O S∧∀i s,i<z→S[i]?=some s→xC s) (fun z=>O S-z) 0 V4 ⟨rfl,rfl,rfl,Di,fun i d o=>oU o (Fr i)⟩ Ag ?_;rintro z t _ _ _⟨rfl,rfl,rfl,K,g⟩;refine zN ?_;by_cases hze:z=O S
 .refine Zm ?_;refine retF _ rfl (zj rfl) R2 ⟨true,rfl,fun _ s p=>?_,fun _=>rfl⟩;obtain⟨i,o,e⟩:=List.getElem_of_mem p;exact g i s Z (by rw[Dm o,e])
 obtain⟨s,m⟩:∃s,S[z]?=some s:=⟨S[z]'Z,Dm Z⟩;have l:s∈S:=Dq m;refine Zq ?_;refine ya (f:=fun s=>Dl ⟨⟨s⟩⟩) (j:=z) (dv:=s) R7 p R2 m (fun _=>rfl) R4 fun _=>?_;refine ZG ?_;refine ye _ R5 (A 0 y _ D s (B s l)) ?_;rintro _⟨b,rfl,q⟩;cases b with
 |false=>
  refine Zo ?_;exact retF _ rfl (zj rfl) R2 ⟨false,rfl,fun h=>oU h cA,fun C=>q.2 (C s l)⟩
 |true=>
 refine Zm ?_;refine goOn (z+1) As ⟨rfl,rfl,rfl,dO,Df⟩ ⟨rfl,rfl,rfl,AO,fun i H o c=>?_⟩;by_cases hij:i<z
 .exact g i H hij c
 have:i=z:=Z;subst this;rw[m]at c;injection c with c
 subst c;exact q.1 rfl
section
variable {len n:Nat}{s:List UInt8}{a:Option Addr}
theorem negC(k:Nat)(g:GG h n){r:List UInt8}(b:s=[48]∧r=[48]∨(s=[50]∧r=[45,50]∨s=[49]∧r=[45,49])∨(s=[45,50]∧r=[50]∨s=[45,49]∧r=[49])):VF (KO (k+2)) 47 [Dl ⟨⟨s⟩⟩] h n fun v=>v=Dl ⟨⟨r⟩⟩:=by
 rcases b with⟨rfl,rfl⟩|(⟨rfl,rfl⟩|⟨rfl,rfl⟩)|(⟨rfl,rfl⟩|⟨rfl,rfl⟩)
 .refine zB (fn:=Tryz.f47) R4<|zG ?_;refine sQ true rfl ?_;refine Zt ?_;rfl
 all_goals
  refine zB (fn:=Tryz.f47) R4<|zG ?_;refine sQ false rfl ?_;refine zG ?_;refine sC (vy _ g.1 _ rfl).cx ?_;rintro _ c d rfl f e;refine zG ?_;refine st_I R5<|st_B R5<|zG ?_;refine st_T R5<|Zt ?_;rfl
theorem negS(k:Nat)(g:GG h n)(b:vI 2 s):VF (KO (k+2)) 47 [Dl ⟨⟨s⟩⟩] h n fun v=>v=Dl ⟨⟨ratT (-numOf s)⟩⟩:=by
 obtain⟨x,d,e,rfl⟩:=b;rw[zT];have c:x=0∨x=2∨x=1∨x= -2∨x= -1:=Z;refine negC k g ?_;rcases c with rfl|rfl|rfl|rfl|rfl
 .exact .inl kF
 .exact .inr (.inl (.inl kF))
 .exact .inr (.inl (.inr kF))
 .exact .inr (.inr (.inl kF))
 exact .inr (.inr (.inr kF))
theorem YT(k:Nat)(h:HF)(n:Nat)(s:List UInt8):VF (KO (k+1)) 92 [Dl ⟨⟨s⟩⟩] h n fun v=>v=Dk (!(s==[48])):=by
 refine zB (fn:=Tryz.f92) R4<|zG ?_;refine Oo (s==[48]) rfl ?_;refine Zt ?_;rfl
theorem YU(k:Nat){S:List (List UInt8)}(c:Sl h n 1 (Y a len cap) (strs S))(hb:O S<1000000):VF (KO (k+2)) 137 [Y a len cap,.func (.func 92) #[] #[]] h n fun v=>∃i:Int,v=U .i64 i∧(i<0↔∀s∈S,s=[48]):=by
 have D:=wo c;refine zB (fn:=Tryz.f137) R4<|zG ?_;refine sF (α:=Nat) (fun z=>[(0,Y a len cap),(1,.func (.func 92) #[] #[]),(7,U .i64 (len:Int)),(8,U .i64 (z:Int))])
  (fun z l q B=>B=[]∧n≤q∧KN n h l∧z≤len∧∀s∈S.take z,s=[48]) (fun z=>len-z) 0 ⟨rfl,Dh,FU _ _,Di,fun s c=>oU c cA⟩ ?_
 rintro j t m u _⟨rfl,f,e,hj,b⟩;have f:n≤u:=f;have e:KN n h m:=e;have hj:j≤len:=hj;have b:∀s∈S.take j,s=[48]:=b;refine zG ?_;by_cases qj:(j:Int)<(len:Int)
 .obtain⟨s,d⟩:∃s,S[j]?=some s:=⟨_,Dm Z⟩;obtain⟨C,G,g,p,y,A⟩:=xN (c.ext e f) d;refine zG ?_;refine zA (v:=.func (.func 92) #[] #[]) R5<|zG ?_;refine sI g y ?_;refine sL A p 0 ?_;refine sC (YT _ _ _ s).cx ?_;rintro _ o w rfl I H;by_cases h48:s=[48]
  .subst h48;rw[show(!(([48]:List UInt8)==[48]))=false from rfl];refine zG ?_;exact sK (j+1) ⟨rfl,Z,(zx:Tx n h w o).2,by show j+1≤len;omega,fun s c=>by
    rw[xY d]at c;rcases Ec.1 c with h|h
    .exact b s h
    .exact Dx.1 h⟩
  rw[show(!(s==[48]))=true from by simp[h48]];refine Zt ?_;exact⟨_,rfl,fun h=>oU h Z,fun h=>oU (h s (Dq d)) h48⟩
 refine Zt ?_;exact⟨_,rfl,fun _=>by rwa [show j=O S by omega,DO]at b,fun _=>Z⟩
theorem YV(k:Nat){S:List (List UInt8)}(f:Sl h n 1 (Y a len cap) (strs S))(c:O S<1000000):VF (KO (k+4)) 50 [Y a len cap] h n fun v=>∃b:Bool,v=Dk b∧(b=true↔∀s∈S,s=[48]):=by
 have hc:VF (KO (k+3)) 91 [Y a len cap,.func (.func 92) #[] #[]] h n fun v=>∃b,v=Dk b∧(b=false↔∀s∈S,s=[48]):=by
  refine zB (fn:=Tryz.f91) R4<|zG ?_;refine zA (v:=.func (.func 92) #[] #[]) R5<|sC (YU _ f c).cx ?_;rintro _ e g⟨i,rfl,d⟩ l j;by_cases h0:i<0
  .refine Zt ?_;exact⟨_,rfl,fun _=>d.1 h0,fun _=>rfl⟩
  refine Zt ?_;exact⟨_,rfl,fun h=>Aq,fun h=>oU (d.2 h) h0⟩
 refine zB (fn:=Tryz.f50) R4<|zG ?_;refine sC hc.cx ?_;rintro _ e g⟨b,rfl,c⟩ l j;cases b with
 |false=>
  refine Zt ?_;exact P9 (c.1 rfl)
 |true=>
  refine Zt ?_;exact P8 (fun h=>by cases c.2 h)
theorem sV40(k:Nat):RV (k+7) fun s=>O s≤40:=fun j h b n c s d=>by
 rw[show k+7+j=k+j+7 by omega];exact YQ (k+j) b c s d
theorem jl(k:Nat)(g:GG h n){p:Sdp}(hF:F≤100)(hp:SdpR h n vB vO vF (Y aE lE cE) p)(hok:SdpOk F least p){Z3:List (List UInt8)}(q:Sl h n 1 (Y aY lY cY) (strs Z3))(f:∀s∈Z3,O s≤40)(u:O Z3<1000000):
  VF (KO (k+9)) 44 [.agg #[vB,U .i64 (p.free:Int),vO,vF,Y aE lE cE],Y aY lY cY] h n fun v=>∃e,v=U .i64 e∧((∀s∈Z3,xC s)∧O Z3=O p.eqs∧e=0∨(∀s∈Z3,xC s)∧O Z3≠O p.eqs∧e=4∨¬(∀s∈Z3,xC s)∧e=1):=by
 have Z1:=wo q;have N:lE=O p.eqs:=by
  obtain⟨i,I,o⟩:=hp.eqs;exact I.lenEq Z o.len
 have J:=hok.eql;obtain⟨A,K,D,rfl,_⟩:=hp.blocks.len;obtain⟨C,M,H,rfl,_⟩:=hp.obj.len;obtain⟨B,L,G,rfl,_⟩:=hp.objFree.len;refine zB (fn:=Tryz.f44) R4<|zG ?_;refine sB [Y A K D,U .i64 (p.free:Int),Y C M H,Y B L G,Y aE lE cE] ?_;intro l T c;refine zG ?_;refine sC (YR _ (g.x (zx:Tx n h _ l)).1 (g.x (zx:Tx n h _ l)).2 (hF:=hF) (hp:=⟨hp.blocks.ext c Z,hp.obj.ext c Z,hp.objFree.ext c Z,by obtain⟨i,a,b⟩:=hp.eqs;exact⟨i,a.ext c Z,b.ext c Z⟩⟩) (hok:=hok)).cx ?_;rintro _ m y rfl W Z4;refine zG ?_;have j:GG m y:=g.x zx;refine sC (dk (k+6) (sV40 k) j.1 j.2 (q.ext (zx:Tx n h y m).2 Z) f u).cx ?_;rintro _ R S⟨P,rfl,w⟩ Z0 V;rcases K3 w with⟨rfl,d⟩|⟨rfl,d⟩
 .refine Zt ?_;exact⟨_,rfl,.inr (.inr ⟨d,rfl⟩)⟩
 refine zG ?_;by_cases hl:O Z3=O p.eqs
 .refine Zt ?_;exact⟨_,rfl,.inl ⟨d,hl,rfl⟩⟩
 refine Zt ?_;exact⟨_,rfl,.inr (.inl ⟨d,hl,rfl⟩)⟩
end
theorem YW(n:Nat):gro (3*n+2)=false:=by
 exact Cr
theorem qb(k:Nat){h:HF}{n:Nat}{a b:Option Addr}{u c y d:Nat}{L:List (List UInt8)}(A:Sl h n 1 (Y a u c) (strs L))(B:Sl h n 1 (Y b y d) (strs L))(R:O L<1000000):VF (KO (k+1)) 19 [Y a u c,Y b y d] h n fun v=>v=Dk true:=by
 refine zB (fn:=Tryz.f19) R4 ?_;have C:=A.lenEq (m:=O L) Z (by simp[strs]);have D:=B.lenEq (m:=O L) Z (by simp[strs]);subst C D;refine Zc ?_;refine Zm ?_;refine zK (α:=Nat) (fun j=>[(0,Y a (O L) c),(1,Y b (O L) d),(12,U .i64 (O L:Int)),(13,U .i64 (j:Int))]) (fun j H I w=>h=H∧n=I∧w=[]∧j≤O L) (fun j=>O L-j) 0 V4 ⟨rfl,rfl,rfl,Di⟩ (by show O L-0<LL;unfold LL;omega) ?_;rintro j t _ _ _⟨rfl,rfl,rfl,S⟩;refine zN ?_;by_cases hjL:j=O L
 .refine Zm ?_;exact B4
 obtain⟨x,p⟩:∃x,L[j]?=some x:=⟨L[j]'Z,Dm Z⟩;obtain⟨Z1,J,T,e,rfl,M,q,g,_,_,l⟩:=A.inv Z;obtain⟨P,K,Z4,f,rfl,N,s,i,_,_,o⟩:=B.inv Z;have F:e[J+j]?=some (Dl ⟨⟨x⟩⟩):=wq l (by rw[strs,DB,p];rfl);have G:f[K+j]?=some (Dl ⟨⟨x⟩⟩):=wq o (by rw[strs,DB,p];rfl);refine Zo ?_;rw[uP rfl];repeat refine zR ?_
 refine wn R8 Z<|zi R6 q (v:=Dl ⟨⟨x⟩⟩) ⟨g,(by rw[←F];congr 1;omega)⟩ ?_;repeat refine zR ?_
 refine wn R8 Z<|zi R6 s (v:=Dl ⟨⟨x⟩⟩) ⟨i,(by rw[←G];congr 1;omega)⟩ ?_;refine zA (v:=Dk false) ⟨rfl,rfl,rfl,rfl,(by show some (Dk (!(x==x)))=_;simp)⟩ ?_;refine zN ?_;rw[za rfl];refine Zc ?_;exact goOn (j+1) (by show O L-(j+1)<O L-j;omega) ⟨rfl,rfl,rfl,dO,Df⟩ ⟨rfl,rfl,rfl,by show j+1≤O L;omega⟩
section
variable {x:Operand}{b sz:Nat}{z:Value}
section
variable {n:Nat}{d:Tmp}
theorem YX{s:Operand}{a m:Nat}{c:List Value}(I:zh ops t o=true)(hd:o.dst=some d)(hn:zu X.nt (some d)=true)(p:o.op=.call {callee:=.builtin .copy,args:=#[s,x],argTypes:=#[sT,xT]})(hu:X.E.und sT=some (.slice e))(F:X.E.inf e=some (size,bytes,z))
  (H:KM t s=Y (some ⟨b,0,none⟩) a cap)(J:argS h size (KM t x) m cs)(G:m≤a)(C:h b=some (.row c e3))(L:O cs≤O c)(l:cs≠[])(u:ones cs=true)(g:3*X.n0≤b)
  (k:EO X ops r ⟨upd t d (U .i64 (m:Int)),upd h b (some (.row (cs++c.drop (O cs)) e3)),n,w⟩ Q):EO X ops (o::r) ⟨t,h,n,w⟩ Q:=by
 have f:Jd m a=m:=Ev G;have hc:kn X.E h n sT (KM t s) (KM t x)=some (.val (U .i64 (m:Int)) (upd h b (some (.row (cs++c.drop (O cs)) e3))) n [b]):=by
  obtain⟨A,B⟩:=J;cases cs with
  |nil=>exact oU rfl l
  |cons v cs=>
   have q:vJ h ⟨b,0,none⟩ (v::cs)=some (upd h b (some (.row ((v::cs)++c.drop (O (v::cs))) e3))):=by
    rw[ug C Z u];unfold zv;rw[Fe,List.nil_append,D7]
   simp only[kn,hu,F,H,A,f,B,q];rfl
 have D:effF X.E o.op (KM t) h n=some (.val (U .i64 (m:Int)) (upd h b (some (.row (cs++c.drop (O cs)) e3))) n [b]):=by
  rw[p];exact hc
 rw[pg I Bz AM D,hd,zZ fun y K=>by rw[Dx.1 K];exact g];exact k
end
section
variable {ms:List Nat}{i n:Nat}{ef:List (Nat×HF×List Nat)}{d:Tmp}
theorem YY(y:zh ops t o=true)(a:o.dst=some d)(u:zu X.nt (some d)=true)(p:KS o.op=3)(q:effF X.E o.op (KM t) h n=some (.val v h' n W))(c:xF m ef=true)(f:xW m al=true)(g:yd m W ld=true)(l:∀b∈W,3*X.n0≤b)
  (k:ED X ops r ms (i+1) ⟨⟨upd t d v,h',n,w⟩,al,ld,(i,h,W)::ef⟩ Q):ED X ops (o::r) (m::ms) i ⟨⟨t,h,n,w⟩,al,ld,ef⟩ Q:=by
 refine mZ y (by rw[a];exact u) p q c f g Dh ?_;rw[a,zZ l];exact k
end
theorem YZ(k:Nat)(h:HF)(n:Nat){m:Nat}(a:m<18446744073709551616):VF (KO (k+2)) 83 [U .u64 ((1:Nat):Int),U .u64 (m:Int)] h n fun v=>v=.tuple #[U .u64 0,U .u64 (m:Int)]:=by
 refine zB (fn:=Tryz.f83) R4<|Zc ?_;rw[za rfl];refine Zg ?_;refine ye _ R5 (qX k h n (x:=1) (y:=m) zd a) ?_;rintro _ rfl;rw[show 1*m/18446744073709551616=0 by omega,show 1*m%18446744073709551616=m by omega];refine Zl ?_;exact retF [U .u64 0,U .u64 (m:Int)] rfl rfl R2 rfl
def repR(x z:Value)(m j:Nat):List Value:=Dp j x++Dp (m-j) z
theorem ah{x:Value}{m:Nat}(h:j≤m):O (repR x z m j)=m:=by simp[repR];omega
theorem Y0{x:Value}{m r:Nat}(h:j+r≤m):zv (repR x z m j) j (Dp r x)=repR x z m (j+r):=by
 unfold zv repR;rw[DV,HK cA,List.drop_append,Ih,DV,Ih,show j-(j+r)=0 by omega,show m-j-(j+r-j)=m-(j+r)by omega];simp[←DN,List.replicate_append_replicate]
theorem Y1{s:ByteArray}(r:Nat):ones (Dp r (Dl s))=true:=by
 induction r with
 |zero=>rfl
 |succ r ih=>simpa [Fx,ones]using ih
theorem slLo(hu:KT.und ty=some (.slice e))(l:KT.inf e=some (1,bt,z)){m:Nat}(p:j<m):yY KT ty (Y (some ⟨b,0,none⟩) m m) (some (U .i64 (j:Int))) none=some (Y (some ⟨b,j,none⟩) (m-j) (m-j)):=by
 have c:(0:Int)≤(j:Int)∧(j:Int)≤m:=Z;have a:DX m j=false:=by
  cases a:DX m j with
  |false=>rfl
  |true=>have:=Nat.le_of_ble_eq_true a;omega
 have f:(gro b&&(DX 1 j&&DX m j))=false:=by rw[a];simp
 have g:offA m j 1 ⟨b,0,none⟩=⟨b,j,none⟩:=by
  unfold offA;have:Eh m j=false:=by
   cases a:Eh m j with
   |false=>rfl
   |true=>have:=Eb a;omega
  rw[this,ws];simp
 simp only[yY,hu,l,Ld,De c,Ez,f,g]
theorem slHi(hu:KT.und ty=some (.slice e))(g:KT.inf e=some (sz,bt,z)){m:Nat}(l:j≤m):yY KT ty (Y (some ⟨b,0,none⟩) m m) none (some (U .i64 (j:Int)))=some (Y (some ⟨b,0,none⟩) j m):=by
 have a:(0:Int)≤(j:Int)∧(j:Int)≤m:=Z;have c:(gro b&&(DX 1 0&&DX m 0))=false:=by simp
 have f:offA m 0 sz ⟨b,0,none⟩=⟨b,0,none⟩:=by
  unfold offA;split
  .rfl
  rw[ws];simp
 simp only[yY,hu,g,Ld,De a,Ez,c,f,Gv]
theorem Y2(hu:KT.und ty=some (.slice e))(A:KT.inf e=some (1,bt,z)){h:HF}{n m:Nat}{s:ByteArray}{y:Value}(F:1≤j∧j<m)(c:h b=some (.row (repR (Dl s) y m j) e3)):
  kn KT h n ty (Y (some ⟨b,j,none⟩) (m-j) (m-j)) (Y (some ⟨b,0,none⟩) j m)=some (.val (U .i64 ((min j (m-j):Nat):Int)) (upd h b (some (.row (repR (Dl s) y m (j+min j (m-j))) e3))) n [b]):=by
 obtain⟨r,g⟩:∃r,r=min j (m-j):=⟨_,rfl⟩;have l:1≤r∧r≤j∧r≤m-j:=Z;have B:tn h ⟨b,0,none⟩ r=some (Dp r (Dl s)):=by
  have f:DX (0+r) (O (repR (Dl s) y m j))=true:=Dv (by rw[ah Z];omega);have D:((repR (Dl s) y m j).drop 0).take r=Dp r (Dl s):=by unfold repR;rw[List.drop_zero,List.take_append_of_le_length eN,List.take_replicate,Ev l.2.1]
  simp only[tn,c,BF.cells,f,F2,EF,D]
 have a:vJ h ⟨b,j,none⟩ (Dp r (Dl s))=some (upd h b (some (.row (repR (Dl s) y m (j+r)) e3))):=by
  rw[ug c (by rw[ah Z,DV];omega) (Y1 r),Y0 Z]
 rw[←g];have C:Jd j (m-j)=r:=g.symm;have u:yo h 1 r (Y (some ⟨b,0,none⟩) j m)=some (Dp r (Dl s)):=by
  show(if r*1=0 then some []else tn h ⟨b,0,none⟩ (r*1))=_;rw[CT Z,Ek,B]
 have p:Dp r (Dl s)=Dl s::Dp (r-1) (Dl s):=by
  obtain⟨q,rfl⟩:∃q,r=q+1:=⟨r-1,Z⟩;rfl
 simp only[kn,hu,A,lenOf?,C,u];rw[p]at a⊢;simp only[a];rfl
theorem Y3(k:Nat){h:HF}{n:Nat}{u:TypeId}(H:b<3*n)(a:h b=some (.row [Dl ⟨⟨s⟩⟩] u))(B:1≤cap){m:Nat}(C:1≤m∧m<1000):
  CF (KO (k+3)) 45 [Y (some ⟨b,0,none⟩) 1 cap,U .i64 (m:Int)] h n fun v h' f w=>w=[]∧f=n+1∧KN n h h'∧v=Y (some ⟨3*n+2,0,none⟩) m m∧∃e,h' (3*n+2)=some (.row (Dp m (Dl ⟨⟨s⟩⟩)) e):=by
 refine zl (fn:=Tryz.f45) R4<|Zc ?_;refine Zv ?_;refine yO (c:=1) R7 zd<|zM ?_;refine yO (c:=m) R7 Z<|ye _ R5 (YZ k h n (m:=m) Z) ?_;rintro _ rfl;refine Zb ?_;refine Zy ?_;refine vj R7 Z<|xP (len:=m) (cap:=m) R9 Z ?_;rw[show zr (Dl ⟨⟨[]⟩⟩)=[Dl ⟨⟨[]⟩⟩]from rfl,O6];refine Zj ?_;refine YX (m:=1) (cs:=[Dl ⟨⟨s⟩⟩]) rfl rfl rfl rfl rfl rfl rfl (yG (show upd h _ _ b=_ from(zg Z).trans a) R2) Z (ze _ _ _) eN cA rfl bR ?_;rw[yI,show[Dl ⟨⟨s⟩⟩]++(Dp m (Dl ⟨⟨[]⟩⟩)).drop [Dl ⟨⟨s⟩⟩].length=repR (Dl ⟨⟨s⟩⟩) (Dl ⟨⟨[]⟩⟩) m 1 from by simp[repR]];refine Zb ?_;refine zK (α:=Nat) (fun j=>[(7,Y (some ⟨3*n+2,0,none⟩) m m),(8,U .i64 (j:Int))])
  (fun j h' f w=>f=n+1∧w=[]∧KN n h h'∧1≤j∧j≤m∧∃e,h' (3*n+2)=some (.row (repR (Dl ⟨⟨s⟩⟩) (Dl ⟨⟨[]⟩⟩) m j) e)) (fun j=>m-j) 1 V2 ⟨rfl,rfl,GD Z,Dh,C.1,_,ze _ _ _⟩ (by show m-1<LL;unfold LL;omega) ?_
 rintro j t A _ _⟨rfl,rfl,p,F,G,e,l⟩;refine zN ?_;by_cases hj:j=m
 .subst hj;refine Zm ?_;refine retH [Y (some ⟨3*n+2,0,none⟩) j j] ⟨rfl,(zj rfl),rfl⟩ ⟨rfl,rfl,p,rfl,e,?_⟩;show A (3*n+2)=_;rw[l];simp[repR]
 refine Zq ?_;refine zn [0,0,0,6,0,0,48,126,255,511] rfl ?_;repeat refine zE ?_
 refine dr_S R4 (slLo (ty:=23) (m:=m) (j:=j) rfl rfl Z) ?_;repeat refine zE ?_
 refine dr_S R4 (slHi (ty:=23) (m:=m) (j:=j) rfl rfl Z)<|YY rfl rfl rfl rfl (Y2 (ty:=23) (m:=m) (j:=j) rfl rfl Z l) rfl rfl rfl (fun y D=>by rw[Dx.1 D];show 3*n≤3*n+2;omega) ?_;repeat refine zE ?_
 refine zN ?_;refine⟨j+min j (m-j),by show m-(j+min j (m-j))<m-j;omega,V2,rfl,rfl,fun q g=>?_,Z,Z,e,ze _ _ _⟩;exact(zg Z).trans (p q g)
end
section
variable {a:Option Addr}{K b i j len:Nat}{s:List UInt8}
structure Ex0 (n:Nat)(h h':HF):Prop where
 e:KN n h h'
theorem kU{h:HF}{n:Nat}{L:List Int}{d:Int}(r:Sl h n 1 (Y a len cap) (i64s L))(g:L[j]?=some d):∃b off,a=some ⟨b,off,none⟩∧b<3*n∧j<len∧At h b (off+j*1) [U .i64 d]:=by
 refine nk r ?_ rfl zd;have u:=(Du.1 g).1;have f:(i64s L)[j]?=some (U .i64 d):=by unfold i64s;rw[DB,g];rfl
 have q:=(Du.1 f).1;rw[Ek,List.drop_eq_getElem_cons q,Ja,Fe,←(Du.1 f).2]
theorem Y4(k:Nat){h:HF}{n:Nat}{g:TypeId}(q:b<3*n)(f:h b=some (.row [Dl ⟨⟨s⟩⟩] g))(u:1≤m∧m<1000):
  CX (KO (k+3)) 45 [Y (some ⟨b,0,none⟩) 1 1,U .i64 (m:Int)] h n fun v h' n'=>n'=n+1∧v=Y (some ⟨3*n+2,0,none⟩) m m∧OT h' n' (3*n+2) (Dp m s):=by
 refine yD (Y3 k q f Dh u) ?_;rintro v h' n' w⟨rfl,rfl,x,rfl,e,y⟩;exact⟨rfl,Z,x,rfl,rfl,OT.of Z (by rw[y];unfold strs;rw[List.map_replicate])⟩
section
variable {n:Nat}{d:Tmp}
theorem Mn(cs:List Value)(k:∀h',h' (3*n+2)=some (.row cs e)→KN n h h'→EO X ops r ⟨upd t d (.slice (some ⟨3*n+2,0,none⟩) l c),h',n+1,w⟩ Q)(f:zh ops t o=true:=by exact rfl)(hd:o.dst=some d:=by exact rfl)(hn:zu X.nt (some d)=true:=by exact rfl)(hc:KS o.op=2:=by exact rfl)(hm:KX X.E o.op (KM t)=some ⟨cs,e,false,some (l,c)⟩:=by exact rfl):EO X ops (o::r) ⟨t,h,n,w⟩ Q:=
 ud ⟨f,hd,hn,hc,hm⟩ (k _ (ze _ _ _) (KN.upd (show 3*n≤3*n+2 by omega)))
end
theorem Y5:ratT (-1)=[45,49]:=by decide+kernel
theorem Y6(N:Nat):(tabL N fun _ _=>(0:Rat)).map ratT=Dp (N*N) [48]:=by
 unfold tabL;rw[H2,←Fg (n:=N*N)];rw[Fg];refine Fh fun m=>?_;rw[DB,HC];by_cases hm:m<N*N
 .rw[Et hm,De hm];rfl
 rw[DS Ab,CT hm];rfl
theorem SdpR.ext0{h:HF}{n:Nat}{p:Sdp}(hp:SdpR h n vB vO vF vE p)(x:KN n h h')(f:n≤n'):SdpR h' n' vB vO vF vE p:=
 ⟨hp.blocks.ext x f,hp.obj.ext x f,hp.objFree.ext x f,by obtain⟨g,a,b⟩:=hp.eqs;exact⟨g,a.ext x f,b.ext x f⟩⟩
theorem jP{a:Nat}(h:a*l≤m):(2^a)^l≤2^m:=by
 rw[←Hj];exact DJ zd h
theorem Y8(h:O s≤40):Sz 133 (numOf s):=(LR.of h zd kF zd:LR 133 s).2
theorem SdpOk.slb{F least:Nat}{p:Sdp}(hok:SdpOk F least p){Z3:List (List UInt8)}(h40:∀s∈Z3,O s≤40)(hK:(2^133)^O Z3≤K):SlB p (Z3.map numOf) K where
 y:=fun q hq=>by
  obtain⟨s,hs,rfl⟩:=EX.1 hq;exact Y8 (h40 s hs)
 yl:=by rw[DC];exact hK
 o:=fun e he=>(hok.obj.ok e he).f
 ol:=hok.objl
 e:=fun q hq e he=>((hok.eqo q hq).1.ok e he).f
 el:=fun q hq=>(hok.eqo q hq).2.1
 of:=hok.ofs
 f:=fun q hq=>(hok.eqo q hq).2.2.2.1
 r:=fun q hq=>(hok.eqo q hq).2.2.2.2
def ErrD(p:Sdp)(Z3:List (List UInt8))(e:Int):Prop:=(∀s∈Z3,xC s)∧O Z3≠O p.eqs∧e=4∨¬(∀s∈Z3,xC s)∧e=1
theorem ErrD.ne{p:Sdp}{Z3:List (List UInt8)}{e:Int}(h:ErrD p Z3 e):1≤e:=by
 rcases h with⟨_,_,rfl⟩|⟨_,rfl⟩<;>decide
theorem Q8{Z3:List (List UInt8)}(h:Z3[i]?=some s):yq (Z3.map numOf) i=numOf s:=by
 unfold yq;rw[DB,h];rfl
section
variable {p:Sdp}{n:Nat}
theorem Q9(k:Nat)(g:GG h n)(hF:F≤100)(hp:SdpR h n (Y aB lB cB) (Y aO lO cO) (Y aF lF cF) (Y aE lE cE) p)(hok:SdpOk F least p)(hY:Sl h n 1 (Y aY lY cY) (strs Z3))(aq:∀s∈Z3,O s≤40)(dq:O Z3≤6):
  CX (KO (k+15)) 13 [.agg #[Y aB lB cB,U .i64 (p.free:Int),Y aO lO cO,Y aF lF cF,Y aE lE cE],Y aY lY cY] h n fun v h' n'=>((∀s∈Z3,xC s)∧O Z3=O p.eqs∧∃y D B,v=.tuple #[Y (some ⟨y,0,none⟩) (O (dimN p)) (O (dimN p)),Y (some ⟨B,0,none⟩) p.free p.free,U .i64 0]∧MW h' n' y (dimN p) D (Lh p (Z3.map numOf) (O p.eqs))∧OT h' n' B ((D9 p.free).map fun t=>ratT (KZ p (Z3.map numOf) (O p.eqs) t)))∨∃e,v=.tuple #[Y none 0 0,Y none 0 0,U .i64 e]∧ErrD p Z3 e:=by
 have dy:=wo hY;have dt:=hok.bl;have dv:=hok.free;have du:=hok.eql;have bk:O (dimN p)=O p.blocks:=by unfold dimN;rw[DC]
 have cz:lB=O (dimN p):=by rw[bk];exact hp.blocks.lenEq Z AH
 have d1:lF=p.free:=by rw[wo hp.objFree];exact hok.ofl
 have d2:lO=O p.obj:=hp.obj.lenEq Z (wD _);have d0:lE=O p.eqs:=by
  obtain⟨ce,hE,an⟩:=hp.eqs;exact hE.lenEq Z an.len
 subst cz d1 d2 d0;obtain⟨f,Z4⟩:∃f,f=dimN p:=⟨_,rfl⟩;have ao:∀N∈f,1≤N∧N≤3:=fun N hN=>by
  rw[Z4]at hN;exact Co
 have ci:∀{j N:Nat},f[j]?=some N→p.blocks[j]?=some (N:Int):=fun {j N} hj=>by
  rw[Z4]at hj;unfold dimN at hj;rw[DB]at hj;cases hb:p.blocks[j]? with
  |none=>rw[hb]at hj;cases hj
  |some d=>
   rw[hb]at hj;have:=hok.b3 d (Dq hb);have hj:d.toNat=N:=ET hj;rw[show(N:Int)=d by omega]
 rw[←Z4];rw[←Z4]at bk hp;refine zl (fn:=Tryz.f13) R4<|zG ?_;refine sB [Y aB (O f) cB,U .i64 (p.free:Int),Y aO (O p.obj) cO,Y aF p.free cF,Y aE (O p.eqs) cE] ?_;intro h1 p1 x1;refine zG ?_;refine sC (jl _ (g.x (zx:Tx n h (n+1) h1)) hF (hp.ext0 x1 Z) hok (hY.ext x1 Z) aq Z).cx ?_;rintro _ h2 n2⟨e,rfl,he⟩ y2 x2;have he:(∀s∈Z3,xC s)∧O Z3=O p.eqs∧e=0∨ErrD p Z3 e:=he;rcases he with⟨aw,c9,rfl⟩|he
 rotate_left
 .have dx:=he.ne;refine ZB ?_;exact .inr ⟨e,rfl,he⟩
 obtain⟨K,cj,hK⟩:∃K,(2^133)^O Z3≤K∧K≤2^532:=⟨_,jP (m:=532) Z,Dh⟩;have b:=hok.slb aq cj;obtain⟨u,az⟩:∃u,u=Z3.map numOf:=⟨_,rfl⟩;rw[←az]at b;refine zG ?_;refine LV (L:=O f) [U .i64 0,U .i64 0,Y none 0 0] ?_ Z;intro h3 p3 x3;refine zG ?_;obtain⟨y,cm⟩:∃y,y=3*n2+2:=⟨_,rfl⟩;have oM:OR 3 Ll h3 (n2+1) (3*n2+2) (Dp (O f) ⟨0,none,0⟩):=Ji Z p3 Ll.kp rfl;have E3:Ex0 (n+1) h1 h3:=⟨(zx:Tx (n+1) h1 (n2+1) h3).2⟩;rw[←cm]at oM⊢;refine sF (α:=Nat×List Nat×List MD) (fun z=>[(1,Y aY lY cY),(2,Dn (some ⟨3*n+2,0,none⟩)),(8,Y (some ⟨y,0,none⟩) (O f) (O f)),(29,Y aB (O f) cB),(30,U .i64 (O f:Int)),(31,U .i64 (z.1:Int))])
  (fun z h' n' w'=>w'=[]∧n2+1≤n'∧Ex0 (n+1) h1 h'∧OR 3 Ll h' n' y z.2.2∧O z.2.2=O f∧O z.2.1=z.1∧(∀(k N b:Nat),f[k]?=some N→z.2.1[k]?=some b→z.2.2[k]?=some ⟨N,some ⟨b,0,none⟩,N*N⟩∧OT h' n' b (Dp (N*N) [48]))∧(∀b∈z.2.1,3*(n2+1)≤b∧b<3*n')∧z.2.1.Nodup∧z.1≤O f)
  (fun z=>O f-z.1) (0,[],Dp (O f) ⟨0,none,0⟩) ⟨rfl,Dh,E3,oM,DV,rfl,fun k N b _ hb=>(by have hb:([]:List Nat)[k]?=some b:=hb;simp at hb),fun b hb=>oU hb Ds,Iw,Di⟩ ?_
 rintro⟨j,D,ds⟩ t h4 A _ ⟨rfl,y4,E4,o4,l4,j4,e4,b4,d4,hj⟩;have y4:n2+1≤A:=y4;have o4:OR 3 Ll h4 A y ds:=o4;have l4:O ds=O f:=l4;have j4:O D=j:=j4;have e4:∀(k N b:Nat),f[k]?=some N→D[k]?=some b→ds[k]?=some ⟨N,some ⟨b,0,none⟩,N*N⟩∧OT h4 A b (Dp (N*N) [48]):=e4;have b4:∀b∈D,3*(n2+1)≤b∧b<3*A:=b4;have d4:D.Nodup:=d4;have hj:j≤O f:=hj;have q4:=(E4.e (3*n+2) Z).trans p1;have ah:Ex0 n h h4:=⟨fun c hc=>(E4.e c Z).trans (x1 c hc)⟩;refine zG ?_;by_cases qj:(j:Int)<(O f:Int)
 .refine zG ?_;obtain⟨N,ap⟩:∃N,f[j]?=some N:=⟨_,Dm Z⟩;have hN:=ao N (Dq ap);have h9:=LH hN.2;have ck:1≤N*N:=Fw hN.1 hN.1;obtain⟨b5,o5,e5,m5,r5,t5⟩:=kU (hp.blocks.ext ah.e (show n≤A by omega)) (ci ap);refine sI e5 r5 ?_;refine sL t5 m5 0 ?_;refine zG ?_;refine Mn [Dl ⟨⟨[48]⟩⟩] ?_;intro h6 p6 x6;refine zG ?_;refine LZ N N Z ?_;refine zG ?_;refine sC (Y4 _ (b:=3*A+2) (s:=[48]) Z p6 (m:=N*N) ⟨ck,Z⟩) ?_;rintro _ h7 n7⟨rfl,rfl,o7⟩ y7 x7;refine sT #[U .i64 (N:Int),U .i64 (N:Int),Y (some ⟨3*(A+1)+2,0,none⟩) (N*N) (N*N)] ?_;refine sI (j:=j) rfl Z ?_;have o8:OR 3 Ll h7 (A+1+1) y ds:=o4.xx Ll.kp zx;refine MC (n0:=n) (j:=j) (q:=(⟨N,some ⟨3*(A+1)+2,0,none⟩,N*N⟩:MD)) [U .i64 (N:Int),U .i64 (N:Int),Y (some ⟨3*(A+1)+2,0,none⟩) (N*N) (N*N)] o8 Ll.kp Z (show(0:Nat)+j*3=j*3 by omega) rfl Z ?_;intro h9 o9 s9;have X9:∀c,c<3*A→c≠y→h9 c=h4 c:=fun c hc hn=>(s9.1 c hn).trans ((x7 c Z).trans (x6 c hc));have T9:Tr A h4 (A+1+1) h9:=⟨Z,fun c hc=>by
   by_cases hn:c=y
   .subst hn;obtain⟨_,C,e,z1,z2,_⟩:=o4;exact .inr (.row z1 z2)
   .exact .inl (X9 c hc hn)⟩
  have c7:y<3*A:=o4.1;have da:OT h9 (A+1+1) (3*(A+1)+2) (Dp (N*N) [48]):=o7.go strP.kp (Il s9 (FS _ _)) (s9.1 _ Z);refine zG ?_;refine sK (j+1,D++[3*(A+1)+2],ds.set j ⟨N,some ⟨3*(A+1)+2,0,none⟩,N*N⟩) ⟨rfl,Z,⟨fun c hc=>(X9 c Z Z).trans (E4.e c hc)⟩,o9,by rw[EU];exact l4,by rw[Do,j4];rfl,fun k2 N2 b2 h1 h2=>?_,fun b hb=>?_,?_,by show j+1≤O f;omega⟩
  .by_cases hk:k2=j
   .subst hk;rw[ap]at h1;cases h1;have h2:(D++[3*(A+1)+2])[k2]?=some b2:=h2;rw[DL Z,j4,Ee]at h2;cases h2;exact⟨by rw[Gd,De rfl,De Z],da⟩
   have h2:(D++[3*(A+1)+2])[k2]?=some b2:=h2;have av:=(Du.1 h2).1;rw[Do,j4]at av;have av:k2<j+1:=av;rw[En Z]at h2;obtain⟨u1,u2⟩:=e4 k2 N2 b2 h1 h2;exact⟨by rw[Gd,CT (Iv hk)];exact u1,u2.go strP.kp T9 (X9 _ u2.1 (by have:=(b4 b2 (Dq h2)).1;omega))⟩
  .rcases Ec.1 hb with hb|hb
   .have:=b4 b hb;omega
   rw[Dx.1 hb];omega
  show(D++[3*(A+1)+2]).Nodup;rw[JE];exact⟨d4,cA,fun a ha b hb=>by rw[Dx.1 hb];have:=(b4 a ha).2;omega⟩
 have dw:j=O f:=Z;have au:O D=O f:=Z;have cq:ds=Lk f D:=by
  refine Fh fun m=>?_;by_cases hm:m<O f
  .rw[aH (Dm hm) (Dm Z)];exact(e4 m _ _ (Dm hm) (Dm Z)).1
  rw[DS Z,DS (by rw[sO au];omega)]
 subst cq;have c7:y<3*A:=o4.1;have bv:MW h4 A y f D (fun _ _ _=>0):=⟨o4,fun k2 N2 b2 h1 h2=>by rw[Y6];exact(e4 k2 N2 b2 h1 h2).2,au,d4,fun hb=>by have:=(b4 _ hb).1;omega⟩;have ac:∀b∈D,60≤b:=fun b hb=>by have:=(b4 b hb).1;have:=g.2;omega
 have M:∀b∈D,3*(n+1)≤b:=fun b hb=>by have:=(b4 b hb).1;omega
 refine zG ?_;have ax:∀e∈p.obj,EntF f e:=fun e he=>Z4▸b.o e he;have g4:GG h4 A:=g.ext ah.e Z;have a5:=fT k g4 bv ac ao (hp.obj.ext ah.e (show n≤A by omega)) (fun ad e=>fun hb=>by
  have h1:=(hp.obj).below;subst e;have h1:ad.block<3*n:=h1;have:=M _ hb;omega) zd (fun e he=>(ax e he).d) (fun _ _ _=>rfl) (by have:=b.ol;omega) (c:= -1) ⟨kF,kF⟩ (fun P Q e k i j=>(YO (Ns:=f) (E:=P) (fun x hx=>ax x Ap) BM k i j).mono zd)
 rw[Y5]at a5;refine zk _ R5 a5 ?_;rintro _ h5 n5 w5⟨y5,X5,T5,m5,cu⟩;rw[qf,zZ (fun c hc=>by have:=M c (cu c hc);omega)];have m5:MW h5 n5 y f D (Lh p u 0):=m5.as (fun k i j=>by show 0+(-1)*KW p.obj k i j=(-1)*KW p.obj k i j;rw[Jj]);have E5:Ex0 (n+1) h1 h5:=⟨fun c hc=>(X5 c Z (fun hb=>by have:=M c hb;omega)).trans (E4.e c hc)⟩;have q5:=(E5.e (3*n+2) Z).trans p1;have cv:Ex0 n h h5:=⟨fun c hc=>(E5.e c Z).trans (x1 c hc)⟩;refine zG ?_;refine LV (L:=p.free) [Dl ⟨⟨[]⟩⟩] ?_ Z;intro h6 p6 x6;refine zG ?_;obtain⟨B,cl⟩:∃B,B=3*n5+2:=⟨_,rfl⟩;have o6:OT h6 (n5+1) (3*n5+2) (Dp p.free []):=Ji Z p6 strP.kp rfl;have m6:=m5.ext x6 zs;have E6:Ex0 (n+1) h1 h6:=⟨fun c hc=>(x6 c Z).trans (E5.e c hc)⟩;have q6:=(E6.e (3*n+2) Z).trans p1;have a6:B∉D:=fun hb=>by have:=m5.blt hb;omega
 have ar:B≠y:=by have:=m5.r.1;omega
 have dj:3*(n+1)≤B:=Z;rw[←cl]at o6⊢;refine zG ?_;refine sF (α:=Nat×List (List UInt8)) (fun z=>[(1,Y aY lY cY),(2,Dn (some ⟨3*n+2,0,none⟩)),(8,Y (some ⟨y,0,none⟩) (O f) (O f)),(11,Y (some ⟨B,0,none⟩) p.free p.free),(56,Y aF p.free cF),(57,U .i64 (p.free:Int)),(58,U .i64 (z.1:Int))])
  (fun z h' n' w'=>w'=[]∧n5+1≤n'∧Ex0 (n+1) h1 h'∧MW h' n' y f D (Lh p u 0)∧OT h' n' B z.2∧O z.2=p.free∧(∀t,t<z.1→z.2[t]?=some (ratT (KZ p u 0 t)))∧z.1≤p.free)
  (fun z=>p.free-z.1) (0,Dp p.free []) ⟨rfl,Dh,E6,m6,o6,DV,fun t H=>oU H (Fr _),Di⟩ ?_
 rintro⟨j,G⟩ t h7 n7 _ ⟨rfl,y7,E7,m7,o7,l7,f7,hj⟩;have y7:n5+1≤n7:=y7;have o7:OT h7 n7 B G:=o7;have l7:O G=p.free:=l7;have f7:∀t,t<j→G[t]?=some (ratT (KZ p u 0 t)):=f7;have hj:j≤p.free:=hj;have q7:=(E7.e (3*n+2) Z).trans p1;have ay:Ex0 n h h7:=⟨fun c hc=>(E7.e c Z).trans (x1 c hc)⟩;refine zG ?_;by_cases qj:(j:Int)<(p.free:Int)
 .obtain⟨s,hs⟩:∃s,p.objFree[j]?=some s:=⟨_,Dm (by have:=hok.ofl;omega)⟩;have cs:=hok.ofs s (Dq hs);have cr:KZ p u 0 j= -numOf s:=by show -numOf ((p.objFree[j]?).getD [48])=_;rw[hs];rfl
  refine zG ?_;obtain⟨b8,o8,e8,d3,r8,t8⟩:=xN (hp.objFree.ext ay.e (show n≤n7 by omega)) hs;refine sI e8 r8 ?_;refine sL t8 d3 0 ?_;refine zG ?_;refine sC (negS _ (g.ext ay.e (show n≤n7 by omega)) cs).cx ?_;rintro _ h9 n9 rfl y9 x9;refine sI (j:=j) rfl Z ?_;refine MC (n0:=n) (j:=j) (q:=ratT (-numOf s)) [Dl ⟨⟨ratT (-numOf s)⟩⟩] (o7.xx strP.kp zx) strP.kp Z (show(0:Nat)+j*1=j*1 by omega) rfl Z ?_;intro am d7 c3;have bd:∀c,c<3*n7→c≠B→am c=h7 c:=fun c hc hn=>(c3.1 c hn).trans (x9 c hc);have cd:Tr n7 h7 n9 am:=Il c3 ⟨y9,fun c hc=>.inl (x9 c hc)⟩;have dr:=o7.1;refine zG ?_;refine sK (j+1,G.set j (ratT (-numOf s))) ⟨rfl,Z,⟨fun c hc=>(bd c Z Z).trans (E7.e c hc)⟩,m7.go cd (fun c hc=>bd c (by rcases hc with rfl|hc;exact m7.r.1;exact m7.blt hc) Bb),d7,by rw[EU];exact l7,fun t H=>?_,Ac⟩;have H:t<j+1:=H;show(G.set j (ratT (-numOf s)))[t]?=_;rw[Gd];by_cases htj:j=t
  .subst htj;rw[De rfl,De Z,cr]
  rw[CT htj];exact f7 t Z
 have cp:j=p.free:=Z;subst cp;refine zG ?_;have co:∀{q:Eqn} {t:Nat},q∈p.eqs→t<p.free→∃s,q.fr[t]?=some s∧vI 2 s:=fun {q t} hq H=>by
  have h1:=(hok.eqo q hq).2.2.1;exact⟨_,Dm Z,(hok.eqo q hq).2.2.2.1 _ (List.getElem_mem _)⟩
 refine sF (α:=Nat×List (List UInt8)) (fun z=>[(1,Y aY lY cY),(8,Y (some ⟨y,0,none⟩) (O f) (O f)),(11,Y (some ⟨B,0,none⟩) p.free p.free),(70,Y aE (O p.eqs) cE),(71,U .i64 (O p.eqs:Int)),(72,U .i64 (z.1:Int))])
  (fun z h' n' w'=>w'=[]∧n7≤n'∧Ex0 (n+1) h1 h'∧MW h' n' y f D (Lh p u z.1)∧OT h' n' B z.2∧O z.2=p.free∧(∀t,t<p.free→z.2[t]?=some (ratT (KZ p u z.1 t)))∧z.1≤O p.eqs)
  (fun z=>O p.eqs-z.1) (0,G) ⟨rfl,Dh,E7,m7,o7,l7,f7,Di⟩ ?_
 rintro⟨i,G⟩ t h8 I _ ⟨rfl,y8,E8,m8,o8,l8,f8,hi⟩;have y8:n7≤I:=y8;have m8:MW h8 I y f D (Lh p u i):=m8;have o8:OT h8 I B G:=o8;have l8:O G=p.free:=l8;have f8:∀t,t<p.free→G[t]?=some (ratT (KZ p u i t)):=f8;have hi:i≤O p.eqs:=hi;have bq:Ex0 n h h8:=⟨fun c hc=>(E8.e c Z).trans (x1 c hc)⟩;refine zG ?_;by_cases qi:(i:Int)<(O p.eqs:Int)
 .obtain⟨q,hq⟩:∃q,p.eqs[i]?=some q:=⟨_,Dm Z⟩;have bp:=Dq hq;obtain⟨s,hs⟩:∃s,Z3[i]?=some s:=⟨_,Dm Z⟩;have ct:ratT (yq u i)=s:=by rw[az,Q8 hs];exact rK (aw s (Dq hs))
  subst ct;have bn:eqEs p i=q.es:=by unfold eqEs;rw[hq];rfl
  have a4:=b.ef i;rw[bn]at a4;have b0:=b.yz i;obtain⟨ce,hE,an⟩:=hp.eqs;obtain⟨ve,vf,ec,s1,s2⟩:=an.get hq;obtain⟨a1,l1,c1,rfl,dz⟩:=s1.len;obtain⟨a2,l2,c2,rfl,e0⟩:=s2.len;have cw:l1=O q.es:=s1.lenEq Z (wD _);have cy:l2=p.free:=by rw[wo s2];exact(hok.eqo q bp).2.2.1
  subst cw cy;refine zG ?_;obtain⟨b9,o9,e9,d5,r9,t9⟩:=nk (hE.ext bq.e (show n≤I by omega)) ec rfl zd;refine sI e9 r9 ?_;refine sL t9 d5 0 ?_;refine sA ?_;intro am db dg;refine zG ?_;refine sS [Y a1 (O q.es) c1,Y a2 p.free c2,Dl ⟨⟨q.rhs⟩⟩] ?_;intro T bx d8;have a9:KN I h8 T:=(zx:Tx I h8 (I+1) T).2;have bu:=m8.ext a9 zs;have al:Ex0 (n+1) h1 T:=⟨fun c hc=>(a9 c Z).trans (E8.e c hc)⟩;have Z0:Ex0 n h T:=⟨fun c hc=>(al.e c Z).trans (x1 c hc)⟩;have a8:OT T (I+1) B G:=o8.ext strP.kp a9 zs;have bh:GG T (I+1):=g.ext Z0.e Z;obtain⟨dk,e2,cg,cb,dd,c5⟩:=xN (hY.ext Z0.e (show n≤I+1 by omega)) hs;refine zG ?_;refine zn [0,0,2,0,0,24,56,127] rfl<|zH ?_;refine dI (j:=i) cg dd ?_;refine dL c5 cb 0 ?_;refine zH ?_;refine yy _ R7 (fT k bh bu ac ao (s1.ext Z0.e (show n≤I+1 by omega)) (fun ad e=>fun hb=>by
   have h1:=s1.below;subst e;have h1:ad.block<3*n:=h1;have:=M _ hb;omega) zd (fun e he=>(show EntF f e from Z4▸a4.1 e he).d) (bX p u i) (by have:=a4.2;omega) (c:=yq u i) (b0.mono zd) (fun P Q e k i' j=>(b.mz hK (m:=i) Z (E:=P) (fun x hx=>a4.1 x Ap) (by have:=a4.2;rw[e,Do]at this;omega) k i' j).mono zd)) ?_
  rintro _ ab aj e7⟨dh,aa,bc,ai,ca⟩;refine⟨rfl,dh,?_⟩;rw[qf,zZ (fun c hc=>by have:=M c (ca c hc);omega)];rw[uO];have ai:MW ab aj y f D (Lh p u (i+1)):=ai.as (fun k i' j=>by show Lh p u i k i' j+yq u i*KW q.es k i' j=Lh p u i k i' j+yq u i*KW (eqEs p i) k i' j;rw[bn]);have bb:Ex0 (n+1) h1 ab:=⟨fun c hc=>(aa c Z (fun hb=>by have:=M c hb;omega)).trans (al.e c hc)⟩;have dc:ab (3*I+2)=_:=(aa (3*I+2) Z (fun hb=>by have:=m8.blt hb;omega)).trans bx;have bw:OT ab aj B G:=a8.go strP.kp bc (aa B a8.1 a6);refine zG ?_;refine sF (α:=Nat×List (List UInt8)) (fun z=>[(1,Y aY lY cY),(8,Y (some ⟨y,0,none⟩) (O f) (O f)),(11,Y (some ⟨B,0,none⟩) p.free p.free),(14,U .i64 (i:Int)),(70,Y aE (O p.eqs) cE),(71,U .i64 (O p.eqs:Int)),(72,U .i64 (i:Int)),(86,Y a2 p.free c2),(87,U .i64 (p.free:Int)),(88,U .i64 (z.1:Int))])
   (fun z h' n' w'=>w'=[]∧aj≤n'∧Ex0 (n+1) h1 h'∧MW h' n' y f D (Lh p u (i+1))∧OT h' n' B z.2∧O z.2=p.free∧(∀t,t<p.free→z.2[t]?=some (ratT (KZ p u (if t<z.1 then i+1 else i) t)))∧z.1≤p.free)
   (fun z=>p.free-z.1) (0,G) ⟨rfl,Dh,bb,ai,bw,l8,fun t H=>(by rw[CT (Fr t)];exact f8 t H),Di⟩ ?_
  rintro⟨j,G⟩ t a3 Z1 _ ⟨rfl,ak,a0,W,J,V,R,hj⟩;have ak:aj≤Z1:=ak;have J:OT a3 Z1 B G:=J;have V:O G=p.free:=V;have R:∀t,t<p.free→G[t]?=some (ratT (KZ p u (if t<j then i+1 else i) t)):=R;have hj:j≤p.free:=hj;have a7:Ex0 n h a3:=⟨fun c hc=>(a0.e c Z).trans (x1 c hc)⟩;refine zG ?_;by_cases qj:(j:Int)<(p.free:Int)
  .have ae:j<p.free:=Z;obtain⟨c0,hc,cn⟩:=co bp ae;obtain⟨x,br,bt,rfl⟩:=cn;have c8:numOf (eqFr p i j)=(x:Rat):=by
    exact C3
   have ag:KZ p u (i+1) j=KZ p u i j+yq u i*(x:Rat):=by
    show KZ p u i j+yq u i*numOf (eqFr p i j)=_;rw[c8]
   have ba:∀S,S=KZ p u (i+1) j→∀t,t<p.free→(G.set j (ratT S))[t]?=some (ratT (KZ p u (if t<j+1 then i+1 else i) t)):=fun S hS t H=>by
    rw[Gd];by_cases htj:j=t
    .subst htj;rw[De rfl,De Z,De Z,hS]
    rw[CT htj,R t H];by_cases h3:t<j
    .rw[De h3,De Z]
    rw[CT h3,CT Z]
   have af:yq u i*(x:Rat)=0→∀t,t<p.free→G[t]?=some (ratT (KZ p u (if t<j+1 then i+1 else i) t)):=fun h0 t H=>by
    rw[R t H];by_cases htj:t=j
    .subst htj;rw[CT (GM _),De (G1 _),ag,h0,Gh]
    by_cases h3:t<j
    .rw[De h3,De Z]
    rw[CT h3,CT Z]
   refine zG ?_;obtain⟨dl,e3,ch,cc,de,df⟩:=xN (s2.ext a7.e (show n≤Z1 by omega)) hc;refine sI ch de ?_;refine sL df cc 0 ?_;refine zG ?_;refine Oo (decide ((x:Rat)=0)) (jM _) ?_;by_cases hx0:(x:Rat)=0
   .rw[kA hx0];refine zG ?_;exact sK (j+1,G) ⟨rfl,ak,a0,W,J,V,af (by rw[hx0,Gg]),Ac⟩
   rw[aA hx0];obtain⟨dm,e6,bg,b1,bz,c6⟩:=xN (hY.ext a7.e (show n≤Z1 by omega)) hs;refine zG ?_;refine sI bg bz ?_;refine sL c6 b1 0 ?_;refine Oo (decide (yq u i=0)) (jM _) ?_;by_cases hy0:yq u i=0
   .rw[kA hy0];refine zG ?_;exact sK (j+1,G) ⟨rfl,ak,a0,W,J,V,af (by rw[hy0,IE]),Ac⟩
   rw[aA hy0];refine zG ?_;have hf:=R j ae;rw[CT (GM _)]at hf;obtain⟨cS,fS,lS,tS⟩:=J.get hf (off:=0+j*1) Z;have fS:cS=[Dl ⟨⟨ratT (KZ p u i j)⟩⟩]:=fS;subst fS;have bi:GG a3 Z1:=g.ext a7.e Z;refine zn [0,0,0,0,12,28,0,0,192,448,0,1984,4092,8191,16383] rfl<|zH ?_;refine dI (j:=j) rfl ae ?_;refine dL tS J.1 0 ?_;refine zH ?_;refine dI (j:=i) bg bz ?_;refine dL c6 b1 0 ?_;refine zH ?_;refine dC (mulR _ (bi.x zx) b0 (tG ⟨br,bt⟩) Z Z Z).cx ?_;rintro _ dn e1 rfl ea b6;refine dC (addR _ (bi.x zx) (b.fz hK (m:=i) Z j) (b0.mul (tG ⟨br,bt⟩)) Z Z Z (z:=KZ p u (i+1) j) ag.symm (b.fz hK (m:=i+1) Z j) Z).cx ?_;rintro _ dp d6 rfl eb b7;refine dI (j:=j) rfl ae ?_;refine LI (n0:=n) (j:=j) (q:=ratT (KZ p u (i+1) j)) [Dl ⟨⟨ratT (KZ p u (i+1) j)⟩⟩] (J.xx strP.kp zx) strP.kp Z (show(0:Nat)+j*1=j*1 by omega) rfl Z ?_;intro bj d9 c4;have be:∀c,c<3*Z1→c≠B→bj c=a3 c:=fun c hc hn=>(c4.1 c hn).trans ((b7 c Z).trans (b6 c hc));have cf:Tr Z1 a3 d6 bj:=Il c4 ⟨Z,fun c hc=>.inl ((b7 c Z).trans (b6 c hc))⟩;have di:=J.1;refine zG ?_;exact sK (j+1,G.set j (ratT (KZ p u (i+1) j))) ⟨rfl,Z,⟨fun c hc=>(be c Z Z).trans (a0.e c hc)⟩,W.go cf (fun c hc=>be c (by rcases hc with rfl|hc;exact W.r.1;exact W.blt hc) Bb),d9,by rw[EU];exact V,ba _ rfl,Ac⟩
  refine zG ?_;exact sK (i+1,G) ⟨rfl,Z,a0,W,J,V,fun t H=>(by rw[R t H,De Z]),AG⟩
 have bo:i=O p.eqs:=Z;refine zG ?_;have X8:KN n h h8:=bq.e;have ed:n≤I:=Z;refine zq ?_;rw[←az];refine .inl ⟨aw,c9,y,D,B,rfl,bo▸m8,o8.as ?_⟩;refine Fh fun t=>?_;by_cases H:t<p.free
 .rw[f8 t H,DB,Et H,bo];rfl
 rw[DS Z,DS tv]
end
end
section
variable {sT:TypeId}{x:Operand}{b j:Nat}{z:Value}
section
variable {D:Type}{sz:Nat}{P:List Value→D→Prop}
theorem Rec.app{c:List Value}{g f:List D}(r:Rec sz P cs g)(s:Rec sz P c f):Rec sz P (cs++c) (g++f):=by
 induction r with
 |nil=>exact s
 |cons hl hp hr ih=>rw[DN];exact .cons hl hp ih
end
section
variable {ms:List Nat}{i n:Nat}{ef:List (Nat×HF×List Nat)}{d:Tmp}
theorem M0{D:Type}{sz:Nat}{P:List Value→D→HF→Nat→Prop}{s:Operand}{q:List D}(c:List Value)(p:List D)(g:GR sz P lo h n e v q)(F:KP sz P)(H:Rec sz (fun c d=>P c d h n) c p)(hu:c.all nu=true∧ones c=true){J:Value}(hx:argS h sz J p.length c)(Z0:1≤p.length)(Z3:q.length+p.length<1000000)(B:n0≤lo∧lo≤n)
  (k:∀u h',GR sz P lo h' (n+1) e u (q++p)→Tr n h (n+1) h'→KN lo h h'→(∀b,b<3*n→¬BkOf v b→h' b=h b)→(∀b,BkOf u b→3*n≤b)→EO X ops r ⟨upd t d u,h',n+1,w⟩ Q)
  (hw:zh ops t o=true:=by exact rfl)(hd:o.dst=some d:=by exact rfl)(hn:zu X.nt (some d)=true:=by exact rfl)(ho:o.op=.call {callee:=.builtin .append,args:=#[s,x],argTypes:=#[sT,xT]}:=by exact rfl)(hv:KM t s=v:=by exact rfl)(hux:KM t x=J:=by exact rfl)(hxT:(match X.E.und xT with|some (.int _)=>false|none=>false|_=>true)=true:=by exact rfl)(hus:X.E.und sT=some (.slice e):=by exact rfl)(hi:X.E.inf e=some (sz,bytes,z):=by exact rfl)(hz:(zr z).length=sz:=by exact rfl)(h1:1≤sz∧1≤bytes∧bytes≤1000:=by decide)(hX:X.n0=n0:=by exact rfl):EO X ops (o::r) ⟨t,h,n,w⟩ Q:=by
 have V:=g;obtain⟨C,L,I,G⟩:=g;subst hv hux;have f:(q.length+p.length)*bytes≤1099511627776:=Nat.le_trans (Nat.mul_le_mul (show q.length+p.length≤1000000 by omega) h1.2.2) zd;obtain⟨u,h',W,M,Z1,R,T,S,Z4⟩:=uk hus hi hz ⟨h1.1,h1.2.1⟩ L hx Z0 f H.len hu.2 B.2;refine yX ⟨hw,hd,hn,ho,hxT⟩ M ?_;rw[hX,zZ fun b f=>by have:=S b f;omega];have A:∀b,b<3*n→¬BkOf (KM t s) b→h' b=h b:=fun b f hn=>T b f fun o l c e=>hn ⟨o,l,c,e⟩;have y:Tr n h (n+1) h':=⟨Nat.le_succ _,fun b f=>by
  by_cases hB:BkOf (KM t s) b
  .exact .inr (V.bk b hB).2.2.2
  .exact .inl (A b f hB)⟩
 refine k u h' ⟨C++c,by rw[List.length_append];exact Z1,(I.mono fun _ _ r=>F.t r y).app (H.mono fun _ _ r=>F.t r y),by rw[List.all_append,G,hu.1];rfl⟩ y R A fun b⟨o,l,cc,e⟩=>?_;subst e;exact Z4
theorem ZK{D:Type}{sz:Nat}{P:List Value→D→HF→Nat→Prop}{s:Operand}{q:List D}(c:List Value)(p:List D)(g:GR sz P lo h n e v q)(F:KP sz P)(H:Rec sz (fun c d=>P c d h n) c p)(hu:c.all nu=true∧ones c=true){J:Value}(hx:argS h sz J p.length c)(Z0:1≤p.length)(Z3:q.length+p.length<1000000)(B:n0≤lo∧lo≤n)
  (k:∀u h' W,GR sz P lo h' (n+1) e u (q++p)→Tr n h (n+1) h'→KN lo h h'→(∀b,b<3*n→¬BkOf v b→h' b=h b)→(∀b,BkOf u b→3*n≤b)→ED X ops r ms (i+1) ⟨⟨upd t d u,h',n+1,w⟩,al,ld,(i,h,W)::ef⟩ Q)
  (hw:zh ops t o=true:=by exact rfl)(hd:o.dst=some d:=by exact rfl)(hn:zu X.nt (some d)=true:=by exact rfl)(ho:o.op=.call {callee:=.builtin .append,args:=#[s,x],argTypes:=#[sT,xT]}:=by exact rfl)(hv:KM t s=v:=by exact rfl)(hux:KM t x=J:=by exact rfl)(hxT:(match X.E.und xT with|some (.int _)=>false|none=>false|_=>true)=true:=by exact rfl)(hus:X.E.und sT=some (.slice e):=by exact rfl)(hi:X.E.inf e=some (sz,bytes,z):=by exact rfl)(hz:(zr z).length=sz:=by exact rfl)(h1:1≤sz∧1≤bytes∧bytes≤1000:=by decide)(g1:xF m ef=true:=by exact rfl)(g2:xW m al=true:=by exact rfl)(g3:xW m ld=true:=by exact rfl)(hX:X.n0=n0:=by exact rfl):ED X ops (o::r) (m::ms) i ⟨⟨t,h,n,w⟩,al,ld,ef⟩ Q:=by
 have V:=g;obtain⟨C,L,I,G⟩:=g;subst hv hux;have f:(q.length+p.length)*bytes≤1099511627776:=Nat.le_trans (Nat.mul_le_mul (show q.length+p.length≤1000000 by omega) h1.2.2) zd;obtain⟨u,h',W,M,Z1,R,T,S,Z4⟩:=uk hus hi hz ⟨h1.1,h1.2.1⟩ L hx Z0 f H.len hu.2 B.2;refine lg hw hd hn ho hxT M g1 g2 (sJ g3) zs ?_;rw[hX,zZ fun b f=>by have:=S b f;omega];have A:∀b,b<3*n→¬BkOf (KM t s) b→h' b=h b:=fun b f hn=>T b f fun o l c e=>hn ⟨o,l,c,e⟩;have y:Tr n h (n+1) h':=⟨Nat.le_succ _,fun b f=>by
  by_cases hB:BkOf (KM t s) b
  .exact .inr (V.bk b hB).2.2.2
  .exact .inl (A b f hB)⟩
 refine k u h' W ⟨C++c,by rw[List.length_append];exact Z1,(I.mono fun _ _ r=>F.t r y).app (H.mono fun _ _ r=>F.t r y),by rw[List.all_append,G,hu.1];rfl⟩ y R A fun b⟨o,l,cc,e⟩=>?_;subst e;exact Z4
theorem ZL{s:Operand}{L:Nat}(new:List Value){g:Value}(H:argS h size g L new)(J:1≤L)(B:L≤1000)(I:new.length=L*size)(F:gro b=false)
  (k:∀h',h' (3*n+1)=some (.row new e)→KN n h h'→EO X ops r ⟨upd t d (.slice (some ⟨3*n+1,0,none⟩) L L),h',n+1,w⟩ Q)
  (G:zh ops t o=true:=by exact rfl)(hd:o.dst=some d:=by exact rfl)(hn:zu X.nt (some d)=true:=by exact rfl)(ho:o.op=.call {callee:=.builtin .append,args:=#[s,x],argTypes:=#[sT,xT]}:=by exact rfl)(hv:KM t s=.slice (some ⟨b,0,none⟩) 0 0:=by exact rfl)(hux:KM t x=g:=by exact rfl)(hxT:(match X.E.und xT with|some (.int _)=>false|none=>false|_=>true)=true:=by exact rfl)(hus:X.E.und sT=some (.slice e):=by exact rfl)(hi:X.E.inf e=some (size,bytes,z):=by exact rfl)(hz:(zr z).length=size:=by exact rfl)(h1:1≤size∧1≤bytes∧bytes≤1000:=by decide):EO X ops (o::r) ⟨t,h,n,w⟩ Q:=by
 subst hux;obtain⟨f,hc⟩:=H;have c:L*bytes≤1099511627776:=Nat.le_trans (Nat.mul_le_mul B h1.2.2) zd;have l:Nat.ble (L*bytes) 1099511627776=true:=Nat.ble_eq_true_of_le c;have p:Nat.beq (zr z).length size=true:=by rw[hz];exact Nat.beq_refl _
 have q:Nat.ble 1 size=true:=Nat.ble_eq_true_of_le h1.1;have u:Nat.ble 1 bytes=true:=Nat.ble_eq_true_of_le h1.2.1;have y:Nat.ble L 0=false:=by
  cases c:Nat.ble L 0 with
  |false=>rfl
  |true=>have:=Nat.le_of_ble_eq_true c;omega
 have A:yo h size 0 (.slice (some ⟨b,0,none⟩) 0 0)=some []:=by simp[yo]
 have C:yP X.E h n sT (KM t s) (KM t x)=some (.val (.slice (some ⟨3*n+1,0,none⟩) L L) (upd h (3*n+1) (some (.row new e))) (n+1) []):=by
  rw[hv];simp only[yP,hus,hi,f,hc,Nat.zero_add,l,p,q,u,y,A,Bool.and_self,gY,F,List.nil_append]
 refine yX ⟨G,hd,hn,ho,hxT⟩ C ?_;exact k _ (ze _ _ _) (KN.upd Z)
end
def Le(c:List Value)(v:Value)(_:HF)(_:Nat):Prop:=c=[v]∧nu v=true∧ones [v]=true
theorem Le.kp:KP 1 Le:=⟨fun e _=>e,fun e=>by obtain⟨rfl,c,f⟩:=e;exact⟨rfl,by rw[List.all_cons,c];rfl,f⟩⟩
def K4(N b:Nat):Value:=Y (some ⟨b,0,none⟩) N N
def M3(N:Nat)(a:Nat→Nat→Rat)(c:List Value)(i:Nat)(h:HF)(n:Nat):Prop:=∃ai ci,c=[Y ai N ci]∧NS h n (Y ai N ci) (rowQ N a i)
theorem M3.stay(N:Nat)(a:Nat→Nat→Rat):Stay (M3 N a):=⟨fun _ _ _ _ _ _ ⟨c,f,e,s⟩ x g=>⟨c,f,e,s.ext x g⟩⟩
def Mo(h:HF)(n:Nat)(v:Value)(N K:Nat)(a:Nat→Nat→Rat):Prop:=RS 1 (M3 K a) h n v (D9 N)
abbrev RD(h:HF)(n:Nat)(v:Value)(N:Nat)(a:Nat→Nat→Rat):Prop:=Mo h n v N N a
theorem Mo.ext{h h':HF}{n n':Nat}{N K:Nat}{a:Nat→Nat→Rat}(r:Mo h n v N K a)(x:KN n h h')(c:n≤n'):Mo h' n' v N K a:=RS.ext' (M3.stay K a) r x c
theorem Mo.at{h:HF}{n:Nat}{len N K i:Nat}{a:Nat→Nat→Rat}(r:Mo h n (Y ar len cap) N K a)(A:i<N):∃b f g l,ar=some ⟨b,f,none⟩∧b<3*n∧i<len∧At h b (f+i*1) [Y g K l]∧NS h n (Y g K l) (rowQ K a i):=by
 obtain⟨b,f,c,p,q,u,y,_,g,l,rfl,s⟩:=RS.at' zd r (Et A);exact⟨b,f,g,l,p,q,u,y,s⟩
theorem ZM{N:Nat}{a:Nat→Nat→Rat}{i:Nat}(c:j<N):(rowQ N a i)[j]?=some (a i j):=by
 unfold rowQ;rw[DB,Et c];rfl
theorem ue{N:Nat}{a:Nat→Nat→Rat}{i:Nat}:O (rowQ N a i)=N:=by unfold rowQ;rw[DC,Fg]
theorem kL{N:Nat}{a c:Nat→Nat→Rat}{i:Nat}(h:∀j,j<N→a i j=c i j):rowQ N a i=rowQ N c i:=List.map_congr_left fun j f=>h j (Gy.1 f)
structure RMK (h:HF)(n tb N K:Nat)(rb:List Nat)(a:Nat→Nat→Rat):Prop where
 t:OR 1 Le h n tb (rb.map (K4 K))
 r:∀(i b:Nat),rb[i]?=some b→OR 4 numP h n b (rowQ K a i)
 l:O rb=N
 d:rb.Nodup
 o:tb∉rb
abbrev RM(h:HF)(n tb N:Nat)(rb:List Nat)(a:Nat→Nat→Rat):Prop:=RMK h n tb N N rb a
section
variable {n N K:Nat}{a:Nat→Nat→Rat}
theorem RMK.get(m:RMK h n tb N K rb a){i:Nat}(f:i<N):∃b,rb[i]?=some b∧b<3*n∧b∈rb:=by
 have g:=m.l;have c:rb[i]?=some (rb[i]'Z):=Dm Z;exact⟨_,c,(m.r i _ c).1,Dq c⟩
theorem RMK.blt(m:RMK h n tb N K rb a)(c:b∈rb):b<3*n:=by
 obtain⟨i,f,rfl⟩:=Gs.1 c;exact(m.r i _ (Dm f)).1
theorem RMK.go(m:RMK h n tb N K rb a)(t:Tr n h n' h')(x:∀c,c=tb∨c∈rb→h' c=h c):RMK h' n' tb N K rb a:=
 ⟨m.t.go Le.kp t (x _ (.inl rfl)),fun i b f=>(m.r i b f).go Fi t (x _ (.inr (Dq f))),m.l,m.d,m.o⟩
theorem RMK.ext(m:RMK h n tb N K rb a)(x:KN n h h')(g:n≤n'):RMK h' n' tb N K rb a:=
 m.go ⟨g,fun c f=>.inl (x c f)⟩ fun c f=>x c (by
  rcases f with rfl|f
  .exact m.t.1
  .exact m.blt f)
theorem RMK.as(m:RMK h n tb N K rb a)(e:∀i j,i<N→j<K→a i j=a' i j):RMK h n tb N K rb a':=
 ⟨m.t,fun i b f=>by
  have p:=(Du.1 f).1;have q:=m.l;rw[kL (c:=a) fun j g=>(e i j Z g).symm];exact m.r i b f,m.l,m.d,m.o⟩
theorem RMK.set(m:RMK h n tb N K rb a){g:Nat}(h0:rb[g]?=some b0)(t:Tr n h n' h')(x:∀c,c≠b0→c=tb∨c∈rb→h' c=h c)(o:OR 4 numP h' n' b0 (rowQ K a' g))(e:∀i,i≠g→∀j,a' i j=a i j):RMK h' n' tb N K rb a':=by
 refine⟨m.t.go Le.kp t (x _ (fun h=>m.o (h▸Dq h0)) (.inl rfl)),fun i b f=>?_,m.l,m.d,m.o⟩;by_cases hi:i=g
 .subst hi;rw[h0]at f;cases f;exact o
 have q:b≠b0:=fun p=>by
  subst p;exact hi ((ab8 (Du.1 f).1 m.d).1 (f.trans h0.symm))
 rw[kL (c:=a) fun j _=>e i hi j];exact(m.r i b f).go Fi t (x _ q (.inr (Dq f)))
theorem RMK.rd(m:RMK h n tb N K rb a):Mo h n (Y (some ⟨tb,0,none⟩) N N) N K a:=by
 have g:=m.l;obtain⟨C,s,y⟩:=ae6 m.t (len:=N) (cap:=N) (by rw[DC,g]) Dh;refine⟨C,s,?_⟩;have q:∀(l:List Nat) (C:List Value) (o:Nat),Rec 1 (fun c d=>Le c d h n) C (l.map (K4 K))→(∀(i b:Nat),l[i]?=some b→NS h n (K4 K b) (rowQ K a (o+i)))→Rec 1 (fun c d=>M3 K a c d h n) C (I2 o (O l)):=by
  intro l;induction l with
  |nil=>intro C o r _;cases r;exact .nil
  |cons b l ih=>
   intro C o r p;cases r with
   | @cons c cs d ds g hp hr2=>
    obtain⟨rfl,_⟩:=hp;rw[D3,List.range'_succ];exact .cons rfl ⟨_,_,rfl,p 0 b rfl⟩ (ih _ _ hr2 fun i u f=>by have:=p (i+1) u (by rw[List.getElem?_cons_succ];exact f);rwa [show o+(i+1)=o+1+i by omega]at this)
 have e:D9 N=I2 0 (O rb):=by rw[g,List.range_eq_range']
 rw[e];refine q rb C 0 y fun i b f=>?_;rw[D7];exact ae6 (m.r i b f) ue.symm Dh
theorem RMK.row(m:RMK h n tb N K rb a){i:Nat}(f:rb[i]?=some b):At h tb (0+i*1) [K4 K b]:=by
 obtain⟨c,p,_,t⟩:=m.t.get (j:=i) (d:=K4 K b) (by rw[DB,f];rfl) (off:=0+i*1) Z;obtain⟨rfl,_⟩:=p;exact t
theorem RMK.el(m:RMK h n tb N K rb a){i:Nat}(B:rb[i]?=some b)(C:j<K):∃l f y q p g A s,At h b (0+j*4) [Dk l,Y f y q,Dk p,Y g A s]∧UI h n l f y q (a i j).num∧UI h n p g A s (denZ (a i j)):=by
 obtain⟨c,⟨l,f,y,q,p,g,A,s,rfl,u,v⟩,_,t⟩:=(m.r i b B).get (ZM C) (off:=0+j*4) Z;exact⟨l,f,y,q,p,g,A,s,t,u,v⟩
end
theorem ZN(N:Nat):rowQ N (fun _ _=>(0:Rat)) 0=Dp N 0:=by
 unfold rowQ;refine Fh fun m=>?_;rw[DB,HC];by_cases hm:m<N
 .rw[Et hm,De hm];rfl
 rw[DS Ab,CT hm];rfl
theorem ZO(k:Nat)(h:HF)(n:Nat){N K:Nat}(W:N≤1000)(V:K≤1000):CX (KO (k+1)) 65 [U .i64 (N:Int),U .i64 (K:Int)] h n fun v h' n'=>∃tb rb,v=K4 N tb∧RMK h' n' tb N K rb (fun _ _=>0)∧(∀b,b=tb∨b∈rb→3*n≤b):=by
 refine zl (fn:=Tryz.f65) R4<|zG ?_;refine LV (L:=N) [Y none 0 0] ?_ W;intro T M x1;refine zG ?_;have I:OR 1 Le T (n+1) (3*n+2) (Dp N (Y none 0 0)):=Ji Z M Le.kp R3;obtain⟨tb,H⟩:∃b,b=3*n+2:=⟨_,rfl⟩;rw[←H]at I⊢;refine sF (α:=Nat×List Nat) (fun z=>[(0,U .i64 (N:Int)),(1,U .i64 (K:Int)),(5,Y (some ⟨tb,0,none⟩) N N),(6,U .i64 (z.1:Int))])
  (fun z h' n' w'=>w'=[]∧n+1≤n'∧Ex0 n h h'∧OR 1 Le h' n' tb (z.2.map (K4 K)++Dp (N-z.1) (Y none 0 0))∧O z.2=z.1∧(∀b∈z.2,3*(n+1)≤b∧b<3*n'∧OR 4 numP h' n' b (Dp K 0))∧z.2.Nodup∧z.1≤N) (fun z=>N-z.1) (0,[]) ⟨rfl,Dh,⟨x1⟩,I,rfl,fun b hb=>oU hb Ds,Iw,Di⟩ ?_
 rintro⟨j,rb⟩ t h2 f _ ⟨rfl,R,C,l,p,g,u,hj⟩;dsimp only at R l p g u hj;refine zG ?_;by_cases qj:(j:Int)<(N:Int)
 .refine zG ?_;refine LV (L:=K) [Dk false,Y none 0 0,Dk false,Y none 0 0] ?_ V;intro Z4 Z1 A;have Z0:OR 4 numP Z4 (f+1) (3*f+2) (Dp K 0):=Ji Z Z1 Fi ⟨_,_,_,_,_,_,_,_,rfl,UI.zero _ _,UI.zero _ _⟩;refine sI (j:=j) (len:=N) rfl Z ?_;refine MC (n0:=n) (j:=j) (q:=K4 K (3*f+2)) [K4 K (3*f+2)] (l.ext Le.kp A zs) Le.kp (by rw[Do,DC,DV];omega) (show(0:Nat)+j*1=j*1 by omega) R3 Z ?_;intro B o4 y;have Z3:=l.1;have F:∀c,c<3*f→c≠tb→B c=h2 c:=fun c hc hn=>(y.1 c hn).trans (A c hc);have S:Tr f h2 (f+1) B:=Il y ⟨DM _,fun c hc=>.inl (A c hc)⟩;have J:OR 4 numP B (f+1) (3*f+2) (Dp K 0):=Z0.go Fi (Il y (FS _ _)) (y.1 _ Z);refine zG ?_;refine sK (j+1,rb++[3*f+2]) ⟨rfl,Z,⟨fun c hc=>(F c Z Z).trans (C.e c hc)⟩,o4.as ?_,by rw[Do,p];rfl,fun b hb=>?_,?_,vT⟩
  .rw[Eo _ _ (by rw[DC];omega),DC,p,Ee,show N-j=(N-(j+1))+1 by omega,Fx,G3,EN,DN];rfl
  .rcases Ec.1 hb with hb|hb
   .obtain⟨u1,u2,u3⟩:=g b hb;exact⟨u1,Z,u3.go Fi S (F b u2 Z)⟩
   rw[Dx.1 hb];exact⟨Z,Z,J⟩
  show(rb++[3*f+2]).Nodup;rw[JE];exact⟨u,cA,fun a ha b hb=>by rw[Dx.1 hb];have:=(g a ha).2.1;omega⟩
 have G:j=N:=Z;subst G;rw[Ee,FK,DZ]at l;refine zG ?_;have X2:=C.e;have a0:n≤f:=Z;refine zq ?_;refine⟨tb,rb,rfl,⟨l,fun i b hb=>?_,p,u,fun hb=>by have:=(g tb hb).1;omega⟩,fun b hb=>?_⟩
 .have:=(g b (Dq hb)).2.2;rw[←ZN]at this;exact this
 rcases hb with rfl|hb
 .omega
 have:=(g b hb).1;omega
theorem Ra(k:Nat)(h:HF)(n:Nat){N:Nat}(c:N≤1000):CX (KO (k+1)) 65 [U .i64 (N:Int),U .i64 (N:Int)] h n fun v h' n'=>∃tb rb,v=K4 N tb∧RM h' n' tb N rb (fun _ _=>0)∧(∀b,b=tb∨b∈rb→3*n≤b):=ZO k h n c c
theorem Rb(l:List α)(f:α→β)(z:β){x:α}(c:l[j]?=some x):((l.take j).map f++Dp (O l-j) z).set j (f x)=(l.take (j+1)).map f++Dp (O l-(j+1)) z:=by
 have p:=(Du.1 c).1;have g:O ((l.take j).map f)=j:=by rw[DC,DW];omega
 rw[Eo _ _ Z,g,Ee,show (O l)-j=(O l-(j+1))+1 by omega,Fx,G3,xY c,EN,DN];rfl
theorem Ou(k:Nat){h:HF}{n:Nat}{a:Option Addr}{L:Nat}{f:List Rat}(F:NS h n (Y a L cap) f)(S:L≤1000){m:Nat}(hz:∀q∈f,Sz m q)(hm:m≤3840):
  CX (KO (k+5)) 20 [Y a L cap] h n fun v h' n'=>∃b,v=Y (some ⟨b,0,none⟩) L L∧3*n≤b∧OT h' n' b (f.map ratT):=by
 have V:=F.len;refine zl (fn:=Tryz.f20) R4<|zG ?_;refine LV (L:=L) [Dl ⟨⟨[]⟩⟩] ?_ S;intro M H x1;refine zG ?_;have G:OT M (n+1) (3*n+2) (Dp L []):=Ji Z H strP.kp rfl;obtain⟨B,R⟩:∃B,B=3*n+2:=⟨_,rfl⟩;rw[←R]at G⊢;refine sF (α:=Nat) (fun z=>[(0,Y a L cap),(3,Y (some ⟨B,0,none⟩) L L),(4,U .i64 (z:Int))])
  (fun z h' n' w'=>w'=[]∧n+1≤n'∧Ex0 n h h'∧OT h' n' B ((f.take z).map ratT++Dp (O f-z) [])∧z≤L) (fun z=>L-z) 0 ⟨rfl,Dh,⟨x1⟩,G.as (by rw[Fe,Gv,V];rfl),Di⟩ ?_
 rintro j t h2 l _⟨rfl,I,p,g,hj⟩;have I:n+1≤l:=I;have hj:j≤L:=hj;have g:OT h2 l B ((f.take j).map ratT++Dp (O f-j) []):=g;refine zG ?_;by_cases q2:(j:Int)<(L:Int)
 .refine zG ?_;obtain⟨y,s⟩:∃d,(f)[j]?=some d:=⟨_,Dm Z⟩;obtain⟨k3,u3,b3,a3,l3,c3,a0,e3,f3,w3,A,W,Z0,t3,T,Z4⟩:=NS.at (F.ext p.e (show n≤l by omega)) s;refine sI A Z0 ?_;refine sL t3 W 0 ?_;refine sC (Ql _ T Z4 (hz _ (Dq s)) hm).cx ?_;rintro _ h6 n6 rfl y6 u;refine sI (j:=j) rfl Z ?_;refine MC (n0:=n) (j:=j) (q:=ratT y) [Dl ⟨⟨ratT y⟩⟩] (g.ext strP.kp u y6) strP.kp (by rw[Do,DC,DW,DV];omega) (show(0:Nat)+j*1=j*1 by omega) rfl Z ?_;intro Z1 Z3 s7;have a1:=g.1;have J:Ex0 n h Z1:=⟨fun c hc=>(s7.1 c Z).trans ((u c Z).trans (p.e c hc))⟩;refine zG ?_;exact sK (j+1) ⟨rfl,Z,J,Z3.as (Rb f ratT [] s),Bp⟩
 have C:j=O f:=Z;subst C;rw[DO,Ee,FK,DZ]at g;refine zG ?_;have X2:=p.e;have a2:n≤l:=Z;refine zq ?_;exact⟨_,rfl,Z,g⟩
end
section
variable {b i j sz:Nat}
theorem rX(k:Nat)(h:HF)(n:Nat)(x:Int)(e: -9223372036854775808≤x∧x<9223372036854775808):CX (KO (k+3)) 30 [U .i64 x] h n (NQ (x:Rat)):=by
 refine yD (r_ok k h n x e) ?_;rintro v h' n' w⟨rfl,c,d,g,l,f,rfl,r,_⟩;exact⟨rfl,c,d,r.nq⟩
theorem ZP(x y:Rat):Ef (x.num*(y.den:Int)) ((x.den:Int)*y.num)=x/y:=by
 rw[FP,FI,FI,FO,FO,J5];have f:=th x;have g:=th y;have c:((x.den:Int):Rat)≠0:=lT x.den_pos;have d:((y.den:Int):Rat)≠0:=lT y.den_pos;rw[EZ]at c d;rw[←f,←g,EZ,EZ,J5];have l:=Gl _ c;have m:=Gl _ d;generalize (x.den:Rat)=u at*
 generalize (y.den:Rat)=v at*
 generalize y⁻¹ =z;have e:x*u*v*(v⁻¹ *z*u⁻¹)=x*z*(u*u⁻¹)*(v*v⁻¹):=by grind
 rw[e,l,m,Hn,Hn]
theorem ZQ(k:Nat){h:HF}{n:Nat}{x:Rat}{y:Rat}(F:UI h n sx ax lx cx x.num)(S:UI h n dx ex fx gx (denZ x))(e:UI h n sy ay ly cy y.num)(H:UI h n dy ey fy gy (denZ y)){a:Nat}(hx:Sz a x)(Z1:Sz b y)(ag:a+b+1≤3840)(u:y.num≠0):
  CX (KO (k+6)) 173 [.agg #[Dk sx,Y ax lx cx,Dk dx,Y ex fx gx],.agg #[Dk sy,Y ay ly cy,Dk dy,Y ey fy gy]] h n (NQ (x/y)):=by
 obtain⟨s,c⟩:x.num.natAbs<2^a∧((x.den:Int)).natAbs<2^a:=hx;obtain⟨d,v⟩:y.num.natAbs<2^b∧((y.den:Int)).natAbs<2^b:=Z1;have M:=uf s Z;have R:=uf d Z;have L:=uf c Z;have P:=uf v Z;have ah:=x.den_pos;refine zl (fn:=Tryz.f173) R4<|zG ?_;refine sB [Dk sx,Y ax lx cx,Dk dx,Y ex fx gx] ?_;intro a6 aw b3;refine sB [Dk sy,Y ay ly cy,Dk dy,Y ey fy gy] ?_;intro a7 az b4;refine sA ?_;intro a8 b0 b5;refine zG ?_;refine sC (mA _ (e.t zt) (H.t zt)) ?_;rintro _ a9 am⟨J,rfl,b2⟩ bc b6;have hs:J≠0:=Z;refine zG ?_;refine zn [0,1,0,4,15,0,63,0,128,511,1023,2047] rfl<|zH ?_;refine dC (denU _ (e.t zt) (H.t zt)) ?_;rintro _ aa an⟨Z3,T,ai,a2,rfl,w⟩ bd b7;refine dC (mulU _ (F.t zt) w K5 K5) ?_;rintro _ ab ao⟨Z0,Z4,aj,a3,rfl,A⟩ be b8;refine zH ?_;refine dC (denU _ (F.t zt) (S.t zt)) ?_;rintro _ ac ap⟨a0,V,ak,a4,rfl,B⟩ bf b9;refine zH ?_;refine dC (mulU _ B (e.t zt) K5 K5) ?_;rintro _ ad aq⟨a1,W,al,a5,rfl,C⟩ bg ba;refine dC (mR _ (A.t zt) C K5 (by rw[Int.mul_comm];exact Qi d c Z) (Int.mul_ne_zero Z u) (ZP x y)) ?_;rintro _ ae au⟨g,f,I,l,m,o,p,q,rfl,D,G⟩ bh bb;refine dS [Dk g,Y f I l,Dk m,Y o p q] ?_;intro af b1 av;refine zq ?_;exact⟨_,_,_,_,_,_,_,_,rfl,(D.t zt),(G.t zt)⟩
theorem ZR{N:Nat}{a:Nat→Nat→Rat}{x:Rat}(c:j<N):(rowQ N a i).set j x=rowQ N (updT a i j x) i:=by
 unfold rowQ updT;refine Fh fun m=>?_;rw[Gd,DC,Fg,DB,DB];by_cases hm:m<N
 .rw[Et hm];by_cases e:j=m
  .subst e;rw[De rfl,De hm];show some x=some (if _ then _ else _);rw[De ⟨rfl,rfl⟩]
  rw[CT e];show some (a i m)=some (if _ then _ else _);rw[CT (fun h=>e h.2.symm)]
 rw[DS (l:=D9 N) Ab];by_cases e:j=m
 .omega
 rw[CT e];rfl
section
variable {n N K:Nat}{a:Nat→Nat→Rat}
theorem RMK.put(m:RMK h n tb N K rb a){x:Rat}(e:rb[i]?=some b)(f:j<K)(t:Tr n h n' h')(g:∀c,c≠b→c=tb∨c∈rb→h' c=h c)(o:OR 4 numP h' n' b ((rowQ K a i).set j x)):RMK h' n' tb N K rb (updT a i j x):=by
 rw[ZR f]at o;refine m.set e t g o fun l d p=>?_;unfold updT;rw[CT (fun h=>d h.1)]
theorem RMK.go2(m:RMK h n tb N K rb a)(x:∀c,c<3*n→c=tb∨c∈rb→h' c=h c)(t:Tr n h n' h'):RMK h' n' tb N K rb a:=
 m.go t fun c d=>x c (by rcases d with rfl|d;exact m.t.1;exact m.blt d) d
end
theorem Rec.allnu{D:Type}{P:List Value→D→HF→Nat→Prop}{h:HF}{n:Nat}{C:List Value}{e:List D}(f:KP sz P)(r:Rec sz (fun c d=>P c d h n) C e):C.all nu=true:=by
 induction r with
 |nil=>rfl
 |cons hl hp hr ih=>rw[List.all_append,ih,(f.c hp).2.1];rfl
theorem ZS(k:Nat)(h:HF)(n:Nat){N:Nat}(hN:N≤3):CX (KO (k+4)) 172 [U .i64 (N:Int)] h n fun v h' n'=>∃tb rb a,v=K4 N tb∧RM h' n' tb N rb a∧(∀b,b=tb∨b∈rb→3*n≤b):=by
 refine zl (fn:=Tryz.f172) R4<|zG ?_;refine sC (Ra _ _ _ (N:=N) Z) ?_;rintro _ h1 n1⟨tb,rb,rfl,S,m⟩ W V;refine zG ?_;have Z0:3*n≤tb:=m _ (.inl rfl);refine sF (α:=Nat×(Nat→Nat→Rat)) (fun z=>[(0,U .i64 (N:Int)),(3,K4 N tb),(4,U .i64 (z.1:Int))])
  (fun z h' n' Z4=>Z4=[]∧n≤n'∧Ex0 n h h'∧RM h' n' tb N rb z.2∧z.1≤N) (fun z=>N-z.1) (0,fun _ _=>0) ⟨rfl,W,⟨V⟩,S,Di⟩ ?_
 rintro⟨i,a⟩ t h2 g _ ⟨rfl,C,p,d,hi⟩;dsimp only at C d hi;refine zG ?_;by_cases qi:(i:Int)<(N:Int)
 .have f:i<N:=Z;obtain⟨b,o,Z3,A⟩:=d.get f;have y:=m b (.inr A);refine zG ?_;refine zn [0,0,3,7,0,0,63,127] rfl<|zH ?_;refine dI (j:=i) (len:=N) rfl f ?_;refine dL (d.row o) d.t.1 0 ?_;refine zH ?_;refine dC (rX _ _ _ 1 zd) ?_;rintro _ h3 n3⟨H,G,l3,I,J,L,M,Z1,rfl,P,R⟩ D l;refine dI (j:=i) (len:=N) rfl f ?_;refine LI (n0:=n) (j:=i) (q:=((1:Int):Rat)) [Dk H,Y G l3 I,Dk J,Y L M Z1] ((d.r i b o).ext Fi l D) Fi (by rw[ue];exact f) (show(0:Nat)+i*4=i*4 by omega) ⟨_,_,_,_,_,_,_,_,rfl,P,R⟩ y ?_;intro w T B;have u:∀c,c<3*g→c≠b→w c=h2 c:=fun c hc hn=>(B.1 c hn).trans (l c hc);have F:Tr g h2 n3 w:=Il B ⟨D,fun c hc=>.inl (l c hc)⟩;refine zG ?_;exact sK (i+1,updT a i i ((1:Int):Rat)) ⟨rfl,Z,⟨fun c hc=>(u c Z Z).trans (p.e c hc)⟩,d.put o f F (fun c hc hm=>u c (by rcases hm with rfl|hm;exact d.t.1;exact d.blt hm) hc) T,xl⟩
 refine zG ?_;have X2:=p.e;refine zq ?_;exact⟨tb,rb,a,rfl,d,m⟩
theorem ZT(k:Nat){h:HF}{n:Nat}{N:Nat}{a:Nat→Nat→Rat}(r:RD h n (Y ar N cap) N a)(hN:1≤N∧N≤3):CX (KO (k+1)) 171 [Y ar N cap] h n fun v h' n'=>∃tb rb,v=K4 N tb∧RM h' n' tb N rb a∧(∀b,b=tb∨b∈rb→3*n≤b):=by
 refine zl (fn:=Tryz.f171) R4<|zG ?_;refine sF (α:=Nat×List Nat×Value) (fun z=>[(0,Y ar N cap),(3,z.2.2),(4,U .i64 (z.1:Int))])
  (fun z h' n' w'=>w'=[]∧n≤n'∧Ex0 n h h'∧GR 1 Le n h' n' 35 z.2.2 (z.2.1.map (K4 N))∧O z.2.1=z.1∧(∀(i b:Nat),z.2.1[i]?=some b→3*n≤b∧OR 4 numP h' n' b (rowQ N a i))∧z.2.1.Nodup∧(∀b∈z.2.1,¬BkOf z.2.2 b)∧z.1≤N) (fun z=>N-z.1) (0,[],Y none 0 0) ⟨rfl,Dh,⟨FU _ _⟩,GR.nil,rfl,fun i b d=>(by have d:([]:List Nat)[i]?=some b:=d;simp at d),Iw,fun b d=>oU d Ds,Di⟩ ?_
 rintro⟨j,rb,v⟩ t h2 f _ ⟨rfl,M,B,l,l2,g,s,w,hj⟩;dsimp only at M l l2 g s w hj;obtain⟨D,rfl⟩:=l.shape (L:=j) (by rw[DC];exact l2);refine zG ?_;by_cases qj:(j:Int)<(N:Int)
 .have o:j<N:=Z;obtain⟨b3,Z0,ai,ci,e3,m3,r3,t3,s3⟩:=(r.ext B.e M).at o;refine zG ?_;refine Mn [] ?_;intro h4 p4 H;refine zG ?_;refine sI (j:=j) e3 r3 ?_;refine sL t3 m3 0 ?_;obtain⟨q,sl,G⟩:=s3.ext H zs;have A:=G.len;rw[ue]at A;refine ZL q (uW sl) hN.1 Z A (YW _) ?_;intro h5 p5 I;have o5:OR 4 numP h5 (f+1+1) (3*(f+1)+1) (rowQ N a j):=⟨Z,_,_,p5,Rec.allnu Fi G,G.mono fun _ _ p=>Fi.t p ⟨DM _,fun c hc=>.inl (I c hc)⟩⟩;refine Mn [K4 N (3*(f+1)+1)] ?_;intro T p6 J;have m:KN f h2 T:=fun c hc=>(J c Z).trans ((I c Z).trans (H c hc));have o6:=o5.ext Fi J zs;have g6:GR 1 Le n T (f+1+1+1) 35 (Y D j j) (rb.map (K4 N)):=l.go Le.kp ⟨Z,fun c hc=>.inl (m c hc)⟩ (fun b d=>m b (l.bk b d).2.1);refine M0 (n0:=n) [K4 N (3*(f+1)+1)] [K4 N (3*(f+1)+1)] g6 Le.kp (.cons (c:=[K4 N (3*(f+1)+1)]) rfl R3 .nil) ⟨rfl,rfl⟩ (yG p6 R2) Dh (by rw[DC];show (O rb)+1<_;omega) Z ?_;intro v7 u S C R Z1 F7;obtain⟨a7,rfl⟩:=S.shape (L:=j+1) (by rw[Do,DC];show (O rb)+1=_;omega);have Z3:¬BkOf (Y D j j) (3*(f+1)+1):=fun h=>by have:=(l.bk _ h).2.1;omega
  have V:∀c,c<3*f→¬BkOf (Y D j j) c→u c=h2 c:=fun c hc hn=>(Z1 c Z hn).trans (m c hc);have P:Tr f h2 (f+1+1+1+1) u:=JO ⟨Z,fun c hc=>.inl (m c hc)⟩ C;have o7:OR 4 numP u (f+1+1+1+1) (3*(f+1)+1) (rowQ N a j):=o6.go Fi C (Z1 _ Z Z3);have E7:Ex0 n h u:=⟨fun c hc=>(R c Z).trans ((m c Z).trans (B.e c hc))⟩;refine zG ?_;refine sK (j+1,rb++[3*(f+1)+1],Y a7 (j+1) (j+1)) ⟨rfl,Z,E7,S.as (by rw[EN];rfl),by rw[Do,l2];rfl,fun i b d=>?_,?_,fun b d hB=>?_,vT⟩
  .dsimp only at d;by_cases hi:i<j
   .rw[En Z]at d;obtain⟨u1,u2⟩:=g i b d;exact⟨u1,u2.go Fi P (V b u2.1 (w b (Dq d)))⟩
   have F:=(Du.1 d).1;rw[Do,l2]at F;have F:i<j+1:=F;have Z4:i=j:=Z;subst Z4;rw[DL Z,l2,Ee]at d;cases d;exact⟨Z,o7⟩
  .show(rb++[3*(f+1)+1]).Nodup;rw[JE];refine⟨s,cA,fun a' ha b d=>?_⟩;rw[Dx.1 d];obtain⟨i,hi,rfl⟩:=Gs.1 ha;have:=(g i _ (Dm hi)).2.1;omega
  have h8:=F7 b hB;dsimp only at d;rcases Ec.1 d with d|d
  .obtain⟨i,hi,rfl⟩:=Gs.1 d;have:=(g i _ (Dm hi)).2.1;omega
  have:=Dx.1 d;omega
 have o:j=N:=Z;subst o;obtain⟨tb,y,hg,W,Z0,_⟩:=l.or (L:=j) (by rw[DC];exact l2) Z;refine zG ?_;have X2:=B.e;refine zq ?_;refine⟨tb,rb,y,⟨Z0,fun i b d=>(g i b d).2,l2,s,fun d=>w tb d ⟨_,_,_,y⟩⟩,fun b d=>?_⟩;rcases d with rfl|d
 .exact W
 obtain⟨i,hi,rfl⟩:=Gs.1 d;exact(g i _ (Dm hi)).1
end
end Go.Proofs.YtfajmfoofmienaaGreatDoor
