import Derived.Test.YtfajmfoofmienaaGreatDoorDuaB
open Bool renaming and_eq_true→AT,and_self→A4,eq_false_iff→Es,false_eq_true→AJ,not_eq_true'→BU,not_false→BJ,not_true→Ed,or_true→DB
open Classical renaming byContradiction→An,not_not→G6
open Go.IntKind renaming wrap→Ao
open Go.Value renaming bool→kz,int→jy,pointer→kS,slice→jx,string→kF
open Int renaming gcd→HP,mul_ediv_cancel_left→Di,natAbs_mul→AX,natAbs_natCast→sa,natAbs_neg→AR,natAbs_of_nonneg→DV,natAbs_tdiv→DG,natCast_mul→A6,natCast_nonneg→Dx,neg_mul→EX,neg_neg→EU,neg_tdiv→G1,not_lt→FB,ofNat_dvd_left→BZ,ofNat_natAbs_of_nonpos→CS,sign_eq_one_of_pos→CM,tdiv_eq_ediv_of_dvd→CH,tdiv_neg→G2,tdiv_nonneg→Fa,tdiv_one→CN,tmod_nonneg→Ga,toNat_natCast→AP
open List renaming all_eq_true→Bt,append_assoc→Aq,append_nil→A3,dropWhile_cons→Gz,drop_eq_nil_of_le→Ca,drop_left'→CY,drop_length→Ct,drop_zero→AQ,foldl_cons→Fb,getElem?_append_left→AZ,getElem?_append_right→AE,getElem?_drop→B3,getElem?_eq_getElem→k4,getElem?_eq_some_iff→oc,isEmpty_iff→Hn,length→gP,length_append→nn,length_cons→Au,length_drop→Ak,length_eq_one_iff→Dw,length_eq_zero_iff→xd,length_nil→DE,length_pos_iff→Dl,length_replicate→Ah,length_singleton→xl,length_take→Af,map_append→Bl,map_cons→Cy,map_nil→DY,mem_append→Al,mem_cons→sP,mem_cons_self→As,mem_map→Ay,mem_of_getElem?→ns,mem_of_mem_drop→Bx,mem_of_mem_take→AW,mem_singleton→nP,nil_append→AN,not_mem_nil→nN,replicate→pl,replicate_zero→CI,set_append_right→Cd,tail_cons→HR,takeWhile_append_dropWhile→Dj,takeWhile_cons→Fk,take_add→FT,take_append_drop→Bf,take_left'→DH,take_length→Ax,take_of_length_le→Aa,take_succ_eq_append_getElem→BQ
open Nat renaming Coprime→C5,add_comm→BT,add_mul→AH,add_zero→BC,beq→AG,beq_refl→B9,ble→Ai,ble_eq_true_of_le→sn,coprime_div_gcd_div_gcd→Fu,div_add_mod→Bw,div_div_eq_div_mul→Cm,div_eq_of_lt→Cu,div_le_self→Bk,div_lt_iff_lt_mul→BM,div_one→DR,eq_of_beq_eq_true→Aw,eq_zero_or_pos→DC,gcd→sN,gcd_comm→B8,gcd_dvd_left→BB,gcd_dvd_right→BS,gcd_le_left→Ff,gcd_mul_left→EG,gcd_one_right→FK,gcd_pos_of_pos_left→Ds,gcd_pos_of_pos_right→A5,gcd_rec→Gj,le_of_ble_eq_true→Am,le_refl→AK,le_sub_one_of_lt→Gq,le_succ→ux,le_trans→Ap,lt_of_le_of_lt→Ae,lt_of_lt_of_le→tv,lt_or_ge→Ci,lt_trichotomy→C7,min_eq_left→Be,mod_eq_of_lt→Ag,mod_lt→Bo,mul_add→A1,mul_assoc→Az,mul_comm→vT,mul_div_cancel'→CJ,mul_div_cancel_left→BY,mul_div_mul_right→Gi,mul_le_mul→AD,mul_le_mul_left→A9,mul_le_mul_right→Ab,mul_left_comm→BP,mul_lt_mul''→EK,mul_lt_mul_of_pos_right→Fp,mul_one→AO,mul_pos→CQ,mul_right_comm→GV,mul_zero→Ep,one_mul→Bs,pow_add→Bq,pow_le_pow_left→D7,pow_le_pow_right→Ac,pow_mul→Ek,pow_one→Gk,pow_pos→Bz,pow_succ→Ar,pow_zero→CL,strongRecOn→CW,sub_self→A7,two_pow_pos→Ef,zero_add→AA,zero_mul→BE
open Nat.Coprime renaming coprime_dvd_left→Fh,coprime_dvd_right→CD,gcd_mul_left_cancel_right→DZ,mul_left→EZ,mul_right→EE,symm→FV
open Option.some renaming injEq→C6
open Prod.mk renaming injEq→BL
open Rat renaming add_def→HD,den_intCast→DI,divInt→Av,lt_iff→FE,mul_def→HE,normalize_eq→D5,not_lt→HV,num_eq_zero→B7,num_intCast→CZ
open UInt8 renaming ofNat→Bh,toNat_inj→C0
set_option maxHeartbeats 8000000
set_option linter.unusedVariables false
set_option linter.unusedSimpArgs false
namespace Go.Proofs.YtfajmfoofmienaaGreatDoor
open Go Go.GL
variable {ops:List Oper}{h h' h1 h2:HF}{n m i bytes b n' n0 size bt sz lo bb m' nt kk cy lx ly d len lo' l1 l2 c' cY fx fy gx gy j V L P U:Nat}{w ms ld ln C A W Z B:List Nat}{X:CtxF}{Q:SV→Prop}{al:List (Nat×Nat)}{ef:List (Nat×HF×List Nat)}{cs args cl vs c new:List Value}{v d1 d2 n1 n2 x10 c1 c2 z2 x4 x5 x6 x7 x8 x9:Value}{q:Rat}{fn:Func}{ty ty' e2 xT e3:TypeId}{sx sy dx dy:Bool}{ax ay a1 a2 aY ex ey:Option Addr}{f:FuncId}{body:Code}{ik' ik:IntKind}{ji:Int}{hi y:Operand}{α:Type}{E:Env}
variable {h0:HF}{k:Nat}{u:Value}
section
variable {r:List Oper}{t:TF}{o:Oper}{d:Tmp}
theorem st_mul {ty e:TypeId}{x y:Operand}{a b:Int}(j:zi ops t o=true)(f:o.dst=some d)(g:zv X.nt (some d)=true)(c:o.op=.binOp .mul ty x y e)(l:evF t x=jy .i64 a)(m:evF t y=jy .i64 b)(i: -9223372036854775808≤a*b∧a*b<9223372036854775808)
  (k:EO X ops r ⟨upd t d (jy .i64 (a*b)),h,n,w⟩ Q):EO X ops (o::r) ⟨t,h,n,w⟩ Q:=by
 refine zF ⟨j,f,g,(by rw [c];rfl),?_⟩ k;rw [c];show binE X.E .mul ty (evF t x) (evF t y)=_;rw [l,m];show some (jy .i64 (Ao .i64 (a*b)))=_;rw [xK i]
end
theorem zg5 (k:Nat){h:HF}{n:Nat}{I J:Value}{x:Int}{l:List Nat}(S:IntR h n I J x l)(P:gP l<1000000000):VF (cal (k+1)) 107 [.agg #[I,J]] h n fun v=>∃b:Nat,v=jy .i64 (b:Int)∧(b=0↔x.natAbs=0)∧(b=1↔x.natAbs=1):=by
 refine zI (fn:=Tryz.f107) R4 ?_;obtain ⟨rfl,q,p,y⟩:=S;obtain ⟨a,Y,g,rfl,_⟩:=q.len;have O:=q.lenU;subst O;refine zN ?_;refine we (cs:=[kz (decide (x<0)),jx a (gP l) g]) R5 ?_;refine Zk ?_;refine zl R6 (zh _ _ _) (v:=jx a (gP l) g) R2 ?_;by_cases h0:l=[]
 ·subst h0;refine Zn ?_;refine retF _ rfl (zk rfl) R2 ⟨0,rfl,?_,?_⟩<;>rw [←y]<;>simp [val]
 obtain ⟨i,f,rfl⟩:=snoc h0;have M:f≠0:=p.last;have N:f<4294967296:=p.1 f gN;have C:gP (i++[f])=gP i+1:=by simp
 rw [C] at P q;simp only [C];have H:=q.ext (Ext.upd (b:=3*n+2) (x:=some (.row [kz (decide (x<0)),jx a (gP i+1) g] 49)) zo) (ux n);refine Zw ?_;refine zl R6 (zh _ _ _) (v:=jx a (gP i+1) g) R2 ?_;refine zM ?_;refine kn R6 zo ?_;refine st_mul rfl rfl rfl rfl rfl rfl zo ?_;refine Zk ?_;refine zl R6 (zh _ _ _) (v:=jx a (gP i+1) g) R2 ?_;repeat refine zR ?_
 refine zl R6 (zh _ _ _) (v:=jx a (gP i+1) g) R2 ?_;repeat refine zR ?_
 refine xt (j:=gP i) (dv:=f) R7 H ⟨rfl,zo⟩ gN (fun _=>rfl) R4 fun _=>?_;refine Za ?_;generalize hh1:upd h (3*n+2) _=h1;refine z9 (α:=Nat×Nat) (fun z=>[(3,jy .i64 ((32*gP i+z.1:Nat):Int)),(4,jy .u32 (z.2:Int))]) (fun z Z U V=>U=n+1∧V=[]∧z.2=f/2^z.1∧(z.1=0∨f/2^(z.1-1)≠0)∧z.1≤32) (fun z=>33-z.1) (0,f) ⟨by show jy .i64 _=jy .i64 _;congr 1;omega,rfl,eP⟩ ⟨rfl,rfl,gN,.inl rfl,eU⟩ (by show 33-0<LL;decide) ?_;rintro ⟨c,B⟩ t2 h2 _ _ ⟨rfl,rfl,m,u,R⟩;simp only at m u R;subst m;refine zN ?_;by_cases hz:f/2^c=0
 ·refine Zi ?_;have K:c≠0:=fun e=>by rw [e,CL,DR] at hz;exact M hz
  have A:x.natAbs=val i+4294967296^gP i*f:=by rw [←y,tZ];simp [val]
  refine retF _ rfl (zk rfl) R2 ⟨32*gP i+c,rfl,?_,?_⟩
  ·have G:0<4294967296^gP i*f:=CQ (Bz zo) zo;omega
  have G:0<4294967296^gP i*f:=CQ (Bz zo) zo;by_cases hi0:gP i=0
  ·rw [xd.1 hi0] at A ⊢;simp only [val,DE,CL,Bs,AA,Ep] at A ⊢;rw [A];constructor
   ·rintro rfl;rw [Gk] at hz;omega
   rintro rfl;rcases u with F|F
   ·exact cA F K
   apply An;intro T;apply F;exact Cu (Nat.one_lt_two_pow zo)
  have W:4294967296^1*1≤4294967296^gP i*f:=AD (Ac zo zo) zo;omega
 have D:c+1≤32:=by
  apply An;intro T;have:c=32:=zo;subst this;exact hz (Cu N)
 have L:f/2^c≤f:=Bk _ _;generalize m:f/2^c=B at hz L ⊢;refine Zn ?_;refine zM ?_;refine zbb (a:=B) (s:=1) rfl rfl rfl rfl rfl rfl zo ?_;refine Za ?_;refine goOn (c+1,B/2^1) (by show 33-(c+1)<33-c;omega) ⟨by show jy .i64 _=jy .i64 _;congr 1,rfl,eP⟩ ⟨rfl,rfl,?_,.inr (by show f/2^(c+1-1)≠0;rw [Nat.add_sub_cancel,m];exact hz),D⟩;show B/2^1=f/2^(c+1);rw [←m,Cm,←Bq]
section
variable {a:Option Addr}{z:Value}
theorem pm {c:Nat}{L:List Nat}{x:Int}{d:Bool}(i:Sl h n 1 (jx a (gP L) c) (u32s L))(f:Norm L)(j:val L=x.natAbs)(e:x≠0→d=decide (x<0)):IntR h n (kz (d&&decide (0<gP L))) (jx a (gP L) c) x L:=by
 refine ⟨?_,i,f,j⟩;have g:=f.zero;rw [←xd] at g;by_cases hx:x=0
 ·have:¬0<gP L:=zo;rw [aD this,hx,Bool.and_false];rfl
 have:0<gP L:=zo;rw [bO this,Bool.and_true,e hx]
theorem zeh (k:Nat){x:Int}{l:List Nat}(F:IntR h n c1 c2 x l):CF (cal (k+2)) 104 [.agg #[c1,c2]] h n fun v p u w=>w=[]∧n≤u∧Ext n h p∧∃c1',v=.agg #[c1',c2]∧IntR p u c1' c2 (-x) l:=by
 refine zu (fn:=Tryz.f104) R4 ?_;obtain ⟨rfl,f,g,o⟩:=F;obtain ⟨a,H,c,rfl,_⟩:=f.len;have B:=f.lenU;subst B;refine zN ?_;refine we (cs:=[kz (decide (x<0)),jx a (gP l) c]) R5 ?_;refine yd R5 ?_;refine zN ?_;generalize hh:upd (upd h (3*n+2) _) (3*(n+1)+2) _=h1;have i:∃e,h1 (3*n+2)=some (.row [kz (decide (x<0)),jx a (gP l) c] e):=⟨_,by rw [←hh,zj zo,zh]⟩;have m:∃e,h1 (3*(n+1)+2)=some (.row [kz false,jx none 0 0] e):=⟨_,by rw [←hh,zh];rfl⟩;have s:Ext n h h1:=by rw [←hh];intro b q;rw [zj zo,zj zo]
 obtain ⟨I,i⟩:=i;obtain ⟨y,m⟩:=m;repeat refine zR ?_
 refine zl R6 i (v:=kz (decide (x<0))) R2 ?_;repeat refine zR ?_
 refine zl R6 i (v:=jx a (gP l) c) R2 ?_;refine zB _ R5 (vV k _ _ (!decide (x<0)) a (gP l) c) ?_;rintro _ D J _ ⟨rfl,rfl,rfl,j⟩;refine zK [kz (!decide (x<0)&&decide (0<gP l)),jx a (gP l) c] R7 rfl (by rw [j _ zo];exact m) rfl (by show 3*n≤_;omega) ?_;refine zN ?_;have d:Ext n h (upd D (3*(n+1)+2) (some (.row [kz (!decide (x<0)&&decide (0<gP l)),jx a (gP l) c] y))):=fun b q=>by rw [zj zo,j b zo];exact s b q
 refine xu R5 (zh _ _ _) rfl ⟨rfl,by show n≤n+1+1+1;omega,d,_,rfl,pm (f.ext d zo) g (by rw [o];omega) (fun G=>?_)⟩;by_cases hx:x<0
 ·rw [bO hx,aD zo];rfl
 rw [aD hx,bO zo];rfl
theorem zif {P:Value→HF→Nat→List Nat→Prop}{e:Ex}{t:TF}{a g:Tmp}{f q:TypeId}{i d j:Nat}{c:List Value}(v:rz e=true)(F:fn.results.toList=[.cell a ty,.cell g f])(s:t a=kS (some ⟨b,0,none⟩))(l:t g=kS (some ⟨i,0,none⟩))(y:GL.isAgg env ty=some true)(o:GL.isAgg env f=some true)(B:env.inf ty=some (sz,bt,z))(p:env.inf f=some (d,j,z2))(u:h b=some (.row cs q))(m:h i=some (.row c e2))(hl:gP cs=sz)(I:gP c=d)(D:P (.tuple #[.agg cs.toArray,.agg c.toArray]) h n w):RetH fn P e ⟨t,h,n,w⟩:=by
 refine retH [.agg cs.toArray,.agg c.toArray] ⟨v,?_,rfl⟩ D;rw [F];have G:=zT ⟨y,B⟩ u rfl (show 0+sz≤gP cs by omega) (show (cs.drop 0).take sz=cs by rw [AQ,Aa zo]);have H:=zT ⟨o,p⟩ m rfl (show 0+d≤gP c by omega) (show (c.drop 0).take d=c by rw [AQ,Aa zo]);simp only [resF,s,l,G,H]
theorem iQ (k:Nat){x y:Int}(hx:IntR h n c1 c2 x A)(hy:IntR h n d1 d2 y C)(f:y≠0)(D:gP A<1000000000)(a0:gP C≤1):
  CF (cal (k+4)) 108 [.agg #[c1,c2],.agg #[d1,d2]] h n fun v N W w=>w=[]∧n≤W∧Ext n h N∧∃q1 q2 r1 r2 g i,v=.tuple #[.agg #[q1,q2],.agg #[r1,r2]]∧IntR N W q1 q2 (x.tdiv y) g∧IntR N W r1 r2 (x.tmod y) i∧yj n q2∧yj n r2:=by
 refine zu (fn:=Tryz.f108) R4 ?_;obtain ⟨rfl,P,nA,vA⟩:=hx;obtain ⟨rfl,R,nC,vC⟩:=hy;obtain ⟨a,la,H,rfl,_⟩:=P.len;obtain ⟨c,lc,I,rfl,_⟩:=R.len;have e1:=P.lenU;have e2:=R.lenU;subst e1 e2;have Z:C≠[]:=fun e=>f (by have:=nC.zero.2 e;omega);refine zN ?_;refine we (cs:=[kz (decide (x<0)),jx a (gP A) H]) R5 ?_;refine we (cs:=[kz (decide (y<0)),jx c (gP C) I]) R5 ?_;refine yd R5 ?_;refine yd R5 ?_;refine zN ?_;generalize hh:upd (upd (upd (upd h (3*n+2) _) (3*(n+1)+2) _) (3*(n+1+1)+2) _) (3*(n+1+1+1)+2) _=d;have o:∃e,d (3*n+2)=some (.row [kz (decide (x<0)),jx a (gP A) H] e):=⟨_,by rw [←hh,zj zo,zj zo,zj zo,zh]⟩;have p:∃e,d (3*(n+1)+2)=some (.row [kz (decide (y<0)),jx c (gP C) I] e):=⟨_,by rw [←hh,zj zo,zj zo,zh]⟩;have s:∃e,d (3*(n+1+1)+2)=some (.row [kz false,jx none 0 0] e):=⟨_,by rw [←hh,zj zo,zh];rfl⟩;have u:∃e,d (3*(n+1+1+1)+2)=some (.row [kz false,jx none 0 0] e):=⟨_,by rw [←hh,zh];rfl⟩;have B:Ext n h d:=by rw [←hh];intro b D;rw [zj zo,zj zo,zj zo,zj zo]
 obtain ⟨t1,o⟩:=o;obtain ⟨t2,p⟩:=p;obtain ⟨t3,s⟩:=s;obtain ⟨t4,u⟩:=u;repeat refine zR ?_
 refine zl R6 o (v:=jx a (gP A) H) R2 ?_;repeat refine zR ?_
 refine zl R6 p (v:=jx c (gP C) I) R2 ?_;refine zB _ R5 (gD k (P.ext B (show n≤n+1+1+1+1 by omega)) (R.ext B (show n≤n+1+1+1+1 by omega)) nA nC Z D a0) ?_;rintro _ Y n2 _ ⟨rfl,a3,j,F,J,g,G,K,i,rfl,a1,a2,nq,nr,vq,vr,L,M⟩;refine Za ?_;refine zm [0,1,0,4,15,0,63,0,128,0,1023,2047,4095] rfl ?_;have q:Y (3*n+2)=_:=(j _ zo).trans o;have T:Y (3*(n+1)+2)=_:=(j _ zo).trans p;repeat refine zD ?_
 refine zZ R6 (zX rfl q (v:=kz (decide (x<0))) R2) R2 ?_;repeat refine zD ?_
 refine zZ R6 (zX rfl T (v:=kz (decide (y<0))) R2) R2 ?_;refine dr_B (a:=decide (x<0) != decide (y<0)) R5 ?_;repeat refine zD ?_
 refine yM _ R7 (vV (k+2) _ _ (decide (x<0) != decide (y<0)) F (gP g) J) ?_;rintro _ h3 n3 _ ⟨rfl,rfl,rfl,l⟩;refine ⟨rfl,zo,?_⟩;repeat refine zD ?_
 refine zZ R6 (zX rfl q (v:=kz (decide (x<0))) R2) ⟨(vt gN),rfl⟩ ?_;repeat refine zD ?_
 refine yM _ R7 (vV (k+2) _ _ (decide (x<0)) G (gP i) K) ?_;rintro _ O n4 _ ⟨rfl,rfl,rfl,m⟩;refine ⟨rfl,zo,?_⟩;have U:O (3*(n+1+1)+2)=_:=(m _ zo).trans ((l _ zo).trans ((j _ zo).trans s));have V:O (3*(n+1+1+1)+2)=_:=(m _ zo).trans ((l _ zo).trans ((j _ zo).trans u));refine xn (cs:=[kz ((decide (x<0) != decide (y<0))&&decide (0<gP g)),jx F (gP g) J]) R7 rfl U zb (by show 3*n≤_;omega) R3 ?_;refine xn (cs:=[kz (decide (x<0)&&decide (0<gP i)),jx G (gP i) K]) R7 rfl ((zj zo).trans V) zb (by show 3*n≤_;omega) R3 ?_;refine zN ?_;have S:Ext n h (upd (upd O (3*(n+1+1)+2) (some (.row [kz ((decide (x<0) != decide (y<0))&&decide (0<gP g)),jx F (gP g) J] t3))) (3*(n+1+1+1)+2) (some (.row [kz (decide (x<0)&&decide (0<gP i)),jx G (gP i) K] t4))):=fun b D=>by
  rw [zj zo,zj zo,m b zo,l b zo,j b zo];exact B b D
 refine zif rfl rfl rfl rfl rfl rfl rfl rfl ((zj zo).trans (zh _ _ _)) (zh _ _ _) rfl rfl ⟨rfl,by show n≤n2+1+1;omega,S,_,_,_,_,g,i,rfl,?_,?_,?_,?_⟩
 ·refine pm (((((a1.ext l zs).ext m zs).old L zo).old L zo)) nq ?_ fun h0=>?_
  ·rw [vq,vA,vC,DG];rfl
  by_cases hx0:x<0<;>by_cases f:y<0
  ·rw [bO hx0,bO f,aD (by have:=Int.tdiv_nonneg_of_nonpos_of_nonpos (a:=x) (b:=y) zo zo;omega)];rfl
  ·have d:=Fa (a:= -x) (b:=y) zo zo;rw [G1] at d;rw [bO hx0,aD f,bO zo];rfl
  ·have d:=Fa (a:=x) (b:= -y) zo zo;rw [G2] at d;rw [aD hx0,bO f,bO zo];rfl
  rw [aD hx0,aD f,aD (by have:=Fa (a:=x) (b:=y) zo zo;omega)];rfl
 ·refine pm (((((a2.ext l zs).ext m zs).old M zo).old M zo)) nr ?_ fun h0=>?_
  ·rw [vr,vA,vC,Int.natAbs_tmod]
  by_cases hx0:x<0
  ·have d:=Ga (a:= -x) y zo;rw [Int.neg_tmod] at d;rw [bO hx0,bO zo]
  rw [aD hx0,aD (by have:=Ga (a:=x) y zo;omega)]
 ·exact L.mono zo
 exact M.mono zo
end
def EuI (m x y:Nat):Prop:=if m%2=0 then y<2^(m/2) else x<2^(m/2+1)∧y<x
theorem EuI.pos {x y:Nat}(h:EuI m x y)(d:0<y):0<m:=by
 apply An;intro a;have:m=0:=zo;subst this;unfold EuI at h;simp at h;omega
theorem zit {x y:Nat}(a:0<y)(h:y<x):2*(x%y)<x:=by
 have e:=Bo x a;have f:=Bw x y;have d:1≤x/y:=(Nat.le_div_iff_mul_le a).2 zo;have g:y*1≤y*(x/y):=A9 y d;omega
theorem EuI.next {x y:Nat}(h:EuI (m+1) x y)(a:0<y):EuI m y (x%y):=by
 unfold EuI at h ⊢;by_cases hm:(m+1)%2=0
 ·rw [eN hm] at h;rw [cC zo];rw [show m/2+1=(m+1)/2 from zo];exact ⟨h,Bo x a⟩
 rw [cC hm] at h;rw [eN zo];have d:=zit a h.2;rw [show (m+1)/2+1=m/2+1 from zo,Ar] at h;omega
def Off (b:Nat):Value→Prop
 | jx (some a) _ _=>a.block≠b
 |_=>True
theorem Sl.off {x:Option BF}(s:Sl h n sz v c)(d:Off b v):Sl (upd h b x) n sz v c:=
 s.keep (fun a l f e=>by subst e;exact zj d) eT
theorem Below.off (h:Below m v)(a:3*m≤b):Off b v:=by
 unfold Below at h;unfold Off;split<;>simp_all;omega
theorem yj.off (h:yj m v)(a:b<3*m):Off b v:=by
 unfold yj at h;unfold Off;split<;>simp_all;omega
theorem zp7 (k:Nat){x y:Int}(hx:IntR h n c1 c2 x A)(hy:IntR h n d1 d2 y C)(j:gP A<1000000000∧gP C<2):
  CF (cal (k+4)) 106 [.agg #[c1,c2],.agg #[d1,d2]] h n fun v s B w=>w=[]∧n≤B∧Ext n h s∧∃g1 g2 L,v=.agg #[g1,g2]∧IntR s B g1 g2 ((sN x.natAbs y.natAbs:Nat):Int) L∧gP L<1000000000∧∀b,b<3*n→Off b c2→Off b d2→Off b g2:=by
 refine zu (fn:=Tryz.f106) R4 ?_;obtain ⟨rfl,R,nA,vA⟩:=hx;obtain ⟨rfl,S,nC,vC⟩:=hy;obtain ⟨a,la,p,rfl,_⟩:=R.len;obtain ⟨c,lc,q,rfl,_⟩:=S.len;have e1:=R.lenU;have e2:=S.lenU;subst e1 e2;refine zN ?_;refine we (cs:=[kz (decide (x<0)),jx a (gP A) p]) R5 ?_;refine we (cs:=[kz (decide (y<0)),jx c (gP C) q]) R5 ?_;refine yd R5 ?_;refine zN ?_;generalize hh:upd (upd (upd h (3*n+2) _) (3*(n+1)+2) _) (3*(n+1+1)+2) _=i;have J:∃e,i (3*n+2)=some (.row [kz (decide (x<0)),jx a (gP A) p] e):=⟨_,by rw [←hh,zj zo,zj zo,zh]⟩;have K:∃e,i (3*(n+1)+2)=some (.row [kz (decide (y<0)),jx c (gP C) q] e):=⟨_,by rw [←hh,zj zo,zh]⟩;have M:∃e,i (3*(n+1+1)+2)=some (.row [kz false,jx none 0 0] e):=⟨_,by rw [←hh,zh];rfl⟩;have N:Ext n h i:=by rw [←hh];intro b j;rw [zj zo,zj zo,zj zo]
 obtain ⟨t1,J⟩:=J;obtain ⟨t2,K⟩:=K;obtain ⟨t3,M⟩:=M;rw [xV rfl];repeat refine zR ?_
 refine zl R6 J (v:=jx a (gP A) p) R2 ?_;repeat refine zR ?_
 refine zl R6 K (v:=jx c (gP C) q) R2 ?_;refine Za ?_;refine z9 (α:=(Option Addr×Nat×List Nat)×(Option Addr×Nat×List Nat)×Nat) (fun z=>[(4,kS (some ⟨3*(n+1+1)+2,0,none⟩)),(5,jx z.1.1 (gP z.1.2.2) z.1.2.1),(6,jx z.2.1.1 (gP z.2.1.2.2) z.2.1.2.1)])
  (fun z s B w'=>n+1+1+1≤B∧w'=[]∧Ext (n+1+1+1) i s∧Sl s B 1 (jx z.1.1 (gP z.1.2.2) z.1.2.1) (u32s z.1.2.2)∧Sl s B 1 (jx z.2.1.1 (gP z.2.1.2.2) z.2.1.2.1) (u32s z.2.1.2.2)∧Norm z.1.2.2∧Norm z.2.1.2.2∧gP z.1.2.2<1000000000∧gP z.2.1.2.2<2∧EuI z.2.2 (val z.1.2.2) (val z.2.1.2.2)∧sN (val z.1.2.2) (val z.2.1.2.2)=sN x.natAbs y.natAbs∧(∀b,b<3*(n+1+1+1)→Off b (jx a (gP A) p)→Off b (jx c (gP C) q)→Off b (jx z.1.1 (gP z.1.2.2) z.1.2.1))∧(∀b,b<3*(n+1+1+1)→Off b (jx a (gP A) p)→Off b (jx c (gP C) q)→Off b (jx z.2.1.1 (gP z.2.1.2.2) z.2.1.2.1))) (fun z=>z.2.2)
  ((a,p,A),(c,q,C),2*(32*gP C)) ⟨rfl,rfl,rfl,eP⟩ ⟨by show n+1+1+1≤n+1+1+1;omega,rfl,Ext.refl _ _,R.ext N (show n≤n+1+1+1 by omega),S.ext N (show n≤n+1+1+1 by omega),nA,nC,j.1,j.2,?_,by rw [vA,vC],fun _ _ i _=>i,fun _ _ _ h2=>h2⟩ (by show 2*(32*gP C)<LL;unfold LL;omega) ?_
 ·show EuI (2*(32*gP C)) (val A) (val C);unfold EuI;rw [eN zo,show 2*(32*gP C)/2=32*gP C from zo,Ek];exact zc3 nC.1
 rintro ⟨⟨T,G,o⟩,⟨c',a1,f⟩,m⟩ t h2 n2 _ ⟨a2,rfl,O,H,I,P,g,F,a0,W,V,Y,oC⟩;simp only at H I P g F a0 W V Y oC;refine zN ?_;by_cases hC0:f=[]
 ·subst hC0;refine Zw ?_;refine zB _ R5 (vV (k+2) _ _ false T (gP o) G) ?_;rintro _ h3 n3 _ ⟨rfl,rfl,rfl,d⟩;refine zK [kz (false&&decide (0<gP o)),jx T (gP o) G] R7 rfl (by rw [d _ zo,O _ zo];exact M) rfl (by show 3*n≤_;omega) ?_;refine zN ?_;have U:Ext n h (upd h3 (3*(n+1+1)+2) (some (.row [kz (false&&decide (0<gP o)),jx T (gP o) G] t3))):=fun b j=>by rw [zj zo,d b zo,O b zo];exact N b j
  refine xu R5 (zh _ _ _) rfl ⟨rfl,by show n≤n2+1;omega,U,_,_,o,rfl,pm ((H.ext d zs).off (Y _ zo (R.below.off zo) (S.below.off zo))) P ?_ (fun h0=>?_),F,fun b j=>Y b zo⟩
  ·rw [←V];simp [val]
  rw [aD zo]
 have a5:0<gP f:=Dl.2 hC0;have l:=g.pos hC0;refine Zr ?_;refine zB _ R5 (gD k H I P g hC0 F zo) ?_;rintro _ h3 n3 _ ⟨rfl,a3,d,aq,cq,Lq,ar,cr,D,rfl,a8,a4,nq,nr,vq,Z,fq,fr⟩;refine Zl ?_;have a7:=W.pos l;obtain ⟨u,rfl⟩:∃u,m=u+1:=⟨m-1,zo⟩;have a6:gP D≤gP f:=g.len_le nr (by rw [Z];exact Nat.le_of_lt (Bo _ l));refine goOn ((c',a1,f),(ar,cr,D),u) (by show u<u+1;omega) ⟨rfl,rfl,rfl,eP⟩ ⟨by show n+1+1+1≤n3;omega,rfl,O.trans d a2,I.ext d a3,a4,g,nr,by show gP f<1000000000;omega,by show gP D<2;omega,?_,?_,oC,fun b j _ _=>fr.off zo⟩
 ·show EuI u (val f) (val D);rw [Z];exact W.next l
 show sN (val f) (val D)=_;rw [Z,←V,B8 (val f),←Gj,B8]
theorem IntR.off {x:Int}{l:List Nat}{y:Option BF}(r:IntR h n c1 c2 x l)(a:Off b c2):IntR (upd h b y) n c1 c2 x l:=⟨r.neg,r.sl.off a,r.norm,r.val⟩
theorem IntR.len_le {x y:Int}{l c:List Nat}(r:IntR h n c1 c2 x l)(d:IntR h' n' d1 d2 y c)(a:y.natAbs≤x.natAbs):gP c≤gP l:=r.norm.len_le d.norm (by rw [r.val,d.val];exact a)
theorem IntR.ones {x:Int}{l:List Nat}(r:IntR h n c1 c2 x l):ones [c1,c2]=true:=by
 rw [r.neg];show GL.ones (c2::_)=true;rw [r.sl.ones];rfl
def Away (n:Nat)(c0 v:Value):Prop:=(v=c0∧Below n v)∨yj (n+1+1+1) v
theorem Away.off {a:Value}(h:Away n a v)(c:3*n≤b)(d:b<3*(n+1+1+1)):Off b v:=by
 rcases h with h|h
 ·exact h.2.off c
 exact h.off d
theorem Away.or {a:Value}(h:Away n a v):v=a∨yj n v:=by
 rcases h with h|h
 ·exact .inl h.1
 exact .inr (h.mono zo)
structure FrS (n:Nat)(c0 d0:Value)(h h':HF)(n':Nat)(c1 c2 d1 d2:Value)(x y:Int)(A C:List Nat):Prop where
 n3:n+1+1+1≤n'
 ext:Ext n h h'
 b2:∃e,h' (3*n+2)=some (.row [c1,c2] e)
 b3:∃e,h' (3*(n+1)+2)=some (.row [d1,d2] e)
 b4:∃e,h' (3*(n+1+1)+2)=some (.row [kz false,jx none 0 0,kz false,jx none 0 0] e)
 ix:IntR h' n' c1 c2 x A
 iy:IntR h' n' d1 d2 y C
 ox:Away n c0 c2
 oy:Away n d0 d2
theorem FrS.exts {e f:Value}{c:HF}{d:Nat}{x y:Int}(s:FrS n e f h h' n' c1 c2 d1 d2 x y A C)(a:Ext n' h' c)(g:n'≤d):FrS n e f h c d c1 c2 d1 d2 x y A C:=by
 obtain ⟨D,ext,⟨m,i⟩,⟨o,j⟩,⟨p,l⟩,q,u,w,B⟩:=s;exact ⟨zo,ext.trans a zo,⟨m,by rw [a _ zo];exact i⟩,⟨o,by rw [a _ zo];exact j⟩,⟨p,by rw [a _ zo];exact l⟩,q.ext a g,u.ext a g,w,B⟩
theorem FrS.putx {c g:Value}{x y:Int}(s:FrS n c g h h' n' c1 c2 d1 d2 x y A C){d a:Value}{l:Int}{f:List Nat}(i:IntR h' n' d a l f)(o:Away n c a)(e:TypeId):FrS n c g h (upd h' (3*n+2) (some (.row [d,a] e))) n' d a d1 d2 l y f C:=by
 obtain ⟨H,ext,⟨F,D⟩,⟨q,m⟩,⟨u,p⟩,G,B,I,j⟩:=s;exact ⟨zo,fun b w=>by rw [zj zo];exact ext b w,⟨e,zh _ _ _⟩,⟨q,by rw [zj zo];exact m⟩,⟨u,by rw [zj zo];exact p⟩,i.off (o.off zo zo),B.off (j.off zo zo),o,j⟩
theorem FrS.puty {g c:Value}{x y:Int}(s:FrS n g c h h' n' c1 c2 d1 d2 x y A C){d a:Value}{l:Int}{f:List Nat}(i:IntR h' n' d a l f)(o:Away n c a)(e:TypeId):FrS n g c h (upd h' (3*(n+1)+2) (some (.row [d,a] e))) n' c1 c2 d a x l A f:=by
 obtain ⟨H,ext,⟨q,m⟩,⟨F,D⟩,⟨u,p⟩,B,G,j,I⟩:=s;exact ⟨zo,fun b w=>by rw [zj zo];exact ext b w,⟨q,by rw [zj zo];exact m⟩,⟨e,zh _ _ _⟩,⟨u,by rw [zj zo];exact p⟩,B.off (j.off zo zo),i.off (o.off zo zo),j,o⟩
theorem zqc {x y:Int}(a:0<y):(Av x y).num=x/((sN x.natAbs y.natAbs:Nat):Int):=by
 rw [Rat.num_divInt,CM a,Int.one_mul];unfold HP;rw [B8]
theorem zqd {x y:Int}(a:0<y):(Av x y).den=y.natAbs/sN x.natAbs y.natAbs:=by
 rw [Rat.den_divInt,cC zo];unfold HP;rw [B8]
theorem ap {x:Int}{g:Nat}(h:g∣x.natAbs):x.tdiv (g:Int)=x/(g:Int):=CH (BZ.2 h)
theorem zjh {y:Int}(h:0<y)(g:Nat):y/(g:Int)=((y.natAbs/g:Nat):Int):=by
 obtain ⟨m,rfl⟩:∃m:Nat,y=m:=⟨y.natAbs,zo⟩;rw [sa];rfl
structure DenR (h:HF)(n:Nat)(d1 d2:Value)(q:Nat)(ld:List Nat):Prop where
 neg:d1=kz false
 sl:Sl h n 1 d2 (u32s ld)
 norm:Norm ld
 val:val ld=if q=1 then 0 else q
theorem zfi (k:Nat){x y:Int}(hx:IntR h n c1 c2 x A)(hy:IntR h n d1 d2 y C)(am:y≠0)(T:gP A<1000000000∧gP C<2):
  CF (cal (k+5)) 71 [.agg #[c1,c2],.agg #[d1,d2]] h n fun v h' n' w=>w=[]∧n≤n'∧Ext n h h'∧∃a m e1 p ln ld,v=.agg #[a,m,e1,p]∧RatR h' n' a m e1 p (Av x y) ln ld∧gP ln≤gP A∧gP ld≤gP C∧(m=c2∨yj n m)∧(p=d2∨yj n p):=by
 refine zu (fn:=Tryz.f71) R4 ?_;obtain ⟨q,hq⟩:∃q,q=Av x y:=⟨_,rfl⟩;rw [←hq];refine zN ?_;refine we (cs:=[c1,c2]) R5 ?_;refine we (cs:=[d1,d2]) R5 ?_;refine yd R5 ?_;refine zN ?_;generalize hh:upd (upd (upd h (3*n+2) _) (3*(n+1)+2) _) (3*(n+1+1)+2) _=h1;have W:Ext n h h1:=by rw [←hh];intro b T;rw [zj zo,zj zo,zj zo]
 have P:FrS n c2 d2 h h1 (n+1+1+1) c1 c2 d1 d2 x y A C:=⟨eT,W,⟨_,by rw [←hh,zj zo,zj zo,zh]⟩,⟨_,by rw [←hh,zj zo,zh]⟩,⟨_,by rw [←hh,zh];rfl⟩,hx.ext W zo,hy.ext W zo,.inl ⟨rfl,hx.sl.below⟩,.inl ⟨rfl,hy.sl.below⟩⟩;clear hh;obtain ⟨al,I⟩:=P.b2;obtain ⟨a9,c⟩:=P.b3;repeat refine zR ?_
 refine zl R6 c (v:=d1) R2 ?_;refine zN ?_;refine yu (α:=(Value×Value)×Int×Int) (fun _=>[(2,kS (some ⟨3*n+2,0,none⟩)),(3,kS (some ⟨3*(n+1)+2,0,none⟩)),(4,kS (some ⟨3*(n+1+1)+2,0,none⟩))]) (fun z h' n' w=>w=[]∧FrS n c2 d2 h h' n' z.1.1 c2 z.1.2 d2 z.2.1 z.2.2 A C∧0<z.2.2∧Av z.2.1 z.2.2=q) ?_ ?_
 ·by_cases hn:y<0
  ·rw [ze (by show d1=_;rw [hy.neg,bO hn])];refine zm [0,1,0,7,15,31] rfl ?_;refine zZ (v:=.agg #[c1,c2]) R6 (zT R2 I rfl zb rfl) R2 ?_;refine yM _ R7 (zeh (k+2) P.ix) ?_;rintro _ h2 n2 _ ⟨rfl,u,L,a,rfl,i1⟩;refine ⟨rfl,u,?_⟩;refine zZ (v:=.agg #[d1,d2]) R6 (zT R2 c rfl zb rfl) ⟨(vt gN),rfl⟩ ?_;refine yM _ R7 (zeh (k+2) (P.iy.ext L u)) ?_;rintro _ h3 n3 _ ⟨rfl,H,D,d,rfl,i2⟩;refine ⟨rfl,H,?_⟩;have l:=(P.exts L u).exts D H;have aj:=i1.ext D H;obtain ⟨p,a1⟩:=l.b2;refine xn (cs:=[a,c2]) R7 i1.ones a1 zb (by show 3*n≤_;omega) R3 ?_;have R:=l.putx aj l.ox p;obtain ⟨e3,ae⟩:=R.b3;refine xn (cs:=[d,d2]) R7 i2.ones ae zb (by show 3*n≤_;omega) R3 ?_;have S5:=R.puty (i2.off (R.oy.off zo zo)) R.oy e3;refine zN ?_;exact ⟨((a,d),-x,-y),⟨rfl,rfl,rfl,eP⟩,rfl,S5,by show 0< -y;omega,by show Av (-x) (-y)=q;rw [Rat.divInt_neg',EU,hq]⟩
  rw [za (by show d1=_;rw [hy.neg,aD hn])];refine zN ?_;exact ⟨((c1,d1),x,y),⟨rfl,rfl,rfl,eP⟩,rfl,P,by show 0<y;omega,hq.symm⟩
 clear I c P W h1;rintro ⟨⟨a,d⟩,x',y'⟩ t h1 n1 _ ⟨rfl,S,Y,a8⟩;simp only at S Y a8;have K:=zqc (x:=x') Y;have J:=zqd (x:=x') Y;rw [a8] at K J;refine zN ?_;obtain ⟨al,I⟩:=S.b2;obtain ⟨a9,c⟩:=S.b3;refine zV (v:=.agg #[a,c2]) R5 (zT R2 I rfl zb rfl) ?_;refine zV (v:=.agg #[d,d2]) R5 (zT R2 c rfl zb rfl) ?_;refine zB _ R5 (zp7 k S.ix S.iy T) ?_;rintro _ h2 n2 _ ⟨rfl,u,L,g1,g2,G,rfl,ig,bG,og⟩;generalize hg:sN x'.natAbs y'.natAbs=g at*
 refine yd R5 ?_;refine zK [g1,g2] R7 ig.ones (zh _ _ _) rfl (by show 3*n≤_;have:=S.n3;omega) ?_;rw [xq];have S2:=S.exts L u;generalize hh:upd h2 (3*n2+2) _=h3;have D:Ext n2 h2 h3:=by rw [←hh];exact Ext.upd zo
 have B:∃e,h3 (3*n2+2)=some (.row [g1,g2] e):=⟨_,by rw [←hh,zh]⟩;clear hh;obtain ⟨tg,B⟩:=B;have l:=S2.exts D zs;have Z:=ig.ext D zs;refine zN ?_;refine zV (v:=.agg #[g1,g2]) R5 (zT R2 B rfl zb rfl) ?_;refine yk _ R5 (zg5 (k+3) Z bG) ?_;rintro _ ⟨b,rfl,F,o⟩;rw [sa] at F o;have a3:0<g:=by rw [←hg];exact A5 _ zo
 have a5:g∣x'.natAbs:=by rw [←hg];exact BB _ _
 have a0:g∣y'.natAbs:=by rw [←hg];exact BS _ _
 have a4:gP G≤1:=by have:=l.iy.len_le ig (by rw [sa];exact Nat.le_of_dvd zo a0);omega
 refine zbd R6 ?_;refine zN ?_;have H:=l.n3;refine yu (α:=(Value×Value×Value×Value)×List Nat×List Nat) (fun _=>[(2,kS (some ⟨3*n+2,0,none⟩)),(3,kS (some ⟨3*(n+1)+2,0,none⟩)),(4,kS (some ⟨3*(n+1+1)+2,0,none⟩))]) (fun z h' n' w=>w=[]∧FrS n c2 d2 h h' n' z.1.1 z.1.2.1 z.1.2.2.1 z.1.2.2.2 q.num (q.den:Int) z.2.1 z.2.2∧gP z.2.1≤gP A∧gP z.2.2≤gP C) ?_ ?_
 ·by_cases hgt:(1:Int)<(b:Int)
  ·rw [ze (by show kz (decide ((1:Int)<(b:Int)))=_;rw [bO hgt])];refine zN ?_;obtain ⟨p,a1⟩:=l.b2;refine zV (v:=.agg #[a,c2]) R5 (zT R2 a1 rfl zb rfl) ?_;refine zV (v:=.agg #[g1,g2]) R5 (zT R2 B rfl zb rfl) ?_;refine zB _ R5 (iQ k l.ix Z zo T.1 a4) ?_;rintro _ h4 n4 _ ⟨rfl,a7,a2,q1,q2,r1,r2,Lq,Lr,rfl,iq,ir,fq,fr⟩;repeat refine zR ?_
   have R:=l.exts a2 a7;obtain ⟨e4,af⟩:=R.b2;refine zK [q1,q2] R7 iq.ones af rfl (by show 3*n≤_;omega) ?_;have S5:=R.putx iq (.inr (fq.mono zo)) e4;refine zN ?_;obtain ⟨e5,ag⟩:=S5.b3;have aa:=(zj (f:=h4) (i:=3*n+2) (v:=some (.row [q1,q2] e4)) (j:=3*n2+2) zo).trans ((a2 _ zo).trans B);refine zV (v:=.agg #[d,d2]) R5 (zT R2 ag rfl zb rfl) ?_;refine zV (v:=.agg #[g1,g2]) R5 (zT R2 aa rfl zb rfl) ?_;have ak:Off (3*n+2) g2:=og _ (by have:=S.n3;omega) (S.ox.off zo zo) (S.oy.off zo zo);refine zB _ R5 (iQ k S5.iy ((Z.ext a2 a7).off ak) zo zo a4) ?_;rintro _ h6 n6 _ ⟨rfl,ac,ai,p1,p2,s1,s2,Lp,Ls,rfl,ip,is,fp,fs⟩;repeat refine zR ?_
   have S6:=S5.exts ai ac;obtain ⟨e6,ah⟩:=S6.b3;refine zK [p1,p2] R7 ip.ones ah rfl (by show 3*n≤_;omega) ?_;have S7:=S6.puty ip (.inr (fp.mono zo)) e6;refine zN ?_;rw [ap a5,←K,ap a0,show y'/(g:Int)=(q.den:Int) from by rw [J];exact zjh Y g] at S7;refine zO ((q1,q2,p1,p2),Lq,Lp) ⟨rfl,rfl,rfl,eP⟩ ⟨rfl,S7,l.ix.len_le iq ?_,l.iy.len_le ip ?_⟩
   ·rw [DG];exact Bk _ _
   rw [DG];exact Bk _ _
  rw [za (by show kz (decide ((1:Int)<(b:Int)))=_;rw [aD hgt])];refine zN ?_;have ab:g=1:=zo;subst ab;rw [show ((1:Nat):Int)=1 from rfl,Int.ediv_one] at K;rw [DR] at J;refine zO ((a,c2,d,d2),A,C) ⟨rfl,rfl,rfl,eP⟩ ⟨rfl,?_,eT,eT⟩;show FrS n c2 d2 h h3 (n2+1) a c2 d d2 q.num (q.den:Int) A C;rw [K,J,show ((y'.natAbs:Nat):Int)=y' from zo];exact l
 clear K J a5 a0 a3 F o Z l B D S2 ig I c S L u H og;rintro ⟨⟨a,m,d,O⟩,L1,L2⟩ t h5 n5 _ ⟨rfl,S,a6,s⟩;simp only at S a6 s;refine zN ?_;obtain ⟨a9,c⟩:=S.b3;refine zV (v:=.agg #[d,O]) R5 (zT R2 c rfl zb rfl) ?_;refine yk _ R5 (zg5 (k+3) S.iy zo) ?_;rintro _ ⟨b,rfl,F,o⟩;rw [sa] at F o;refine fH R6 ?_;refine zN ?_;refine yu (α:=(Value×Value)×List Nat) (fun _=>[(2,kS (some ⟨3*n+2,0,none⟩)),(3,kS (some ⟨3*(n+1)+2,0,none⟩)),(4,kS (some ⟨3*(n+1+1)+2,0,none⟩))]) (fun z h' n' w=>w=[]∧n+1+1+1≤n'∧Ext n h h'∧(∃e,h' (3*n+2)=some (.row [a,m] e))∧(∃e,h' (3*(n+1)+2)=some (.row [z.1.1,z.1.2] e))∧(∃e,h' (3*(n+1+1)+2)=some (.row [kz false,jx none 0 0,kz false,jx none 0 0] e))∧IntR h' n' a m q.num L1∧DenR h' n' z.1.1 z.1.2 q.den z.2∧Away n c2 m∧Away n d2 z.1.2∧gP z.2≤gP C) ?_ ?_
 ·by_cases hd:(b:Int)=1
  ·rw [ze (by show kz (decide ((b:Int)=1))=_;rw [bO hd])];refine zN ?_;refine zF (v:=.agg #[kz false,jx none 0 0]) R5 ?_;refine zK [kz false,jx none 0 0] R7 rfl c rfl (by show 3*n≤_;omega) ?_;refine zN ?_;have U:q.den=1:=o.1 zo;obtain ⟨n3,ext,⟨p,b2⟩,_,⟨e4,b4⟩,M,iy,N,oy⟩:=S;exact zO ((kz false,jx none 0 0),[]) ⟨rfl,rfl,rfl,eP⟩ ⟨rfl,n3,fun b T=>(zj zo).trans (ext b T),⟨p,(zj zo).trans b2⟩,⟨_,zh _ _ _⟩,⟨e4,(zj zo).trans b4⟩,M.off (N.off zo zo),⟨rfl,.nil (.inl rfl),Norm.nil,by rw [eN U];rfl⟩,N,.inr trivial,eU⟩
  rw [za (by show kz (decide ((b:Int)=1))=_;rw [aD hd])];refine zN ?_;have U:q.den≠1:=fun e=>hd (by have:=o.2 e;omega);obtain ⟨n3,ext,b2,b3,b4,M,iy,N,oy⟩:=S;exact zO ((d,O),L2) ⟨rfl,rfl,rfl,eP⟩ ⟨rfl,n3,ext,b2,b3,b4,M,⟨by rw [iy.neg];simp,iy.sl,iy.norm,by rw [cC U,iy.val,sa]⟩,N,oy,s⟩
 clear c S F o s;rintro ⟨⟨d,O⟩,L2⟩ t h6 n6 _ ⟨rfl,n3,ext,⟨p,b2⟩,⟨e3,b3⟩,⟨e4,b4⟩,M,V,N,oy,s⟩;simp only at b2 b3 b4 M V N oy s;refine zN ?_;refine zV (v:=.agg #[a,m]) R5 (zT R2 b2 rfl zb rfl) ?_;refine zV (v:=.agg #[d,O]) R5 (zT R2 b3 rfl zb rfl) ?_;refine zF (v:=.agg #[a,m,d,O]) R5 ?_;have ad:ones [a,m,d,O]=true:=by
  rw [M.neg];show GL.ones (m::_)=true;rw [M.sl.ones,V.neg];show GL.ones (O::_)=true;rw [V.sl.ones];rfl
 refine zK [a,m,d,O] R7 ad b4 rfl (by show 3*n≤_;omega) ?_;refine zN ?_;refine xu R5 (zh _ _ _) rfl ⟨rfl,by show n≤n6;omega,fun b T=>(zj zo).trans (ext b T),_,_,_,_,L1,L2,rfl,⟨M.off (N.off zo zo),V.neg,V.sl.off (oy.off zo zo),V.norm,V.val⟩,a6,s,N.or,oy.or⟩
section
variable {s:List UInt8}{x:Operand}{z:Value}
def AllD (s:List UInt8):Prop:=∀b∈s,48≤b.toNat∧b.toNat≤57
def dval:List UInt8→Nat:=List.foldl (fun v b=>10*v+(b.toNat-48)) 0
theorem zfz (s:List UInt8):∀v,List.foldl (fun v b=>10*v+(b.toNat-48)) v s=v*10^gP s+dval s:=by
 induction s with
 |nil=>intro v;simp [dval]
 |cons b s ih=>
  intro v;unfold dval;rw [Fb,Fb,ih,ih (10*0+_),Au,Ar,AH,AH];rw [show 10*v*10^gP s=v*(10^gP s*10) from by rw [vT 10 v,Az,vT 10]];omega
theorem th (a b:List UInt8):dval (a++b)=dval a*10^gP b+dval b:=by
 conv=>lhs;unfold dval
 rw [List.foldl_append];exact zfz b (dval a)
theorem tO (a:List UInt8)(b:UInt8):dval (a++[b])=10*dval a+(b.toNat-48):=by
 rw [th];simp [dval];omega
theorem vu (h:AllD s):dval s<10^gP s:=by
 induction s with
 |nil=>simp [dval]
 |cons b s ih=>
  have e:=h b gN;have f:=ih fun x c=>h x (by simp [c]);rw [show b::s=[b]++s from rfl,th];simp only [nn,xl];rw [BT 1,Ar];have a:dval [b]≤9:=by simp [dval];omega
  have g:dval [b]*10^gP s≤9*10^gP s:=Ab _ a;omega
theorem Norm.len_pow {L:List Nat}(h:Norm L)(c:val L<10^i):gP L≤i:=by
 apply An;intro a;obtain ⟨j,d,rfl⟩:=snoc (l:=L) (by intro e;rw [e] at a;simp at a);have p:=h.last;rw [tZ] at c;have f:4294967296^gP j*1≤4294967296^gP j*YtfajmfoofmienaaGreatDoor.val [d]:=A9 _ (by simp [YtfajmfoofmienaaGreatDoor.val];omega);have g:4294967296^i≤4294967296^gP j:=Ac zo (by simp at a;omega);have m:10^i≤4294967296^i:=D7 zo _;omega
theorem AllD.take_succ {b:UInt8}(h:AllD (s.take i))(e:s[i]?=some b)(f:48≤b.toNat∧b.toNat≤57):AllD (s.take (i+1)):=by
 obtain ⟨c,rfl⟩:=oc.1 e;rw [BQ c];intro x a;rcases Al.1 a with a|a
 ·exact h x a
 rw [nP.1 a];exact f
theorem qQ {b:UInt8}(c:s[i]?=some b):s.take (i+1)=s.take i++[b]:=by
 obtain ⟨a,rfl⟩:=oc.1 c;rw [BQ a]
section
variable {r:List Oper}{t:TF}{o:Oper}{d:Tmp}
theorem yp {i:Operand}{b:UInt8}(a:sh X ops t o d (o.op=.index ty x i∧X.E.und ty=some .string∧evF t x=kF ⟨⟨s⟩⟩∧evF t i=jy ik ji∧ji=(j:Int)))(f:s[j]?=some b)
  (k:EO X ops r ⟨upd t d (jy .u8 (b.toNat:Int)),h,n,w⟩ Q):EO X ops (o::r) ⟨t,h,n,w⟩ Q:=by
 obtain ⟨a,g,m,e,p,q,l,c⟩:=a;subst c;refine zF ⟨a,g,m,(by rw [e];rfl),?_⟩ k;rw [e];show gq X.E ty (evF t x) (evF t i)=_;rw [q,l];simp only [gq,p,AP,f,eN (Dx j)]
end
def FdR (n:Nat)(h:HF)(s:List UInt8)(v:Value)(h':HF)(n':Nat)(w:List Nat):Prop:=w=[]∧n≤n'∧Ext n h h'∧∃c1 c2 L ok,∃x:Nat,v=.tuple #[.agg #[c1,c2],kz ok]∧IntR h' n' c1 c2 (x:Int) L∧gP L≤gP s∧yj n c2∧(AllD s∧s≠[]→ok=true∧x=dval s)∧(ok=true→AllD s∧s≠[])
theorem uR {P:Value→HF→Nat→List Nat→Prop}{e:Ex}{t:TF}{h:HF}{n:Nat}{w:List Nat}{a f:Tmp}{l:TypeId}(c:rz e=true∧fn.results.toList=[.cell a ty,.tmp f]∧t a=kS (some ⟨b,0,none⟩)∧t f=u∧GL.isAgg env ty=some true∧env.inf ty=some (sz,bt,z))(p:h b=some (.row cs l))(hl:gP cs=sz∧td [.agg cs.toArray,u]=false)(A:P (.tuple #[.agg cs.toArray,u]) h n w):RetH fn P e ⟨t,h,n,w⟩:=by
 obtain ⟨c,B,m,g,v,y⟩:=c;obtain ⟨hl,q⟩:=hl;refine retH [.agg cs.toArray,u] ⟨c,?_,q⟩ A;rw [B];have C:=zT ⟨v,y⟩ p rfl (show 0+sz≤gP cs by omega) (show (cs.drop 0).take sz=cs by rw [AQ,Aa zo]);simp only [resF,m,g,C]
theorem qG (k:Nat)(h:HF)(n:Nat)(s:List UInt8)(hs:gP s<1000000):CF (cal (k+3)) 94 [kF ⟨⟨s⟩⟩] h n (FdR n h s):=by
 refine zu (fn:=Tryz.f94) R4 ?_;refine zN ?_;refine yd R5 ?_;refine Zl ?_;refine Za ?_;generalize hh:upd h (3*n+2) _=T;have ah:∃e,T (3*n+2)=some (.row [kz false,jx none 0 0] e):=⟨_,by rw [←hh,zh];rfl⟩;have ap:Ext n h T:=by rw [←hh];exact Ext.upd zo
 clear hh;refine z9 (α:=Nat×Option Addr×Nat×List Nat) (fun z=>[(0,kF ⟨⟨s⟩⟩),(2,kS (some ⟨3*n+2,0,none⟩)),(4,jx z.2.1 (gP z.2.2.2) z.2.2.1),(5,jy .i64 (z.1:Int))])
  (fun z I S w'=>w'=[]∧n+1≤S∧Ext n h I∧(∃e,I (3*n+2)=some (.row [kz false,jx none 0 0] e))∧z.1≤gP s∧AllD (s.take z.1)∧Sl I S 1 (jx z.2.1 (gP z.2.2.2) z.2.2.1) (u32s z.2.2.2)∧Norm z.2.2.2∧val z.2.2.2=dval (s.take z.1)∧yj (n+1) (jx z.2.1 (gP z.2.2.2) z.2.2.1)) (fun z=>gP s-z.1)
  (0,none,0,[]) ⟨rfl,rfl,rfl,rfl,eP⟩ ⟨rfl,eT,ap,ah,eU,fun b g=>cA g gN,.nil (.inl rfl),Norm.nil,rfl,eP⟩ (by show gP s-0<LL;unfold LL;omega) ?_
 rintro ⟨i,a,c,L⟩ t h2 M _ ⟨rfl,aw,R,⟨e2,P⟩,hi,p,Z,y,q,U⟩;simp only at hi p Z y q U;have au:gP L≤i:=y.len_pow (by rw [q];have:=vu p;rw [Af,Be hi] at this;exact this);refine zN ?_;by_cases hie:i=gP s
 ·have am:s.take i=s:=by rw [hie,Ax]
  rw [am] at p q;refine Zg ?_;refine st_I (ik:=.i64) (a:=(gP s:Int)) R5 ?_;refine Zw ?_;refine zB _ R5 (vV (k+1) _ _ false a (gP L) c) ?_;rintro _ h3 n3 _ ⟨rfl,rfl,rfl,a1⟩;refine zM ?_;refine st_B (a:= !(s==[])) R5 ?_;refine zK [kz (false&&decide (0<gP L)),jx a (gP L) c] R7 rfl (by rw [a1 _ zo];exact P) rfl (by show 3*n≤_;omega) ?_;refine Za ?_;refine uR R6 (zh _ _ _) R2 ⟨rfl,by show n≤M+1;omega,fun b g=>(zj zo).trans ((a1 b zo).trans (R b g)),_,_,L,_,dval s,rfl,pm ((Z.ext a1 zs).off (U.off zo)) y (by rw [q];simp) (fun _=>by rw [aD zo]),zo,U.mono zo,fun B=>⟨by simpa using B.2,rfl⟩,fun B=>⟨p,by simpa using B⟩⟩
 have ar:i<gP s:=zo;refine Zg ?_;refine st_I (ik:=.i64) (a:=(gP s:Int)) R5 ?_;refine Zn ?_;repeat refine zR ?_
 simp only [yN,xQ,zY,xJ];refine yu (α:=Nat) (fun z=>[(0,kF ⟨⟨s⟩⟩),(2,kS (some ⟨3*n+2,0,none⟩)),(4,jx a (gP L) c),(5,jy .i64 ((i+z:Nat):Int)),(6,jy .u32 ((dval ((s.drop i).take z):Nat):Int)),(7,jy .u32 ((10^z:Nat):Int))])
  (fun z I S w'=>h2=I∧S=M∧w'=[]∧1≤z∧z≤9∧i+z≤gP s∧AllD (s.take (i+z))) ?_ ?_
 ·refine zN ?_;refine z9 (α:=Nat) (fun z=>[(0,kF ⟨⟨s⟩⟩),(2,kS (some ⟨3*n+2,0,none⟩)),(4,jx a (gP L) c),(5,jy .i64 ((i+z:Nat):Int)),(6,jy .u32 ((dval ((s.drop i).take z):Nat):Int)),(7,jy .u32 ((10^z:Nat):Int)),(8,jy .i64 (z:Int))])
   (fun z I S w'=>h2=I∧S=M∧w'=[]∧z≤9∧i+z≤gP s∧AllD (s.take (i+z))) (fun z=>9-z) 0 ⟨rfl,rfl,rfl,rfl,rfl,rfl,rfl,eP⟩ ⟨rfl,rfl,rfl,eU,by show i+0≤gP s;omega,p⟩ (by show 9-0<LL;decide) ?_
  rintro z t h3 n3 _ ⟨rfl,rfl,rfl,a2,N,f⟩;refine zN ?_;by_cases hz:z=9
  ·subst hz;refine Zj ?_;exact zO 9 ⟨rfl,rfl,rfl,rfl,rfl,rfl,eP⟩ ⟨rfl,rfl,rfl,by decide,by decide,N,f⟩
  have aq:z≤8:=zo;by_cases hie2:i+z=gP s
  ·refine zM ?_;refine pI R6 zo ?_;refine Zg ?_;refine zM ?_;refine st_I (ik:=.i64) (a:=(gP s:Int)) R5 ?_;refine Zj ?_;exact zO z ⟨rfl,rfl,rfl,rfl,rfl,rfl,eP⟩ ⟨rfl,rfl,rfl,zo,a2,N,f⟩
  have a3:i+z<gP s:=zo;obtain ⟨b,g⟩:∃b,s[i+z]?=some b:=⟨s[i+z],k4 a3⟩;refine zM ?_;refine pI R6 zo ?_;refine Zg ?_;refine zM ?_;refine st_I (ik:=.i64) (a:=(gP s:Int)) R5 ?_;refine Zz ?_;refine yp (j:=i+z) R8 g ?_;have W:b∈s:=ns g;by_cases hb1:b.toNat<48
  ·refine Zp ?_;refine zF (v:=.agg #[kz false,jx none 0 0]) R5 ?_;refine zK [kz false,jx none 0 0] R7 rfl P rfl (by show 3*n≤_;omega) ?_;refine Za ?_;refine uR R6 (zh _ _ _) R2 ⟨rfl,by show n≤n3;omega,fun b g=>(zj zo).trans (R b g),_,_,[],false,0,rfl,⟨rfl,.nil (.inl rfl),Norm.nil,rfl⟩,eU,trivial,fun B=>by have:=B.1 b W;omega,fun B=>by cases B⟩
  repeat refine zR ?_
  refine yp (j:=i+z) R8 g ?_;by_cases hb2:57<b.toNat
  ·refine Zp ?_;refine zF (v:=.agg #[kz false,jx none 0 0]) R5 ?_;refine zK [kz false,jx none 0 0] R7 rfl P rfl (by show 3*n≤_;omega) ?_;refine Za ?_;refine uR R6 (zh _ _ _) R2 ⟨rfl,by show n≤n3;omega,fun b g=>(zj zo).trans (R b g),_,_,[],false,0,rfl,⟨rfl,.nil (.inl rfl),Norm.nil,rfl⟩,eU,trivial,fun B=>by have:=B.1 b W;omega,fun B=>by cases B⟩
  refine Zj ?_;have J:AllD ((s.drop i).take z):=fun x K=>f x (by rw [FT];exact Al.2 (.inr K));have m:=vu J;have G:gP ((s.drop i).take z)=z:=by rw [Af,Ak];omega
  rw [G] at m;have a8:10^z≤10^8:=Ac zo aq;have a5:(s.drop i).take (z+1)=(s.drop i).take z++[b]:=qQ (by rw [B3];exact g);have a7:dval ((s.drop i).take (z+1))=dval ((s.drop i).take z)*10+(b.toNat-48):=by rw [a5,tO];omega
  have aa:10^(z+1)=10^z*10:=Ar _ _;generalize hV:dval ((s.drop i).take z)=V at m a7;generalize hF:10^z=F at m a8 aa;rw [show (10:Nat)^8=100000000 from rfl] at a8;refine zM ?_;refine xc (a:=V) (b:=10) R6 zo ?_;refine Zg ?_;refine yp (j:=i+z) R8 g ?_;refine nG (a:=b.toNat) (b:=48) R6 zo ?_;refine nK (c:=b.toNat-48) R7 zo ?_;refine yO (a:=V*10) (b:=b.toNat-48) R6 zo ?_;refine zM ?_;refine xc (a:=F) (b:=10) R6 zo ?_;refine Zl ?_;refine Za ?_;refine goOn (z+1) (by show 9-(z+1)<9-z;omega) ⟨rfl,rfl,rfl,by show jy .i64 _=jy .i64 _;congr 1,by show jy .u32 _=jy .u32 _;rw [a7],by show jy .u32 _=jy .u32 _;rw [aa],by show jy .i64 _=jy .i64 _;congr 1,eP⟩ ⟨rfl,rfl,rfl,by show z+1≤9;omega,by show i+(z+1)≤gP s;omega,AllD.take_succ f g zo⟩
 rintro z t _ M _ ⟨rfl,rfl,rfl,az,a2,N,f⟩;have J:AllD ((s.drop i).take z):=fun x K=>f x (by rw [FT];exact Al.2 (.inr K));have m:=vu J;have G:gP ((s.drop i).take z)=z:=by rw [Af,Ak];omega
 have D:dval (s.take (i+z))=dval (s.take i)*10^z+dval ((s.drop i).take z):=by rw [FT,th,G]
 rw [G] at m;have a9:10^z≤10^9:=Ac zo a2;generalize hV:dval ((s.drop i).take z)=V at m D;generalize hF:10^z=F at m a9 D;rw [show (10:Nat)^9=1000000000 from rfl] at a9;refine Zm ?_;refine vm (cs:=[jy .u32 (F:Int)]) R5 ?_;have ae:=hH k (h:=upd h2 (3*M+2) (some (.row [jy .u32 (F:Int)] 151))) (n:=M+1) (A:=L) (C:=[F]) (Z.ext (Ext.upd zo) (ux M)) (Sl.own (O:=[F]) (len:=1) (cap:=1) (zh _ _ _) zo rfl eT) y.1 (fun x K=>by simp at K;omega) (by simp;omega);refine zB _ R5 ae ?_;rintro v4 h4 n4 w4 ⟨L4,⟨rfl,ax,ab,a4,c4,rfl,ai,H,av⟩,a0⟩;refine zM ?_;refine vm (cs:=[jy .u32 (V:Int)]) R5 ?_;have al:=rJ (k+1) (l:=[V]) (h:=upd h4 (3*n4+2) (some (.row [jy .u32 (V:Int)] 151))) (n:=n4+1) gN (Sl.own (O:=[V]) (len:=1) (cap:=1) (zh _ _ _) zo rfl eT);refine zB _ R5 al ?_;rintro _ _ _ _ ⟨e5,e6,rfl,rfl,aj⟩;subst e5 e6;have ao:val [F]=F:=by simp [val]
 rw [ao] at a0;have af:gP L4<1000000000:=by
  have T:=vu p;rw [Af,Be hi] at T;have h2:=H.len_pow (i:=i+z) (by rw [a0,q,Bq,hF];exact Fp T (by rw [←hF];exact Bz zo));omega
 have ad:=gZ k (h:=upd h4 (3*n4+2) (some (.row [jy .u32 (V:Int)] 151))) (n:=n4+1) (A:=L4) (C:=yS [V]) (ai.ext (Ext.upd zo) (ux n4)) aj H.1 (jY _ (fun x K=>by simp at K;omega)) ⟨af,by have:=wK [V];simp at this;omega⟩;refine zB _ R5 ad ?_;rintro v6 h6 n6 w6 ⟨L6,⟨rfl,ay,ac,a6,c6,rfl,ak,Y,ag⟩,an⟩;refine Za ?_;refine goOn (i+z,a6,c6,L6) (by show gP s-(i+z)<gP s-i;omega) ⟨rfl,rfl,rfl,rfl,eP⟩ ⟨rfl,by show n+1≤n6;omega,fun b g=>?_,⟨e2,?_⟩,N,f,ak,Y,?_,ag.mono zo⟩
 ·exact (ac b zo).trans ((zj zo).trans ((ab b zo).trans ((zj zo).trans (R b g))))
 ·exact (ac _ zo).trans ((zj zo).trans ((ab _ zo).trans ((zj zo).trans P)))
 show val L6=dval (s.take (i+z));rw [an,a0,q,D,vi];simp [val]
end
def len8:List UInt8:=[0,1,2,2,3,3,3,3,4,4,4,4,4,4,4,4,5,5,5,5,5,5,5,5,5,5,5,5,5,5,5,5,6,6,6,6,6,6,6,6,6,6,6,6,6,6,6,6,6,6,6,6,6,6,6,6,6,6,6,6,6,6,6,6,7,7,7,7,7,7,7,7,7,7,7,7,7,7,7,7,7,7,7,7,7,7,7,7,7,7,7,7,7,7,7,7,7,7,7,7,7,7,7,7,7,7,7,7,7,7,7,7,7,7,7,7,7,7,7,7,7,7,7,7,7,7,7,7,8,8,8,8,8,8,8,8,8,8,8,8,8,8,8,8,8,8,8,8,8,8,8,8,8,8,8,8,8,8,8,8,8,8,8,8,8,8,8,8,8,8,8,8,8,8,8,8,8,8,8,8,8,8,8,8,8,8,8,8,8,8,8,8,8,8,8,8,8,8,8,8,8,8,8,8,8,8,8,8,8,8,8,8,8,8,8,8,8,8,8,8,8,8,8,8,8,8,8,8,8,8,8,8,8,8,8,8,8,8,8,8,8,8,8,8,8,8,8,8,8,8,8,8,8,8,8,8]
theorem zm7:∀i,i<256→∃b,len8[i]?=some b∧b.toNat≤8∧i<2^b.toNat∧(i≠0→2^b.toNat≤2*i):=by
 intro i d;have h:∀i:Fin 256,(len8[i.val]?).any (fun b=>decide (b.toNat≤8∧i.val<2^b.toNat∧(i.val≠0→2^b.toNat≤2*i.val)))=true:=by decide+kernel
 have:=h ⟨i,d⟩;rw [Option.any_eq_true] at this;obtain ⟨b,a,c⟩:=this;exact ⟨b,a,of_decide_eq_true c⟩
theorem zi1 {x m i L:Nat}(b:x/2^m=i)(d:i<2^L)(e:i≠0→2^L≤2*i)(a:m=0∨i≠0):x<2^(m+L)∧(x≠0→2^(m+L)≤2*x):=by
 have g:0<2^m:=Bz zd;have f:=Bw x (2^m);have j:=Bo x g;rw [b] at f;rw [Bq];constructor
 ·have:2^m*(i+1)≤2^m*2^L:=A9 _ d;rw [A1,AO] at this;omega
 intro l;have c:i≠0:=by
  rcases a with rfl|a
  ·rw [CL,DR] at b;omega
  exact a
 have:=A9 (2^m) (e c);rw [BP] at this;omega
theorem ag (k:Nat)(h:HF)(n:Nat){x:Nat}(C:x<18446744073709551616):VF (cal (k+1)) 218 [jy .u64 (x:Int)] h n fun v=>∃m:Nat,v=jy .i64 (m:Int)∧m≤64∧x<2^m∧(x≠0→2^m≤2*x):=by
 refine zI (fn:=Tryz.f218) R4 ?_;have o:∀m s,x/2^m/2^s=x/2^(m+s):=fun m s=>by rw [Cm,←Bq]
 refine Zx ?_;refine yu (α:=Nat×Nat) (fun z=>[(0,jy .u64 (z.2:Int)),(2,jy .i64 (z.1:Int))]) (fun z g l w=>h=g∧n=l∧w=[]∧x/2^z.1=z.2∧z.2<4294967296∧z.1≤32∧(z.1=0∨z.2≠0)) ?_ ?_
 ·by_cases hge:4294967296≤x
  ·rw [ze (by show kz (decide _)=_;rw [bO zo])];refine Zc ?_;refine yE (a:=x) (s:=32) R6 zd ?_;refine Zl ?_;exact zO (32,x/2^32) ⟨rfl,rfl,eP⟩ ⟨rfl,rfl,rfl,rfl,by show x/2^32<_;omega,AK 32,.inr (by show x/2^32≠0;omega)⟩
  rw [za (by show kz (decide _)=_;rw [aD zo])];refine zN ?_;exact zO (0,x) ⟨rfl,rfl,eP⟩ ⟨rfl,rfl,rfl,by show x/2^0=x;rw [CL,DR],by show x<_;omega,Nat.zero_le 32,.inl rfl⟩
 rintro ⟨m,i⟩ t _ _ _ ⟨rfl,rfl,rfl,c,e,f,d⟩;simp only at c e f d;refine Zb ?_;refine yu (α:=Nat×Nat) (fun z=>[(0,jy .u64 (z.2:Int)),(2,jy .i64 (z.1:Int))]) (fun z g l w=>h=g∧n=l∧w=[]∧x/2^z.1=z.2∧z.2<65536∧z.1≤48∧(z.1=0∨z.2≠0)) ?_ ?_
 ·by_cases hge:65536≤i
  ·rw [ze (by show kz (decide _)=_;rw [bO zo])];refine Zc ?_;refine yE (a:=i) (s:=16) R6 zd ?_;refine Zl ?_;exact zO (m+16,i/2^16) ⟨rfl,rfl,eP⟩ ⟨rfl,rfl,rfl,by show x/2^(m+16)=i/2^16;rw [←c,o],by show i/2^16<_;omega,by show m+16≤48;omega,.inr (by show i/2^16≠0;omega)⟩
  rw [za (by show kz (decide _)=_;rw [aD zo])];refine zN ?_;exact zO (m,i) ⟨rfl,rfl,eP⟩ ⟨rfl,rfl,rfl,c,by show i<_;omega,by show m≤48;omega,d⟩
 clear c e f d;rintro ⟨m,i⟩ t _ _ _ ⟨rfl,rfl,rfl,c,e,f,d⟩;simp only at c e f d;refine Zb ?_;refine yu (α:=Nat×Nat) (fun z=>[(0,jy .u64 (z.2:Int)),(2,jy .i64 (z.1:Int))]) (fun z g l w=>h=g∧n=l∧w=[]∧x/2^z.1=z.2∧z.2<256∧z.1≤56∧(z.1=0∨z.2≠0)) ?_ ?_
 ·by_cases hge:256≤i
  ·rw [ze (by show kz (decide _)=_;rw [bO zo])];refine Zc ?_;refine yE (a:=i) (s:=8) R6 zd ?_;refine Zl ?_;exact zO (m+8,i/2^8) ⟨rfl,rfl,eP⟩ ⟨rfl,rfl,rfl,by show x/2^(m+8)=i/2^8;rw [←c,o],by show i/2^8<_;omega,by show m+8≤56;omega,.inr (by show i/2^8≠0;omega)⟩
  rw [za (by show kz (decide _)=_;rw [aD zo])];refine zN ?_;exact zO (m,i) ⟨rfl,rfl,eP⟩ ⟨rfl,rfl,rfl,c,by show i<_;omega,by show m≤56;omega,d⟩
 clear c e f d;rintro ⟨m,i⟩ t _ _ _ ⟨rfl,rfl,rfl,c,e,f,d⟩;simp only at c e f d;obtain ⟨b,A,B,p,q⟩:=zm7 i e;refine Zm ?_;refine qW (a:=i) R7 ?_;rw [Ag e];refine yp (s:=len8) (j:=i) (b:=b) R8 A ?_;refine wx (a:=(b.toNat:Int)) R7 zo ?_;refine Za ?_;obtain ⟨u,y⟩:=zi1 c p q d;exact retF _ rfl (zk rfl) R2 ⟨m+b.toNat,rfl,zo,u,y⟩
theorem zm3 (k:Nat)(h:HF)(n:Nat){x:Nat}(d:x<18446744073709551616)(h0:x≠0):VF (cal (k+2)) 210 [jy .u64 (x:Int)] h n fun v=>∃s:Nat,v=jy .i64 (s:Int)∧s<64∧9223372036854775808≤x*2^s∧x*2^s<18446744073709551616:=by
 refine zI (fn:=Tryz.f210) R4 ?_;refine Zv ?_;refine yk _ R5 (ag k h n d) ?_;rintro _ ⟨m,rfl,i,b,c⟩;refine Za ?_;have g:m≠0:=fun e=>by subst e;simp at b;omega
 refine retF _ rfl (zk rfl) R2 ⟨64-m,by show jy .i64 _=jy .i64 _;congr 1;omega,zo,?_,?_⟩
 ·have a:=Ab (2^(64-m)) (c h0);rw [←Bq,show m+(64-m)=64 from zo,Az] at a;have f:(2:Nat)^64=18446744073709551616:=rfl;omega
 have a:=Fp b (Bz (n:=64-m) (show 0<2 by decide));rw [←Bq,show m+(64-m)=64 from zo] at a;exact a
section
theorem zgc {U y s Q r:Nat}(h:U*2^s=Q*(y*2^s)+r)(a:r<y*2^s):U/y=Q∧U%y=r/2^s:=by
 have d:0<2^s:=Bz zd;have f:0<y:=Nat.pos_of_ne_zero fun e=>by rw [e,BE] at a;omega
 have b:U*2^s/(y*2^s)=Q:=by
  rw [h,BT,Nat.add_mul_div_right _ _ zo,Cu a,AA]
 have c:U*2^s%(y*2^s)=r:=by
  rw [h,BT,Nat.add_mul_mod_self_right,Ag a]
 rw [Gi _ _ d] at b;rw [Nat.mul_mod_mul_right] at c;exact ⟨b,by rw [←c,Nat.mul_div_cancel _ d]⟩
theorem zdr {lo s:Nat}(a:s≤64):lo*2^s=lo/2^(64-s)*18446744073709551616+lo*2^s%18446744073709551616:=by
 have e:lo*2^s/18446744073709551616=lo/2^(64-s):=by
  rw [show (18446744073709551616:Nat)=2^(64-s)*2^s from by rw [←Bq,show 64-s+s=64 from zo],Gi _ _ (Bz zd)]
 have:=Bw (lo*2^s) 18446744073709551616;rw [e,vT] at this;exact this.symm
theorem zpq {a b s:Nat}(c:b<2^s):a*2^s|||b=a*2^s+b:=by
 have:=Nat.shiftLeft_add_eq_or_of_lt c a;rw [Nat.shiftLeft_eq] at this;exact this.symm
theorem zca {top N b a d c Y Z:Nat}(g:b*Y+d=top*4294967296+N/4294967296)(i:a*Y+c=d*4294967296+N%4294967296)(f:Z=Y):top*18446744073709551616+N=(b*4294967296+a)*Z+c:=by
 subst f;have e:(b*4294967296+a)*Z=b*Z*4294967296+a*Z:=by rw [AH,GV]
 rw [e];omega
set_option maxRecDepth 100000
theorem zab (k:Nat)(h:HF)(n:Nat){f lo y:Nat}(O:f<y)(R:lo<18446744073709551616)(Z:y<18446744073709551616):VF (cal (k+3)) 216 [jy .u64 (f:Int),jy .u64 (lo:Int),jy .u64 (y:Int)] h n fun v=>v=.tuple #[jy .u64 (((f*18446744073709551616+lo)/y:Nat):Int),jy .u64 (((f*18446744073709551616+lo)%y:Nat):Int)]:=by
 refine zI (fn:=Tryz.f216) R4 ?_;refine Zb ?_;refine Zi ?_;refine ZA ?_;by_cases h0:f=0
 ·subst h0;refine Zp ?_;rw [tB rfl];refine Zg ?_;refine uq (a:=lo) (b:=y) R6 zo ?_;refine Zg ?_;refine qU (a:=lo) (b:=y) R6 zo ?_;refine Za ?_;exact retF [jy .u64 _,jy .u64 _] rfl rfl R2 (by rw [BE,AA];rfl)
 refine ZB ?_;refine yk _ R5 (zm3 k h n Z zo) ?_;rintro _ ⟨s,rfl,hs,L,D⟩;refine uM (c:=s) R7 zo ?_;refine Za ?_;refine Zg ?_;refine uo (a:=y) (s:=s) R6 zo ?_;rw [Ag D];have hp:0<2^s:=Bz zd;have P:f*2^s+2^s≤y*2^s:=by
  have:=Ab (2^s) (show f+1≤y from O);rw [AH,Bs] at this;exact this
 have J:lo/2^(64-s)<2^s:=by
  rw [BM (Bz zd),←Bq,show s+(64-s)=64 from zo];exact R
 have T:=zdr (lo:=lo) (s:=s) zo;have K:lo*2^s%18446744073709551616<18446744073709551616:=Bo _ zd;have I:(f*18446744073709551616+lo)*2^s=(f*2^s+lo/2^(64-s))*18446744073709551616+lo*2^s%18446744073709551616:=by
  rw [AH,AH,GV];omega
 clear T;refine Za ?_;generalize hYe:y*2^s=Y at L D P ⊢;repeat refine zW ?_
 refine zN ?_;repeat refine zW ?_
 refine Zm ?_;refine uo (a:=f) (s:=s) R6 zo ?_;rw [Ag (show f*2^s<18446744073709551616 by omega)];refine Zg ?_;refine xL (a:=64) (b:=s) R6 zo ?_;refine yE (a:=lo) (s:=64-s) R6 zo ?_;refine tH (a:=f*2^s) (b:=lo/2^(64-s)) R6 zo ?_;rw [zpq J];have A:f*2^s+lo/2^(64-s)<Y:=zo;generalize f*2^s+lo/2^(64-s)=top at I A ⊢;refine Za ?_;refine Zg ?_;refine uo (a:=lo) (s:=s) R6 zo ?_;generalize lo*2^s%18446744073709551616=N at I K ⊢;refine Za ?_;repeat refine zW ?_
 refine zN ?_;repeat refine zW ?_
 refine zN ?_;obtain ⟨d,V⟩:∃d,d=Y/4294967296:=⟨_,rfl⟩;obtain ⟨o,W⟩:∃o,o=Y%4294967296:=⟨_,rfl⟩;have F:d*4294967296+o=Y:=zo;rw [←V,←W];refine Zg ?_;refine uq (a:=top) (b:=d) R6 zo ?_;refine Za ?_;have M:top/d*d+top%d=top:=by rw [vT];exact Bw _ _
 refine Zg ?_;refine zM ?_;refine wa (a:=top/d) (b:=d) R6 zo ?_;refine xL (a:=top) (b:=top/d*d) R6 zo ?_;rw [show top-top/d*d=top%d from zo];repeat refine zR ?_
 simp only [xJ,uD,yN,xQ,zY];refine zcc (va:=jy .u64 (Y:Int)) (vb:=jy .u64 (s:Int)) (vc:=jy .u64 (top:Int)) (vd:=jy .u64 ((N%4294967296:Nat):Int)) (v1:=d) (v2:=o) (w2:=N/4294967296) (top:=top) zo zo zo zo rfl ⟨rfl,rfl,rfl,rfl,rfl,rfl,rfl,rfl,rfl,eP⟩ ?_;intro t2 i j p;rw [←xO p];clear p;rw [F] at j;obtain ⟨e,m⟩:∃e,e=(top*4294967296+N/4294967296)%Y:=⟨_,rfl⟩;have q:=Bw (top*4294967296+N/4294967296) Y;have G:=Bo (top*4294967296+N/4294967296) (show 0<Y by omega);rw [←m] at G;rw [←j,←m] at q;clear j m;rw [vT] at q;simp only [xJ,uD,yN,xQ,zY];refine zM ?_;refine wu (a:=top) (b:=4294967296) R6 ?_;refine zM ?_;refine nR (a:=top*4294967296%18446744073709551616) (b:=N/4294967296) R6 ?_;refine Zg ?_;refine wu (a:=i) (b:=Y) R6 ?_;refine uL (a:=(top*4294967296%18446744073709551616+N/4294967296)%18446744073709551616) (b:=i*Y%18446744073709551616) R6 zo ?_;rw [show ((top*4294967296%18446744073709551616+N/4294967296)%18446744073709551616+18446744073709551616-i*Y%18446744073709551616)%18446744073709551616=e from zo];repeat refine zR ?_
 simp only [xJ,uD,yN,xQ,zY];refine Zg ?_;refine uq (a:=e) (b:=d) R6 zo ?_;repeat refine zR ?_
 simp only [xJ,uD,yN,xQ,zY];have M:e/d*d+e%d=e:=by rw [vT];exact Bw _ _
 refine Zg ?_;refine zM ?_;refine wa (a:=e/d) (b:=d) R6 zo ?_;refine xL (a:=e) (b:=e/d*d) R6 zo ?_;rw [show e-e/d*d=e%d from zo];repeat refine zR ?_
 simp only [xJ,uD,yN,xQ,zY];refine zcb (va:=jy .u64 (Y:Int)) (vb:=jy .u64 (s:Int)) (vc:=jy .u64 (i:Int)) (vd:=jy .u64 (e:Int)) (v1:=d) (v2:=o) (w2:=N%4294967296) (top:=e) zo zo zo zo rfl ⟨rfl,rfl,rfl,rfl,rfl,rfl,rfl,rfl,rfl,eP⟩ ?_;intro t3 B g p;rw [←xO p];clear p;rw [F] at g;obtain ⟨C,l⟩:∃C,C=(e*4294967296+N%4294967296)%Y:=⟨_,rfl⟩;have u:=Bw (e*4294967296+N%4294967296) Y;have H:=Bo (e*4294967296+N%4294967296) (show 0<Y by omega);have S:(e*4294967296+N%4294967296)/Y<4294967296:=by
  rw [BM zo];have:(e+1)*4294967296≤Y*4294967296:=Ab _ G;rw [vT 4294967296];omega
 rw [←g] at S;rw [←l] at H;rw [←g,←l] at u;clear g l;have a0:i<4294967296:=by
  apply An;intro hn;have h1:4294967296*Y≤i*Y:=Ab _ zo;have h2:(top+1)*4294967296≤Y*4294967296:=Ab _ A;omega
 rw [vT] at u;refine Zc ?_;refine wa (a:=i) (b:=4294967296) R6 zo ?_;refine zM ?_;refine wV (a:=i*4294967296) (b:=B) R6 zo ?_;refine zM ?_;refine wu (a:=e) (b:=4294967296) R6 ?_;refine zM ?_;refine nR (a:=e*4294967296%18446744073709551616) (b:=N%4294967296) R6 ?_;refine Zg ?_;refine wu (a:=B) (b:=Y) R6 ?_;refine uL (a:=(e*4294967296%18446744073709551616+N%4294967296)%18446744073709551616) (b:=B*Y%18446744073709551616) R6 zo ?_;rw [show ((e*4294967296%18446744073709551616+N%4294967296)%18446744073709551616+18446744073709551616-B*Y%18446744073709551616)%18446744073709551616=C from zo];refine zM ?_;refine yE (a:=C) (s:=s) R6 zo ?_;refine Za ?_;have w:=zgc (U:=f*18446744073709551616+lo) (y:=y) (s:=s) (Q:=i*4294967296+B) (r:=C) (I.trans (zca q u hYe)) (by rw [hYe];exact H);refine retF [jy .u64 _,jy .u64 _] rfl rfl R2 ?_;rw [w.1,w.2];rfl
end
section
variable {cap:Nat}{a:Option Addr}
theorem zh5 (j:Nat)(q:List Nat)(d:Nat):(pl (j+1) 0++q).set j d=pl j 0++d::q:=by
 rw [List.replicate_succ',Aq,Cd _ _ gN,Ah,A7];rfl
theorem jT {r Vq a:Nat}(c:0<d)(b:V=d*Vq+r):(a+18446744073709551616*V)/d=(r*18446744073709551616+a)/d+18446744073709551616*Vq∧(a+18446744073709551616*V)%d=(r*18446744073709551616+a)%d:=by
 have e:a+18446744073709551616*V=(r*18446744073709551616+a)+d*(18446744073709551616*Vq):=by
  rw [b,A1,BP];omega
 rw [e];exact ⟨Nat.add_mul_div_left _ _ c,Nat.add_mul_mod_self_left _ _ _⟩
theorem zls {r a:Nat}(b:r<d)(c:a<18446744073709551616):(r*18446744073709551616+a)/d<18446744073709551616:=by
 rw [BM zo];have:(r+1)*18446744073709551616≤d*18446744073709551616:=Ab _ b;rw [vT 18446744073709551616];omega
theorem zcx {l:List Nat}{a:Nat}(h:l[j]?=some a):wv (l.drop j)=a+18446744073709551616*wv (l.drop (j+1)):=by
 rw [wj h];rfl
theorem zbm (k:Nat){l:List Nat}(u:gP l<1099511627)(hl:WdD l)(e:0<d∧d<18446744073709551616)(m:Sl h n 1 (jx a len cap) (u64s l)):
  VF (cal (k+4)) 186 [jx a len cap,jy .u64 (d:Int)] h n fun v=>v=jy .u64 ((wv l%d:Nat):Int):=by
 refine zI (fn:=Tryz.f186) R4 ?_;have b:=m.lenW;subst b;refine Zb ?_;refine Zl ?_;refine z9 (α:=Nat×Nat) (fun x=>[(0,jx a (gP l) cap),(1,jy .u64 (d:Int)),(5,jy .u64 (x.2:Int)),(6,jy .i64 ((x.1:Int)-1))])
  (fun x p s w=>h=p∧n=s∧w=[]∧x.1≤gP l∧x.2=wv (l.drop x.1)%d) (fun x=>x.1)
  (gP l,0) ⟨rfl,rfl,rfl,rfl,eP⟩ ⟨rfl,rfl,rfl,eT,by rw [Ct];exact (Nat.zero_mod _).symm⟩ (by show gP l<LL;unfold LL;omega) ?_
 rintro ⟨j,r⟩ t _ _ _ ⟨rfl,rfl,rfl,q,c⟩;simp only at q c;have i:r<d:=by rw [c];exact Bo _ e.1
 refine zN ?_;cases j with
 |zero=>
  refine Zi ?_;exact retF _ rfl (zk rfl) R2 (by rw [c,AQ];rfl)
 |succ j=>
  obtain ⟨x,g⟩:∃x,l[j]?=some x:=⟨l[j]'zo,k4 zo⟩;have o:=hl.get g;refine Zr ?_;refine xt (f:=fun d:Nat=>jy .u64 (d:Int)) (j:=j) R7 m ⟨rfl,zo⟩ g (fun _=>rfl) R4 fun _=>?_;repeat refine zR ?_
  refine yk _ R5 (zab k h n i o e.2) ?_;rintro _ rfl;refine Zl ?_;refine goOn (j,(r*18446744073709551616+x)%d) (by show j<j+1;omega) ⟨rfl,rfl,rfl,by show jy .i64 _=jy .i64 _;congr 1;omega,eP⟩ ⟨rfl,rfl,rfl,by show j≤_;omega,?_⟩;show _%d=wv (l.drop j)%d;rw [zcx g,(jT (V:=wv (l.drop (j+1))) (Vq:=wv (l.drop (j+1))/d) (r:=r) (a:=x) e.1 (by rw [c];exact (Bw _ _).symm)).2]
theorem zb9 (k:Nat){l:List Nat}(I:gP l<1099511627)(hl:WdD l)(m:0<d∧d<18446744073709551616)(M:Sl h n 1 (jx a len cap) (u64s l)):
  CF (cal (k+4)) 238 [jx a len cap,jy .u64 (d:Int)] h n fun v p D w=>∃v1 L,v=.tuple #[v1,jy .u64 ((wv l%d:Nat):Int)]∧ResW n h v1 p D w L∧wv L=wv l/d∧gP L≤gP l∧yj n v1:=by
 refine zu (fn:=Tryz.f238) R4 ?_;have s:=M.lenW;subst s;refine Zv ?_;refine wO (len:=gP l) (cap:=gP l) R9 zo ?_;rw [show zC (jy .u64 0)=[jy .u64 0] from rfl,sE];refine Zl ?_;refine Za ?_;refine z9 (α:=Nat×List Nat×Nat) (fun x=>[(0,jx a (gP l) cap),(1,jy .u64 (d:Int)),(6,jx (some ⟨3*n+2,0,none⟩) (gP l) (gP l)),(7,jy .u64 (x.2.2:Int)),(8,jy .i64 ((x.1:Int)-1))])
  (fun x p D w=>D=n+1∧w=[]∧Ext n h p∧x.1≤gP l∧(∃e,p (3*n+2)=some (.row (u64s (pl x.1 0++x.2.1)) e))∧x.1+gP x.2.1=gP l∧WdD x.2.1∧x.2.2<d∧wv (l.drop x.1)=d*wv x.2.1+x.2.2) (fun x=>x.1)
  (gP l,[],0) ⟨rfl,rfl,rfl,rfl,rfl,eP⟩ ⟨rfl,rfl,Ext.upd zo,eT,⟨_,by rw [zh,A3]⟩,gN,WdD.nil,m.1,by rw [Ct];rfl⟩ (by show gP l<LL;unfold LL;omega) ?_
 rintro ⟨j,q,r⟩ t F _ _ ⟨rfl,rfl,g,R,⟨e,c⟩,J,A,o,i⟩;simp only at R c J A o i;refine zN ?_;cases j with
 |zero=>
  rw [CI,AN] at c;have T:gP q=gP l:=zo;refine Zw ?_;have K:=uG (k+2) (h:=F) (n:=n+1) (a:=some ⟨3*n+2,0,none⟩) (len:=gP l) (cap:=gP l) (l:=q) zo (fun _ e=>by injection e with e;rw [←e]) (.at_ zo c rfl eT (by rw [yh];omega) (by rw [AQ,Aa (by rw [yh];omega)]));refine zB _ R5 K ?_;rintro U _ _ _ ⟨rfl,rfl,rfl,rfl,S⟩;refine Za ?_;rw [AQ] at i;have G:wv l/d=wv q:=by rw [i,Nat.mul_add_div m.1,Cu o,BC]
  have H:wv l%d=r:=by rw [i,Nat.mul_add_mod,Ag o]
  refine retH [jx _ _ _,jy .u64 _] R3 ⟨_,yS q,by rw [H];rfl,⟨rfl,by show n≤n+1;omega,g,S,NW.trim A⟩,?_,?_,by show 3*n≤3*n+2;omega⟩
  ·rw [G];exact cu _ _
  have:=wK q;omega
 |succ j=>
  obtain ⟨x,B⟩:∃x,l[j]?=some x:=⟨l[j]'zo,k4 zo⟩;have u:=hl.get B;have N:=M.ext g (ux n);refine Zr ?_;refine xt (f:=fun d:Nat=>jy .u64 (d:Int)) (j:=j) R7 N ⟨rfl,zo⟩ B (fun _=>rfl) R4 fun _=>?_;repeat refine zR ?_
  refine yk _ R5 (zab k F (n+1) o u m.2) ?_;rintro _ rfl;repeat refine zR ?_
  refine nI (j:=j) (v:=jy .u64 (((r*18446744073709551616+x)/d:Nat):Int)) R8 zo (by rw [yh];simp;omega) c (by show 3*n≤3*n+2;omega) (fun _=>rfl) R3 (fun _=>rfl) rfl fun _=>?_;rw [vy,zh5];refine Zl ?_;obtain ⟨O,P⟩:=jT (V:=wv (l.drop (j+1))) (Vq:=wv q) (r:=r) (a:=x) m.1 i;refine goOn (j,(r*18446744073709551616+x)/d::q,(r*18446744073709551616+x)%d) (by show j<j+1;omega) ⟨rfl,rfl,rfl,rfl,by show jy .i64 _=jy .i64 _;congr 1;omega,eP⟩ ⟨rfl,rfl,fun b I=>(zj zo).trans (g b I),by show j≤_;omega,⟨e,zh _ _ _⟩,by show j+gP (_::q)=_;simp;omega,?_,Bo _ m.1,?_⟩
  ·intro y C;rcases sP.1 C with rfl|C
   ·exact zls o u
   exact A y C
  show wv (l.drop j)=d*wv (_::q)+_;rw [zcx B,←P];have:=Bw (x+18446744073709551616*wv (l.drop (j+1))) d;rw [O] at this;exact this.symm
end
section
variable {s:List UInt8}
theorem uW {c:Nat}(h:c<10):(Bh (48+c)).toNat=48+c:=by
 rw [UInt8.toNat_ofNat',Ag zo]
theorem nc:∀V,AllD ((decB V).map Bh)∧dval ((decB V).map Bh)=V:=by
 intro V;induction V using CW with
 |ind V ih=>
  by_cases h0:V=0
  ·subst h0;unfold decB;rw [xH];exact ⟨fun b a=>cA a gN,rfl⟩
  have e:decB V=decB (V/10)++[48+V%10]:=by
   unfold decB;rw [wT h0];simp
  obtain ⟨f,g⟩:=ih (V/10) zo;have d:=uW (c:=V%10) zo;rw [e,Bl,Cy,DY];refine ⟨fun b a=>?_,?_⟩
  ·rcases Al.1 a with a|a
   ·exact f b a
   rw [nP.1 a,d];omega
  rw [tO,g,d];omega
theorem xw (V:Nat):AllD (decT V)∧dval (decT V)=V∧decT V≠[]:=by
 unfold decT;by_cases h0:V=0
 ·rw [eN h0,h0];exact ⟨fun b a=>by rw [nP.1 a];decide,rfl,gN⟩
 rw [cC h0];refine ⟨(nc V).1,(nc V).2,fun e=>?_⟩;have:=(nc V).2;rw [e] at this;exact h0 this.symm
def zke (t:List UInt8)(j:Nat):Prop:=j≤gP t∧(∀i,i<j→t[i]?≠some 47)∧(j=gP t∨t[j]?=some 47)
theorem AllD.slash {a:List UInt8}(h:AllD a):a[i]?≠some 47:=fun e=>by
 have:=h 47 (ns e);have b:(47:UInt8).toNat=47:=rfl;omega
theorem zke.uniq {a r:List UInt8}(l:AllD a)(m:r=[]∨∃e,r=47::e)(h:zke (a++r) j):j=gP a:=by
 obtain ⟨f,g,b⟩:=h;rcases C7 j (gP a) with d|rfl|c
 ·exfalso;rcases b with b|b
  ·rw [nn] at b;omega
  rw [AZ d] at b;exact l.slash b
 ·rfl
 exfalso;rcases m with rfl|⟨e,rfl⟩
 ·simp at f;omega
 refine g (gP a) c ?_;rw [AE eT,A7];rfl
def xy (s:List UInt8):Prop:=∃q:Rat,ratT q=s
def zQ (s:List UInt8):Bool:=s[0]?==some 45
def yK (s:List UInt8):List UInt8:=if zQ s then s.drop 1 else s
theorem sM (q:Rat):zQ (ratT q)=decide (q.num<0)∧yK (ratT q)=decT q.num.natAbs++(if q.den=1 then [] else 47::decT q.den):=by
 have a:zQ (ratT q)=decide (q.num<0):=by
  unfold zQ ratT;by_cases hn:q.num<0
  ·rw [eN hn,bO hn];rfl
  rw [cC hn,aD hn,AN];obtain ⟨d,_,f⟩:=xw q.num.natAbs;rw [AZ (Dl.2 f)];cases hd:(decT q.num.natAbs)[0]? with
  |none=>rfl
  |some b=>
   have:=d b (ns hd);show (some b==some 45)=false;have c:b≠45:=fun e=>by subst e;have g:(45:UInt8).toNat=45:=rfl;omega
   simpa using c
 refine ⟨a,?_⟩;unfold yK;rw [a];by_cases hn:q.num<0
 ·rw [eN (bO hn)];unfold ratT;rw [eN hn];rfl
 rw [cC (by simpa using hn)];unfold ratT;rw [cC hn];rfl
theorem zbn (e:ratT q=s)(b:zke (yK s) j):zQ s=decide (q.num<0)∧(yK s).take j=decT q.num.natAbs∧(q.den=1→j=gP (yK s))∧(q.den≠1→j<gP (yK s)∧(yK s).drop (j+1)=decT q.den):=by
 subst e;obtain ⟨c,d⟩:=sM q;rw [d] at b ⊢;have f:=b.uniq (xw _).1 (by by_cases a:q.den=1<;>simp [a]);subst f;refine ⟨c,DH rfl,fun a=>by rw [eN a];simp,fun a=>?_⟩;rw [cC a];refine ⟨gN,?_⟩;rw [←List.drop_drop,CY rfl];rfl
theorem kR (s:List UInt8):gP (yK s)≤gP s:=by
 unfold yK;split
 ·rw [Ak];omega
 exact AK _
end
section
variable {x:Operand}{s:List UInt8}
section
variable {r:List Oper}{t:TF}{o:Oper}{d:Tmp}
theorem wS {i:Operand}(a:sh X ops t o d (o.op=.slice ty x (some i) none none∧X.E.und ty=some .string∧evF t x=kF ⟨⟨s⟩⟩∧evF t i=jy ik ji∧ji=(j:Int)))(hl:j≤gP s)
  (k:EO X ops r ⟨upd t d (kF ⟨⟨s.drop j⟩⟩),h,n,w⟩ Q):EO X ops (o::r) ⟨t,h,n,w⟩ Q:=by
 obtain ⟨a,g,m,e,p,u,l,c⟩:=a;subst c;refine zF ⟨a,g,m,(by rw [e];rfl),?_⟩ k;rw [e];show yQ X.E ty (evF t x) (some (evF t i)) none=_;rw [u,l];have f:(0:Int)≤(j:Int)∧(j:Int)≤(gP s:Int):=zo;simp only [yQ,p,bnd,eN f,AP];rw [Aa (by rw [Ak];exact AK _)]
theorem sf {i:Operand}(a:sh X ops t o d (o.op=.slice ty x none (some i) none∧X.E.und ty=some .string∧evF t x=kF ⟨⟨s⟩⟩∧evF t i=jy ik ji∧ji=(j:Int)))(hl:j≤gP s)
  (k:EO X ops r ⟨upd t d (kF ⟨⟨s.take j⟩⟩),h,n,w⟩ Q):EO X ops (o::r) ⟨t,h,n,w⟩ Q:=by
 obtain ⟨a,g,m,e,p,u,l,c⟩:=a;subst c;refine zF ⟨a,g,m,(by rw [e];rfl),?_⟩ k;rw [e];show yQ X.E ty (evF t x) none (some (evF t i))=_;rw [u,l];have f:(0:Int)≤(j:Int)∧(j:Int)≤(gP s:Int):=zo;simp only [yQ,p,bnd,eN f,AP,AQ,Nat.sub_zero]
end
theorem RatR.off {h:HF}{n:Nat}{y:Option BF}(r:RatR h n n1 n2 d1 d2 q ln ld)(a:Off b n2)(c:Off b d2):RatR (upd h b y) n n1 n2 d1 d2 q ln ld:=⟨r.num.off a,r.neg,r.sl.off c,r.norm,r.val⟩
theorem RatR.ones {h:HF}{n:Nat}(r:RatR h n n1 n2 d1 d2 q ln ld):ones [n1,n2,d1,d2]=true:=by
 rw [r.num.neg];show GL.ones (n2::_)=true;rw [r.num.sl.ones,r.neg];show GL.ones (d2::_)=true;rw [r.sl.ones];rfl
theorem RatR.zero (h:HF)(n:Nat):RatR h n (kz false) (jx none 0 0) (kz false) (jx none 0 0) 0 [] []:=⟨⟨rfl,.nil (.inl rfl),Norm.nil,rfl⟩,rfl,.nil (.inl rfl),Norm.nil,rfl⟩
theorem zd1 (h:q.den=1):q=((q.num:Int):Rat):=by
 apply Rat.ext
 ·rw [CZ]
 rw [DI,h]
theorem RatR.whole {h:HF}{n:Nat}{x:Int}{l:List Nat}(r:IntR h n c1 c2 x l):RatR h n c1 c2 (kz false) (jx none 0 0) (x:Rat) l []:=⟨by rw [CZ];exact r,rfl,.nil (.inl rfl),Norm.nil,by rw [DI];rfl⟩
def RdR (n:Nat)(h:HF)(s:List UInt8)(v:Value)(h':HF)(n':Nat)(w:List Nat):Prop:=w=[]∧n≤n'∧Ext n h h'∧∃n1 n2 d1 d2 q ln ld ok,v=.tuple #[.agg #[n1,n2,d1,d2],kz ok]∧RatR h' n' n1 n2 d1 d2 q ln ld∧gP ln≤gP s∧gP ld≤gP s∧yj n n2∧yj n d2∧(ok=true→ratT q=s)∧(xy s→ok=true)
def RdS (s:List UInt8):Prop:=gP s<1000000∧(gP s<11∨∃q,ratT q=s∧q.den<4294967296)
theorem RdS.of (h:gP s<11):RdS s:=⟨zo,.inl h⟩
theorem zml (k:Nat)(h:HF)(n:Nat)(s:List UInt8)(hs:RdS s):CF (cal (k+6)) 52 [kF ⟨⟨s⟩⟩] h n (RdR n h s):=by
 obtain ⟨hs,aj⟩:=hs;refine zu (fn:=Tryz.f52) R4 ?_;refine zN ?_;refine yd R5 ?_;refine Zk ?_;simp only [yN,xQ,zY,xJ];generalize hh:upd h (3*n+2) _=h1;have a9:∃e,h1 (3*n+2)=some (.row [kz false,jx none 0 0,kz false,jx none 0 0] e):=⟨_,by rw [←hh,zh];rfl⟩;have ax:Ext n h h1:=by rw [←hh];exact Ext.upd zo
 clear hh;obtain ⟨e1,a9⟩:=a9;have aq:=kR s;refine lQ [(0,kF ⟨⟨s⟩⟩),(2,kS (some ⟨3*n+2,0,none⟩)),(4,kF ⟨⟨s⟩⟩),(5,kz (zQ s))] (fun u F w=>h1=u∧F=n+1∧w=[]) ?_ ?_
 ·refine Zc ?_;refine st_I (ik:=.i64) (a:=(gP s:Int)) R5 ?_;by_cases hs0:gP s=0
  ·refine Za ?_;exact vv ⟨rfl,rfl,rfl,by rw [xd.1 hs0];rfl,eP⟩ ⟨rfl,rfl,rfl⟩
  obtain ⟨b,g⟩:∃b,s[0]?=some b:=⟨s[0]'zo,k4 zo⟩;refine ko R6 zo ?_;repeat refine zR ?_
  refine yp (j:=0) R8 g ?_;have l:zQ s=decide (b.toNat=45):=by
   unfold zQ;rw [g];by_cases h45:b=45
   ·subst h45;rfl
   rw [show decide (b.toNat=45)=false from aD (fun e=>h45 (C0.1 e))];simpa using h45
  by_cases h45:b.toNat=45
  ·refine Za ?_;exact vv ⟨rfl,rfl,rfl,by rw [l,bO h45];rfl,eP⟩ ⟨rfl,rfl,rfl⟩
  refine Za ?_;exact vv ⟨rfl,rfl,rfl,by rw [l,aD h45];rfl,eP⟩ ⟨rfl,rfl,rfl⟩
 rintro t _ _ _ ⟨rfl,rfl,rfl⟩;refine Zb ?_;refine lQ [(0,kF ⟨⟨s⟩⟩),(2,kS (some ⟨3*n+2,0,none⟩)),(4,kF ⟨⟨yK s⟩⟩),(5,kz (zQ s))] (fun u F w=>h1=u∧F=n+1∧w=[]) ?_ ?_
 ·by_cases l:zQ s=true
  ·rw [ze (by show kz (zQ s)=_;rw [l])];refine Zc ?_;have aw:1≤gP s:=by
    unfold zQ at l;cases s with
    |nil=>simp at l
    |cons=>simp
   refine wS (j:=1) R8 aw ?_;refine Za ?_;exact vv ⟨rfl,rfl,by unfold yK;rw [eN l];rfl,rfl,eP⟩ ⟨rfl,rfl,rfl⟩
  rw [za (by show kz (zQ s)=_;rw [Es.2 l])];refine zN ?_;exact vv ⟨rfl,rfl,by unfold yK;rw [cC l];rfl,rfl,eP⟩ ⟨rfl,rfl,rfl⟩
 rintro t _ _ _ ⟨rfl,rfl,rfl⟩;generalize hT:yK s=T at aq;refine Zc ?_;refine st_I (ik:=.i64) (a:=(gP T:Int)) R5 ?_;refine Zk ?_;simp only [yN,xQ,zY,xJ];refine yu (α:=Nat) (fun z=>[(0,kF ⟨⟨s⟩⟩),(2,kS (some ⟨3*n+2,0,none⟩)),(4,kF ⟨⟨T⟩⟩),(5,kz (zQ s)),(6,jy .i64 (z:Int))]) (fun z u F w=>h1=u∧F=n+1∧w=[]∧zke T z) ?_ ?_
 ·refine zN ?_;refine z9 (α:=Nat) (fun z=>[(0,kF ⟨⟨s⟩⟩),(2,kS (some ⟨3*n+2,0,none⟩)),(4,kF ⟨⟨T⟩⟩),(5,kz (zQ s)),(6,jy .i64 (gP T:Int)),(7,jy .i64 (z:Int))]) (fun z u F w=>h1=u∧F=n+1∧w=[]∧z≤gP T∧∀i,i<z→T[i]?≠some 47) (fun z=>gP T-z) 0 ⟨rfl,rfl,rfl,rfl,rfl,rfl,eP⟩ ⟨rfl,rfl,rfl,eU,fun i hi=>cA hi (Nat.not_lt_zero i)⟩ (by show gP T-0<LL;unfold LL;omega) ?_;rintro z t _ _ _ ⟨rfl,rfl,rfl,hz,a4⟩;refine Zm ?_;refine st_I (ik:=.i64) (a:=(gP T:Int)) R5 ?_;by_cases hze:z=gP T
  ·refine Zj ?_;exact zO (gP T) ⟨rfl,rfl,rfl,rfl,rfl,eP⟩ ⟨rfl,rfl,rfl,eT,by rw [←hze];exact a4,.inl rfl⟩
  obtain ⟨b,g⟩:∃b,T[z]?=some b:=⟨T[z]'zo,k4 zo⟩;refine Zz ?_;refine yp (j:=z) R8 g ?_;by_cases h47:b.toNat=47
  ·have an:b=47:=C0.1 h47;subst an;refine Zn ?_;exact zO z ⟨rfl,rfl,rfl,rfl,rfl,eP⟩ ⟨rfl,rfl,rfl,hz,a4,.inr g⟩
  refine Zi ?_;refine goOn (z+1) (by show gP T-(z+1)<gP T-z;omega) ⟨rfl,rfl,rfl,rfl,rfl,by show jy .i64 _=jy .i64 _;congr 1,eP⟩ ⟨rfl,rfl,rfl,by show z+1≤gP T;omega,fun i hi=>?_⟩;by_cases hiz:i<z
  ·exact a4 i hiz
  have:i=z:=zo;subst this;rw [g];intro e;injection e with e
  subst e;exact h47 rfl
 rintro z t _ _ _ ⟨rfl,rfl,rfl,ai⟩;refine zN ?_;have b0:z≤gP T:=ai.1;have m:∀c,ratT c=s→zQ s=decide (c.num<0)∧T.take z=decT c.num.natAbs∧(c.den=1→z=gP T)∧(c.den≠1→z<gP T∧T.drop (z+1)=decT c.den):=by
  intro c f;have:=zbn f (j:=z) (by rw [hT];exact ai);rw [hT] at this;exact this
 refine Zg ?_;refine sf (j:=z) R8 b0 ?_;have bd:gP (T.take z)≤gP s:=by rw [Af];omega
 refine zB _ R5 (qG (k+2) _ _ (T.take z) zo) ?_;rintro _ h2 n2 _ ⟨rfl,ba,ak,c1,c2,L,ok,x,rfl,ix,b6,fx,a6,ao⟩;repeat refine zR ?_
 refine yd R5 ?_;refine zK [c1,c2] R7 ix.ones (zh _ _ _) rfl (by show 3*n≤_;omega) ?_;rw [xq];generalize hh:upd h2 (3*n2+2) _=h3;have ad:Ext n2 h2 h3:=by rw [←hh];exact Ext.upd zo
 have V:∃e,h3 (3*n2+2)=some (.row [c1,c2] e):=⟨_,by rw [←hh,zh]⟩;clear hh;obtain ⟨e8,V⟩:=V;have I:=ix.ext ad zs;have aa:h3 (3*n+2)=_:=(ad _ zo).trans ((ak _ zo).trans a9);have N:Ext n h h3:=fun b g=>(ad b zo).trans ((ak b zo).trans (ax b g));refine Za ?_;cases ok with
 |false=>
  refine Zp ?_;refine zF (v:=.agg #[kz false,jx none 0 0,kz false,jx none 0 0]) R5 ?_;refine zK [kz false,jx none 0 0,kz false,jx none 0 0] R7 rfl aa rfl (by show 3*n≤_;omega) ?_;refine Za ?_;refine uR R6 (zh _ _ _) R2 ⟨rfl,by show n≤n2+1;omega,fun b g=>(zj zo).trans (N b g),_,_,_,_,0,[],[],false,rfl,RatR.zero _ _,eU,eU,trivial,trivial,fun h=>cA h gN,?_⟩;rintro ⟨c,f⟩;obtain ⟨_,p2,_,_⟩:=m c f;have C:=xw c.num.natAbs;rw [←p2] at C;exact cA (a6 ⟨C.1,C.2.2⟩).1 gN
 |true=>
 refine Zj ?_;have am:=ao rfl;have az:=(a6 am).2;obtain ⟨a,be,p,rfl,_⟩:=I.sl.len;have e1:=I.sl.lenU;subst e1;repeat refine zR ?_
 refine zl R6 V (v:=jx a (gP L) p) R2 ?_;refine zB _ R5 (vV (k+4) _ _ (zQ s) a (gP L) p) ?_;rintro _ h4 n4 _ ⟨rfl,rfl,rfl,Y⟩;refine zF (v:=.agg #[kz (zQ s&&decide (0<gP L)),jx a (gP L) p,kz false,jx none 0 0]) R5 ?_;refine yd R5 ?_;refine zK [kz (zQ s&&decide (0<gP L)),jx a (gP L) p,kz false,jx none 0 0] R7 rfl (zh _ _ _) rfl (by show 3*n≤_;omega) ?_;rw [xq];generalize hh:upd h4 (3*(n2+1+1)+2) _=h5;have Z:Ext (n2+1+1) h4 h5:=by rw [←hh];exact Ext.upd zo
 have A:∃e,h5 (3*(n2+1+1)+2)=some (.row [kz (zQ s&&decide (0<gP L)),jx a (gP L) p,kz false,jx none 0 0] e):=⟨_,by rw [←hh,zh]⟩;clear hh;have ab:h5 (3*n+2)=_:=(Z _ zo).trans ((Y _ zo).trans aa);have O:Ext n h h5:=fun b g=>(Z b zo).trans ((Y b zo).trans (N b g));obtain ⟨M,W⟩:∃M:Int,M=if zQ s then -(x:Int) else x:=⟨_,rfl⟩
 have iN:IntR h5 (n2+1+1+1) (kz (zQ s&&decide (0<gP L))) (jx a (gP L) p) M L:=by
  refine pm ((I.sl.ext Y zs).ext Z zs) I.norm ?_ fun h0=>?_
  ·rw [I.val,W];split<;>omega
  rw [W] at h0 ⊢;by_cases l:zQ s=true
  ·rw [eN l] at h0 ⊢;rw [l,bO zo]
  rw [cC l,Es.2 l,aD zo]
 have a5:∀c,ratT c=s→M=c.num:=by
  intro c f;obtain ⟨p1,p2,_,_⟩:=m c f;rw [W,az,p2,(xw _).2.1,p1];by_cases hn:c.num<0
  ·rw [eN (bO hn)];omega
  rw [cC (by simpa using hn)];omega
 clear W;refine Zm ?_;refine st_I (ik:=.i64) (a:=(gP T:Int)) R5 ?_;refine qV R6 ?_;refine zN ?_;refine yu (α:=(Value×Value×Value×Value)×Rat×List Nat×List Nat) (fun _=>[(0,kF ⟨⟨s⟩⟩),(2,kS (some ⟨3*n+2,0,none⟩)),(10,kS (some ⟨3*(n2+1+1)+2,0,none⟩))])
  (fun z u F w=>w=[]∧n2+1+1+1≤F∧Ext n h u∧u (3*n+2)=some (.row [kz false,jx none 0 0,kz false,jx none 0 0] e1)∧(∃e,u (3*(n2+1+1)+2)=some (.row [z.1.1,z.1.2.1,z.1.2.2.1,z.1.2.2.2] e))∧RatR u F z.1.1 z.1.2.1 z.1.2.2.1 z.1.2.2.2 z.2.1 z.2.2.1 z.2.2.2∧gP z.2.2.1≤gP s∧gP z.2.2.2≤gP s∧yj (n+1) z.1.2.1∧yj (n+1) z.1.2.2.2∧∀c,ratT c=s→z.2.1=c) ?_ ?_
 ·by_cases hzT:(z:Int)<(gP T:Int)
  ·rw [ze (by show kz (decide ((z:Int)<(gP T:Int)))=_;rw [bO hzT])];refine Zf ?_;refine wS (j:=z+1) R8 zo ?_;have b8:gP (T.drop (z+1))≤gP s:=by rw [Ak];omega
   refine zB _ R5 (qG (k+2) _ _ (T.drop (z+1)) zo) ?_;rintro _ h6 n6 _ ⟨rfl,au,a0,d1,d2,D,ag,y,rfl,iy,b5,fy,S,ah⟩;repeat refine zR ?_
   refine yd R5 ?_;refine zK [d1,d2] R7 iy.ones (zh _ _ _) rfl (by show 3*n≤_;omega) ?_;rw [xq];generalize hh:upd h6 (3*n6+2) _=h7;have H:Ext n6 h6 h7:=by rw [←hh];exact Ext.upd zo
   have B:∃e,h7 (3*n6+2)=some (.row [d1,d2] e):=⟨_,by rw [←hh,zh]⟩;clear hh;obtain ⟨b3,B⟩:=B;have ac:h7 (3*n+2)=_:=(H _ zo).trans ((a0 _ zo).trans ab);have P:Ext n h h7:=fun b g=>(H b zo).trans ((a0 b zo).trans (O b g));have af:=iy.ext H zs;have G:∀c,ratT c=s→ag=true∧y=c.den:=by
    intro c f;obtain ⟨p1,p2,p3,p4⟩:=m c f;have ar:c.den≠1:=fun e=>by have:=p3 e;omega
    have C:=xw c.den;rw [←(p4 ar).2] at C;have:=S ⟨C.1,C.2.2⟩;rw [C.2.1] at this;exact this
   refine Za ?_;by_cases hfine:ag=true∧y≠0
   ·obtain ⟨rfl,al⟩:=hfine;repeat refine zR ?_
    refine zV (v:=.agg #[d1,d2]) R5 (zT R2 B rfl zb rfl) ?_;refine yk _ R5 (fJ (k+4) af) ?_;rintro _ rfl;rw [CM zo];refine Zj ?_;obtain ⟨ap,A⟩:=A;have U:h7 (3*(n2+1+1)+2)=_:=(H _ zo).trans ((a0 _ zo).trans A);repeat refine zR ?_
    refine zV (v:=.agg #[kz (zQ s&&decide (0<gP L)),jx a (gP L) p]) R5 (zT R2 U rfl zb rfl) ?_;refine zV (v:=.agg #[d1,d2]) R5 (zT R2 B rfl zb rfl) ?_;have b1:=(iN.ext a0 au).ext H zs;have b4:gP D≤1:=by
     have hN:Norm [4294967295]:=⟨fun x hx=>by simp at hx;omega,rfl⟩;refine hN.len_le iy.norm ?_;rw [iy.val,sa];show y≤4294967295;rcases aj with aj|⟨c,e0,b7⟩
     ·have hq:=ah rfl;have b9:=vu hq.1;have b2:10^gP (T.drop (z+1))≤10^9:=Ac zd (by rw [Ak];omega);rw [(S hq).2];omega
     have:=(G c e0).2;omega
    refine zB _ R5 (zfi k b1 af zo zo) ?_;rintro _ h8 n8 _ ⟨rfl,bb,ae,u1,J,v1,K,ln,ld,rfl,R,a2,a3,o1,o2⟩;have a7:h8 (3*(n2+1+1)+2)=_:=(ae _ zo).trans U;refine zK [u1,J,v1,K] R7 R.ones a7 rfl (by show 3*n≤_;omega) ?_;refine zN ?_;have f1:yj (n+1) J:=by
     rcases o1 with rfl|o1
     ·exact fx
     exact o1.mono zo
    have f2:yj (n+1) K:=by
     rcases o2 with rfl|o2
     ·exact fy.mono zo
     exact o2.mono zo
    have g1:Off (3*(n2+1+1)+2) J:=by
     rcases o1 with rfl|o1
     ·exact ix.sl.below.off zo
     exact o1.off zo
    have g2:Off (3*(n2+1+1)+2) K:=by
     rcases o2 with rfl|o2
     ·exact fy.off zo
     exact o2.off zo
    refine zO ((u1,J,v1,K),Av M (y:Int),ln,ld) ⟨rfl,rfl,rfl,eP⟩ ⟨rfl,by show n2+1+1+1≤n8;omega,fun b g=>(zj zo).trans ((ae b zo).trans (P b g)),(zj zo).trans ((ae _ zo).trans ac),⟨_,zh _ _ _⟩,R.off g1 g2,by show gP ln≤gP s;omega,by show gP ld≤gP s;omega,f1,f2,fun c f=>?_⟩;show Av M (y:Int)=c;rw [a5 c f,(G c f).2];exact Rat.num_divInt_den c
   have a1:¬xy s:=fun ⟨c,f⟩=>hfine ⟨(G c f).1,by rw [(G c f).2];exact c.den_nz⟩;cases ag with
   |false=>
    refine Zp ?_;refine zF (v:=.agg #[kz false,jx none 0 0,kz false,jx none 0 0]) R5 ?_;refine zK [kz false,jx none 0 0,kz false,jx none 0 0] R7 rfl ac rfl (by show 3*n≤_;omega) ?_;refine Za ?_;exact uR R6 (zh _ _ _) R2 ⟨rfl,by show n≤n6+1;omega,fun b g=>(zj zo).trans (P b g),_,_,_,_,0,[],[],false,rfl,RatR.zero _ _,eU,eU,trivial,trivial,fun h=>cA h gN,fun hs=>cA hs a1⟩
   |true=>
    have al:y=0:=An fun e=>hfine ⟨rfl,e⟩;subst al;repeat refine zR ?_
    refine zV (v:=.agg #[d1,d2]) R5 (zT R2 B rfl zb rfl) ?_;refine yk _ R5 (fJ (k+4) af) ?_;rintro _ rfl;refine Zp ?_;refine zF (v:=.agg #[kz false,jx none 0 0,kz false,jx none 0 0]) R5 ?_;refine zK [kz false,jx none 0 0,kz false,jx none 0 0] R7 rfl ac rfl (by show 3*n≤_;omega) ?_;refine Za ?_;exact uR R6 (zh _ _ _) R2 ⟨rfl,by show n≤n6+1;omega,fun b g=>(zj zo).trans (P b g),_,_,_,_,0,[],[],false,rfl,RatR.zero _ _,eU,eU,trivial,trivial,fun h=>cA h gN,fun hs=>cA hs a1⟩
  rw [za (by show kz (decide ((z:Int)<(gP T:Int)))=_;rw [aD hzT])];refine zN ?_;refine zO ((kz (zQ s&&decide (0<gP L)),jx a (gP L) p,kz false,jx none 0 0),(M:Rat),L,[]) ⟨rfl,rfl,rfl,eP⟩ ⟨rfl,eT,O,ab,A,RatR.whole iN,by show gP L≤gP s;omega,eU,fx,trivial,fun c f=>?_⟩;obtain ⟨p1,p2,p3,p4⟩:=m c f;have C:c.den=1:=An fun e=>by have:=(p4 e).1;omega
  show (M:Rat)=c;rw [a5 c f];exact (zd1 C).symm
 clear O ab A iN Z Y aa N V;rintro ⟨⟨u1,J,v1,K⟩,q,ln,ld⟩ t h9 n9 _ ⟨rfl,bc,ay,av,⟨ap,a8⟩,R,a2,a3,f1,f2,f⟩;simp only at a8 R a2 a3 f1 f2 f;refine zN ?_;refine zm [0,0,2,0,14,7,63] rfl ?_;refine zZ (v:=.agg #[u1,J,v1,K]) R6 (zT R2 a8 rfl zb rfl) R2 ?_;refine zZ (v:=.agg #[u1,J,v1,K]) R6 (zT R2 a8 rfl zb rfl) R2 ?_;refine df _ R7 (nw (k+1) R zo) ?_;rintro _ rfl;refine zE ?_;refine dr_B (a:=ratT q==s) R5 ?_;refine xn (cs:=[u1,J,v1,K]) R7 R.ones av zb (by show 3*n≤_;omega) R3 ?_;repeat refine zE ?_
 refine zN ?_;exact uR R6 (zh _ _ _) R2 ⟨rfl,by show n≤n9;omega,fun b g=>(zj zo).trans (ay b g),_,_,_,_,q,ln,ld,_,rfl,R.off (f1.off zo) (f2.off zo),a2,a3,f1.mono zo,f2.mono zo,fun he=>eq_of_beq he,fun ⟨c,hq⟩=>by rw [f c hq,hq];exact beq_self_eq_true s⟩
end
section
variable {e:TypeId}{x:Operand}{s:List UInt8}
section
variable {r:List Oper}{t:TF}{o:Oper}{d:Tmp}
theorem zh2 {a:TypeId}(y:zi ops t o=true)(p:o.dst=some d)(u:zv X.nt (some d)=true)(f:o.op=.convert ty e x)(A:evF t x=kF ⟨⟨s⟩⟩)(q:uk X.E ty e (kF ⟨⟨s⟩⟩)=some ⟨s.map fun b=>jy .u8 b.toNat,a,true,some (gP s,gP s)⟩)
  (k:EO X ops r ⟨upd t d (jx (some ⟨3*n+1,0,none⟩) (gP s) (gP s)),upd h (3*n+1) (some (.row (s.map fun b=>jy .u8 b.toNat) a)),n+1,w⟩ Q):EO X ops (o::r) ⟨t,h,n,w⟩ Q:=by
 obtain ⟨B,g,j⟩:=k;refine ⟨B,?_,j⟩;rw [seqF,y];have m:cls o.op=4:=by rw [f];rfl
 have l:mkE X.E o.op (evF t)=some ⟨s.map fun b=>jy .u8 b.toNat,a,true,some (gP s,gP s)⟩:=by rw [f];show uk X.E ty e (evF t x)=_;rw [A];exact q
 simp only [opF,m,l,mkF,xS,p,u,addW];exact g
end
theorem Gro.inv2 {h:HF}{n:Nat}(g:Gro h lo n e sz v len c)(h0:len≠0):∃b,v=jx (some ⟨b,0,none⟩) len len∧gro b=true∧3*lo≤b∧b<3*n∧h b=some (.row c e)∧gP c=len*sz:=by
 cases g with
 |nil=>exact cA rfl h0
 |at_ hg hlo hb hr hl ho=>exact ⟨_,rfl,hg,hlo,hb,hr,hl⟩
theorem qr {E D:List Nat}{x:Nat}(d:Nat)(h:D[gP E]?=some x):(E++D.drop (gP E)).set (gP E) d=(E++[d])++D.drop (gP (E++[d])):=by
 rw [wj h,Cd _ _ eT,A7];simp
theorem bI (h:i≤19):10^i≤10000000000000000000:=Ac zd h
theorem NW.len_pow {L:List Nat}(h:NW L)(a:wv L<10^i):gP L≤i:=
 h.len_le (tv a (D7 zd i))
theorem lW (k:Nat)(h:HF)(n:Nat)(hs:AllD s)(hl:gP s<20):CF (cal (k+3)) 209 [kF ⟨⟨s⟩⟩] h n fun v y F w=>∃L,ResW n h v y F w L∧wv L=dval s∧yj n v:=by
 refine zu (fn:=Tryz.f209) R4 ?_;refine Zx ?_;refine z9 (α:=List UInt8×List UInt8×Value×List Nat) (fun z=>[(0,kF ⟨⟨z.2.1⟩⟩),(3,z.2.2.1)])
  (fun z y F w=>w=[]∧n≤F∧Ext n h y∧s=z.1++z.2.1∧Gro y n F 164 1 z.2.2.1 (gP z.2.2.2) (u64s z.2.2.2)∧NW z.2.2.2∧wv z.2.2.2=dval z.1∧(z.2.1=[]∨z.1=[])) (fun z=>gP z.2.1)
  ([],s,jx none 0 0,[]) ⟨rfl,rfl,eP⟩ ⟨rfl,eT,Ext.refl _ _,rfl,.nil,NW.nil,rfl,.inr rfl⟩ (by show gP s<LL;unfold LL;omega) ?_
 rintro ⟨l,g,v3,D⟩ t h1 q _ ⟨rfl,U,V,u,B,M,H,a6⟩;simp only at u B M H;have af:gP l+gP g<20:=by rw [u,nn] at hl;exact hl
 have a4:AllD l:=fun b p=>hs b (by rw [u];simp [p]);have a7:AllD g:=fun b p=>hs b (by rw [u];simp [p]);have P:gP D≤gP l:=M.len_pow (by rw [H];exact vu a4);obtain ⟨K,rfl,_⟩:=B.shape;refine zN ?_;by_cases hr0:g=[]
 ·subst hr0;refine Zi ?_;rw [A3] at u;exact retH _ ⟨rfl,(zk rfl),rfl⟩ ⟨D,⟨rfl,U,V,B.sl,M⟩,by rw [H,u],B.fresh⟩
 have ae:0<gP g:=Dl.2 hr0;have a5:l=[]:=a6.resolve_left hr0;have ab:gP D=0:=by rw [a5] at P;exact Nat.le_zero.1 P
 obtain ⟨sz,ag⟩:∃sz,sz=(gP g-1)%19+1:=⟨_,rfl⟩;have a9:1≤sz∧sz≤19∧sz≤gP g:=zo;have a0:gP (g.take sz)=sz:=by rw [Af];omega
 have G:AllD (g.take sz):=fun b p=>a7 b (AW p);refine zM ?_;refine st_I (ik:=.i64) (a:=(gP g:Int)) R5 ?_;refine Ze ?_;refine Zc ?_;refine st_I (ik:=.i64) (a:=(gP g:Int)) R5 ?_;refine kn (a:=(gP g:Int)) (b:=1) R6 zo ?_;refine cN (a:=(gP g:Int)-1) (b:=19) R6 zd ?_;rw [show ((gP g:Int)-1).tmod 19=(((gP g-1)%19:Nat):Int) from by rw [show (gP g:Int)-1=((gP g-1:Nat):Int) from zo];rfl];refine ur (a:=(((gP g-1)%19:Nat):Int)) (b:=1) R6 zo ?_;rw [show (((gP g-1)%19:Nat):Int)+1=(sz:Int) from zo];refine Zl ?_;refine Zg ?_;refine sf (s:=g) (j:=sz) R8 zo ?_;refine zh2 (s:=g.take sz) rfl rfl rfl rfl rfl rfl ?_;generalize hC:g.take sz=C at a0 G ⊢;generalize hh2:upd h1 (3*q+1) _=h2;have A:∃el,h2 (3*q+1)=some (.row (C.map fun b=>jy .u8 b.toNat) el):=⟨_,by rw [←hh2,zh]⟩;obtain ⟨el,A⟩:=A;have W:Ext q h1 h2:=by rw [←hh2];exact Ext.upd zo
 clear hh2;have Z:=B.ext W (ux q);have a2:Sl h2 (q+1) 1 (jx (some ⟨3*q+1,0,none⟩) (gP C) (gP C)) (C.map fun b=>jy .u8 (b.toNat:Int)):=.at_ zo A rfl eT gN (by rw [AQ,Aa gN]);refine st_I (ik:=.i64) (a:=(gP C:Int)) R5 ?_;refine Za ?_;refine z9 (α:=Nat) (fun i=>[(0,kF ⟨⟨g⟩⟩),(3,jx K (gP D) (gP D)),(4,jy .i64 (sz:Int)),(5,jy .u64 ((dval (C.take i):Nat):Int)),(6,jy .u64 ((10^i:Nat):Int)),(23,jx (some ⟨3*q+1,0,none⟩) (gP C) (gP C)),(24,jy .i64 (gP C:Int)),(25,jy .i64 (i:Int))]) (fun i y F w=>h2=y∧F=q+1∧w=[]∧i≤gP C) (fun i=>gP C-i) 0 ⟨rfl,rfl,rfl,rfl,rfl,rfl,rfl,rfl,eP⟩ ⟨rfl,rfl,rfl,eU⟩ (by show gP C-0<LL;unfold LL;omega) ?_;rintro i t _ _ _ ⟨rfl,rfl,rfl,hi⟩;refine zN ?_;by_cases hiC:i=gP C;case neg=>
  obtain ⟨b,p⟩:∃b,C[i]?=some b:=⟨C[i]'zo,k4 zo⟩;have ac:=G b (ns p);have ad:dval (C.take i)<10^i:=by
   have:=vu (s:=C.take i) fun b p=>G b (AW p);rw [Af,Be zo] at this;exact this
  have hp:=bI (i:=i+1) zo;rw [Ar] at hp;refine Zp ?_;refine xt (f:=fun b:UInt8=>jy .u8 (b.toNat:Int)) (j:=i) R7 a2 R2 p (fun _=>rfl) R4 fun _=>?_;refine Za ?_;refine zM ?_;refine wa (a:=10) (b:=dval (C.take i)) R6 zo ?_;refine zM ?_;refine nG (a:=b.toNat) (b:=48) R6 zo ?_;refine uM (c:=b.toNat-48) R7 zo ?_;refine wV (a:=10*dval (C.take i)) (b:=b.toNat-48) R6 zo ?_;refine Za ?_;refine zM ?_;refine wa (a:=10^i) (b:=10) R6 zo ?_;refine Zl ?_;refine goOn (i+1) (by show gP C-(i+1)<gP C-i;omega) ⟨rfl,rfl,rfl,?_,?_,rfl,rfl,rfl,eP⟩ ⟨rfl,rfl,rfl,by show i+1≤_;omega⟩
  ·show jy .u64 _=jy .u64 _;rw [qQ p,tO]
  show jy .u64 _=jy .u64 _;rw [Ar]
 subst hiC;refine Zj ?_;rw [Ax];refine Zg ?_;refine wS (s:=g) (j:=sz) R8 zo ?_;refine Zl ?_;refine Za ?_;have aa:dval C<10^gP C:=vu G;have hp:=bI (i:=gP C) zo;refine z9 (α:=List Nat×Nat) (fun z=>[(0,kF ⟨⟨g.drop sz⟩⟩),(3,jx K (gP D) (gP D)),(6,jy .u64 ((10^gP C:Nat):Int)),(9,jy .u64 (z.2:Int)),(42,jx K (gP D) (gP D)),(43,jy .i64 (gP D:Int)),(44,jy .i64 (gP z.1:Int))])
  (fun z y F w=>F=q+1∧w=[]∧Ext n h y∧Gro y n (q+1) 164 1 (jx K (gP D) (gP D)) (gP D) (u64s (z.1++D.drop (gP z.1)))∧gP z.1≤gP D∧WdD z.1∧z.2<18446744073709551616∧wv z.1+z.2*18446744073709551616^gP z.1=wv (D.take (gP z.1))*10^gP C+dval C) (fun z=>gP D-gP z.1)
  ([],dval C) ⟨rfl,rfl,rfl,rfl,rfl,rfl,rfl,eP⟩ ⟨rfl,rfl,V.trans W U,Z,eU,WdD.nil,by show dval C<_;omega,by simp [wv,dv]⟩ (by show gP D-0<LL;unfold LL;omega) ?_
 rintro ⟨E,c⟩ t h3 _ _ ⟨rfl,rfl,Y,I,a1,R,hc,N⟩;simp only at I a1 R hc N;refine zN ?_;by_cases hED:gP E=gP D;case neg=>omega
 rw [hED,Ct,A3] at I;rw [hED,Ax] at N;refine Zj ?_;have O:s=(l++C)++g.drop sz:=by rw [u,←hC,Aq,Bf]
 have S:dval (l++C)=wv D*10^gP C+dval C:=by rw [th,H]
 have J:gP (g.drop sz)<gP g:=by rw [Ak];omega
 by_cases hc0:c=0
 ·subst hc0;refine Zj ?_;rw [BE,BC] at N;refine goOn (l++C,g.drop sz,jx K (gP D) (gP D),E) J ⟨rfl,rfl,eP⟩ ⟨rfl,by show n≤q+1;omega,Y,O,by show Gro _ _ _ _ _ _ (gP E) _;rw [hED];exact I,?_,by show wv E=dval (l++C);rw [N,S],.inl (Ca zo)⟩;show NW E;rw [xd.1 (show gP E=0 by omega)];exact NW.nil
 refine Zr ?_;refine vm (cs:=[jy .u64 (c:Int)]) R5 ?_;refine iE (m:=1) R8 zd (I.ext (Ext.upd zo) zs) (yH (zh _ _ _) R2) eT zo rfl rfl (by show n≤n∧_;omega) ?_;intro v' h5 T a8 _;obtain ⟨a',rfl,_⟩:=T.shape;refine Za ?_;refine goOn (l++C,g.drop sz,jx a' (gP D+1) (gP D+1),E++[c]) J ⟨rfl,rfl,eP⟩ ⟨rfl,by show n≤q+1+1+1;omega,fun b p=>(a8 b p).trans ((zj zo).trans (Y b p)),O,?_,⟨WdD.snoc R hc,xA E hc0⟩,?_,.inl (Ca zo)⟩
 ·show Gro _ _ _ _ _ _ (gP (E++[c])) (u64s (E++[c]));rw [nv,nn,hED];exact T
 show wv (E++[c])=dval (l++C);rw [wv,rV,S,←N,hED,vT];rfl
end
section
variable {a:Option Addr}
theorem yJ (n:Nat):gro (3*n+2)=false:=by
 unfold gro;rw [show (3*n+2)%3=2 from zo];rfl
section
variable {sT e:TypeId}{z x:Value}
theorem dJ {m:Nat}(hu:E.und sT=some (.slice e))(C:E.inf e=some (size,bytes,z))(F:gP (zC z)=size)(g:1≤size∧1≤bytes)(D:argS h size x m new)(f:m*bytes≤1099511627776)(B:gro b=false)(G:m≠0):
  xf E h n sT (jx (some ⟨b,0,none⟩) 0 0) x=some (.val (jx (some ⟨3*n+1,0,none⟩) m m) (upd h (3*n+1) (some (.row new e))) (n+1) []):=by
 obtain ⟨j,hc⟩:=D;have l:Ai (m*bytes) 1099511627776=true:=sn f;have p:AG (gP (zC z)) size=true:=by rw [F];exact B9 _
 have q:Ai 1 size=true:=sn g.1;have s:Ai 1 bytes=true:=sn g.2;have y:Ai m 0=false:=by
  cases f:Ai m 0 with
  |false=>rfl
  |true=>have:=Am f;omega
 have A:yn h size 0 (jx (some ⟨b,0,none⟩) 0 0)=some []:=by simp [yn]
 simp only [xf,hu,C,j,hc,AA,l,p,q,s,y,A,A4,eG,B,AN]
theorem dG (hu:E.und sT=some (.slice e))(A:E.inf e=some (size,bytes,z))(C:gP (zC z)=size)(f:1≤size∧1≤bytes)(B:argS h size x 0 [])(y:L*bytes≤1099511627776):
  xf E h n sT (jx a L L) x=some (.val (jx a L L) h n []):=by
 obtain ⟨g,hc⟩:=B;have j:Ai (L*bytes) 1099511627776=true:=sn y;have l:AG (gP (zC z)) size=true:=by rw [C];exact B9 _
 have p:Ai 1 size=true:=sn f.1;have q:Ai 1 bytes=true:=sn f.2;have s:Ai L L=true:=sn eT;simp only [xf,hu,A,g,hc,BC,j,l,p,q,s,A4,u9]
inductive Gr0 (h:HF) (lo n:Nat) (e:TypeId) (sz:Nat):Value→Nat→List Value→Prop
 |gro {v:Value} {len:Nat} {c:List Value} (g:Gro h lo n e sz v len c):Gr0 h lo n e sz v len c
 |emp {m:Nat} (hlo:lo≤m) (hm:m<n):Gr0 h lo n e sz (jx (some ⟨3*m+2,0,none⟩) 0 0) 0 []
end
theorem fZ {m:Nat}:∀{l:List (Nat×Nat)},(∀x∈l,x.2≠b)→yc m [b] l=true:=by
 intro l;induction l with
 |nil=>intro _;rfl
 |cons x l ih=>
  intro h;obtain ⟨i,c⟩:=x;have f:memN c [b]=false:=by
   unfold memN;cases he:AG c b with
   |false=>rfl
   |true=>exact cA (Aw he) (h (i,c) gN)
  unfold yc;rw [f,BJ,DB];exact ih fun y g=>h y (by simp [g])
section
variable {r:List Oper}{t:TF}{o:Oper}{d:Tmp}
end
section
variable {r:List Oper}{t:TF}{ld:List (Nat×Nat)}{o:Oper}{d:Tmp}
end
end
section
variable {cap l:Nat}{a:Option Addr}{s:List UInt8}
theorem Sl.zero {c:Nat}(s:Sl h n 1 (jx a l c) (u64s A))(d:a=none):A=[]:=by
 have i:=s.lenW;by_cases h0:l=0
 ·exact xd.1 zo
 obtain ⟨b,f,x,g,e,_⟩:=s.inv h0;rw [d] at e;cases e
theorem pz (k:Nat){L:List Nat}(i:Sl h n 1 (jx a len cap) (u64s L))(hl:gP L<1000000000):CF (cal (k+1)) 179 [jx a len cap] h n fun v f j w=>w=[]∧n≤j∧Ext n h f∧Sl f j 1 v (u64s L)∧(L≠[]→Gro f n j 164 1 v (gP L) (u64s L)):=by
 refine zu (fn:=Tryz.f179) R4 ?_;have g:=i.lenW;subst g;refine Zv ?_;cases a with
 |none=>
  have c:=i.zero rfl;subst c;refine zN ?_;rw [ze rfl];refine Zb ?_;exact retH _ ⟨rfl,(zk rfl),rfl⟩ ⟨rfl,eT,Ext.refl _ _,.nil (.inl rfl),fun h=>cA rfl h⟩
 |some ad=>
  refine zN ?_;refine ZA ?_;refine vm (cs:=[]) R5 ?_;repeat refine zR ?_
  have d:=i.ext (Ext.upd (h:=h) (b:=3*n+2) (x:=some (.row [] 164)) (show 3*n≤3*n+2 by omega)) (ux n);by_cases c:L=[]
  ·subst c;refine xD R5 (dG (L:=0) rfl rfl rfl zd (tX d) zd) ?_;refine Za ?_;exact retH _ ⟨rfl,(zk rfl),rfl⟩ ⟨rfl,ux n,Ext.upd zo,.nil (.inr ⟨_,_,_,rfl,by show 3*n+2<3*(n+1);omega⟩),fun h=>cA rfl h⟩
  have m:gP L≠0:=fun e=>c (xd.1 e);refine xD R5 (dJ rfl rfl rfl zd (tX d) zo (yJ n) m) ?_;refine Za ?_;have o:Gro (upd (upd h (3*n+2) (some (.row [] 164))) (3*(n+1)+1) (some (.row (u64s L) 164))) n (n+1+1) 164 1 (jx (some ⟨3*(n+1)+1,0,none⟩) (gP L) (gP L)) (gP L) (u64s L):=.at_ (mB (n+1)) zo zo (zh _ _ _) (by rw [yh,AO]) (uu L);exact retH _ ⟨rfl,(zk rfl),rfl⟩ ⟨rfl,by show n≤n+1+1;omega,(Ext.upd zo).trans (Ext.upd zo) (ux n),o.sl,fun _=>o⟩
theorem lV (k:Nat)(h:HF)(n:Nat)(m:AllD s)(hl:gP s≤19):CF (cal (k+4)) 178 [kF ⟨⟨s⟩⟩,jx none 0 0] h n fun v d e w=>∃L,ResW n h v d e w L∧wv L=dval s∧yj n v:=by
 refine zu (fn:=Tryz.f178) R4 ?_;refine Zx ?_;refine z9 (α:=Unit) (fun _=>[(0,kF ⟨⟨s⟩⟩),(5,jy .i64 (-1))]) (fun _ d e w=>h=d∧n=e∧w=[]) (fun _=>0) () ⟨rfl,rfl,eP⟩ ⟨rfl,rfl,rfl⟩ (by show 0<LL;decide) ?_;rintro _ t _ _ _ ⟨rfl,rfl,rfl⟩;refine Zb ?_;rw [za rfl];refine Zb ?_;rw [ze rfl];refine Zc ?_;refine zB _ R5 (lW k h n m zo) ?_;rintro v p q _ ⟨L,⟨rfl,f,g,b,i⟩,o,j⟩;obtain ⟨a,l,c,rfl,_⟩:=b.len;refine Za ?_;exact retH _ ⟨rfl,(zk rfl),rfl⟩ ⟨L,⟨rfl,f,g,b,i⟩,o,j⟩
theorem lT (k:Nat)(h:HF)(n:Nat)(j:AllD s)(hl:gP s≤19):CF (cal (k+5)) 149 [kF ⟨⟨s⟩⟩] h n fun v f o w=>∃L,ResW n h v f o w L∧wv L=dval s∧yj n v:=by
 refine zu (fn:=Tryz.f149) R4 ?_;refine Zx ?_;refine zM ?_;refine st_I (ik:=.i64) (a:=(gP s:Int)) R5 ?_;refine Zd ?_;refine Zm ?_;refine zB _ R5 (lV k h n j hl) ?_;rintro v p q _ ⟨L,⟨rfl,d,e,b,g⟩,m,i⟩;obtain ⟨a,l,c,rfl,_⟩:=b.len;refine Za ?_;exact retH _ ⟨rfl,(zk rfl),rfl⟩ ⟨L,⟨rfl,d,e,b,g⟩,m,i⟩
def NatR (n:Nat)(h:HF)(v:Value)(h':HF)(n':Nat)(w:List Nat)(x:Nat):Prop:=∃a l c L,v=.agg #[kz false,jx a l c]∧ResW n h (jx a l c) h' n' w L∧wv L=x
theorem zd8 (k:Nat)(h:HF)(n:Nat)(m:AllD s)(hl:gP s≤19):CF (cal (k+6)) 116 [kF ⟨⟨s⟩⟩] h n fun v g p w=>NatR n h v g p w (dval s):=by
 refine zu (fn:=Tryz.f116) R4 ?_;refine zN ?_;refine yd R5 ?_;refine Zc ?_;refine zB _ R5 (lT k _ _ m hl) ?_;rintro v y q _ ⟨L,⟨rfl,u,e,d,i⟩,o,j⟩;obtain ⟨a,l,c,rfl,_⟩:=d.len;have f:=(e (3*n+2) zo).trans (zh _ _ _);refine zF (v:=.agg #[kz false,jx a l c]) R5 ?_;refine zK [kz false,jx a l c] R7 rfl f rfl (by show 3*n≤3*n+2;omega) ?_;refine zN ?_;exact xu R5 (zh _ _ _) rfl ⟨_,_,_,L,rfl,⟨rfl,by show n≤q;omega,fun b f=>(zj zo).trans ((e b zo).trans (zj zo)),d.off (j.off zo),i⟩,o⟩
theorem nl (c:Nat):wv [c]=c:=by simp [wv,dv]
theorem zja {x c:Nat}:sN c (x%c)=sN x c:=by rw [B8,←Gj,B8]
theorem zjb (k:Nat)(hG:GK.G h)(hn:20≤n){e f:Nat}(u:Sl h n 1 (jx a1 l1 e) (u64s A))(B:Sl h n 1 (jx a2 l2 f) (u64s C))(g:NW A)(i:NW C)(R:gP A<1000000∧gP C<1000000)(b:gP A≤1∨gP C≤1):
  CF (cal (k+5)) 150 [jx a1 l1 e,jx a2 l2 f] h n fun v j p w=>∃L,ResW n h v j p w L∧wv L=sN (wv A) (wv C)∧(yj n v∨v=jx a1 l1 e∨v=jx a2 l2 f):=by
 refine zu (fn:=Tryz.f150) R4 ?_;refine Zb ?_;refine Zg ?_;refine yk _ R5 (rY (k+1) u B g i zo) ?_;rintro _ rfl;refine qV R6 ?_;simp only [yN,xQ,zY,xJ];refine yu (α:=(Option Addr×Nat×Nat×List Nat)×(Option Addr×Nat×Nat×List Nat)) (fun z=>[(0,jx z.1.1 z.1.2.1 z.1.2.2.1),(1,jx z.2.1 z.2.2.1 z.2.2.2.1)]) (fun z j p w=>h=j∧n=p∧w=[]∧Sl h n 1 (jx z.1.1 z.1.2.1 z.1.2.2.1) (u64s z.1.2.2.2)∧Sl h n 1 (jx z.2.1 z.2.2.1 z.2.2.2.1) (u64s z.2.2.2.2)∧NW z.1.2.2.2∧NW z.2.2.2.2∧gP z.1.2.2.2<1000000∧gP z.2.2.2.2≤1∧sN (wv z.1.2.2.2) (wv z.2.2.2.2)=sN (wv A) (wv C)∧(jx z.1.1 z.1.2.1 z.1.2.2.1=jx a1 l1 e∨jx z.1.1 z.1.2.1 z.1.2.2.1=jx a2 l2 f)) ?_ ?_
 ·by_cases hlt:wv A<wv C
  ·rw [ze (by show kz _=_;rw [uj hlt];rfl)];refine Zb ?_;refine zO ((a2,l2,f,C),(a1,l1,e,A)) ⟨rfl,rfl,eP⟩ ⟨rfl,rfl,rfl,B,u,i,g,R.2,?_,B8 _ _,.inr rfl⟩;show (gP A)≤1;rcases b with b|b
   ·exact b
   rcases Ci (gP C) (gP A) with m|m
   ·have:=i.len_lt g m;omega
   omega
  rw [za (by
   show kz _=_;rcases Ci (wv C) (wv A) with h|h
   ·rw [tA h];rfl
   ·rw [show wv A=wv C from zo,mU];rfl)]
  refine zN ?_;refine zO ((a1,l1,e,A),(a2,l2,f,C)) ⟨rfl,rfl,eP⟩ ⟨rfl,rfl,rfl,u,B,g,i,R.1,?_,rfl,.inl rfl⟩;show (gP C)≤1;rcases b with b|b
  ·rcases Ci (gP A) (gP C) with m|m
   ·have:=g.len_lt i m;omega
   omega
  exact b
 rintro ⟨⟨a,l,c,X⟩,⟨a',l',c',Y⟩⟩ t _ _ _ ⟨rfl,rfl,rfl,D,F,V,W,a3,I,S,hv⟩;simp only at D F V W a3 I S hv;rw [←S];clear S b R u B g i;have eX:=D.lenW;have eY:=F.lenW;subst eX eY;refine zN ?_;cases Y with
 |nil=>
  refine Zn ?_;exact retH _ ⟨rfl,(zk rfl),rfl⟩ ⟨X,⟨rfl,eT,Ext.refl _ _,D,V⟩,by rw [show wv []=0 from rfl,Nat.gcd_zero_right],.inr hv⟩
 |cons y Y=>
 have a4:Y=[]:=by simpa using I
 subst a4;have H:y<18446744073709551616:=W.1 y gN;have ah:y≠0:=NW.last (l:=[]) W;rw [nl];rw [show [y].length=1 from rfl] at F ⊢;refine ZB ?_;refine zB _ R5 (pz (k+3) D zo) ?_;rintro v5 h2 n2 _ ⟨rfl,J,O,M,_⟩;obtain ⟨a5,l5,c5,rfl,_⟩:=M.len;refine zM ?_;refine zB _ R5 (pz (k+3) (L:=[y]) (F.ext O J) gN) ?_;rintro v6 q U _ ⟨rfl,a8,P,ag,a7⟩;obtain ⟨b6,rfl,_,ae,ad,K,_⟩:=(a7 gN).inv2 gN;rw [show [y].length=1 from rfl];have o:Ext n h q:=O.trans P J;have Z:GK.G q:=rA hG o hn;have T:=M.ext P a8;refine Za ?_;refine z9 (α:=Unit) (fun _=>[(5,jx a5 l5 c5),(6,jx (some ⟨b6,0,none⟩) 1 1)]) (fun _ j p w=>q=j∧U=p∧w=[]) (fun _=>0) () ⟨rfl,rfl,eP⟩ ⟨rfl,rfl,rfl⟩ (by show 0<LL;decide) ?_;rintro _ t _ _ _ ⟨rfl,rfl,rfl⟩;refine Zb ?_;rw [za rfl];refine Zb ?_;refine ZA ?_;refine zm [0,1,3,0,0,16,48,120,255,511,1023] rfl ?_;repeat refine zD ?_
 refine zZ R6 (zX rfl K (v:=jy .u64 (y:Int)) R2) R2 ?_;repeat refine zD ?_
 refine zZ R6 (zX rfl K (v:=jy .u64 (y:Int)) R2) R2 ?_;refine df _ R7 (zbm k (l:=X) (d:=y) zo V.1 ⟨zo,H⟩ T) ?_;rintro _ rfl;refine df _ R7 (zb2 (k+2) Z U H (Nat.lt_trans (Bo _ zo) H)) ?_;rintro _ rfl;refine yM _ R7 (mC (k+3) q U (Ae (Ff _ zo) H)) ?_;rintro v9 h9 n9 _ ⟨L9,⟨rfl,aa,ac,N,a0⟩,ab,af,a6⟩;obtain ⟨a9,l9,c9,rfl,_⟩:=N.len;refine ⟨rO,aa,?_⟩;refine Zs ?_;exact retH _ ⟨rfl,(zk rfl),rfl⟩ ⟨L9,⟨rfl,by show n≤n9;omega,o.trans ac zo,N,a0⟩,by rw [ab,zja],.inl (a6.mono zo)⟩
theorem zi6 (k:Nat){b:Bool}{c:Nat}{L:List Nat}(o:Sl h n 1 (jx a l c) (u64s L))(q:NW L):VF (cal (k+1)) 118 [.agg #[kz b,jx a l c]] h n fun v=>v=kz (!b&&decide (wv L=1)):=by
 refine zI (fn:=Tryz.f118) R4 ?_;have m:=o.lenW;subst m;refine zN ?_;refine we (cs:=[kz b,jx a (gP L) c]) R5 ?_;generalize hh:upd h (3*n+2) _=h1;have p:Ext n h h1:=by rw [←hh];exact Ext.upd zo
 have g:∃e,h1 (3*n+2)=some (.row [kz b,jx a (gP L) c] e):=⟨_,by rw [←hh,zh]⟩;obtain ⟨w,g⟩:=g;clear hh;have i:=o.ext p (ux n);refine Zk ?_;refine zl R6 g (v:=kz b) R2 ?_;cases b with
 |true=>
  refine Za ?_;exact retF _ rfl (zk rfl) R2 rfl
 |false=>
 repeat refine zR ?_
 refine zl R6 g (v:=jx a (gP L) c) R2 ?_;by_cases h1:gP L=1
 ·obtain ⟨d,rfl⟩:=Dw.1 h1;rw [show [d].length=1 from rfl] at g i ⊢;repeat refine zR ?_
  refine zl R6 g (v:=jx a 1 c) R2 ?_;refine xt (f:=fun d:Nat=>jy .u64 (d:Int)) (l:=[d]) (j:=0) R7 i ⟨rfl,gN⟩ rfl (fun _=>rfl) R4 fun _=>?_;rw [nl];by_cases hd:d=1
  ·refine Za ?_;exact retF _ rfl (zk rfl) R2 (by rw [bO hd];rfl)
  refine Za ?_;exact retF _ rfl (zk rfl) R2 (by rw [aD hd];rfl)
 have u:wv L≠1:=fun e=>h1 (by rw [q.inj (NW.one (d:=1) zd zd) (by rw [e,nl])];rfl);refine Za ?_;exact retF _ rfl (zk rfl) R2 (by rw [aD u];rfl)
end
section
variable {z:Value}{e sT:TypeId}{a:Option Addr}{x:Operand}
def i64s (l:List Int):List Value:=l.map (jy .i64)
def ExtT (n bt:Nat)(h h':HF):Prop:=∀b,b<3*n→b≠bt→h' b=h b
theorem ExtT.refl (n bt:Nat)(h:HF):ExtT n bt h h:=fun _ _ _=>rfl
theorem Ext.t {n:Nat}{h:HF}(e:Ext n h h'):ExtT n bt h h':=fun k g _=>e k g
theorem RatR.old {h:HF}{n m:Nat}{ld:List Nat}{y:Option BF}(r:RatR h n n1 n2 d1 d2 q ln ld)(l:yj m n2)(j:yj m d2)(g:b<3*m):RatR (upd h b y) n n1 n2 d1 d2 q ln ld:=⟨r.num.old l g,r.neg,r.sl.old j g,r.norm,r.val⟩
theorem yB:∀{W w:List Nat},(∀b∈W,b=bt)→(∀b∈w,b=bt)→∀b∈addW n0 W w,b=bt:=by
 intro W w g j b l;rcases yX.1 l with h|⟨h,_⟩
 ·exact j b h
 exact g b h
theorem Gro.extT {h:HF}{n:Nat}(g:Gro h lo n e sz v len c)(j:ExtT n bt h h')(l:bt<3*lo)(p:n≤n'):Gro h' lo n' e sz v len c:=by
 cases g with
 |nil=>exact .nil
 |at_ hg hlo hb hr hl ho=>exact .at_ hg hlo zo (by rw [j _ hb zo];exact hr) hl ho
theorem Sl.cap {h:HF}{n:Nat}{cap:Nat}(s:Sl h n sz (jx a len cap) c):len≤cap:=by
 by_cases h0:len=0
 ·omega
 obtain ⟨_,_,_,_,_,_,_,_,h,_⟩:=s.inv h0;exact h
def strs (l:List (List UInt8)):List Value:=l.map fun s=>kF ⟨⟨s⟩⟩
theorem fC (a b:List (List UInt8)):strs (a++b)=strs a++strs b:=by simp [strs]
theorem zhz (a:List (List UInt8)):gP (strs a)=gP a:=by simp [strs]
theorem pO {m:Nat}:∀{l:List (Nat×Nat)},xU m l=true→yc m W l=true:=by
 intro l;induction l with
 |nil=>intro _;rfl
 |cons x l ih=>
  intro h;obtain ⟨i,b⟩:=x;unfold xU at h;split at h
  ·rename_i hb;unfold yc;rw [hb,Bool.true_or];exact ih h
  cases h
theorem zeq:∀{W:List Nat},(∀c∈W,c=bt)→b≠bt→memN b W=false:=by
 intro W;induction W with
 |nil=>intro _ _;rfl
 |cons c W ih=>
  intro h g;unfold memN;have j:=h c gN;have:AG b c=false:=by
   cases he:AG b c with
   |false=>rfl
   |true=>exact cA ((Aw he).trans j) g
  rw [this];exact ih (fun x l=>h x (by simp [l])) g
theorem zbq {m:Nat}(g:∀c∈W,c=bt):∀{l:List (Nat×Nat)},(∀x∈l,x.2≠bt)→yc m W l=true:=by
 intro l;induction l with
 |nil=>intro _;rfl
 |cons x l ih=>
  intro h;obtain ⟨i,b⟩:=x;unfold yc;rw [zeq g (h (i,b) gN),BJ,DB];exact ih fun y j=>h y (by simp [j])
theorem zbs {u:Nat}(j:b≠bt):∀{l:List (Nat×HF×List Nat)},(∀x∈l,∀c∈x.2.2,c=bt)→wz u b l=true:=by
 intro l;induction l with
 |nil=>intro _;rfl
 |cons x l ih=>
  intro h;obtain ⟨e,g,W⟩:=x;unfold wz;rw [zeq (h (e,g,W) gN) j,BJ,DB];exact ih fun y p=>h y (by simp [p])
section
variable {r:List Oper}{t:TF}{ld:List (Nat×Nat)}{o:Oper}{d:Tmp}
theorem zll {s:Operand}{mm:Nat}(l:sh X ops t o d (o.op=.call {callee:=.builtin .append,args:=#[s,x],argTypes:=#[sT,xT]}∧(match X.E.und xT with|some (.int _)=>false|none=>false|_=>true)=true∧X.E.und sT=some (.slice e)∧X.E.inf e=some (size,bytes,z)∧gP (zC z)=size))(D:1≤size∧1≤bytes)(A:xg m ef=true)(B:xU m al=true)(C:xU m ld=true)(L:Gro h lo n e size (evF t s) len c)(R:argS h size (evF t x) mm new)(N:1≤mm)(j:(len+mm)*bytes≤1099511627776)(hl:gP new=mm*size)(u:ones new=true)(p:X.n0≤lo∧lo≤n)
  (k:∀g h' W,Gro h' lo (n+1) e size g (len+mm) (c++new)→Ext lo h h'→Keep (evF t s) n h h'→yj n g→ED X ops r ms (i+1) ⟨⟨upd t d g,h',n+1,w⟩,al,ld,(i,h,W)::ef⟩ Q):ED X ops (o::r) (m::ms) i ⟨⟨t,h,n,w⟩,al,ld,ef⟩ Q:=by
 obtain ⟨l,hd,hn,O,y,P,M,S⟩:=l;obtain ⟨g,h',W,F,G,H,J,I,K⟩:=wW P M S D L R N j hl u p.2;refine mK l hd hn O y F A B (pO C) zs ?_;rw [z0 fun b j=>by have:=I b j;omega];exact k g h' W G H J K
theorem mI (P:Value→HF→Nat→List Nat→Prop)(l:sh X ops t o d (cls o.op=3∧effF X.E o.op (evF t) h n=some (.enter f args)∧xg m ef=true∧xU m al=true))(g:CF X.C f args h n P)(p:∀v h' n' W,P v h' n' W→(∀b∈W,b=bt)∧n≤n')(s:∀x∈ld,x.2≠bt)
  (k:∀v h' n' W,P v h' n' W→ED X ops r ms (i+1) ⟨⟨upd t d v,h',n',addW X.n0 W w⟩,al,ld,(i,h,W)::ef⟩ Q):ED X ops (o::r) (m::ms) i ⟨⟨t,h,n,w⟩,al,ld,ef⟩ Q:=by obtain ⟨l,B,F,A,D,u,y⟩:=l;exact yM P ⟨l,B,F,A,D,u,y⟩ g fun v h' n' W j=>⟨zbq (p v h' n' W j).1 s,(p v h' n' W j).2,k v h' n' W j⟩
end
def Pt (φ:Nat→Prop)(v:Value):Prop:=∀a l c,v=jx (some a) l c→φ a.block
theorem Pt.of_fresh {n:Nat}(h:yj n v):Pt (fun b=>3*n≤b) v:=fun a l c e=>by subst e;exact h
theorem Pt.of_below {n:Nat}(h:Below n v):Pt (fun b=>b<3*n) v:=fun a l c e=>by subst e;exact h
end
section
variable {cap l:Nat}{e sT:TypeId}{x:Operand}{z:Value}
theorem oI {h:HF}{n:Nat}{P:Value→HF→Nat→List Nat→Prop}(g:GK.orc f args=none∧env.fn f=some fn∧fn.body=some body∧Ai (gP args) fn.ntmps=true)
  (F:EC (ctx k n fn.ntmps) body ⟨kd args,h,n,[]⟩ fun e s=>rz e=true∧∃a,resF env s fn.results.toList=some a∧P (pg a) s.h s.n s.w∧(s.w=[]→P (pg a) h n [])):CF (cal (k+1)) f args h n P:=by
 obtain ⟨g,i,D,p⟩:=g;refine nk g i D p (tY F fun e s ⟨q,a,u,y,B⟩=>⟨q,a,u,?_⟩);unfold endF;split
 ·rename_i hw;exact B hw
 exact y
section
variable {r:List Oper}{t:TF}{o:Oper}{d:Tmp}
theorem upd_self {x:Option BF}(a:h b=x):upd h b x=h:=by
 funext j;by_cases e:j=b
 ·rw [e,zh,a]
 rw [zj e]
theorem nj {w:List Nat}:addW n0 [] w=w:=rfl
theorem cV {s:Operand}{a:Nat}(q:sh X ops t o d (o.op=.call {callee:=.builtin .copy,args:=#[s,x],argTypes:=#[sT,xT]}∧X.E.und sT=some (.slice e)∧X.E.inf e=some (size,bytes,z)∧evF t s=jx (some ⟨b,0,none⟩) a cap))(O:argS h size (evF t x) m cs)(N:m≤a)(D:h b=some (.row c e3))(hl:gP cs≤gP c)(K:ones cs=true)(p:3*X.n0≤b)
  (k:EO X ops r ⟨upd t d (jy .i64 (m:Int)),upd h b (some (.row (cs++c.drop (gP cs)) e3)),n,w⟩ Q):EO X ops (o::r) ⟨t,h,n,w⟩ Q:=by
 obtain ⟨q,hd,hn,G,J,F,H⟩:=q;have g:Nat.min m a=m:=Be N;have hc:∃W,kb X.E h n sT (evF t s) (evF t x)=some (.val (jy .i64 (m:Int)) (upd h b (some (.row (cs++c.drop (gP cs)) e3))) n W)∧∀y∈W,y=b:=by
  obtain ⟨u,B⟩:=O;cases cs with
  |nil=>
   refine ⟨[],?_,fun y i=>by cases i⟩;rw [AN,DE,AQ,upd_self D];simp only [kb,J,F,H,u,g,B];rfl
  |cons v cs=>
   refine ⟨[b],?_,fun y i=>nP.1 i⟩;have I:vl h ⟨b,0,none⟩ (v::cs)=some (upd h b (some (.row ((v::cs)++c.drop (gP (v::cs))) e3))):=by
    rw [um D zo K];unfold zw;rw [List.take_zero,AN,AA]
   simp only [kb,J,F,H,u,g,B,I];rfl
 obtain ⟨W,hc,L⟩:=hc;have M:effF X.E o.op (evF t) h n=some (.val (jy .i64 (m:Int)) (upd h b (some (.row (cs++c.drop (gP cs)) e3))) n W):=by
  rw [G];exact hc
 rw [qN q (by rw [hd];exact hn) (by rw [G];rfl) M,hd,z0 fun y i=>by rw [L y i];exact p];exact k
end
theorem Sl.extW {h:HF}{n:Nat}(s:Sl h n sz v c)(e:ExtT n b h h')(p:Off b v):Sl h' n sz v c:=
 s.keep (fun a l cap g=>by
  have i:=s.below;subst g;exact e _ i p) eT
theorem iH {h:HF}{n:Nat}{X:List Nat}(a:b<3*n)(i:h b=some (.row (u64s X) e))(g:gP X≤cap):Sl h n 1 (jx (some ⟨b,0,none⟩) (gP X) cap) (u64s X):=.at_ a i rfl g (by rw [yh];omega) (by rw [AQ,Aa (by rw [yh];omega)])
theorem mn {D X:List Nat}{x:Nat}(a:X[gP D]?=some x):(D++X.drop (gP D))[gP D]?=some x:=by
 rw [AE eT,A7,B3,BC,a]
theorem yC {X:List Nat}{x:Nat}(a:X[j]?=some x):wv (X.take (j+1))=wv (X.take j)+18446744073709551616^j*x:=xG a
theorem uF (D:List Nat)(d:Nat):wv (D++[d])=wv D+18446744073709551616^gP D*d:=rV _ _ _
theorem qc (D E:List Nat):wv (D++E)=wv D+18446744073709551616^gP D*wv E:=tQ _ _ _
theorem dW (X:List Nat)(j:Nat)(a:j≤gP X):wv X=wv (X.take j)+18446744073709551616^j*wv (X.drop j):=by
 conv=>lhs;rw [←Bf j X]
 rw [qc,Af,Be a]
theorem gW {x y c s:Nat}(a:V+c*P=U)(g:18446744073709551616*c'+s=x+y+c):V+P*s+c'*(P*18446744073709551616)=U+P*x+P*y:=by
 subst a;have:P*(18446744073709551616*c'+s)=P*(x+y+c):=by rw [g]
 rw [A1,A1,A1,←Az] at this;rw [vT c' (P*18446744073709551616),vT c P];omega
theorem io {W x y c s:Nat}(a:V+W=U+c*P)(g:s+y+c=x+18446744073709551616*c'):V+P*s+(W+P*y)=U+P*x+c'*(P*18446744073709551616):=by
 have:P*(s+y+c)=P*(x+18446744073709551616*c'):=by rw [g]
 rw [A1,A1,A1,←Az] at this;rw [vT c' (P*18446744073709551616)];rw [vT c P] at a;omega
theorem kj {x y c:Nat}(g:x<18446744073709551616)(i:y<18446744073709551616)(a:c≤1):(x+18446744073709551616-y-c)%18446744073709551616+y+c=x+18446744073709551616*(if y+c≤x then 0 else 1):=by
 by_cases h:y+c≤x
 ·rw [eN h];omega
 rw [cC h];omega
def RowW (n:Nat)(h:HF)(b:Nat)(e:TypeId)(h':HF)(n':Nat)(w:List Nat)(L:List Nat):Prop:=(∀c∈w,c=b)∧n'=n∧ExtT n b h h'∧h' b=some (.row (u64s L) e)
theorem zcu (k:Nat){h:HF}{n cX:Nat}{X Y:List Nat}(T:b<3*n)(a3:h b=some (.row (u64s X) e))(a8:gP X≤cX)(hX:WdD X)(Z:Sl h n 1 (jx aY l cY) (u64s Y))(hY:WdD Y)(ho:Off b (jx aY l cY))(hl:gP Y≤gP X)(a7:gP X<1000000000)(hv:wv X+wv Y<18446744073709551616^gP X):
  CF (cal (k+1)) 192 [jx (some ⟨b,0,none⟩) (gP X) cX,jx aY l cY] h n fun _ h' S w=>∃L,RowW n h b e h' S w L∧WdD L∧gP L=gP X∧wv L=wv X+wv Y:=by
 refine oI (fn:=Tryz.f192) R4 ?_;have a5:=Z.lenW;subst a5;have W:∀(t:TF) (h':HF) (w:List Nat) (D:List Nat) (c:Nat),(∀x∈w,x=b)→ExtT n b h h'→(w=[]→h'=h)→h' b=some (.row (u64s (D++X.drop (gP D))) e)→gP D≤gP X→WdD D→wv D+c*18446744073709551616^gP D=wv (X.take (gP D))+wv Y→c=0→(rz .normal=true∧∃vs,resF env ⟨t,h',n,w⟩ (Tryz.f192).results.toList=some vs∧(∃L,RowW n h b e h' n w L∧WdD L∧gP L=gP X∧wv L=wv X+wv Y)∧(w=[]→∃L,RowW n h b e h n [] L∧WdD L∧gP L=gP X∧wv L=wv X+wv Y)):=by
  intro t h' w D c g1 g2 g3 g4 g5 g6 g7 g8;have hL:∃L,RowW n h b e h' n w L∧WdD L∧gP L=gP X∧wv L=wv X+wv Y:=⟨_,⟨g1,rfl,g2,g4⟩,g6.append (hX.drop _),by rw [nn,Ak];omega,by
   subst g8;rw [qc];have h1:=dW X (gP D) g5;omega⟩
  refine ⟨rfl,[],rfl,hL,fun F=>?_⟩;subst F;rw [g3 rfl] at hL;exact hL
 refine Zx ?_;refine z9 (α:=List Nat×Nat) (fun z=>[(0,jx (some ⟨b,0,none⟩) (gP X) cX),(1,jx aY (gP Y) cY),(4,jy .u64 (z.2:Int)),(8,jx aY (gP Y) cY),(9,jy .i64 (gP Y:Int)),(10,jy .i64 (gP z.1:Int))])
  (fun z h' S w=>n=S∧(∀x∈w,x=b)∧ExtT n b h h'∧(w=[]→h'=h)∧h' b=some (.row (u64s (z.1++X.drop (gP z.1))) e)∧gP z.1≤gP Y∧WdD z.1∧z.2≤1∧wv z.1+z.2*18446744073709551616^gP z.1=wv (X.take (gP z.1))+wv (Y.take (gP z.1))) (fun z=>gP Y-gP z.1)
  ([],0) ⟨rfl,rfl,rfl,rfl,rfl,rfl,eP⟩ ⟨rfl,fun x u=>cA u nN,ExtT.refl _ _ _,fun _=>rfl,a3,eU,WdD.nil,by show (0:Nat)≤1;decide,by simp [wv,dv]⟩ (by show gP Y-0<LL;unfold LL;omega) ?_
 rintro ⟨D,c⟩ t h1 _ w ⟨rfl,F,i,G,a,K,g,I,p⟩;simp only at a K g I p;refine zN ?_;by_cases hDY:gP D=gP Y;case neg=>
  obtain ⟨y,hy⟩:∃y,Y[gP D]?=some y:=⟨Y[gP D]'zo,k4 zo⟩;obtain ⟨x,u⟩:∃x,X[gP D]?=some x:=⟨X[gP D]'zo,k4 zo⟩;have a9:=hY.get hy;have a6:=hX.get u;have M:=iH (cap:=cX) T a (by rw [nn,Ak];omega);rw [show (D++X.drop (gP D)).length=gP X from by rw [nn,Ak];omega] at M;refine Zr ?_;refine xt (f:=fun d:Nat=>jy .u64 (d:Int)) (j:=gP D) R7 (Z.extW i ho) R2 hy (fun _=>rfl) R4 fun _=>?_;refine Zk ?_;refine xt (f:=fun d:Nat=>jy .u64 (d:Int)) (j:=gP D) R7 M R2 (mn u) (fun _=>rfl) R4 fun _=>?_;repeat refine zR ?_
  refine qo (x:=x) (y:=y) (c:=c) R5 I ?_;obtain ⟨s,J⟩:∃s,s=(x+y+c)%18446744073709551616:=⟨_,rfl⟩;obtain ⟨c',q⟩:∃c',c'=(x+y+c)/18446744073709551616:=⟨_,rfl⟩;rw [←J,←q];repeat refine zR ?_
  refine xa (j:=gP D) (off:=0) (v:=jy .u64 (s:Int)) R8 rfl ⟨zo,by rw [yh,nn,Ak];omega⟩ a T (fun _=>rfl) R3 (fun _=>rfl) rfl fun _=>?_;rw [AA,vy,qr _ u];refine Zl ?_;have R:s<18446744073709551616:=by rw [J];exact Bo _ zd
  have N:c'≤1:=by rw [q];omega
  have O:18446744073709551616*c'+s=x+y+c:=by rw [J,q];omega
  refine goOn (D++[s],c') (by show gP Y-gP (D++[s])<gP Y-gP D;rw [nn,xl];omega) ⟨rfl,rfl,rfl,rfl,rfl,by show jy .i64 _=jy .i64 _;rw [nn];rfl,eP⟩ ⟨rfl,fun z B=>by
   rcases sP.1 B with rfl|B
   ·rfl
   ·exact F z B,fun z B H=>(zj H).trans (i z B H),fun h=>(by cases h),zh _ _ _,by show gP (D++[s])≤_;rw [nn,xl];omega,WdD.snoc g R,N,?_⟩
  simp only;rw [nn,xl,uF,yC u,yC hy,Ar];have:=gW p O;omega
 have a0:Y.take (gP D)=Y:=by rw [hDY,Ax]
 rw [a0] at p;refine Zi ?_;refine z9 (α:=List Nat×Nat) (fun z=>[(0,jx (some ⟨b,0,none⟩) (gP X) cX),(4,jy .u64 (z.2:Int)),(7,jy .i64 (gP z.1:Int))])
  (fun z h' S w=>n=S∧(∀x∈w,x=b)∧ExtT n b h h'∧(w=[]→h'=h)∧h' b=some (.row (u64s (z.1++X.drop (gP z.1))) e)∧gP z.1≤gP X∧WdD z.1∧z.2≤1∧wv z.1+z.2*18446744073709551616^gP z.1=wv (X.take (gP z.1))+wv Y) (fun z=>gP X-gP z.1)
  (D,c) ⟨rfl,rfl,by show jy .i64 _=jy .i64 _;rw [hDY],eP⟩ ⟨rfl,F,i,G,a,by show gP D≤_;omega,g,I,p⟩ (by show gP X-gP D<LL;unfold LL;omega) ?_
 clear p I g a G i F a0 hDY K;rintro ⟨D,c⟩ t h1 _ w ⟨rfl,F,i,G,a,K,g,I,p⟩;simp only at a K g I p;refine zN ?_;by_cases hc0:c=0
 ·refine Zj ?_;exact W _ _ _ D c F i G a K g p hc0
 by_cases hDX:gP D=gP X
 ·refine Zj ?_;refine W _ _ _ D c F i G a K g p ?_;have a4:=zcw g;rw [hDX,Ax] at p;rw [hDX] at a4;rcases DC c with h|h
  ·exact h
  have:=Ab (18446744073709551616^gP X) h;omega
 obtain ⟨x,u⟩:∃x,X[gP D]?=some x:=⟨X[gP D]'zo,k4 zo⟩;have a6:=hX.get u;have M:=iH (cap:=cX) T a (by rw [nn,Ak];omega);rw [show (D++X.drop (gP D)).length=gP X from by rw [nn,Ak];omega] at M;refine Zr ?_;refine xt (f:=fun d:Nat=>jy .u64 (d:Int)) (j:=gP D) R7 M R2 (mn u) (fun _=>rfl) R4 fun _=>?_;repeat refine zR ?_
 refine qo (x:=x) (y:=0) (c:=c) R5 I ?_;obtain ⟨s,J⟩:∃s,s=(x+0+c)%18446744073709551616:=⟨_,rfl⟩;obtain ⟨c',q⟩:∃c',c'=(x+0+c)/18446744073709551616:=⟨_,rfl⟩;rw [←J,←q];repeat refine zR ?_
 refine xa (j:=gP D) (off:=0) (v:=jy .u64 (s:Int)) R8 rfl ⟨zo,by rw [yh,nn,Ak];omega⟩ a T (fun _=>rfl) R3 (fun _=>rfl) rfl fun _=>?_;rw [AA,vy,qr _ u];refine Zl ?_;have R:s<18446744073709551616:=by rw [J];exact Bo _ zd
 have N:c'≤1:=by rw [q];omega
 have O:18446744073709551616*c'+s=x+0+c:=by rw [J,q];omega
 refine goOn (D++[s],c') (by show gP X-gP (D++[s])<gP X-gP D;rw [nn,xl];omega) ⟨rfl,rfl,by show jy .i64 _=jy .i64 _;rw [nn];rfl,eP⟩ ⟨rfl,fun z B=>by
  rcases sP.1 B with rfl|B
  ·rfl
  ·exact F z B,fun z B H=>(zj H).trans (i z B H),fun h=>(by cases h),zh _ _ _,by show gP (D++[s])≤_;rw [nn,xl];omega,WdD.snoc g R,N,?_⟩
 simp only;rw [nn,xl,uF,yC u,Ar];have:=gW p O;omega
theorem kh (k:Nat){h:HF}{n cX:Nat}{X Y:List Nat}(W:b<3*n)(a5:h b=some (.row (u64s X) e))(a9:gP X≤cX)(hX:WdD X)(a0:Sl h n 1 (jx aY l cY) (u64s Y))(hY:WdD Y)(ho:Off b (jx aY l cY))(hl:gP Y≤gP X)(a8:gP X<1000000000)(hv:wv Y≤wv X):
  CF (cal (k+1)) 195 [jx (some ⟨b,0,none⟩) (gP X) cX,jx aY l cY] h n fun _ h' T w=>∃L,RowW n h b e h' T w L∧WdD L∧gP L=gP X∧wv L+wv Y=wv X:=by
 refine oI (fn:=Tryz.f195) R4 ?_;have a7:=a0.lenW;subst a7;have Z:∀(t:TF) (h':HF) (w:List Nat) (D:List Nat) (c:Nat),(∀x∈w,x=b)→ExtT n b h h'→(w=[]→h'=h)→h' b=some (.row (u64s (D++X.drop (gP D))) e)→gP D≤gP X→WdD D→wv D+wv Y=wv (X.take (gP D))+c*18446744073709551616^gP D→c=0→(rz .normal=true∧∃vs,resF env ⟨t,h',n,w⟩ (Tryz.f195).results.toList=some vs∧(∃L,RowW n h b e h' n w L∧WdD L∧gP L=gP X∧wv L+wv Y=wv X)∧(w=[]→∃L,RowW n h b e h n [] L∧WdD L∧gP L=gP X∧wv L+wv Y=wv X)):=by
  intro t h' w D c g1 g2 g3 g4 g5 g6 g7 g8;have hL:∃L,RowW n h b e h' n w L∧WdD L∧gP L=gP X∧wv L+wv Y=wv X:=⟨_,⟨g1,rfl,g2,g4⟩,g6.append (hX.drop _),by rw [nn,Ak];omega,by
   subst g8;rw [qc];have h1:=dW X (gP D) g5;omega⟩
  refine ⟨rfl,[],rfl,hL,fun G=>?_⟩;subst G;rw [g3 rfl] at hL;exact hL
 refine Zx ?_;refine z9 (α:=List Nat×Nat) (fun z=>[(0,jx (some ⟨b,0,none⟩) (gP X) cX),(1,jx aY (gP Y) cY),(4,jy .u64 (z.2:Int)),(8,jx aY (gP Y) cY),(9,jy .i64 (gP Y:Int)),(10,jy .i64 (gP z.1:Int))])
  (fun z h' T w=>n=T∧(∀x∈w,x=b)∧ExtT n b h h'∧(w=[]→h'=h)∧h' b=some (.row (u64s (z.1++X.drop (gP z.1))) e)∧gP z.1≤gP Y∧WdD z.1∧z.2≤1∧wv z.1+wv (Y.take (gP z.1))=wv (X.take (gP z.1))+z.2*18446744073709551616^gP z.1) (fun z=>gP Y-gP z.1)
  ([],0) ⟨rfl,rfl,rfl,rfl,rfl,rfl,eP⟩ ⟨rfl,fun x u=>cA u nN,ExtT.refl _ _ _,fun _=>rfl,a5,eU,WdD.nil,by show (0:Nat)≤1;decide,by simp [wv,dv]⟩ (by show gP Y-0<LL;unfold LL;omega) ?_
 rintro ⟨D,c⟩ t h1 _ w ⟨rfl,G,i,H,a,K,g,F,p⟩;simp only at a K g F p;refine zN ?_;by_cases hDY:gP D=gP Y;case neg=>
  obtain ⟨y,hy⟩:∃y,Y[gP D]?=some y:=⟨Y[gP D]'zo,k4 zo⟩;obtain ⟨x,u⟩:∃x,X[gP D]?=some x:=⟨X[gP D]'zo,k4 zo⟩;have a4:=hY.get hy;have S:=hX.get u;have M:=iH (cap:=cX) W a (by rw [nn,Ak];omega);rw [show (D++X.drop (gP D)).length=gP X from by rw [nn,Ak];omega] at M;refine Zr ?_;refine xt (f:=fun d:Nat=>jy .u64 (d:Int)) (j:=gP D) R7 (a0.extW i ho) R2 hy (fun _=>rfl) R4 fun _=>?_;refine Zk ?_;refine xt (f:=fun d:Nat=>jy .u64 (d:Int)) (j:=gP D) R7 M R2 (mn u) (fun _=>rfl) R4 fun _=>?_;repeat refine zR ?_
  refine cK (x:=x) (y:=y) (c:=c) R5 F ?_;obtain ⟨s,J⟩:∃s,s=(x+18446744073709551616-y-c)%18446744073709551616:=⟨_,rfl⟩;obtain ⟨c',q⟩:∃c',c'=(if y+c≤x then 0 else 1):=⟨_,rfl⟩;rw [←J,←q];repeat refine zR ?_
  refine xa (j:=gP D) (off:=0) (v:=jy .u64 (s:Int)) R8 rfl ⟨zo,by rw [yh,nn,Ak];omega⟩ a W (fun _=>rfl) R3 (fun _=>rfl) rfl fun _=>?_;rw [AA,vy,qr _ u];refine Zl ?_;have R:s<18446744073709551616:=by rw [J];exact Bo _ zd
  have N:c'≤1:=by rw [q];split<;>decide
  have O:s+y+c=x+18446744073709551616*c':=by rw [J,q];exact kj S (by first|exact a4|decide) F
  refine goOn (D++[s],c') (by show gP Y-gP (D++[s])<gP Y-gP D;rw [nn,xl];omega) ⟨rfl,rfl,rfl,rfl,rfl,by show jy .i64 _=jy .i64 _;rw [nn];rfl,eP⟩ ⟨rfl,fun z B=>by
   rcases sP.1 B with rfl|B
   ·rfl
   ·exact G z B,fun z B I=>(zj I).trans (i z B I),fun h=>(by cases h),zh _ _ _,by show gP (D++[s])≤_;rw [nn,xl];omega,WdD.snoc g R,N,?_⟩
  simp only;rw [nn,xl,uF,yC u,yC hy,Ar];have:=io p O;omega
 have a3:Y.take (gP D)=Y:=by rw [hDY,Ax]
 rw [a3] at p;refine Zi ?_;refine z9 (α:=List Nat×Nat) (fun z=>[(0,jx (some ⟨b,0,none⟩) (gP X) cX),(4,jy .u64 (z.2:Int)),(7,jy .i64 (gP z.1:Int))])
  (fun z h' T w=>n=T∧(∀x∈w,x=b)∧ExtT n b h h'∧(w=[]→h'=h)∧h' b=some (.row (u64s (z.1++X.drop (gP z.1))) e)∧gP z.1≤gP X∧WdD z.1∧z.2≤1∧wv z.1+wv Y=wv (X.take (gP z.1))+z.2*18446744073709551616^gP z.1) (fun z=>gP X-gP z.1)
  (D,c) ⟨rfl,rfl,by show jy .i64 _=jy .i64 _;rw [hDY],eP⟩ ⟨rfl,G,i,H,a,by show gP D≤_;omega,g,F,p⟩ (by show gP X-gP D<LL;unfold LL;omega) ?_
 clear p F g a H i G a3 hDY K;rintro ⟨D,c⟩ t h1 _ w ⟨rfl,G,i,H,a,K,g,F,p⟩;simp only at a K g F p;refine zN ?_;by_cases hc0:c=0
 ·refine Zj ?_;exact Z _ _ _ D c G i H a K g p hc0
 by_cases hDX:gP D=gP X
 ·refine Zj ?_;refine Z _ _ _ D c G i H a K g p ?_;have a6:=zcw g;rw [hDX,Ax] at p;rw [hDX] at a6;rcases DC c with h|h
  ·exact h
  have:=Ab (18446744073709551616^gP X) h;omega
 obtain ⟨x,u⟩:∃x,X[gP D]?=some x:=⟨X[gP D]'zo,k4 zo⟩;have S:=hX.get u;have M:=iH (cap:=cX) W a (by rw [nn,Ak];omega);rw [show (D++X.drop (gP D)).length=gP X from by rw [nn,Ak];omega] at M;refine Zr ?_;refine xt (f:=fun d:Nat=>jy .u64 (d:Int)) (j:=gP D) R7 M R2 (mn u) (fun _=>rfl) R4 fun _=>?_;repeat refine zR ?_
 refine cK (x:=x) (y:=0) (c:=c) R5 F ?_;obtain ⟨s,J⟩:∃s,s=(x+18446744073709551616-0-c)%18446744073709551616:=⟨_,rfl⟩;obtain ⟨c',q⟩:∃c',c'=(if 0+c≤x then 0 else 1):=⟨_,rfl⟩;rw [←J,←q];repeat refine zR ?_
 refine xa (j:=gP D) (off:=0) (v:=jy .u64 (s:Int)) R8 rfl ⟨zo,by rw [yh,nn,Ak];omega⟩ a W (fun _=>rfl) R3 (fun _=>rfl) rfl fun _=>?_;rw [AA,vy,qr _ u];refine Zl ?_;have R:s<18446744073709551616:=by rw [J];exact Bo _ zd
 have N:c'≤1:=by rw [q];split<;>decide
 have O:s+0+c=x+18446744073709551616*c':=by rw [J,q];exact kj S (by first|exact a4|decide) F
 refine goOn (D++[s],c') (by show gP X-gP (D++[s])<gP X-gP D;rw [nn,xl];omega) ⟨rfl,rfl,by show jy .i64 _=jy .i64 _;rw [nn];rfl,eP⟩ ⟨rfl,fun z B=>by
  rcases sP.1 B with rfl|B
  ·rfl
  ·exact G z B,fun z B I=>(zj I).trans (i z B I),fun h=>(by cases h),zh _ _ _,by show gP (D++[s])≤_;rw [nn,xl];omega,WdD.snoc g R,N,?_⟩
 simp only;rw [nn,xl,uF,yC u,Ar];have:=io p O;omega
theorem oJ {n:Nat}{h:HF}{L:List Nat}(a:b<3*n)(g:h b=some (.row (u64s L) e))(hl:gP L=l):Sl h n 1 (jx (some ⟨b,0,none⟩) l l) (u64s L):=by
 subst hl;exact iH a g eT
theorem sd {L:List Nat}(h:WdD L):NW (yS L)∧wv (yS L)=wv L:=⟨NW.trim h,cu _ _⟩
def zoc (n:Nat)(v u1 u2:Value):Prop:=yj n v∨v=u1∨v=u2
theorem dQ (k:Nat){h:HF}{n:Nat}{i p:Nat}(K:Sl h n 1 (jx a1 l1 i) (u64s A))(M:Sl h n 1 (jx a2 l2 p) (u64s C))(nA:NW A)(nC:NW C)(D:gP A<100000000∧gP C<100000000):
  CF (cal (k+2)) 155 [jx a1 l1 i,jx a2 l2 p] h n fun v h' S w=>∃L,ResW n h v h' S w L∧wv L=wv A+wv C∧zoc n v (jx a1 l1 i) (jx a2 l2 p):=by
 refine zu (fn:=Tryz.f155) R4 ?_;have e1:=K.lenW;have e2:=M.lenW;subst e1 e2;refine Zb ?_;refine zM ?_;refine st_I (ik:=.i64) (a:=(gP A:Int)) R5 ?_;refine zM ?_;refine st_I (ik:=.i64) (a:=(gP C:Int)) R5 ?_;refine qV R6 ?_;simp only [yN,xQ,zY,xJ];refine yu (α:=(Option Addr×Nat×List Nat)×(Option Addr×Nat×List Nat)) (fun z=>[(0,jx z.1.1 (gP z.1.2.2) z.1.2.1),(1,jx z.2.1 (gP z.2.2.2) z.2.2.1)]) (fun z h' S w=>h=h'∧n=S∧w=[]∧Sl h n 1 (jx z.1.1 (gP z.1.2.2) z.1.2.1) (u64s z.1.2.2)∧Sl h n 1 (jx z.2.1 (gP z.2.2.2) z.2.2.1) (u64s z.2.2.2)∧NW z.1.2.2∧NW z.2.2.2∧gP z.2.2.2≤gP z.1.2.2∧gP z.1.2.2<100000000∧wv z.1.2.2+wv z.2.2.2=wv A+wv C∧(jx z.1.1 (gP z.1.2.2) z.1.2.1=jx a1 (gP A) i∨jx z.1.1 (gP z.1.2.2) z.1.2.1=jx a2 (gP C) p)) ?_ ?_
 ·by_cases hlt:gP A<gP C
  ·rw [ze (by show kz _=_;rw [bO zo])];refine Zb ?_;exact zO ((a2,p,C),(a1,i,A)) ⟨rfl,rfl,eP⟩ ⟨rfl,rfl,rfl,M,K,nC,nA,by show gP A≤gP C;omega,D.2,BT _ _,.inr rfl⟩
  rw [za (by show kz _=_;rw [aD zo])];refine zN ?_;exact zO ((a1,i,A),(a2,p,C)) ⟨rfl,rfl,eP⟩ ⟨rfl,rfl,rfl,K,M,nA,nC,by show gP C≤gP A;omega,D.1,rfl,.inl rfl⟩
 rintro ⟨⟨a,c,X⟩,⟨a',c',Y⟩⟩ t _ _ _ ⟨rfl,rfl,rfl,N,O,F,T,H,a3,u,hv⟩;simp only at N O F T H a3 u hv;rw [←u];refine zN ?_;by_cases hY0:gP Y=0
 ·refine Zn ?_;rw [xd.1 hY0];exact retH _ ⟨rfl,(zk rfl),rfl⟩ ⟨X,⟨rfl,eT,Ext.refl _ _,N,F⟩,rfl,.inr hv⟩
 refine Zw ?_;refine wO (len:=gP X+1) (cap:=gP X+1) R9 zo ?_;rw [show zC (jy .u64 0)=[jy .u64 0] from rfl,sE];refine Zk ?_;have G:=N.ext (Ext.upd (h:=h) (b:=3*n+2) (x:=some (.row (u64s (pl (gP X+1) 0)) 164)) (show 3*n≤3*n+2 by omega)) (ux n);refine cV (m:=gP X) R7 (tX G) zs (zh _ _ _) (by rw [yh,yh];simp) (uu X) (by show 3*n≤3*n+2;omega) ?_;rw [xq,yh,jX,←nv,List.drop_replicate,show (gP X)+1-gP X=1 from zo];generalize hh:upd h (3*n+2) _=B;have s:∃e,B (3*n+2)=some (.row (u64s (X++[0])) e):=⟨_,by rw [←hh,zh];rfl⟩;obtain ⟨e,s⟩:=s;have J:Ext n h B:=by rw [←hh];exact Ext.upd zo
 clear hh G;have g:gP (X++[0])=gP X+1:=by simp
 have I:wv (X++[0])=wv X:=by rw [uF,Ep,BC]
 have R:wv (X++[0])+wv Y<18446744073709551616^gP (X++[0]):=by
  have B:=zcw F.1;have W:=zcw T.1;have h3:18446744073709551616^gP Y≤18446744073709551616^gP X:=Ac zd H;rw [I,g,Ar];omega
 refine Zf ?_;have q:=zcu k (h:=B) (n:=n+1) (b:=3*n+2) (X:=X++[0]) (cX:=gP X+1) zo s zo (WdD.snoc F.1 zd) (O.ext J (ux n)) T.1 (O.below.off zo) zo zo R;rw [g] at q;refine zB _ R5 q ?_;rintro _ W _ w2 ⟨L,⟨a6,rfl,a7,a4⟩,Z,a8,a0⟩;try simp only [nj]
 rw [z0 (w:=[]) fun y hy=>by rw [a6 y hy];show 3*n≤3*n+2;omega];refine Zk ?_;have a5:=uG k (h:=W) (n:=n+1) (a:=some ⟨3*n+2,0,none⟩) (len:=gP X+1) (cap:=gP X+1) (l:=L) zo (fun _ e=>by injection e with e;rw [←e]) (oJ zo a4 zo);refine zB _ R5 a5 ?_;rintro _ _ _ _ ⟨rfl,rfl,rfl,rfl,hs⟩;refine Za ?_;obtain ⟨t1,t2⟩:=sd Z;exact retH _ ⟨rfl,(zk rfl),rfl⟩ ⟨_,⟨rfl,ux n,fun b D=>(a7 b zo zo).trans (J b D),hs,t1⟩,by rw [t2,a0,I],.inl (by show 3*n≤3*n+2;omega)⟩
theorem fA (k:Nat){h:HF}{n:Nat}{u B:Nat}(D:Sl h n 1 (jx a1 l1 u) (u64s A))(F:Sl h n 1 (jx a2 l2 B) (u64s C))(H:NW A)(W:NW C)(hb:gP A<100000000)(M:wv C≤wv A):
  CF (cal (k+2)) 157 [jx a1 l1 u,jx a2 l2 B] h n fun v h' n' w=>∃L,ResW n h v h' n' w L∧wv L=wv A-wv C∧zoc n v (jx a1 l1 u) (jx a2 l2 B):=by
 refine zu (fn:=Tryz.f157) R4 ?_;have Y:=D.lenW;have Z:=F.lenW;subst Y Z;have g:gP C≤gP A:=by
  rcases Ci (gP A) (gP C) with G|G
  ·have:=H.len_lt W G;omega
  exact G
 refine Zb ?_;by_cases hC0:gP C=0
 ·refine Zn ?_;rw [xd.1 hC0];exact retH _ ⟨rfl,(zk rfl),rfl⟩ ⟨A,⟨rfl,eT,Ext.refl _ _,D,H⟩,rfl,.inr (.inl rfl)⟩
 refine ZB ?_;refine zB _ R5 (pz k D zo) ?_;rintro v1 h1 n1 _ ⟨rfl,q,s,a3,K⟩;obtain ⟨b,rfl,_,i,p,N,_⟩:=(K (fun e=>by rw [e] at g;simp at g;exact hC0 (by rw [g];rfl))).inv2 zo;refine Zk ?_;refine zB _ R5 (kh k (cX:=gP A) p N eT H.1 (F.ext s q) W.1 (F.below.off zo) g zo M) ?_;rintro _ h2 n2 w2 ⟨L,⟨S,rfl,T,O⟩,I,J,a0⟩;try simp only [nj]
 rw [z0 (w:=[]) fun y hy=>by rw [S y hy];exact i];refine Zk ?_;have R:=uG k (h:=h2) (n:=n2) (a:=some ⟨b,0,none⟩) (len:=gP A) (cap:=gP A) (l:=L) zo (fun _ e=>by injection e with e;rw [←e]) (oJ p O J);refine zB _ R5 R ?_;rintro _ _ _ _ ⟨rfl,rfl,rfl,rfl,hs⟩;refine Za ?_;obtain ⟨t1,t2⟩:=sd I;exact retH _ ⟨rfl,(zk rfl),rfl⟩ ⟨_,⟨rfl,q,fun c hc=>(T c zo zo).trans (s c hc),hs,t1⟩,by rw [t2];omega,.inl i⟩
end
section
variable {e:TypeId}{x:Operand}{cap l off:Nat}{z:Value}
section
variable {r:List Oper}{t:TF}{o:Oper}{d:Tmp}
theorem nH {lo:Operand}{j s:Int}(m a:Nat)(f:sh X ops t o d (o.op=.slice ty x (some lo) (some hi) none∧X.E.und ty=some (.slice e)∧X.E.inf e=some (sz,bt,z)∧evF t x=jx (some ⟨b,off,none⟩) len cap∧evF t lo=jy ik j∧evF t hi=jy ik' s))(G:j=(m:Int))(p:s=(a:Int))(K:m≤a∧a≤cap∧m<cap)
  (k:EO X ops r ⟨upd t d (jx (some ⟨b,off+m*sz,none⟩) (a-m) (cap-m)),h,n,w⟩ Q):EO X ops (o::r) ⟨t,h,n,w⟩ Q:=by
 obtain ⟨f,D,H,q,I,g,J,F,i⟩:=f;refine zF ⟨f,D,H,(by rw [q];rfl),?_⟩ k;rw [q];subst G p;show yQ X.E ty (evF t x) (some (evF t lo)) (some (evF t hi))=_;rw [J,F,i];have v:(0:Int)≤(a:Int)∧(a:Int)≤cap:=zo;have u:(0:Int)≤(m:Int)∧(m:Int)≤a:=zo;have c:Ai cap m=false:=by
  cases c:Ai cap m with
  |false=>rfl
  |true=>have:=Am c;omega
 have y:(gro b&&(Ai 1 m&&Ai cap m))=false:=by rw [c];simp
 have B:offA cap m sz ⟨b,off,none⟩=⟨b,off+m*sz,none⟩:=by
  unfold offA;have:AG cap m=false:=by
   cases c:AG cap m with
   |false=>rfl
   |true=>have:=Aw c;omega
  rw [this,wl]
 simp only [yQ,I,g,bnd,eN v,eN u,AP,y,B]
end
theorem zok {h:HF}{n:Nat}{P S:List Nat}(a:b<3*n)(f:h b=some (.row (u64s (P++(Z++S))) e))(c:gP Z≤cap):Sl h n 1 (jx (some ⟨b,gP P,none⟩) (gP Z) cap) (u64s Z):=by
 refine .at_ a f rfl c (by rw [yh];simp only [nn];omega) ?_;rw [jX,jW,CY rfl,AO,DH rfl]
theorem zmd {P S D:List Nat}{x:Nat}(d:Nat)(a:Z[gP D]?=some x):(P++((D++Z.drop (gP D))++S)).set (gP P+gP D) d=P++(((D++[d])++Z.drop (gP (D++[d])))++S):=by
 have c:gP D<gP Z:=(oc.1 a).1;rw [Cd _ _ zo,show (gP P)+gP D-gP P=gP D from zo,List.set_append_left _ _ (by rw [nn,Ak];omega),qr d a]
theorem zpz {v w:Nat}(a:v<18446744073709551616)(c:w<18446744073709551616):v*w≤340282366920938463426481119284349108225:=Ap (AD (Gq a) (Gq c)) zd
theorem zix {W z v w c s:Nat}(a:V+c*P=U+W*w)(f:18446744073709551616*c'+s=z+v*w+c):V+P*s+c'*(P*18446744073709551616)=U+P*z+(W+P*v)*w:=by
 have:P*(18446744073709551616*c'+s)=P*(z+v*w+c):=by rw [f]
 rw [A1,A1,A1,←Az] at this;rw [vT c' (P*18446744073709551616),AH,Az P v w];rw [vT c P] at a;omega
theorem kU (k:Nat){h:HF}{n cZ cX:Nat}{F:Option Addr}{P S X:List Nat}{w:Nat}(hb:b<3*n)(Y:h b=some (.row (u64s (P++(Z++S))) e))(ad:gP Z≤cZ)(hZ:WdD Z)(K:Sl h n 1 (jx F l cX) (u64s X))(hX:WdD X)(ho:Off b (jx F l cX))(hl:gP Z=gP X)(ac:gP X<1000000000)(i:w<18446744073709551616):
  CF (cal (k+2)) 196 [jx (some ⟨b,gP P,none⟩) (gP Z) cZ,jx F l cX,jy .u64 (w:Int)] h n fun v m n' W=>∃(L:List Nat) (c:Nat),v=jy .u64 (c:Int)∧c<18446744073709551616∧RowW n h b e m n' W (P++(L++S))∧WdD L∧gP L=gP Z∧wv L+c*18446744073709551616^gP Z=wv Z+wv X*w:=by
 refine oI (fn:=Tryz.f196) R4 ?_;have a6:=K.lenW;subst a6;refine Zb ?_;refine Zl ?_;refine z9 (α:=List Nat×Nat) (fun z=>[(0,jx (some ⟨b,gP P,none⟩) (gP Z) cZ),(2,jy .u64 (w:Int)),(7,jy .u64 (z.2:Int)),(14,jx F (gP X) cX),(15,jy .i64 (gP X:Int)),(16,jy .i64 (gP z.1:Int))])
  (fun z m n' W=>n=n'∧(∀x∈W,x=b)∧ExtT n b h m∧(W=[]→m=h)∧m b=some (.row (u64s (P++((z.1++Z.drop (gP z.1))++S))) e)∧gP z.1≤gP X∧WdD z.1∧z.2<18446744073709551616∧wv z.1+z.2*18446744073709551616^gP z.1=wv (Z.take (gP z.1))+wv (X.take (gP z.1))*w) (fun z=>gP X-gP z.1)
  ([],0) ⟨rfl,rfl,rfl,rfl,rfl,rfl,eP⟩ ⟨rfl,fun x u=>cA u nN,ExtT.refl _ _ _,fun _=>rfl,Y,eU,WdD.nil,by show (0:Nat)<_;decide,by simp [wv,dv]⟩ (by show gP X-0<LL;unfold LL;omega) ?_
 rintro ⟨D,c⟩ t h1 _ W ⟨rfl,hW,B,ab,g,hD,q,hc,H⟩;simp only at g hD q hc H;refine zN ?_;by_cases hDX:gP D=gP X
 ·refine Zi ?_;have a0:Z.drop (gP D)=[]:=by rw [hDX,←hl,Ct]
  rw [a0,A3] at g;rw [hDX,Ax,←hl,Ax] at H;have T:∃(L:List Nat) (c':Nat),jy .u64 (c:Int)=jy .u64 (c':Int)∧c'<18446744073709551616∧RowW n h b e h1 n W (P++(L++S))∧WdD L∧gP L=gP Z∧wv L+c'*18446744073709551616^gP Z=wv Z+wv X*w:=⟨D,c,rfl,hc,⟨hW,rfl,B,g⟩,q,zo,H⟩;refine ⟨rfl,[jy .u64 (c:Int)],rfl,T,fun i=>?_⟩;have i:W=[]:=i;subst i;rw [ab rfl] at T;exact T
 obtain ⟨v,hv⟩:∃x,X[gP D]?=some x:=⟨X[gP D]'zo,k4 zo⟩;obtain ⟨z,I⟩:∃x,Z[gP D]?=some x:=⟨Z[gP D]'zo,k4 zo⟩;have N:=hX.get hv;have ae:=hZ.get I;have s:(D++Z.drop (gP D)).length=gP Z:=by rw [nn,Ak];omega
 have M:=zok (cap:=cZ) hb g zo;rw [s] at M;have aa:=zpz N i;refine Zr ?_;refine xt (f:=fun d:Nat=>jy .u64 (d:Int)) (j:=gP D) R7 (K.extW B ho) R2 hv (fun _=>rfl) R4 fun _=>?_;refine Zk ?_;refine yk _ R5 (bP k h1 n N i) ?_;rintro _ rfl;obtain ⟨p,hp⟩:∃p,p=v*w:=⟨_,rfl⟩;rw [←hp] at aa ⊢;obtain ⟨hi,a5⟩:∃x,x=p/18446744073709551616:=⟨_,rfl⟩;obtain ⟨lo,a7⟩:∃x,x=p%18446744073709551616:=⟨_,rfl⟩;rw [←a5,←a7];refine Zk ?_;refine qo (x:=lo) (y:=c) (c:=0) R5 zd ?_;obtain ⟨s1,a8⟩:∃x,x=(lo+c+0)%18446744073709551616:=⟨_,rfl⟩;obtain ⟨G,a3⟩:∃x,x=(lo+c+0)/18446744073709551616:=⟨_,rfl⟩;rw [←a8,←a3];refine Za ?_;refine Zg ?_;refine wV (a:=hi) (b:=G) R6 zo ?_;refine Zk ?_;refine xt (f:=fun d:Nat=>jy .u64 (d:Int)) (j:=gP D) R7 M R2 (mn I) (fun _=>rfl) R4 fun _=>?_;repeat refine zR ?_
 refine qo (x:=z) (y:=s1) (c:=0) R5 zd ?_;obtain ⟨J,a9⟩:∃x,x=(z+s1+0)%18446744073709551616:=⟨_,rfl⟩;obtain ⟨R,a4⟩:∃x,x=(z+s1+0)/18446744073709551616:=⟨_,rfl⟩;rw [←a9,←a4];repeat refine zR ?_
 refine xa (j:=gP D) (off:=gP P) (v:=jy .u64 (J:Int)) R8 rfl ⟨zo,by rw [yh,nn,nn,s];omega⟩ g hb (fun _=>rfl) R3 (fun _=>rfl) rfl fun _=>?_;rw [vy,zmd _ I];refine Za ?_;refine Zg ?_;refine wV (a:=hi+G) (b:=R) R6 zo ?_;refine Zl ?_;refine goOn (D++[J],hi+G+R) (by show gP X-gP (D++[J])<gP X-gP D;rw [nn,xl];omega) ⟨rfl,rfl,rfl,rfl,rfl,by show jy .i64 _=jy .i64 _;rw [nn];rfl,eP⟩ ⟨rfl,fun x u=>by
  rcases sP.1 u with rfl|u
  ·rfl
  ·exact hW x u,fun y hy O=>(zj O).trans (B y hy O),fun h=>(by cases h),zh _ _ _,by show gP (D++[J])≤_;rw [nn,xl];omega,WdD.snoc q zo,by show hi+G+R<_;omega,?_⟩
 simp only;rw [nn,xl,uF,yC hv,yC I,Ar];exact zix H (by rw [←hp];omega)
theorem zbv {P X L:List Nat}{w c:Nat}(a:gP L=gP Z)(f:wv L+c*18446744073709551616^gP Z=wv Z+wv X*w):wv (P++(L++[c]))=wv (P++Z)+wv X*(18446744073709551616^gP P*w):=by
 rw [qc,qc P Z,uF,a,vT _ c,f,A1,BP];omega
theorem ez (k:Nat){h:HF}{n:Nat}{F G:Nat}(K:Sl h n 1 (jx a1 l1 F) (u64s A))(M:Sl h n 1 (jx a2 l2 G) (u64s C))(nA:NW A)(nC:NW C)(I:gP A<100000000∧gP C<100000000)(a3:gP A<40∨gP C<40):
  CF (cal (k+3)) 158 [jx a1 l1 F,jx a2 l2 G] h n fun v s u w=>∃L,ResW n h v s u w L∧wv L=wv A*wv C∧zoc n v (jx a1 l1 F) (jx a2 l2 G):=by
 refine zu (fn:=Tryz.f158) R4 ?_;have e1:=K.lenW;have e2:=M.lenW;subst e1 e2;refine Zb ?_;refine zM ?_;refine st_I (ik:=.i64) (a:=(gP A:Int)) R5 ?_;refine zM ?_;refine st_I (ik:=.i64) (a:=(gP C:Int)) R5 ?_;refine qV R6 ?_;simp only [yN,xQ,zY,xJ];refine yu (α:=(Option Addr×Nat×List Nat)×(Option Addr×Nat×List Nat)) (fun z=>[(0,jx z.1.1 (gP z.1.2.2) z.1.2.1),(1,jx z.2.1 (gP z.2.2.2) z.2.2.1)]) (fun z s u w=>h=s∧n=u∧w=[]∧Sl h n 1 (jx z.1.1 (gP z.1.2.2) z.1.2.1) (u64s z.1.2.2)∧Sl h n 1 (jx z.2.1 (gP z.2.2.2) z.2.2.1) (u64s z.2.2.2)∧NW z.1.2.2∧NW z.2.2.2∧gP z.2.2.2≤gP z.1.2.2∧gP z.2.2.2<40∧gP z.1.2.2<100000000∧wv z.1.2.2*wv z.2.2.2=wv A*wv C∧(jx z.1.1 (gP z.1.2.2) z.1.2.1=jx a1 (gP A) F∨jx z.1.1 (gP z.1.2.2) z.1.2.1=jx a2 (gP C) G)) ?_ ?_
 ·by_cases hlt:gP A<gP C
  ·rw [ze (by show kz _=_;rw [bO zo])];refine Zb ?_;exact zO ((a2,G,C),(a1,F,A)) ⟨rfl,rfl,eP⟩ ⟨rfl,rfl,rfl,M,K,nC,nA,by show gP A≤gP C;omega,by show gP A<40;omega,I.2,vT _ _,.inr rfl⟩
  rw [za (by show kz _=_;rw [aD zo])];refine zN ?_;exact zO ((a1,F,A),(a2,G,C)) ⟨rfl,rfl,eP⟩ ⟨rfl,rfl,rfl,K,M,nA,nC,by show gP C≤gP A;omega,by show gP C<40;omega,I.1,rfl,.inl rfl⟩
 rintro ⟨⟨a,c,X⟩,⟨a',c',Y⟩⟩ t _ _ _ ⟨rfl,rfl,rfl,O,R,nX,nY,a9,a0,a8,q,hv⟩;simp only at O R nX nY a9 a0 a8 q hv;rw [←q];clear q a3 I K M nA nC;refine Zc ?_;refine st_I (ik:=.i64) (a:=(gP X:Int)) R5 ?_;refine ur (a:=(gP X:Int)) (b:=1) R6 zo ?_;refine st_I (ik:=.i64) (a:=((gP X:Int)+1).tdiv 2) ⟨rfl,rfl,rfl,rfl,(by show some (jy .i64 (Ao .i64 _))=_;rw [xK (by have:=Fa (a:=(gP X:Int)+1) (b:=2) zo zo;have:=Int.tdiv_le_self (a:=(gP X:Int)+1) (b:=2) zo;omega)])⟩ ?_;refine Za ?_;by_cases hY0:gP Y=0
 ·refine Zn ?_;exact retH _ ⟨rfl,(zk rfl),rfl⟩ ⟨[],⟨rfl,eT,Ext.refl _ _,.nil (.inl rfl),NW.nil⟩,by rw [xd.1 hY0];rfl,.inl trivial⟩
 refine Zd ?_;simp only [yN,xQ,zY,xJ];refine yu (α:=Bool) (fun z=>[(0,jx a (gP X) c),(1,jx a' (gP Y) c'),(32,kz z)]) (fun z s u w=>h=s∧n=u∧w=[]∧(z=true→wv Y=1)) ?_ ?_
 ·by_cases hY1:gP Y=1
  ·obtain ⟨y,rfl⟩:=Dw.1 hY1;rw [show [y].length=1 from rfl] at R ⊢;refine Zf ?_;refine xt (f:=fun d:Nat=>jy .u64 (d:Int)) (l:=[y]) (j:=0) R7 R ⟨rfl,gN⟩ rfl (fun _=>rfl) R4 fun _=>?_;by_cases hy:y=1
   ·refine Za ?_;exact zO true ⟨rfl,rfl,rfl,eP⟩ ⟨rfl,rfl,rfl,fun _=>by rw [nl,hy]⟩
   refine Za ?_;exact zO false ⟨rfl,rfl,rfl,eP⟩ ⟨rfl,rfl,rfl,fun h=>by cases h⟩
  refine Zb ?_;exact zO false ⟨rfl,rfl,rfl,eP⟩ ⟨rfl,rfl,rfl,fun h=>by cases h⟩
 rintro z t _ _ _ ⟨rfl,rfl,rfl,hz⟩;cases z with
 |true=>
  rw [ze rfl];refine Zb ?_;exact retH _ ⟨rfl,(zk rfl),rfl⟩ ⟨X,⟨rfl,eT,Ext.refl _ _,O,nX⟩,by rw [hz rfl,AO],.inr hv⟩
 |false=>
 rw [za rfl];clear hz;refine Zb ?_;rw [ze rfl];refine Zf ?_;refine wO (len:=gP X+gP Y) (cap:=gP X+gP Y) R9 zo ?_;rw [show zC (jy .u64 0)=[jy .u64 0] from rfl,sE];generalize hh:upd h (3*n+2) _=J;have g:∃e,J (3*n+2)=some (.row (u64s (pl (gP X) 0++pl (gP Y) 0)) e):=⟨_,by rw [←hh,zh,List.replicate_append_replicate]⟩;obtain ⟨e,g⟩:=g;have p:Ext n h J:=by rw [←hh];exact Ext.upd zo
 clear hh;refine Zl ?_;refine z9 (α:=Nat×List Nat) (fun z=>[(0,jx a (gP X) c),(6,jx (some ⟨3*n+2,0,none⟩) (gP X+gP Y) (gP X+gP Y)),(53,jx a' (gP Y) c'),(54,jy .i64 (gP Y:Int)),(55,jy .i64 (z.1:Int))])
  (fun z s u w=>u=n+1∧w=[]∧Ext n h s∧s (3*n+2)=some (.row (u64s (z.2++pl (gP Y-z.1) 0)) e)∧gP z.2=gP X+z.1∧WdD z.2∧z.1≤gP Y∧wv z.2=wv X*wv (Y.take z.1)) (fun z=>gP Y-z.1)
  (0,pl (gP X) 0) ⟨rfl,rfl,rfl,rfl,rfl,eP⟩ ⟨rfl,rfl,p,g,gN,WdD.zeros _,eU,by simp [wv,dv,pW]⟩ (by show gP Y-0<LL;unfold LL;omega) ?_
 clear g p;rintro ⟨i,D⟩ t J _ _ ⟨rfl,rfl,p,g,S,B,hi,N⟩;simp only at g S B hi N;refine zN ?_;by_cases hiY:i=gP Y
 ·subst hiY;rw [A7,CI,A3] at g;rw [Ax] at N;refine Zw ?_;have ab:=uG (k+1) (h:=J) (n:=n+1) (a:=some ⟨3*n+2,0,none⟩) (len:=gP X+gP Y) (cap:=gP X+gP Y) (l:=D) zo (fun _ e=>by injection e with e;rw [←e]) (oJ zo g S);refine zB _ R5 ab ?_;rintro _ _ _ _ ⟨rfl,rfl,rfl,rfl,hs⟩;refine Za ?_;obtain ⟨t1,t2⟩:=sd B;exact retH _ ⟨rfl,(zk rfl),rfl⟩ ⟨_,⟨rfl,ux n,p,hs,t1⟩,by rw [t2,N],.inl (by show 3*n≤3*n+2;omega)⟩
 obtain ⟨w,hw⟩:∃x,Y[i]?=some x:=⟨Y[i]'zo,k4 zo⟩;have ad:=nY.1.get hw;obtain ⟨P,Z,a6,hP,hZ⟩:∃P Z,D=P++Z∧gP P=i∧gP Z=gP X:=⟨D.take i,D.drop i,(Bf i D).symm,by rw [Af];omega,by rw [Ak];omega⟩;subst a6 hP;rw [Aq] at g;have a7:=O.ext p (ux n);refine Zr ?_;refine xt (f:=fun d:Nat=>jy .u64 (d:Int)) (j:=gP P) R7 (R.ext p (ux n)) R2 hw (fun _=>rfl) R4 fun _=>?_;refine Zk ?_;refine nH (gP P) (gP P+gP X) R9 rfl rfl zo ?_;rw [show 0+gP P*1=gP P from zo,show (gP P)+gP X-gP P=gP Z from zo];repeat refine zR ?_
 refine zB _ R5 (kU k (n:=n+1) (b:=3*n+2) zo g zo (fun d hd=>B d (by simp [hd])) a7 nX.1 (O.below.off zo) hZ zo ad) ?_;rintro _ h2 _ w2 ⟨L,cc,rfl,aa,⟨ac,rfl,ae,W⟩,a4,H,a5⟩;try simp only [nj]
 rw [z0 (w:=[]) fun y hy=>by rw [ac y hy];show 3*n≤3*n+2;omega];obtain ⟨m,hm⟩:∃m,gP Y-gP P=m+1:=⟨gP Y-gP P-1,zo⟩;rw [hm,←Aq] at W;have T:gP (P++L)=gP P+gP X:=by rw [nn,H,hZ]
 refine nI (j:=gP P+gP X) (v:=jy .u64 (cc:Int)) R8 rfl ⟨zo,by rw [yh,nn,T,Ah];omega⟩ W (by show 3*n≤3*n+2;omega) (fun _=>rfl) R3 (fun _=>rfl) rfl fun _=>?_;rw [vy,←T,oO];refine Zl ?_;refine goOn (gP P+1,P++(L++[cc])) (by show gP Y-(gP P+1)<gP Y-gP P;omega) ⟨rfl,rfl,rfl,rfl,rfl,eP⟩ ⟨rfl,rfl,fun b I=>(zj zo).trans ((ae b zo zo).trans (p b I)),?_,?_,?_,by show gP P+1≤_;omega,?_⟩
 ·refine (zh _ _ _).trans ?_;simp only;rw [show gP Y-(gP P+1)=m from zo,Aq P L]
 ·simp only;rw [nn,nn,H,hZ,xl];omega
 ·exact WdD.append (fun d hd=>B d (by simp [hd])) (WdD.snoc a4 aa)
 simp only;rw [zbv H a5,N,yC hw,A1]
end
theorem qq (k:Nat)(h:HF)(n:Nat)(b:Bool)(a:Option Addr)(l c:Nat):CF (cal (k+1)) 154 [kz b,jx a l c] h n fun v d e w=>v=.agg #[kz (b&&decide (0<l)),jx a l c]∧e=n+1∧w=[]∧Ext n h d:=by
 refine zu (fn:=Tryz.f154) R4 ?_;refine zN ?_;refine yd R5 ?_;refine zN ?_;cases b
 ·repeat refine zR ?_
  refine zK [kz false,jx a l c] R7 rfl (zh _ _ _) rfl (by show 3*n≤_;omega) ?_;refine zN ?_;exact xu R5 (zh _ _ _) rfl ⟨rfl,rfl,rfl,by rw [xq];exact Ext.upd zo⟩
 by_cases hl:0<l
 ·repeat refine zR ?_
  refine zK [kz true,jx a l c] R7 rfl (zh _ _ _) rfl (by show 3*n≤_;omega) ?_;refine zN ?_;exact xu R5 (zh _ _ _) rfl ⟨by rw [bO hl];rfl,rfl,rfl,by rw [xq];exact Ext.upd zo⟩
 repeat refine zR ?_
 refine zK [kz false,jx a l c] R7 rfl (zh _ _ _) rfl (by show 3*n≤_;omega) ?_;refine zN ?_;exact xu R5 (zh _ _ _) rfl ⟨by rw [aD hl];rfl,rfl,rfl,by rw [xq];exact Ext.upd zo⟩
theorem NW.zero_iff {L:List Nat}(h:NW L):wv L=0↔L=[]:=⟨fun e=>h.inj NW.nil (by rw [e];rfl),fun e=>by rw [e];rfl⟩
section
variable {l off:Nat}{e:TypeId}{z:Value}{a:Option Addr}
def Gw (n:Nat)(h:HF)(P:Value→HF→Nat→Prop):Value→HF→Nat→List Nat→Prop:=fun v h' n' w=>w=[]∧n≤n'∧Ext n h h'∧P v h' n'
def CX (C:CalF)(f:FuncId)(args:List Value)(h:HF)(n:Nat)(P:Value→HF→Nat→Prop):Prop:=CF C f args h n (Gw n h P)
theorem VF.cx {C:CalF}{h:HF}{n:Nat}{P:Value→Prop}(c:VF C f args h n P):CX C f args h n fun v _ _=>P v:=by
 refine yg c ?_;rintro v _ _ _ ⟨rfl,rfl,rfl,g⟩;exact ⟨rfl,eT,Ext.refl _ _,g⟩
theorem CX.mono {C:CalF}{h:HF}{n:Nat}{P g:Value→HF→Nat→Prop}(c:CX C f args h n P)(p:∀v h' n',P v h' n'→g v h' n'):CX C f args h n g:=by
 refine yg c ?_;rintro v _ _ _ ⟨s,j,u,q⟩;exact ⟨s,j,u,p _ _ _ q⟩
def Only (b:Nat)(h h':HF):Prop:=∀c,c≠b→h' c=h c
theorem Ext.st {n:Nat}{h g:HF}(x:Ext n h h1)(o:Only b h1 g)(p:3*n≤b):Ext n h g:=fun c j=>(o c zo).trans (x c j)
section
variable {r:List Oper}{t:TF}{o:Oper}{d:Tmp}
theorem rB (cs:List Value)(g:sh X ops t o d (cls o.op=2∧mkE X.E o.op (evF t)=some ⟨cs,e,false,none⟩))
  (k:∀h',h' (3*n+2)=some (.row cs e)→Ext n h h'→EO X ops r ⟨upd t d (kS (some ⟨3*n+2,0,none⟩)),h',n+1,w⟩ Q):EO X ops (o::r) ⟨t,h,n,w⟩ Q:=by obtain ⟨g,p,s,j,q⟩:=g;exact we ⟨g,p,s,j,q⟩ (k _ (zh _ _ _) (Ext.upd zo))
theorem wI (cs:List Value)(g:sh X ops t o d (o.op=.alloc e∧X.E.inf e=some (sz,bt,z)∧zC z=cs))
  (k:∀h',h' (3*n+2)=some (.row cs e)→Ext n h h'→EO X ops r ⟨upd t d (kS (some ⟨3*n+2,0,none⟩)),h',n+1,w⟩ Q):EO X ops (o::r) ⟨t,h,n,w⟩ Q:=by
 obtain ⟨g,j,q,s,p,u⟩:=g;subst u;exact yd ⟨g,j,q,s,p⟩ (k _ (zh _ _ _) (Ext.upd zo))
theorem no {a x:Operand}(c':List Value)(j:zi ops t o=true∧o.dst=none∧o.op=.store ty a x∧X.E.inf ty=some (sz,bt,z)∧evF t a=kS (some ⟨b,off,none⟩))(s:h b=some (.row c e))(p:zC (evF t x)=cs∧gP cs=sz∧ones cs=true)(hl:off+sz≤gP c)(hsp:zw c off cs=c')(g:3*X.n0≤b)
  (k:∀h',h' b=some (.row c' e)→Only b h h'→EO X ops r ⟨t,h',n,w⟩ Q):EO X ops (o::r) ⟨t,h,n,w⟩ Q:=by
 obtain ⟨j,A,C,B,q⟩:=j;obtain ⟨p,D,h1⟩:=p;subst hsp;exact y0 ⟨j,A,C,B,q,p,D,h1⟩ s hl g (k _ (zh _ _ _) fun c u=>zj u)
theorem fg {P:Value→HF→Nat→Prop}(j:sh X ops t o d (cls o.op=3∧effF X.E o.op (evF t) h n=some (.enter f args)))(g:CX X.C f args h n P)
  (k:∀v h' n',P v h' n'→n≤n'→Ext n h h'→EO X ops r ⟨upd t d v,h',n',w⟩ Q):EO X ops (o::r) ⟨t,h,n,w⟩ Q:=by
 obtain ⟨j,A,D,u,B⟩:=j;refine zB _ ⟨j,A,D,u,B⟩ g ?_;rintro v h' n' _ ⟨rfl,p,q,s⟩;exact k v h' n' s p q
end
section
variable {r:List Oper}{t:TF}{ld:List (Nat×Nat)}{o:Oper}{d:Tmp}
theorem zoo (cs:List Value)(s:zi ops t o=true)(j:o.dst=some d)(q:zv X.nt (some d)=true)(g:cls o.op=2)(p:mkE X.E o.op (evF t)=some ⟨cs,e,false,none⟩)
  (k:∀h',h' (3*n+2)=some (.row cs e)→Ext n h h'→ED X ops r ms (i+1) ⟨⟨upd t d (kS (some ⟨3*n+2,0,none⟩)),h',n+1,w⟩,(i,3*n+2)::al,ld,ef⟩ Q):ED X ops (o::r) (m::ms) i ⟨⟨t,h,n,w⟩,al,ld,ef⟩ Q:=
 zqj s j q g p (k _ (zh _ _ _) (Ext.upd zo))
theorem zom {a x:Operand}(c':List Value)(G:zi ops t o=true)(B:o.dst=none)(D:o.op=.store ty a x)(C:X.E.inf ty=some (sz,bt,z))(s:evF t a=kS (some ⟨b,off,none⟩))(u:h b=some (.row c e))(H:zC (evF t x)=cs)(F:gP cs=sz)(h1:ones cs=true)(hl:off+sz≤gP c)(hsp:zw c off cs=c')(g:3*X.n0≤b)(j:xg m ef=true)(p:xU m al=true)(q:yc m [b] ld=true)
  (k:∀h',h' b=some (.row c' e)→Only b h h'→ED X ops r ms (i+1) ⟨⟨t,h',n,w⟩,al,ld,(i,h,[b])::ef⟩ Q):ED X ops (o::r) (m::ms) i ⟨⟨t,h,n,w⟩,al,ld,ef⟩ Q:=by
 subst hsp;exact xn ⟨G,B,D,C,s,H,F⟩ h1 u hl g ⟨j,p,q⟩ (k _ (zh _ _ _) fun c A=>zj A)
theorem zlt {P:Value→HF→Nat→Prop}(D:zi ops t o=true)(u:o.dst=some d)(B:zv X.nt (some d)=true)(s:cls o.op=3)(A:effF X.E o.op (evF t) h n=some (.enter f args))(j:CX X.C f args h n P)(h1:xg m ef=true)(g:xU m al=true)
  (k:∀v h' n',P v h' n'→n≤n'→Ext n h h'→ED X ops r ms (i+1) ⟨⟨upd t d v,h',n',w⟩,al,ld,(i,h,[])::ef⟩ Q):ED X ops (o::r) (m::ms) i ⟨⟨t,h,n,w⟩,al,ld,ef⟩ Q:=by
 refine yM _ ⟨D,u,B,s,A,h1,g⟩ j ?_;rintro v h' n' _ ⟨rfl,g,p,q⟩;exact ⟨rO,g,k v h' n' q g p⟩
end
theorem pM {s:SV}:resF env s []=some []:=rfl
theorem xj {s:SV}{a:Tmp}{r:List ResultVar}(h:s.t a=v)(g:resF env s r=some vs):resF env s (.tmp a::r)=some (v::vs):=by
 simp only [resF,g,h]
theorem wq {s:SV}{a:Tmp}{g:Addr}{r:List ResultVar}(j:s.t a=kS (some g))(hl:yr env ty s.h g=some v)(p:resF env s r=some vs):resF env s (.cell a ty::r)=some (v::vs):=by
 simp only [resF,j,hl,p]
theorem retX {P:Value→HF→Nat→Prop}{e:Ex}{t:TF}{h:HF}{n:Nat}(vs:List Value)(g:rz e=true∧resF env ⟨t,h,n,[]⟩ fn.results.toList=some vs∧td vs=false)(p:n0≤n)(u:Ext n0 h0 h)(q:P (pg vs) h n):RetH fn (Gw n0 h0 P) e ⟨t,h,n,[]⟩:=by obtain ⟨g,s,j⟩:=g;exact retH vs ⟨g,s,j⟩ ⟨rfl,p,u,q⟩
def nu:Value→Bool
 | jy .u64 _=>false
 | jy .u32 _=>false
 |_=>true
theorem Sl.onlyG {h:HF}{n:Nat}(s:Sl h n 1 v cl)(j:∀x∈cl,nu x=false)(C:h b=some (.row cs e))(hu:cs.all nu=true)(B:Only b h h'):Sl h' n 1 v cl:=by
 cases s with
 |nil ha=>exact .nil ha
 | @at_ b2 off len cap x cs2 c2 hb hx hc hcap hl he=>
  by_cases h0:len=0
  ·subst h0;have:cl=[]:=by rw [←he];simp
   subst this;exact .nil (.inr ⟨_,_,_,rfl,hb⟩)
  have p:b2≠b:=by
   intro q;subst q;rw [C] at hx;cases hx;injection hc with hc
   subst hc;have u:gP cl=len:=by rw [←he,Af,Ak];omega
   obtain ⟨d,g,rfl⟩:∃d g,cl=d::g:=by
    cases cl with
    |nil=>exact cA u.symm h0
    |cons d g=>exact ⟨d,g,rfl⟩
   have A:d∈cs:=by
    have:d∈(cs.drop off).take (len*1):=by rw [he];exact As
    exact Bx (AW this)
   have:=Bt.1 hu _ A;rw [j d As] at this;cases this
  exact .at_ hb (by rw [B _ p];exact hx) hc hcap hl he
theorem Sl.only {h:HF}{n:Nat}{L:List Nat}(s:Sl h n 1 v (u64s L))(j:h b=some (.row cs e))(hu:cs.all nu=true)(g:Only b h h'):Sl h' n 1 v (u64s L):=
 s.onlyG (fun x p=>by obtain ⟨d,_,rfl⟩:=Ay.1 p;rfl) j hu g
theorem Sl.only32 {h:HF}{n:Nat}{L:List Nat}(s:Sl h n 1 v (u32s L))(j:h b=some (.row cs e))(hu:cs.all nu=true)(g:Only b h h'):Sl h' n 1 v (u32s L):=
 s.onlyG (fun x p=>by obtain ⟨d,_,rfl⟩:=Ay.1 p;rfl) j hu g
def WW (h:HF)(n:Nat)(a:Option Addr)(l c m:Nat):Prop:=∃L,Sl h n 1 (jx a l c) (u64s L)∧NW L∧wv L=m
theorem WW.ext {h:HF}{n:Nat}{c m:Nat}(i:WW h n a l c m)(e:Ext n h h')(p:n≤n'):WW h' n' a l c m:=by
 obtain ⟨L,h1,g,j⟩:=i;exact ⟨L,h1.ext e p,g,j⟩
theorem WW.only {h:HF}{n:Nat}{c m:Nat}(i:WW h n a l c m)(q:h bb=some (.row cs e))(hu:cs.all nu=true)(p:Only bb h h'):WW h' n a l c m:=by
 obtain ⟨L,h1,g,j⟩:=i;exact ⟨L,h1.only q hu p,g,j⟩
theorem WW.zero {h:HF}{n:Nat}{c m:Nat}(i:WW h n a l c m):l=0↔m=0:=by
 obtain ⟨L,h1,g,j⟩:=i;have e:=h1.lenW;rw [←j,g.zero_iff,←xd,e]
theorem WW.as {h:HF}{n:Nat}{c m:Nat}(i:WW h n a l c m)(e:m=m'):WW h n a l c m':=e▸i
theorem WW.nil (h:HF)(n:Nat):WW h n none 0 0 0:=⟨[],.nil (.inl rfl),NW.nil,rfl⟩
def IW (h:HF)(n:Nat)(b:Bool)(a:Option Addr)(l c:Nat)(x:Int):Prop:=b=decide (x<0)∧WW h n a l c x.natAbs
theorem IW.ext {h:HF}{n:Nat}{b:Bool}{c:Nat}{x:Int}(i:IW h n b a l c x)(e:Ext n h h')(g:n≤n'):IW h' n' b a l c x:=⟨i.1,i.2.ext e g⟩
theorem IW.only {h:HF}{n:Nat}{b:Bool}{c:Nat}{x:Int}(i:IW h n b a l c x)(j:h bb=some (.row cs e))(hu:cs.all nu=true)(g:Only bb h h'):IW h' n b a l c x:=⟨i.1,i.2.only j hu g⟩
theorem IW.as {h:HF}{n:Nat}{b:Bool}{c:Nat}{x y:Int}(i:IW h n b a l c x)(e:x=y):IW h n b a l c y:=e▸i
theorem IW.lt {h:HF}{n:Nat}{c:Nat}{x:Int}(i:IW h n true a l c x):x<0:=of_decide_eq_true i.1.symm
theorem IW.ge {h:HF}{n:Nat}{c:Nat}{x:Int}(i:IW h n false a l c x):0≤x:=FB.1 (of_decide_eq_false i.1.symm)
def IV (x:Int)(v:Value)(h:HF)(n:Nat):Prop:=∃b a l c,v=.agg #[kz b,jx a l c]∧IW h n b a l c x
def WV (m:Nat)(v:Value)(h:HF)(n:Nat):Prop:=∃a l c,v=jx a l c∧WW h n a l c m
def BV (p:Prop)(v:Value)(_:HF)(_:Nat):Prop:=∃b:Bool,v=kz b∧(b=true↔p)
def SV3 (x:Int)(v:Value)(_:HF)(_:Nat):Prop:=∃s:Int,v=jy .i64 s∧(s= -1∧x<0∨s=0∧x=0∨s=1∧0<x)
theorem IW.zero (h:HF)(n:Nat):IW h n false none 0 0 0:=⟨rfl,WW.nil h n⟩
def GG (h:HF)(n:Nat):Prop:=GK.G h∧20≤n
theorem GG.ext {h:HF}{n:Nat}(g:GG h n)(e:Ext n h h')(j:n≤n'):GG h' n':=⟨rA g.1 e g.2,Ap g.2 j⟩
def BW:Nat:=18446744073709551616^1
theorem ud {m e:Nat}(h:m<2^e)(j:e≤64):m<BW:=by
 have h1:e≤64*1:=j;generalize hk:1=k at h1;have g:m<(2^64)^k:=by
  rw [←Ek];exact tv h (Ac zd h1)
 subst hk;exact g
theorem NW.len39 {L:List Nat}(h:NW L)(g:wv L<BW):gP L≤1:=h.len_le g
def sgZ (b:Bool)(m:Nat):Int:=if b then -(m:Int) else m
theorem zdu (b:Bool)(m:Nat):(sgZ b m).natAbs=m:=by unfold sgZ;split<;>omega
theorem zdt (b:Bool)(m:Nat):decide (sgZ b m<0)=(b&&decide (0<m)):=by
 unfold sgZ;cases b
 ·rw [Bool.false_and,decide_eq_false_iff_not];simp
 rw [Bool.true_and];by_cases h:0<m
 ·rw [bO h,bO];simp;omega
 rw [aD h,aD];simp;omega
theorem yL (k:Nat){h:HF}{n:Nat}{c m:Nat}(i:WW h n a l c m)(g:Bool):CX (cal (k+1)) 154 [kz g,jx a l c] h n (IV (sgZ g m)):=by
 refine yg (qq k h n g a l c) ?_;rintro _ h' n' _ ⟨rfl,rfl,rfl,j⟩;refine ⟨rfl,ux _,j,_,_,_,_,rfl,?_,?_⟩
 ·rw [zdt];have:=i.zero;congr 1;by_cases h0:0<l
  ·rw [bO h0,bO zo]
  rw [aD h0,aD zo]
 rw [zdu];exact i.ext j zs
theorem ResW.ww {n:Nat}{h:HF}{w:List Nat}{L:List Nat}(r:ResW n h v h' n' w L){m:Nat}(e:wv L=m):w=[]∧n≤n'∧Ext n h h'∧WV m v h' n':=by
 obtain ⟨h1,j,p,g,q⟩:=r;obtain ⟨a,l,c,rfl,_⟩:=g.len;exact ⟨h1,j,p,_,_,_,rfl,L,g,q,e⟩
section
variable (k:Nat){h:HF}{n:Nat}{a1 a2:Option Addr}{l1 c1 l2 c2 x y:Nat}
theorem zq3 (i:WW h n a1 l1 c1 x)(j:WW h n a2 l2 c2 y)(g:x<BW∧y<BW):CX (cal (k+2)) 155 [jx a1 l1 c1,jx a2 l2 c2] h n (WV (x+y)):=by
 obtain ⟨A,s,p,rfl⟩:=i;obtain ⟨C,u,q,rfl⟩:=j;have:=p.len39 g.1;have:=q.len39 g.2;refine yg (dQ k s u p q zo) ?_;rintro v h' n' w ⟨L,r,e,_⟩;exact r.ww e
theorem za9 (i:WW h n a1 l1 c1 x)(j:WW h n a2 l2 c2 y)(u:x<BW∧y<BW)(g:y≤x):CX (cal (k+2)) 157 [jx a1 l1 c1,jx a2 l2 c2] h n (WV (x-y)):=by
 obtain ⟨A,q,p,rfl⟩:=i;obtain ⟨C,s,B,rfl⟩:=j;have:=p.len39 u.1;refine yg (fA k q s p B zo g) ?_;rintro v h' n' w ⟨L,r,e,_⟩;exact r.ww e
theorem zel (i:WW h n a1 l1 c1 x)(j:WW h n a2 l2 c2 y)(g:x<BW∧y<BW):CX (cal (k+3)) 158 [jx a1 l1 c1,jx a2 l2 c2] h n (WV (x*y)):=by
 obtain ⟨A,s,p,rfl⟩:=i;obtain ⟨C,u,q,rfl⟩:=j;have:=p.len39 g.1;have:=q.len39 g.2;refine yg (ez k s u p q zo zo) ?_;rintro v h' n' w ⟨L,r,e,_⟩;exact r.ww e
theorem zgt (i:WW h n a1 l1 c1 x)(j:WW h n a2 l2 c2 y)(s:x<BW∧y<BW):CX (cal (k+3)) 156 [jx a1 l1 c1,jx a2 l2 c2] h n (SV3 ((x:Int)-y)):=by
 obtain ⟨A,p,g,rfl⟩:=i;obtain ⟨C,q,u,rfl⟩:=j;have:=g.len39 s.1;refine (rY k p q g u zo).cx.mono ?_;rintro _ _ _ rfl;refine ⟨_,rfl,?_⟩;rcases C7 (wv A) (wv C) with h|h|h
 ·exact .inl ⟨uj h,zo⟩
 ·exact .inr (.inl ⟨by rw [h];exact mU _,zo⟩)
 exact .inr (.inr ⟨tA h,zo⟩)
theorem zk8 (h:HF)(n:Nat){w:Nat}(g:w<18446744073709551616):CX (cal (k+1)) 184 [jy .u64 (w:Int)] h n (WV w):=by
 refine yg (mC k h n g) ?_;rintro v h' n' w ⟨L,r,e,_⟩;exact r.ww e
end
end
section
variable {off:Nat}{h0:HF}{x1 x2 x3 z:Value}
theorem bvs {b:Bool}{p:Prop}(h:b=true↔p):b=false∧¬p∨b=true∧p:=by
 cases b
 ·exact .inl ⟨rfl,fun a=>by cases h.2 a⟩
 exact .inr ⟨rfl,h.1 rfl⟩
theorem zhh {p:Prop}(h:p:=by first|exact ⟨hx,hy⟩|exact ⟨hy,hx⟩):p:=h
theorem zno {p:Prop}(h:¬p):∃b:Bool,kz false=kz b∧(b=true↔p):=⟨_,rfl,fun a=>(by cases a),fun a=>cA a h⟩
theorem zye {p:Prop}(h:p):∃b:Bool,kz true=kz b∧(b=true↔p):=⟨_,rfl,fun _=>h,fun _=>rfl⟩
def Sto (b:Nat)(h h':HF):Prop:=Only b h h'∧∃cs e,h b=some (.row cs e)∧cs.all nu=true
def ExtB (n:Nat)(B:List Nat)(h h':HF):Prop:=∀b,b<3*n→b∉B→h' b=h b
theorem ExtB.refl (n:Nat)(B:List Nat)(h:HF):ExtB n B h h:=fun _ _ _=>rfl
theorem ExtB.ext {n:Nat}{B:List Nat}{a b c:HF}(x:ExtB n B a b)(y:Ext n' b c)(j:n≤n'):ExtB n B a c:=fun k g e=>(y k zo).trans (x k g e)
theorem ExtB.st {n m:Nat}{B:List Nat}{a b c:HF}(x:ExtB n B a b)(o:Only m b c)(g:3*n≤m∨m∈B):ExtB n B a c:=fun k l j=>by
 refine (o k fun e=>?_).trans (x k l j);subst e;rcases g with g|g
 ·omega
 exact j g
theorem ExtB.trans {n m:Nat}{B C:List Nat}{a b c:HF}(x:ExtB n B a b)(y:ExtB m C b c)(p:n≤m)(g:∀k∈C,k∈B∨3*n≤k):ExtB n B a c:=fun k l e=>(y k zo fun j=>by rcases g k j with h|h;exact e h;omega).trans (x k l e)
theorem ExtB.to {n m:Nat}{B:List Nat}{a b:HF}(x:ExtB n B a b)(l:m≤n)(e:∀k∈B,3*m≤k):Ext m a b:=fun k j=>x k zo fun g=>by have:=e k g;omega
structure Exa (n:Nat)(h h':HF):Prop where
 e:Ext n h h'
theorem Exa.zz {n b:Nat}{h:HF}{y:Option BF}(x:Exa n h h')(a:b<3*n)(e:h b=y):h' b=y:=(x.e b a).trans e
theorem Ext.zz {n b:Nat}{h:HF}{y:Option BF}(x:Ext n h h')(a:b<3*n)(e:h b=y):h' b=y:=(x b a).trans e
theorem Only.zz {b c:Nat}{h:HF}{y:Option BF}(x:Only b h h')(a:c≠b)(e:h c=y):h' c=y:=(x c a).trans e
theorem Sto.zz {b c:Nat}{h:HF}{y:Option BF}(x:Sto b h h')(a:c≠b)(e:h c=y):h' c=y:=(x.1 c a).trans e
theorem ExtB.zz {n b:Nat}{B:List Nat}{h:HF}{y:Option BF}(x:ExtB n B h h')(g:b<3*n)(a:b∉B)(e:h b=y):h' b=y:=(x b g a).trans e
def Nur (o:Option BF):Prop:=∃x,o=some x∧((∃cs e,x=.row cs e∧cs.all nu=true)∨x.cells=none)
theorem Nur.row {e:TypeId}{o:Option BF}(h:o=some (.row cs e))(hu:cs.all nu=true):Nur o:=⟨_,h,.inl ⟨_,_,rfl,hu⟩⟩
def Lpo (b:Nat)(h h':HF):Prop:=Only b h h'∧∃x,h b=some x∧x.cells=none
theorem Lpo.zz {b c:Nat}{h:HF}{y:Option BF}(x:Lpo b h h')(a:c≠b)(e:h c=y):h' c=y:=(x.1 c a).trans e
def Tr (n:Nat)(h:HF)(n':Nat)(h':HF):Prop:=n≤n'∧∀c,c<3*n→h' c=h c∨Nur (h c)
def Tx (n:Nat)(h:HF)(n':Nat)(h':HF):Prop:=n≤n'∧Ext n h h'
def Ty (n:Nat)(B:List Nat)(h:HF)(n':Nat)(h':HF):Prop:=n≤n'∧ExtB n B h h'
section
variable {n1 n2:Nat}
theorem Tr.refl (n:Nat)(h:HF):Tr n h n h:=⟨eT,fun _ _=>.inl rfl⟩
theorem Tr.e (x:Ext n1 h1 h2)(g:n1≤n2)(t:Tr n h n1 h1):Tr n h n2 h2:=⟨Ap t.1 g,fun c a=>by rw [x c (by have:=t.1;omega)];exact t.2 c a⟩
theorem Tr.s (x:Sto b h1 h2)(t:Tr n h n1 h1):Tr n h n1 h2:=by
 refine ⟨t.1,fun c g=>?_⟩;by_cases e:c=b
 ·subst e;obtain ⟨cs,e,j,l⟩:=x.2;rcases t.2 c g with a|a
  ·rw [a] at j;exact .inr (.row j l)
  exact .inr a
 rw [x.1 c e];exact t.2 c g
theorem Tr.l (x:Lpo b h1 h2)(t:Tr n h n1 h1):Tr n h n1 h2:=by
 refine ⟨t.1,fun c g=>?_⟩;by_cases e:c=b
 ·subst e;obtain ⟨y,j,p⟩:=x.2;rcases t.2 c g with a|a
  ·rw [a] at j;exact .inr ⟨y,j,.inr p⟩
  exact .inr a
 rw [x.1 c e];exact t.2 c g
theorem Tr.trans {n1 n2:Nat}{h1 h2:HF}(a:Tr n h n1 h1)(b:Tr n1 h1 n2 h2):Tr n h n2 h2:=by
 refine ⟨Ap a.1 b.1,fun c j=>?_⟩;rcases b.2 c (by have:=a.1;omega) with e|e
 ·rw [e];exact a.2 c j
 rcases a.2 c j with g|g
 ·rw [g] at e;exact .inr e
 exact .inr g
theorem Tx.lp (x:Lpo b h1 h2)(a:3*n≤b)(t:Tx n h n1 h1):Tx n h n1 h2:=⟨t.1,t.2.st x.1 a⟩
theorem Ty.lp (x:Lpo b h1 h2)(a:3*n≤b∨b∈B)(t:Ty n B h n1 h1):Ty n B h n1 h2:=⟨t.1,t.2.st x.1 a⟩
theorem Tx.refl (n:Nat)(h:HF):Tx n h n h:=⟨eT,Ext.refl _ _⟩
theorem Tx.e (x:Ext n1 h1 h2)(a:n1≤n2)(t:Tx n h n1 h1):Tx n h n2 h2:=⟨Ap t.1 a,t.2.trans x t.1⟩
theorem Tx.a (x:Exa lo h1 h2)(hl:n≤lo)(g:n≤n2)(t:Tx n h n1 h1):Tx n h n2 h2:=⟨g,t.2.trans x.e hl⟩
theorem Tx.o (x:Only b h1 h2)(a:3*n≤b)(t:Tx n h n1 h1):Tx n h n1 h2:=⟨t.1,t.2.st x a⟩
theorem Tx.s (x:Sto b h1 h2)(a:3*n≤b)(t:Tx n h n1 h1):Tx n h n1 h2:=⟨t.1,t.2.st x.1 a⟩
theorem Tx.l (x:ExtB n1 B h1 h2)(e:n1≤n2)(a:∀k∈B,3*n≤k)(t:Tx n h n1 h1):Tx n h n2 h2:=⟨Ap t.1 e,t.2.trans (x.to t.1 a) eT⟩
theorem Ty.refl (n:Nat)(B:List Nat)(h:HF):Ty n B h n h:=⟨eT,ExtB.refl _ _ _⟩
theorem Ty.e (x:Ext n1 h1 h2)(a:n1≤n2)(t:Ty n B h n1 h1):Ty n B h n2 h2:=⟨Ap t.1 a,t.2.ext x t.1⟩
theorem Ty.a (x:Exa lo h1 h2)(hl:n≤lo)(g:n≤n2)(t:Ty n B h n1 h1):Ty n B h n2 h2:=⟨g,t.2.ext x.e hl⟩
theorem Ty.o (x:Only b h1 h2)(a:3*n≤b∨b∈B)(t:Ty n B h n1 h1):Ty n B h n1 h2:=⟨t.1,t.2.st x a⟩
theorem Ty.s (x:Sto b h1 h2)(a:3*n≤b∨b∈B)(t:Ty n B h n1 h1):Ty n B h n1 h2:=⟨t.1,t.2.st x.1 a⟩
theorem Ty.l (x:ExtB n1 C h1 h2)(e:n1≤n2)(a:∀k∈C,k∈B∨3*n≤k)(t:Ty n B h n1 h1):Ty n B h n2 h2:=⟨Ap t.1 e,t.2.trans x t.1 a⟩
end
theorem Sl.trG {h:HF}{n:Nat}(s:Sl h n 1 v cl)(l:∀x∈cl,nu x=false)(t:Tr n h n' h'):Sl h' n' 1 v cl:=by
 cases s with
 |nil ha=>exact .nil (vR ha t.1)
 | @at_ b2 off len cap x cs2 c2 hb hx hc hcap hl he=>
  have g:b2<3*n':=by have:=t.1;omega
  rcases t.2 b2 hb with e|⟨y,j,⟨cs,e,rfl,A⟩|p⟩
  ·exact .at_ g (e.trans hx) hc hcap hl he
  ·by_cases h0:len=0
   ·subst h0;have:cl=[]:=by rw [←he];simp
    subst this;exact .nil (.inr ⟨_,_,_,rfl,g⟩)
   exfalso;rw [j] at hx;cases hx;injection hc with hc
   subst hc;have q:gP cl=len:=by rw [←he,Af,Ak];omega
   obtain ⟨d,a,rfl⟩:∃d a,cl=d::a:=by
    cases cl with
    |nil=>exact cA q.symm h0
    |cons d a=>exact ⟨d,a,rfl⟩
   have u:d∈cs:=by
    have:d∈(cs.drop off).take (len*1):=by rw [he];exact As
    exact Bx (AW this)
   have:=Bt.1 A _ u;rw [l d As] at this;cases this
  rw [hx] at j;cases j;rw [hc] at p;cases p
theorem WW.t {h:HF}{n:Nat}{a:Option Addr}{l c m:Nat}(i:WW h n a l c m)(t:Tr n h n' h'):WW h' n' a l c m:=by
 obtain ⟨L,h1,h2,e⟩:=i;exact ⟨L,h1.trG (fun x g=>by obtain ⟨d,_,rfl⟩:=Ay.1 g;rfl) t,h2,e⟩
theorem IW.t {h:HF}{n:Nat}{b:Bool}{a:Option Addr}{l c:Nat}{x:Int}(i:IW h n b a l c x)(t:Tr n h n' h'):IW h' n' b a l c x:=⟨i.1,i.2.t t⟩
theorem GG.t {h:HF}{n:Nat}(g:GG h n)(t:Tr n h n' h'):GG h' n':=by
 obtain ⟨⟨u,A,D⟩,F⟩:=g;have f:∀c x,h c=some x→(∀cs e,x=.row cs e→cs.all nu=false)→c<60→(∀y,x=y→y.cells≠none)→h' c=some x:=by
  intro c x l G K H;rcases t.2 c zo with s|⟨y,a,⟨I,J,rfl,p⟩|j⟩
  ·rw [s,l]
  ·rw [l] at a;injection a with a
   rw [G _ _ a] at p;cases p
  rw [l] at a;injection a with a
  subst a;exact cA j (H _ rfl)
 refine ⟨⟨f _ _ u ?_ ?_ ?_,f _ _ A ?_ ?_ ?_,f _ _ D ?_ ?_ ?_⟩,Ap F t.1⟩<;>first|decide|(intro cs e q;cases q<;>rfl)|(intro y q;subst q;intro j;cases j)
theorem GG.x {h:HF}{n:Nat}(g:GG h n)(t:Tx n h n' h'):GG h' n':=g.ext t.2 t.1
theorem IW.x {h:HF}{n:Nat}{b:Bool}{a:Option Addr}{l c:Nat}{x:Int}(i:IW h n b a l c x)(t:Tx n h n' h'):IW h' n' b a l c x:=i.ext t.2 t.1
theorem zt {n:Nat}{h:HF}(t:Tr n h n' h':=by (repeat (first|exact Tr.refl _ _|(apply Tr.e;assumption;(first|assumption|exact Nat.le_refl _|exact Nat.le_succ _|omega))|(apply Tr.s;assumption)|(apply Tr.l;assumption)))):Tr n h n' h':=t
theorem zx {n:Nat}{h:HF}(t:Tx n h n' h':=by (repeat (first|exact Tx.refl _ _|(apply Tx.e;assumption;(first|assumption|exact Nat.le_refl _|exact Nat.le_succ _|omega))|(apply Tx.a;assumption;omega;omega)|(apply Tx.s;assumption;omega)|(apply Tx.o;assumption;omega)|(apply Tx.lp;assumption;omega)|(apply Tx.l;assumption;(first|assumption|exact Nat.le_refl _|exact Nat.le_succ _|omega);(intro b g;simp only [List.mem_cons,List.not_mem_nil,or_false] at g<;>omega))))):Tx n h n' h':=t
theorem zy {n:Nat}{B:List Nat}{h:HF}(t:Ty n B h n' h':=by (repeat (first|exact Ty.refl _ _ _|(apply Ty.e;assumption;(first|assumption|exact Nat.le_refl _|exact Nat.le_succ _|omega))|(apply Ty.a;assumption;omega;omega)|(apply Ty.s;assumption;(first|(left;omega)|(right;simp)))|(apply Ty.o;assumption;(first|(left;omega)|(right;simp)))|(apply Ty.lp;assumption;(first|(left;omega)|(right;simp)))|(apply Ty.l;assumption;(first|assumption|exact Nat.le_refl _|exact Nat.le_succ _|omega);(intro b g;simp only [List.mem_cons,List.not_mem_nil,or_false] at g ⊢ <;>omega))))):ExtB n B h h':=t.2
theorem zp {b:Nat}{h:HF}{x:Option BF}(t:h b=x:=by (repeat (first|assumption|(apply Ext.zz;assumption;omega)|(apply Sto.zz;assumption;omega)|(apply Only.zz;assumption;omega)|(apply Lpo.zz;assumption;omega)|(apply Exa.zz;assumption;omega)|(apply ExtB.zz;assumption;omega;(simp only [List.mem_cons,List.not_mem_nil,or_false,not_false_eq_true]<;>omega))))):h b=x:=t
theorem ldG {E:Env}{h:HF}{b:Nat}{e:TypeId}{r:List Value}(L:List Value)(g:GL.isAgg E ty=some true)(l:E.inf ty=some (sz,bt,z))(j:h b=some (.row c e))(a:c.drop off=L++r)(hl:L.length=sz)(h1:0<L.length:=by exact Nat.succ_pos _):yr E ty h ⟨b,off,none⟩=some (.agg L.toArray):=by
 have h2:=congrArg List.length a;rw [List.length_drop,List.length_append] at h2;refine zT (cs:=L) ⟨g,l⟩ j rfl zo ?_;rw [a,←hl,List.take_left]
theorem ld1 {E:Env}{h:HF}{b:Nat}{e:TypeId}{r:List Value}(a:GL.isAgg E ty=some true)(l:E.inf ty=some (1,bt,z))(g:h b=some (.row c e))(j:c.drop off=x1::r):yr E ty h ⟨b,off,none⟩=some (.agg #[x1]):=ldG [x1] a l g j rfl
theorem ld2 {E:Env}{h:HF}{b:Nat}{e:TypeId}{r:List Value}(a:GL.isAgg E ty=some true)(l:E.inf ty=some (2,bt,z))(g:h b=some (.row c e))(j:c.drop off=x1::x2::r):yr E ty h ⟨b,off,none⟩=some (.agg #[x1,x2]):=ldG [x1,x2] a l g j rfl
theorem ld3 {E:Env}{h:HF}{b:Nat}{e:TypeId}{r:List Value}(a:GL.isAgg E ty=some true)(l:E.inf ty=some (3,bt,z))(g:h b=some (.row c e))(j:c.drop off=x1::x2::x3::r):yr E ty h ⟨b,off,none⟩=some (.agg #[x1,x2,x3]):=ldG [x1,x2,x3] a l g j rfl
theorem ld4 {E:Env}{h:HF}{b:Nat}{e:TypeId}{r:List Value}(a:GL.isAgg E ty=some true)(l:E.inf ty=some (4,bt,z))(g:h b=some (.row c e))(j:c.drop off=x1::x2::x3::x4::r):yr E ty h ⟨b,off,none⟩=some (.agg #[x1,x2,x3,x4]):=ldG [x1,x2,x3,x4] a l g j rfl
theorem ld5 {E:Env}{h:HF}{b:Nat}{e:TypeId}{r:List Value}(a:GL.isAgg E ty=some true)(l:E.inf ty=some (5,bt,z))(g:h b=some (.row c e))(j:c.drop off=x1::x2::x3::x4::x5::r):yr E ty h ⟨b,off,none⟩=some (.agg #[x1,x2,x3,x4,x5]):=ldG [x1,x2,x3,x4,x5] a l g j rfl
theorem ld6 {E:Env}{h:HF}{b:Nat}{e:TypeId}{r:List Value}(a:GL.isAgg E ty=some true)(l:E.inf ty=some (6,bt,z))(g:h b=some (.row c e))(j:c.drop off=x1::x2::x3::x4::x5::x6::r):yr E ty h ⟨b,off,none⟩=some (.agg #[x1,x2,x3,x4,x5,x6]):=ldG [x1,x2,x3,x4,x5,x6] a l g j rfl
theorem ld10 {E:Env}{h:HF}{b:Nat}{e:TypeId}{r:List Value}(a:GL.isAgg E ty=some true)(l:E.inf ty=some (10,bt,z))(g:h b=some (.row c e))(j:c.drop off=x1::x2::x3::x4::x5::x6::x7::x8::x9::x10::r):yr E ty h ⟨b,off,none⟩=some (.agg #[x1,x2,x3,x4,x5,x6,x7,x8,x9,x10]):=ldG [x1,x2,x3,x4,x5,x6,x7,x8,x9,x10] a l g j rfl
theorem ld11 {E:Env}{h:HF}{b:Nat}{e:TypeId}{a:Value}{r:List Value}(g:GL.isAgg E ty=some true)(p:E.inf ty=some (11,bt,z))(j:h b=some (.row c e))(l:c.drop off=x1::x2::x3::x4::x5::x6::x7::x8::x9::x10::a::r):yr E ty h ⟨b,off,none⟩=some (.agg #[x1,x2,x3,x4,x5,x6,x7,x8,x9,x10,a]):=ldG [x1,x2,x3,x4,x5,x6,x7,x8,x9,x10,a] g p j l rfl
structure Hd (q:Prop):Prop where
 go:q
def ezO:Op→Bool
 | .move _=>true
 | .assign _=>true
 | .pick _ _ _=>true
 | .nilCheck _=>true
 | .unOp _ _ _=>true
 | .fieldAddr _ _ _=>true
 | .extract _ _=>true
 |_=>false
def bnO:Op→Bool
 | .binOp _ _ _ _ _=>true
 |_=>false
def litB:Value→Bool
 | kz b=>b|| !b
 |_=>false
def lnO:Op→Option Operand
 | .call c=>(match c.callee,c.args.toList with| .builtin .len,[x]=>some x|_,_=>none)
 |_=>none
section
variable {r:List Oper}{t:TF}{o:Oper}{d:Tmp}
theorem zgE (_:ezO o.op=true)(k:EO X ops (o::r) ⟨t,h,n,w⟩ Q):EO X ops (o::r) ⟨t,h,n,w⟩ Q:=k
theorem zgB (_:bnO o.op=true)(k:EO X ops (o::r) ⟨t,h,n,w⟩ Q):EO X ops (o::r) ⟨t,h,n,w⟩ Q:=k
theorem zgL {x:Operand}{b:Nat}{y:BF}(_:o.op=.load ty x)(_:evF t x=kS (some ⟨b,off,none⟩))(a:h b=some y)(k:h b=some y→EO X ops (o::r) ⟨t,h,n,w⟩ Q):EO X ops (o::r) ⟨t,h,n,w⟩ Q:=k a
theorem zgQ {x:Operand}{q:BinOp}(_:o.op=.binOp q ty x y ty')(_:litB (evF t x)=true)(_:litB (evF t y)=true)(k:EO X ops (o::r) ⟨t,h,n,w⟩ Q):EO X ops (o::r) ⟨t,h,n,w⟩ Q:=k
theorem zgN {x:Operand}{a:Option Addr}{l c:Nat}(_:lnO o.op=some x)(_:evF t x=jx a l c)(k:EO X ops (o::r) ⟨t,h,n,w⟩ Q):EO X ops (o::r) ⟨t,h,n,w⟩ Q:=k
end
section
variable {r:List Oper}{t:TF}{ld:List (Nat×Nat)}{o:Oper}{d:Tmp}
theorem zhE (_:ezO o.op=true)(k:ED X ops (o::r) (m::ms) i ⟨⟨t,h,n,w⟩,al,ld,ef⟩ Q):ED X ops (o::r) (m::ms) i ⟨⟨t,h,n,w⟩,al,ld,ef⟩ Q:=k
theorem zhB (_:bnO o.op=true)(k:ED X ops (o::r) (m::ms) i ⟨⟨t,h,n,w⟩,al,ld,ef⟩ Q):ED X ops (o::r) (m::ms) i ⟨⟨t,h,n,w⟩,al,ld,ef⟩ Q:=k
theorem zhL {x:Operand}{b u:Nat}{y:BF}{g:HF}(_:o.op=.load ty x)(_:evF t x=kS (some ⟨b,off,none⟩))(_:wQ m ef i h=(u,g))(a:g b=some y)(k:g b=some y→ED X ops (o::r) (m::ms) i ⟨⟨t,h,n,w⟩,al,ld,ef⟩ Q):ED X ops (o::r) (m::ms) i ⟨⟨t,h,n,w⟩,al,ld,ef⟩ Q:=k a
theorem zhQ {x:Operand}{q:BinOp}(_:o.op=.binOp q ty x y ty')(_:litB (evF t x)=true)(_:litB (evF t y)=true)(k:ED X ops (o::r) (m::ms) i ⟨⟨t,h,n,w⟩,al,ld,ef⟩ Q):ED X ops (o::r) (m::ms) i ⟨⟨t,h,n,w⟩,al,ld,ef⟩ Q:=k
theorem zhN {x:Operand}{a:Option Addr}{l c:Nat}(_:lnO o.op=some x)(_:evF t x=jx a l c)(k:ED X ops (o::r) (m::ms) i ⟨⟨t,h,n,w⟩,al,ld,ef⟩ Q):ED X ops (o::r) (m::ms) i ⟨⟨t,h,n,w⟩,al,ld,ef⟩ Q:=k
end
theorem zG {p q:Prop}(k:q)(e:Hd q→p:=by intro k;(repeat (first|refine iz R3 ?_|(refine zgE rfl ?_;first|refine st_I R5 ?_|refine st_B R5 ?_|refine st_S R5 ?_|refine st_P R5 ?_|refine st_A R5 ?_|refine st_T R5 ?_|refine st_U R5 ?_|refine zF (v:=.pointer none) R5 ?_)|(refine zgL rfl rfl (by (repeat (first|assumption|(apply Ext.zz;assumption;omega)|(apply Sto.zz;assumption;omega)|(apply Only.zz;assumption;omega)|(apply Lpo.zz;assumption;omega)|(apply Exa.zz;assumption;omega)|(apply ExtB.zz;assumption;omega;(simp only [List.mem_cons,List.not_mem_nil,or_false,not_false_eq_true]<;>omega))))) (fun a=>?_);first|refine zV R5 (zX rfl a R2) ?_|refine zV R5 (ld1 rfl rfl a rfl) ?_|refine zV R5 (ld2 rfl rfl a rfl) ?_|refine zV R5 (ld3 rfl rfl a rfl) ?_|refine zV R5 (ld4 rfl rfl a rfl) ?_|refine zV R5 (ld5 rfl rfl a rfl) ?_|refine zV R5 (ld6 rfl rfl a rfl) ?_|refine zV R5 (ld10 rfl rfl a rfl) ?_|refine zV R5 (ld11 rfl rfl a rfl) ?_)|(refine zgN rfl rfl ?_;refine st_I R5 ?_)|(refine zgQ rfl rfl rfl ?_;refine st_B R5 ?_)|(refine zgB rfl ?_;first|refine pI R6 zo ?_|refine cP R6 zo ?_|refine pJ R6 zo ?_|refine nJ R6 zo ?_|refine ko R6 zo ?_|refine iB R6 zo ?_|refine kq R6 zo ?_|refine iD R6 zo ?_|refine cQ R6 zo ?_|refine cT R6 zo ?_|refine k7 R6 zo ?_|refine k8 R6 zo ?_|refine ur R6 zo ?_|refine kn R6 zo ?_)|simp only [NV,Nat.reduceEqDiff,reduceCtorEq]|refine (ze rfl).mpr ?_|refine (za rfl).mpr ?_));exact k.go):p:=e ⟨k⟩
theorem zH {p q:Prop}(k:q)(e:Hd q→p:=by intro k;(repeat (first|refine zf5 rfl rfl rfl ?_|(refine zhE rfl ?_;first|refine dr_I R5 ?_|refine dr_B R5 ?_|refine dr_S R4 rfl ?_|refine dr_P R5 ?_|refine dr_A R5 ?_|refine dr_T R5 ?_|refine dr_U R5 ?_)|(refine zhL rfl rfl rfl (by (repeat (first|assumption|(apply Ext.zz;assumption;omega)|(apply Sto.zz;assumption;omega)|(apply Only.zz;assumption;omega)|(apply Lpo.zz;assumption;omega)|(apply Exa.zz;assumption;omega)|(apply ExtB.zz;assumption;omega;(simp only [List.mem_cons,List.not_mem_nil,or_false,not_false_eq_true]<;>omega))))) (fun a=>?_);first|refine zZ R6 (zX rfl a R2) R2 ?_|refine zZ R6 (ld1 rfl rfl a rfl) R2 ?_|refine zZ R6 (ld2 rfl rfl a rfl) R2 ?_|refine zZ R6 (ld3 rfl rfl a rfl) R2 ?_|refine zZ R6 (ld4 rfl rfl a rfl) R2 ?_|refine zZ R6 (ld5 rfl rfl a rfl) R2 ?_|refine zZ R6 (ld6 rfl rfl a rfl) R2 ?_|refine zZ R6 (ld10 rfl rfl a rfl) R2 ?_|refine zZ R6 (ld11 rfl rfl a rfl) R2 ?_)|(refine zhN rfl rfl ?_;refine dr_I R5 ?_)|(refine zhQ rfl rfl rfl ?_;refine dr_B R5 ?_)|(refine zhB rfl ?_;first|refine zlb R6 zo ?_|refine zlc R6 zo ?_|refine zld R6 zo ?_|refine zle R6 zo ?_|refine zlf R6 zo ?_|refine zlg R6 zo ?_|refine zlh R6 zo ?_|refine zli R6 zo ?_|refine zlj R6 zo ?_|refine zlk R6 zo ?_|refine zf6 R6 zo ?_|refine zf7 R6 zo ?_|refine zgb R6 zo ?_|refine zf4 R6 zo ?_)|simp only [NV,Nat.reduceEqDiff,reduceCtorEq]|refine (ze rfl).mpr ?_|refine (za rfl).mpr ?_));exact k.go):p:=e ⟨k⟩
theorem zJ {p q:Prop}(k:q)(e:Hd q→p:=by intro k;refine zH ?_;refine zG ?_;exact k.go):p:=e ⟨k⟩
section
variable {r:List Oper}{t:TF}{o:Oper}{d:Tmp}
theorem zro {m b i c:Nat}{r:List (Nat×Nat)}(h:c≠b)(k:yc m [b] r=true):yc m [b] ((i,c)::r)=true:=by
 have a:memN c [b]=false:=by
  unfold memN;cases he:AG c b with
  |false=>rfl
  |true=>exact cA (Aw he) h
 unfold yc;rw [a,BJ,DB];exact k
theorem vc_A (h:v=.agg ⟨cs⟩):zC v=cs:=by
 subst h;rfl
theorem sA {e:TypeId}(k:∀h',h' (3*n+2)=some (.row cs e)→Ext n h h'→EO X ops r ⟨upd t d (.pointer (some ⟨3*n+2,0,none⟩)),h',n+1,w⟩ Q)(a:zi ops t o=true:=by exact rfl)(hd:o.dst=some d:=by exact rfl)(hn:zv X.nt (some d)=true:=by exact rfl)(ho:o.op=.alloc e:=by exact rfl)(hi:X.E.inf e=some (sz,bt,z):=by exact rfl)(hz:zC z=cs:=by first|exact vc_A rfl|exact rfl):EO X ops (o::r) ⟨t,h,n,w⟩ Q:=wI cs ⟨a,hd,hn,ho,hi,hz⟩ k
theorem sB {e:TypeId}(cs:List Value)(k:∀h',h' (3*n+2)=some (.row cs e)→Ext n h h'→EO X ops r ⟨upd t d (.pointer (some ⟨3*n+2,0,none⟩)),h',n+1,w⟩ Q)(a:zi ops t o=true:=by exact rfl)(hd:o.dst=some d:=by exact rfl)(hn:zv X.nt (some d)=true:=by exact rfl)(hc:cls o.op=2:=by exact rfl)(hm:mkE X.E o.op (evF t)=some ⟨cs,e,false,none⟩:=by exact rfl):EO X ops (o::r) ⟨t,h,n,w⟩ Q:=rB cs ⟨a,hd,hn,hc,hm⟩ k
theorem sC {P:Value→HF→Nat→Prop}(a:CX X.C f args h n P)(k:∀v h' n',P v h' n'→n≤n'→Ext n h h'→EO X ops r ⟨upd t d v,h',n',w⟩ Q)(e:zi ops t o=true:=by exact rfl)(hd:o.dst=some d:=by exact rfl)(hn:zv X.nt (some d)=true:=by exact rfl)(hc:cls o.op=3:=by exact rfl)(he:effF X.E o.op (evF t) h n=some (.enter f args):=by exact rfl):EO X ops (o::r) ⟨t,h,n,w⟩ Q:=fg ⟨e,hd,hn,hc,he⟩ a k
theorem sT (cs:Array Value)(k:EO X ops r ⟨upd t d (.agg cs),h,n,w⟩ Q)(a:zi ops t o=true:=by exact rfl)(hd:o.dst=some d:=by exact rfl)(hn:zv X.nt (some d)=true:=by exact rfl)(hc:cls o.op=0:=by exact rfl)(hv:yA X.E o.op (evF t)=some (.agg cs):=by exact rfl):EO X ops (o::r) ⟨t,h,n,w⟩ Q:=st_A ⟨a,hd,hn,hc,hv⟩ k
theorem sS {a x:Operand}{b:Nat}{e:TypeId}(c':List Value)(k:∀h',h' b=some (.row c' e)→Sto b h h'→EO (ctx kk n0 nt) ops r ⟨t,h',n,w⟩ Q)(g:zi ops t o=true:=by exact rfl)(hd:o.dst=none:=by exact rfl)(ho:o.op=.store ty a x:=by exact rfl)(hi:env.inf ty=some (sz,bt,z):=by exact rfl)(ha:evF t a=.pointer (some ⟨b,off,none⟩):=by exact rfl)(hb:h b=some (.row c e):=by exact zp)(hu:c.all nu=true:=by exact rfl)(hx:zC (evF t x)=cs:=by exact rfl)(hs:cs.length=sz:=by exact rfl)(h1:ones cs=true:=by exact rfl)(hl:off+sz≤c.length:=by exact zb)(hsp:zw c off cs=c':=by exact rfl)(hnew:3*n0≤b:=by omega):EO (ctx kk n0 nt) ops (o::r) ⟨t,h,n,w⟩ Q:=no c' ⟨g,hd,ho,hi,ha⟩ hb ⟨hx,hs,h1⟩ hl hsp hnew fun h' p q=>k h' p ⟨q,_,_,hb,hu⟩
end
section
variable {r:List Oper}{t:TF}{ld:List (Nat×Nat)}{o:Oper}{d:Tmp}
theorem dB {e:TypeId}(cs:List Value)(k:∀h',h' (3*n+2)=some (.row cs e)→Ext n h h'→ED X ops r ms (i+1) ⟨⟨upd t d (.pointer (some ⟨3*n+2,0,none⟩)),h',n+1,w⟩,(i,3*n+2)::al,ld,ef⟩ Q)(a:zi ops t o=true:=by exact rfl)(hd:o.dst=some d:=by exact rfl)(hn:zv X.nt (some d)=true:=by exact rfl)(hc:cls o.op=2:=by exact rfl)(hm:mkE X.E o.op (evF t)=some ⟨cs,e,false,none⟩:=by exact rfl):ED X ops (o::r) (m::ms) i ⟨⟨t,h,n,w⟩,al,ld,ef⟩ Q:=zoo cs a hd hn hc hm k
theorem dC {P:Value→HF→Nat→Prop}(a:CX X.C f args h n P)(k:∀v h' n',P v h' n'→n≤n'→Ext n h h'→ED X ops r ms (i+1) ⟨⟨upd t d v,h',n',w⟩,al,ld,(i,h,[])::ef⟩ Q)(e:zi ops t o=true:=by exact rfl)(hd:o.dst=some d:=by exact rfl)(hn:zv X.nt (some d)=true:=by exact rfl)(hc:cls o.op=3:=by exact rfl)(he:effF X.E o.op (evF t) h n=some (.enter f args):=by exact rfl)(h1:xg m ef=true:=by exact rfl)(h2:xU m al=true:=by exact rfl):ED X ops (o::r) (m::ms) i ⟨⟨t,h,n,w⟩,al,ld,ef⟩ Q:=zlt e hd hn hc he a h1 h2 k
theorem dT (cs:Array Value)(k:ED X ops r ms (i+1) ⟨⟨upd t d (.agg cs),h,n,w⟩,al,ld,ef⟩ Q)(a:zi ops t o=true:=by exact rfl)(hd:o.dst=some d:=by exact rfl)(hn:zv X.nt (some d)=true:=by exact rfl)(hc:(cls o.op==0||cls o.op==4)=true:=by exact rfl)(hv:yA X.E o.op (evF t)=some (.agg cs):=by exact rfl):ED X ops (o::r) (m::ms) i ⟨⟨t,h,n,w⟩,al,ld,ef⟩ Q:=dr_A ⟨a,hd,hn,hc,hv⟩ k
theorem dS {a x:Operand}{b:Nat}{e:TypeId}(c':List Value)(k:∀h',h' b=some (.row c' e)→Sto b h h'→ED (ctx kk n0 nt) ops r ms (i+1) ⟨⟨t,h',n,w⟩,al,ld,(i,h,[b])::ef⟩ Q)(g:zi ops t o=true:=by exact rfl)(hd:o.dst=none:=by exact rfl)(ho:o.op=.store ty a x:=by exact rfl)(hi:env.inf ty=some (sz,bt,z):=by exact rfl)(ha:evF t a=.pointer (some ⟨b,off,none⟩):=by exact rfl)(hb:h b=some (.row c e):=by exact zp)(hu:c.all nu=true:=by exact rfl)(hx:zC (evF t x)=cs:=by exact rfl)(hs:cs.length=sz:=by exact rfl)(h1:ones cs=true:=by exact rfl)(hl:off+sz≤c.length:=by exact zb)(hsp:zw c off cs=c':=by exact rfl)(hnew:3*n0≤b:=by omega)(g1:xg m ef=true:=by exact rfl)(g2:xU m al=true:=by exact rfl)(g3:yc m [b] ld=true:=by first|exact rfl|(repeat (first|exact rfl|(apply zro;omega)))):ED (ctx kk n0 nt) ops (o::r) (m::ms) i ⟨⟨t,h,n,w⟩,al,ld,ef⟩ Q:=zom c' g hd ho hi ha hb hx hs h1 hl hsp hnew g1 g2 g3 fun h' p q=>k h' p ⟨q,_,_,hb,hu⟩
end
theorem zkp {s:SV}{a:Tmp}{b:Nat}{y:BF}{r:List ResultVar}(_:s.t a=kS (some ⟨b,off,none⟩))(e:s.h b=some y)(k:s.h b=some y→resF env s (.cell a ty::r)=some vs):resF env s (.cell a ty::r)=some vs:=k e
theorem zq {p:Prop}{P:Value→HF→Nat→Prop}{e:Ex}{t:TF}{h:HF}{n0 n:Nat}(a:P (pg vs) h n)(go:Hd (RetH fn (Gw n0 h0 P) e ⟨t,h,n,[]⟩)→p:=by intro k;refine zH ?_;refine zG ?_;exact k.go)(he:rz e=true:=by exact rfl)(hr:resF env ⟨t,h,n,[]⟩ fn.results.toList=some vs:=by (repeat (first|exact pM|(apply xj (v:=.bool _);exact rfl)|(apply xj (v:=.int _ _);exact rfl)|(apply xj (v:=.slice _ _ _);exact rfl)|(apply xj (v:=.agg #[_,_]);exact rfl)|(apply xj (v:=.agg #[_,_,_,_]);exact rfl)|(apply xj (v:=.string _);exact rfl)|(apply xj;exact rfl)|(apply zkp;exact rfl;(focus ((repeat (first|assumption|(apply Ext.zz;assumption;omega)|(apply Sto.zz;assumption;omega)|(apply Only.zz;assumption;omega)|(apply Lpo.zz;assumption;omega)|(apply Exa.zz;assumption;omega)|(apply ExtB.zz;assumption;omega;(simp only [List.mem_cons,List.not_mem_nil,or_false,not_false_eq_true]<;>omega))));done));intro hblk;first|(apply wq;exact rfl;exact zX rfl hblk R2)|(apply wq;exact rfl;exact ld1 rfl rfl hblk rfl)|(apply wq;exact rfl;exact ld2 rfl rfl hblk rfl)|(apply wq;exact rfl;exact ld3 rfl rfl hblk rfl)|(apply wq;exact rfl;exact ld4 rfl rfl hblk rfl)|(apply wq;exact rfl;exact ld5 rfl rfl hblk rfl)|(apply wq;exact rfl;exact ld6 rfl rfl hblk rfl)|(apply wq;exact rfl;exact ld10 rfl rfl hblk rfl)|(apply wq;exact rfl;exact ld11 rfl rfl hblk rfl)))))(hf:td vs=false:=by exact rfl)(hx:Tx n0 h0 n h:=by exact zx):p:=go ⟨retX vs ⟨he,hr,hf⟩ hx.1 hx.2 a⟩
theorem zf {p:Prop}{P:Value→Prop}{e:Ex}{s:SV}(a:P (pg vs))(go:Hd (RetF fn P e s)→p:=by intro k;refine zH ?_;refine zG ?_;exact k.go)(he:rz e=true:=by exact rfl)(hr:resF env s fn.results.toList=some vs:=by (repeat (first|exact pM|(apply xj (v:=.bool _);exact rfl)|(apply xj (v:=.int _ _);exact rfl)|(apply xj (v:=.slice _ _ _);exact rfl)|(apply xj (v:=.agg #[_,_]);exact rfl)|(apply xj (v:=.agg #[_,_,_,_]);exact rfl)|(apply xj (v:=.string _);exact rfl)|(apply xj;exact rfl)|(apply zkp;exact rfl;(focus ((repeat (first|assumption|(apply Ext.zz;assumption;omega)|(apply Sto.zz;assumption;omega)|(apply Only.zz;assumption;omega)|(apply Lpo.zz;assumption;omega)|(apply Exa.zz;assumption;omega)|(apply ExtB.zz;assumption;omega;(simp only [List.mem_cons,List.not_mem_nil,or_false,not_false_eq_true]<;>omega))));done));intro hblk;first|(apply wq;exact rfl;exact zX rfl hblk R2)|(apply wq;exact rfl;exact ld1 rfl rfl hblk rfl)|(apply wq;exact rfl;exact ld2 rfl rfl hblk rfl)|(apply wq;exact rfl;exact ld3 rfl rfl hblk rfl)|(apply wq;exact rfl;exact ld4 rfl rfl hblk rfl)|(apply wq;exact rfl;exact ld5 rfl rfl hblk rfl)|(apply wq;exact rfl;exact ld6 rfl rfl hblk rfl)|(apply wq;exact rfl;exact ld10 rfl rfl hblk rfl)|(apply wq;exact rfl;exact ld11 rfl rfl hblk rfl)))))(hf:td vs=true:=by exact rfl)(hw:s.w=[]:=by exact rfl):p:=go ⟨retF vs he hr ⟨hf,hw⟩ a⟩
theorem sF {X:CtxF}{c:Code}{t:TF}{h:HF}{n:Nat}{w:List Nat}{Q:Ex→SV→Prop}(e:α→List (Nat×Value))(I:α→HF→Nat→List Nat→Prop)(μ:α→Nat)(a:α)(j:I a h n w)(g:∀a t h n w,I a h n w→EC X c ⟨dr t (e a),h,n,w⟩ (pT e I μ a Q))(hl:wU t (e a):=by repeat (first|exact trivial|refine ⟨rfl,?_⟩))(hm:μ a<X.L:=by show _<LL;unfold LL;(try dsimp only);omega):EC X (.loop c) ⟨t,h,n,w⟩ Q:=z9 e I μ a hl j hm g
theorem sK {e:α→List (Nat×Value)}{I:α→HF→Nat→List Nat→Prop}{μ:α→Nat}{a:α}{Q:Ex→SV→Prop}{t:TF}{h:HF}{n:Nat}{w:List Nat}(g:α)(j:I g h n w)(h1:μ g<μ a:=by (try dsimp only);omega)(h2:wU t (e g):=by repeat (first|exact trivial|refine ⟨rfl,?_⟩)):pT e I μ a Q .normal ⟨t,h,n,w⟩:=goOn g h1 h2 j
theorem Zh {p q:Prop}(k:q)(e:ZH q→p:=by intro k;refine zG ?_;refine sA ?_;exact k.go):p:=e ⟨k⟩
theorem Zq {p q:Prop}(k:q)(e:ZH q→p:=by intro k;refine zG ?_;refine zf ?_;exact k.go):p:=e ⟨k⟩
theorem Zt {p q:Prop}(k:q)(e:ZH q→p:=by intro k;refine zG ?_;refine zq ?_;exact k.go):p:=e ⟨k⟩
end
section
variable (k:Nat){h:HF}{n:Nat}{a1 a2:Option Addr}{l1 c1 l2 c2 x y:Nat}
theorem zqm (i:WW h n a1 l1 c1 x)(B:x<BW){d:Nat}(u:0<d∧d<18446744073709551616):CX (cal (k+4)) 238 [jx a1 l1 c1,jy .u64 (d:Int)] h n fun v b g=>∃a l c,v=.tuple #[jx a l c,jy .u64 ((x%d:Nat):Int)]∧WW b g a l c (x/d):=by
 obtain ⟨A,s,j,rfl⟩:=i;have:=j.len39 B;refine yg (zb9 k zo j.1 u s) ?_;rintro v b g w ⟨C,L,rfl,⟨m,o,p,f,q⟩,e,_⟩;obtain ⟨a,l,c,rfl,_⟩:=f.len;exact ⟨m,o,p,_,_,_,rfl,L,f,q,e⟩
theorem zqn (i:WW h n a1 l1 c1 x)(j:WW h n a2 l2 c2 y)(f:x<BW∧y<BW)(h0:0<y):CX (cal (k+5)) 212 [jx a1 l1 c1,jx a2 l2 c2] h n fun v q I=>∃a l c a' l' c',v=.tuple #[jx a l c,jx a' l' c']∧WW q I a l c (x/y)∧WW q I a' l' c' (x%y):=by
 refine zu (fn:=Tryz.f212) R4 ?_;refine zG ?_;refine sC (zgt (k+1) i j f) ?_;rintro _ Y n1 ⟨s,rfl,m⟩ p o;by_cases hlt:x<y
 ·have m:s= -1:=zo;subst m;refine Zt ?_;exact ⟨_,_,_,_,_,_,rfl,(WW.nil _ _).as (Cu hlt).symm,(i.ext o p).as (Ag hlt).symm⟩
 have m:¬s<0:=zo;obtain ⟨C,u,P,rfl⟩:=j;have g:=P.len39 f.2;have F:=u.lenW;have G:C≠[]:=fun h=>by rw [h] at h0;exact cA h0 zd
 obtain ⟨d,rfl⟩:∃d,C=[d]:=by
  cases C with
  |nil=>exact cA rfl G
  |cons d C=>
   cases C with
   |nil=>exact ⟨d,rfl⟩
   |cons e C=>simp only [Au] at g;omega
 have D:l2=1:=F;subst D;rw [nl] at h0 f ⊢;obtain ⟨b,J,xx,K,rfl,T,H,hc,L,U,he⟩:=(u.ext o p).inv zo;refine zG ?_;refine wp R8 zo ?_;refine zl R6 H (v:=jy .u64 (d:Int)) ⟨hc,(by show K[J+0]?=_;exact wE (j:=0) he rfl)⟩ ?_;refine zG ?_;have A:=zqm (k+0) (i.ext o p) f.1 (d:=d) ⟨h0,by have:=f.2;unfold BW at this;rwa [Gk] at this⟩;refine sC A ?_;rintro _ g O ⟨a,l,c,rfl,M⟩ y2 x2;refine zG ?_;have B:=zk8 (k+3) g O (w:=x%d) (by have:=Bo x h0;have:=f.2;unfold BW at this;rw [Gk] at this;omega);refine sC B ?_;rintro _ Z n3 ⟨V,l3,W,rfl,N⟩ S R;refine Zt ?_;exact ⟨_,_,_,_,_,_,rfl,M.ext R S,N⟩
theorem zql (i:WW h n a1 l1 c1 x)(j:WW h n a2 l2 c2 y)(g:x<BW∧y<BW)(h0:0<y):CX (cal (k+6)) 181 [jx a1 l1 c1,jx a2 l2 c2] h n fun v f m=>∃a l c b e d,v=.tuple #[jx a l c,jx b e d]∧WW f m a l c (x/y)∧WW f m b e d (x%y):=by
 have w:l2≤1:=by
  obtain ⟨C,o,s,rfl⟩:=j;have:=s.len39 g.2;have:=o.lenW;omega
 refine zu (fn:=Tryz.f181) R4 ?_;refine zG ?_;refine sC (zqn k i j g h0) ?_;rintro _ u A ⟨a,l,c,b,e,d,rfl,p,q⟩ D B;refine Zt ?_;exact ⟨_,_,_,_,_,_,rfl,p,q⟩
theorem zp9 (g:GG h n)(i:WW h n a1 l1 c1 x)(j:WW h n a2 l2 c2 y)(a:x<BW∧y<BW):CX (cal (k+7)) 150 [jx a1 l1 c1,jx a2 l2 c2] h n (WV (sN x y)):=by
 obtain ⟨A,d,b,rfl⟩:=i;obtain ⟨C,f,c,rfl⟩:=j;have:=b.len39 a.1;have:=c.len39 a.2;refine yg (zjb (k+2) g.1 g.2 d f b c zo (.inl zo)) ?_;rintro v l m w ⟨L,r,e,_⟩;exact r.ww e
end
section
variable {cx:Nat}
theorem an (k:Nat){x:Int}(a:IW h n sx ax lx cx x):VF (cal (k+1)) 126 [.agg #[kz sx,jx ax lx cx]] h n fun v=>∃b:Bool,v=kz b∧(b=true↔x=0):=by
 refine zI (fn:=Tryz.f126) R4 ?_;refine zG ?_;refine sB [kz sx,jx ax lx cx] ?_;intro c d e;refine zG ?_;by_cases q12:(lx:Int)=0
 ·refine zf ?_;exact ⟨_,rfl,by have:=a.2.zero;simp only [reduceCtorEq,true_iff,false_iff];omega⟩
 refine zf ?_;exact ⟨_,rfl,by have:=a.2.zero;simp only [reduceCtorEq,true_iff,false_iff];omega⟩
theorem yU (k:Nat){bx:Bool}{x:Int}(a:IW h n bx ax lx cx x):CX (cal (k+1)) 126 [.agg #[kz bx,jx ax lx cx]] h n (BV (x=0)):=(an k a).cx
theorem zo4 (k:Nat){x:Int}(a:IW h n sx ax lx cx x):VF (cal (k+1)) 205 [.agg #[kz sx,jx ax lx cx]] h n fun v=>∃s:Int,v=jy .i64 s∧(s= -1∧x<0∨s=0∧x=0∨s=1∧0<x):=by
 refine zI (fn:=Tryz.f205) R4 ?_;refine zG ?_;refine sB [kz sx,jx ax lx cx] ?_;intro b c d;refine zG ?_;by_cases q12:(lx:Int)=0
 ·refine zf ?_;exact ⟨_,rfl,by have:=a.2.zero;omega⟩
 refine zG ?_;cases sx
 ·refine zf ?_;exact ⟨_,rfl,by have:=a.ge;have:=a.2.zero;omega⟩
 refine zf ?_;exact ⟨_,rfl,by have:=a.lt;have:=a.2.zero;omega⟩
theorem zmc (k:Nat){bx:Bool}{x:Int}(a:IW h n bx ax lx cx x):CX (cal (k+1)) 205 [.agg #[kz bx,jx ax lx cx]] h n (SV3 x):=(zo4 k a).cx
theorem rG (k:Nat){bx:Bool}{x:Int}(d:IW h n bx ax lx cx x):CX (cal (k+1)) 118 [.agg #[kz bx,jx ax lx cx]] h n (BV (x=1)):=by
 obtain ⟨e,L,b,a,c⟩:=d;refine (zi6 k b a).cx.mono ?_;rintro _ _ _ rfl;refine ⟨_,rfl,?_⟩;rw [c,e,AT,BU,decide_eq_false_iff_not,decide_eq_true_iff];omega
theorem negX (k:Nat){x:Int}(a:IW h n sx ax lx cx x):CX (cal (k+2)) 153 [.agg #[kz sx,jx ax lx cx]] h n (IV (-x)):=by
 refine zu (fn:=Tryz.f153) R4 ?_;refine zG ?_;refine sB [kz sx,jx ax lx cx] ?_;intro o C H;refine sA ?_;intro p D I;refine zG ?_;cases sx
 ·refine zG ?_;refine sC (yL _ (a.t zt).2 true) ?_;rintro _ q w ⟨d,b,l,f,rfl,i⟩ L J;refine sS [kz d,jx b l f] ?_;intro s F A;refine zq ?_;exact ⟨_,_,_,_,rfl,(i.t zt).as (by have:=a.ge;unfold sgZ;(try simp only [Ed,BJ,if_true,if_false,AJ]);omega)⟩
 refine zG ?_;refine sC (yL _ (a.t zt).2 false) ?_;rintro _ u y ⟨e,c,m,g,rfl,j⟩ M K;refine sS [kz e,jx c m g] ?_;intro v G B;refine zq ?_;exact ⟨_,_,_,_,rfl,(j.t zt).as (by have:=a.lt;unfold sgZ;(try simp only [Ed,BJ,if_true,if_false,AJ]);omega)⟩
theorem addX (k:Nat){x:Int}{y:Int}(a:IW h n sx ax lx cx x)(b:IW h n sy ay ly cy y)(hx:x.natAbs<BW)(hy:y.natAbs<BW):CX (cal (k+4)) 127 [.agg #[kz sx,jx ax lx cx],.agg #[kz sy,jx ay ly cy]] h n (IV (x+y)):=by
 refine zu (fn:=Tryz.f127) R4 ?_;refine zG ?_;refine sB [kz sx,jx ax lx cx] ?_;intro ar cn d2;refine sB [kz sy,jx ay ly cy] ?_;intro au co d3;refine sA ?_;intro av cp d4;refine zG ?_;cases sx
 ·refine zG ?_;cases sy
  ·refine zG ?_;refine zm [0,1,0,4,0,16,60,127,255] rfl ?_;refine zH ?_;refine dC (zq3 _ (a.t zt).2 (b.t zt).2 zhh) ?_;rintro _ aw bw ⟨ab,bo,aj,rfl,L⟩ dn d5;refine dC (yL _ L false) ?_;rintro _ az bx ⟨p,e,a3,C,rfl,M⟩ dp d6;refine dS [kz p,jx e a3 C] ?_;intro b0 cq cf;refine zq ?_;exact ⟨_,_,_,_,rfl,(M.t zt).as (by have:=a.ge;have:=b.ge;unfold sgZ;(try simp only [if_true,if_false,AJ]);omega)⟩
  refine zG ?_;refine sC (zgt _ (a.t zt).2 (b.t zt).2 zhh) ?_;rintro _ b1 bz ⟨d0,rfl,c⟩ dq d7;rcases c with ⟨rfl,c⟩|⟨rfl,c⟩|⟨rfl,c⟩
  ·refine zG ?_;refine zm [0,1,0,4,0,16,60,127,255] rfl ?_;refine zH ?_;refine dC (za9 _ (b.t zt).2 (a.t zt).2 zhh zo) ?_;rintro _ b2 c0 ⟨ac,bp,ak,rfl,N⟩ dr d8;refine dC (yL _ N true) ?_;rintro _ b3 c1 ⟨q,f,a4,D,rfl,O⟩ ds d9;refine dS [kz q,jx f a4 D] ?_;intro b4 cr cg;refine zq ?_;exact ⟨_,_,_,_,rfl,(O.t zt).as (by have:=a.ge;have:=b.lt;unfold sgZ;(try simp only [if_true,if_false,AJ]);omega)⟩
  ·refine zG ?_;refine zm [0,1,0,4,0,16,60,127,255] rfl ?_;refine zH ?_;refine dC (za9 _ (a.t zt).2 (b.t zt).2 zhh zo) ?_;rintro _ b5 c2 ⟨ad,bq,al,rfl,P⟩ dt da;refine dC (yL _ P false) ?_;rintro _ b6 c3 ⟨s,g,a5,F,rfl,R⟩ du db;refine dS [kz s,jx g a5 F] ?_;intro b7 cs ch;refine zq ?_;exact ⟨_,_,_,_,rfl,(R.t zt).as (by have:=a.ge;have:=b.lt;unfold sgZ;(try simp only [if_true,if_false,AJ]);omega)⟩
  refine zG ?_;refine zm [0,1,0,4,0,16,60,127,255] rfl ?_;refine zH ?_;refine dC (za9 _ (a.t zt).2 (b.t zt).2 zhh zo) ?_;rintro _ b8 c4 ⟨ae,br,am,rfl,S⟩ dv dc;refine dC (yL _ S false) ?_;rintro _ b9 c5 ⟨u,i,a6,G,rfl,T⟩ dw dd;refine dS [kz u,jx i a6 G] ?_;intro ba ct ci;refine zq ?_;exact ⟨_,_,_,_,rfl,(T.t zt).as (by have:=a.ge;have:=b.lt;unfold sgZ;(try simp only [if_true,if_false,AJ]);omega)⟩
 refine zG ?_;cases sy
 ·refine zG ?_;refine sC (zgt _ (a.t zt).2 (b.t zt).2 zhh) ?_;rintro _ bb c6 ⟨d1,rfl,d⟩ dx de;rcases d with ⟨rfl,d⟩|⟨rfl,d⟩|⟨rfl,d⟩
  ·refine zG ?_;refine zm [0,1,0,4,0,16,60,127,255] rfl ?_;refine zH ?_;refine dC (za9 _ (b.t zt).2 (a.t zt).2 zhh zo) ?_;rintro _ bc c7 ⟨af,bs,an,rfl,U⟩ dy df;refine dC (yL _ U false) ?_;rintro _ bd c8 ⟨v,j,a7,H,rfl,V⟩ dz dg;refine dS [kz v,jx j a7 H] ?_;intro be cu cj;refine zq ?_;exact ⟨_,_,_,_,rfl,(V.t zt).as (by have:=a.lt;have:=b.ge;unfold sgZ;(try simp only [if_true,if_false,AJ]);omega)⟩
  ·refine zG ?_;refine zm [0,1,0,4,0,16,60,127,255] rfl ?_;refine zH ?_;refine dC (za9 _ (a.t zt).2 (b.t zt).2 zhh zo) ?_;rintro _ bf c9 ⟨ag,bt,ao,rfl,W⟩ e0 dh;refine dC (yL _ W true) ?_;rintro _ bg ca ⟨w,l,a8,I,rfl,Y⟩ e1 di;refine dS [kz w,jx l a8 I] ?_;intro bh cv ck;refine zq ?_;exact ⟨_,_,_,_,rfl,(Y.t zt).as (by have:=a.lt;have:=b.ge;unfold sgZ;(try simp only [if_true,if_false,AJ]);omega)⟩
  refine zG ?_;refine zm [0,1,0,4,0,16,60,127,255] rfl ?_;refine zH ?_;refine dC (za9 _ (a.t zt).2 (b.t zt).2 zhh zo) ?_;rintro _ bi cb ⟨ah,bu,ap,rfl,Z⟩ e2 dj;refine dC (yL _ Z true) ?_;rintro _ bj cc ⟨A,m,a9,J,rfl,a0⟩ e3 dk;refine dS [kz A,jx m a9 J] ?_;intro bk cw cl;refine zq ?_;exact ⟨_,_,_,_,rfl,(a0.t zt).as (by have:=a.lt;have:=b.ge;unfold sgZ;(try simp only [if_true,if_false,AJ]);omega)⟩
 refine zG ?_;refine zm [0,1,0,4,0,16,60,127,255] rfl ?_;refine zH ?_;refine dC (zq3 _ (a.t zt).2 (b.t zt).2 zhh) ?_;rintro _ bl cd ⟨ai,bv,aq,rfl,a1⟩ e4 dl;refine dC (yL _ a1 true) ?_;rintro _ bm ce ⟨B,o,aa,K,rfl,a2⟩ e5 dm;refine dS [kz B,jx o aa K] ?_;intro bn cz cm;refine zq ?_;exact ⟨_,_,_,_,rfl,(a2.t zt).as (by have:=a.lt;have:=b.lt;unfold sgZ;(try simp only [if_true,if_false,AJ]);omega)⟩
theorem tI {b:Bool}{x y:Int}(h:b=(decide (x<0) != decide (y<0))):sgZ b (x.natAbs*y.natAbs)=x*y:=by
 subst h;by_cases hx:x<0<;>by_cases hy:y<0
 ·rw [bO hx,bO hy];show ((x.natAbs*y.natAbs:Nat):Int)=_;rw [A6,CS zo,CS zo,Int.neg_mul_neg]
 ·rw [bO hx,aD hy];show -((x.natAbs*y.natAbs:Nat):Int)=_;rw [A6,CS zo,DV zo,EX,EU]
 ·rw [aD hx,bO hy];show -((x.natAbs*y.natAbs:Nat):Int)=_;rw [A6,DV zo,CS zo,Int.mul_neg,EU]
 rw [aD hx,aD hy];show ((x.natAbs*y.natAbs:Nat):Int)=_;rw [A6,DV zo,DV zo]
theorem jf {b:Bool}{x y:Int}(h:b=(decide (x<0) != decide (y<0))):sgZ b (x.natAbs/y.natAbs)=x.tdiv y:=by
 subst h;by_cases hx:x<0<;>by_cases hy:y<0
 ·obtain ⟨a,rfl⟩:∃a:Nat,x= -(a:Int):=⟨x.natAbs,zo⟩;obtain ⟨c,rfl⟩:∃c:Nat,y= -(c:Int):=⟨y.natAbs,zo⟩;rw [bO hx,bO hy,G1,G2,EU,AR,AR];rfl
 ·obtain ⟨a,rfl⟩:∃a:Nat,x= -(a:Int):=⟨x.natAbs,zo⟩;obtain ⟨c,rfl⟩:∃c:Nat,y=(c:Int):=⟨y.natAbs,zo⟩;rw [bO hx,aD hy,G1,AR];rfl
 ·obtain ⟨a,rfl⟩:∃a:Nat,x=(a:Int):=⟨x.natAbs,zo⟩;obtain ⟨c,rfl⟩:∃c:Nat,y= -(c:Int):=⟨y.natAbs,zo⟩;rw [aD hx,bO hy,G2,AR];rfl
 obtain ⟨a,rfl⟩:∃a:Nat,x=(a:Int):=⟨x.natAbs,zo⟩;obtain ⟨c,rfl⟩:∃c:Nat,y=(c:Int):=⟨y.natAbs,zo⟩;rw [aD hx,aD hy];rfl
theorem mulX (k:Nat){x:Int}{y:Int}(a:IW h n sx ax lx cx x)(b:IW h n sy ay ly cy y)(hx:x.natAbs<BW)(hy:y.natAbs<BW):CX (cal (k+5)) 128 [.agg #[kz sx,jx ax lx cx],.agg #[kz sy,jx ay ly cy]] h n (IV (x*y)):=by
 refine zu (fn:=Tryz.f128) R4 ?_;refine zG ?_;refine sB [kz sx,jx ax lx cx] ?_;intro S ao az;refine sB [kz sy,jx ay ly cy] ?_;intro T ap b0;refine sA ?_;intro U aq b1;refine zG ?_;refine zm [0,1,0,4,15,0,32,0,128,480,1023,2047] rfl ?_;refine zH ?_;cases sx
 ·refine zH ?_;cases sy
  ·refine zH ?_;refine dC (zel _ (a.t zt).2 (b.t zt).2 zhh) ?_;rintro _ V ac ⟨J,a8,N,rfl,s⟩ ba b2;refine dC (yL _ s false) ?_;rintro _ W ad ⟨g,c,F,m,rfl,u⟩ bb b3;refine dS [kz g,jx c F m] ?_;intro Y ar ak;refine zq ?_;exact ⟨_,_,_,_,rfl,(u.t zt).as (by have:=a.ge;have:=b.ge;exact tI (by simp<;>omega))⟩
  refine zH ?_;refine dC (zel _ (a.t zt).2 (b.t zt).2 zhh) ?_;rintro _ Z ae ⟨K,a9,O,rfl,v⟩ bc b4;refine dC (yL _ v true) ?_;rintro _ a0 af ⟨i,d,G,o,rfl,w⟩ bd b5;refine dS [kz i,jx d G o] ?_;intro a1 au al;refine zq ?_;exact ⟨_,_,_,_,rfl,(w.t zt).as (by have:=a.ge;have:=b.lt;exact tI (by simp<;>omega))⟩
 refine zH ?_;cases sy
 ·refine zH ?_;refine dC (zel _ (a.t zt).2 (b.t zt).2 zhh) ?_;rintro _ a2 ag ⟨L,aa,P,rfl,A⟩ be b6;refine dC (yL _ A true) ?_;rintro _ a3 ah ⟨j,e,H,p,rfl,B⟩ bf b7;refine dS [kz j,jx e H p] ?_;intro a4 av am;refine zq ?_;exact ⟨_,_,_,_,rfl,(B.t zt).as (by have:=a.lt;have:=b.ge;exact tI (by simp<;>omega))⟩
 refine zH ?_;refine dC (zel _ (a.t zt).2 (b.t zt).2 zhh) ?_;rintro _ a5 ai ⟨M,ab,R,rfl,C⟩ bg b8;refine dC (yL _ C false) ?_;rintro _ a6 aj ⟨l,f,I,q,rfl,D⟩ bh b9;refine dS [kz l,jx f I q] ?_;intro a7 aw an;refine zq ?_;exact ⟨_,_,_,_,rfl,(D.t zt).as (by have:=a.lt;have:=b.lt;exact tI (by simp<;>omega))⟩
theorem zmm (k:Nat){x:Int}{y:Int}(o:IW h n sx ax lx cx x)(m:IW h n sy ay ly cy y)(hx:x.natAbs<BW)(hy:y.natAbs<BW)(b9:y≠0):CX (cal (k+7)) 159 [.agg #[kz sx,jx ax lx cx],.agg #[kz sy,jx ay ly cy]] h n fun v V n'=>∃b a l c g d e f,v=.tuple #[.agg #[kz b,jx a l c],.agg #[kz g,jx d e f]]∧IW V n' b a l c (x.tdiv y)∧∃r,IW V n' g d e f r:=by
 refine zu (fn:=Tryz.f159) R4 ?_;refine zG ?_;refine sB [kz sx,jx ax lx cx] ?_;intro ai bu c9;refine sB [kz sy,jx ay ly cy] ?_;intro aj bv ca;refine sA ?_;intro ak bw cb;refine sA ?_;intro al bx cc;refine zG ?_;by_cases q15:(ly:Int)=0
 ·refine zG ?_;refine sT #[kz false,jx none 0 0] ?_;refine sT #[kz false,jx none 0 0] ?_;refine sS [kz false,jx none 0 0] ?_;intro am bz bk;refine sS [kz false,jx none 0 0] ?_;intro an c0 bl;refine zG ?_;exact cA (m.2.zero.1 zo) zo
 refine zG ?_;refine sC (zql _ (o.t zt).2 (m.t zt).2 zhh zo) ?_;rintro _ ao bb ⟨ad,ba,ae,af,ag,ah,rfl,i,j⟩ cm cd;refine zG ?_;refine zm [0,1,0,4,15,0,63,0,128,0,1023,2047,4095] rfl ?_;refine zH ?_;cases sx
 ·refine zH ?_;cases sy
  ·refine zH ?_;refine dC (yL _ i false) ?_;rintro _ ap bc ⟨D,p,a5,M,rfl,W⟩ cn ce;refine zH ?_;refine dC (yL _ (j.t zt) false) ?_;rintro _ aq bd ⟨F,q,a6,N,rfl,Y⟩ co cf;refine dS [kz D,jx p a5 M] ?_;intro ar c1 bm;refine dS [kz F,jx q a6 N] ?_;intro au c2 bn;refine zq ?_;exact ⟨_,_,_,_,_,_,_,_,rfl,(W.t zt).as (by have:=o.ge;have:=m.ge;exact jf (by simp<;>omega)),_,(Y.t zt)⟩
  refine zH ?_;refine dC (yL _ i true) ?_;rintro _ av be ⟨G,s,a7,O,rfl,Z⟩ cp cg;refine zH ?_;refine dC (yL _ (j.t zt) false) ?_;rintro _ aw bf ⟨H,u,a8,P,rfl,a0⟩ cq ch;refine dS [kz G,jx s a7 O] ?_;intro az c3 bo;refine dS [kz H,jx u a8 P] ?_;intro b0 c4 bp;refine zq ?_;exact ⟨_,_,_,_,_,_,_,_,rfl,(Z.t zt).as (by have:=o.ge;have:=m.lt;exact jf (by simp<;>omega)),_,(a0.t zt)⟩
 refine zH ?_;cases sy
 ·refine zH ?_;refine dC (yL _ i true) ?_;rintro _ b1 bg ⟨I,w,a9,R,rfl,a1⟩ cr ci;refine zH ?_;refine dC (yL _ (j.t zt) true) ?_;rintro _ b2 bh ⟨J,A,aa,S,rfl,a2⟩ cs cj;refine dS [kz I,jx w a9 R] ?_;intro b3 c5 bq;refine dS [kz J,jx A aa S] ?_;intro b4 c6 br;refine zq ?_;exact ⟨_,_,_,_,_,_,_,_,rfl,(a1.t zt).as (by have:=o.lt;have:=m.ge;exact jf (by simp<;>omega)),_,(a2.t zt)⟩
 refine zH ?_;refine dC (yL _ i false) ?_;rintro _ b5 bi ⟨K,B,ab,T,rfl,a3⟩ ct ck;refine zH ?_;refine dC (yL _ (j.t zt) true) ?_;rintro _ b6 bj ⟨L,C,ac,U,rfl,a4⟩ cu cl;refine dS [kz K,jx B ab T] ?_;intro b7 c7 bs;refine dS [kz L,jx C ac U] ?_;intro b8 c8 bt;refine zq ?_;exact ⟨_,_,_,_,_,_,_,_,rfl,(a3.t zt).as (by have:=o.lt;have:=m.lt;exact jf (by simp<;>omega)),_,(a4.t zt)⟩
theorem quoX (k:Nat){x:Int}{y:Int}(p:IW h n sx ax lx cx x)(q:IW h n sy ay ly cy y)(hx:x.natAbs<BW)(s:y.natAbs<BW)(m:y≠0):CX (cal (k+8)) 129 [.agg #[kz sx,jx ax lx cx],.agg #[kz sy,jx ay ly cy]] h n (IV (x.tdiv y)):=by
 refine zu (fn:=Tryz.f129) R4 ?_;refine zG ?_;refine sB [kz sx,jx ax lx cx] ?_;intro v S a3;refine sB [kz sy,jx ay ly cy] ?_;intro w T a4;refine sA ?_;intro A U a5;refine zG ?_;refine sC (rG _ (q.t zt)) ?_;rintro _ B L ⟨u,rfl,f⟩ aa a6;rcases bvs f with ⟨rfl,e⟩|⟨rfl,e⟩
 ·refine zG ?_;refine sC (zmm _ (p.t zt) (q.t zt) hx s m) ?_;rintro _ C M ⟨b,a,d,c,l,g,i,j,rfl,o,a2,K⟩ ab a7;refine Zh ?_;intro D V a8;refine sA ?_;intro F W a9;refine sS [kz b,jx a d c] ?_;intro G Y N;refine sS [kz l,jx g i j] ?_;intro H Z O;refine zG ?_;refine sS [kz b,jx a d c] ?_;intro I a0 P;refine zq ?_;exact ⟨_,_,_,_,rfl,(o.t zt)⟩
 refine zG ?_;refine sS [kz sx,jx ax lx cx] ?_;intro J a1 R;refine zq ?_;exact ⟨_,_,_,_,rfl,(p.t zt).as (by rw [e,CN])⟩
theorem gcdX (k:Nat){x:Int}{y:Int}(g:GG h n)(e:IW h n sx ax lx cx x)(f:IW h n sy ay ly cy y)(hx:x.natAbs<BW)(hy:y.natAbs<BW):CX (cal (k+8)) 117 [.agg #[kz sx,jx ax lx cx],.agg #[kz sy,jx ay ly cy]] h n (IV ((sN x.natAbs y.natAbs:Nat):Int)):=by
 refine zu (fn:=Tryz.f117) R4 ?_;refine zG ?_;refine sB [kz sx,jx ax lx cx] ?_;intro i s A;refine sB [kz sy,jx ay ly cy] ?_;intro j u B;refine sA ?_;intro l v C;refine zG ?_;refine sC (zp9 _ (g.t zt) (e.t zt).2 (f.t zt).2 zhh) ?_;rintro _ m p ⟨a,c,b,rfl,d⟩ F D;refine sT #[kz false,jx a c b] ?_;refine sS [kz false,jx a c b] ?_;intro o w q;refine zq ?_;exact ⟨_,_,_,_,rfl,by rw [aD];exact FB.2 (Dx _),(d.t zt)⟩
theorem znl (k:Nat){x:Int}{y:Int}(a:IW h n sx ax lx cx x)(c:IW h n sy ay ly cy y)(hx:x.natAbs<BW)(hy:y.natAbs<BW):VF (cal (k+4)) 243 [.agg #[kz sx,jx ax lx cx],.agg #[kz sy,jx ay ly cy]] h n fun v=>∃b:Bool,v=kz b∧(b=true↔x=y):=by
 refine zI (fn:=Tryz.f243) R4 ?_;refine zG ?_;refine sB [kz sx,jx ax lx cx] ?_;intro f o u;refine sB [kz sy,jx ay ly cy] ?_;intro g p w;refine zG ?_;cases sx
 ·refine zG ?_;cases sy
  ·refine zG ?_;refine sC (zgt _ (a.t zt).2 (c.t zt).2 zhh) ?_;rintro _ i l ⟨q,rfl,d⟩ C A;rcases d with ⟨rfl,d⟩|⟨rfl,d⟩|⟨rfl,d⟩
   ·refine zf ?_;exact ⟨_,rfl,by have:=a.ge;have:=c.ge;simp only [reduceCtorEq,true_iff,false_iff];omega⟩
   ·refine zf ?_;exact ⟨_,rfl,by have:=a.ge;have:=c.ge;simp only [reduceCtorEq,true_iff,false_iff];omega⟩
   refine zf ?_;exact ⟨_,rfl,by have:=a.ge;have:=c.ge;simp only [reduceCtorEq,true_iff,false_iff];omega⟩
  refine zf ?_;exact ⟨_,rfl,by have:=a.ge;have:=c.lt;simp only [reduceCtorEq,true_iff,false_iff];omega⟩
 refine zG ?_;cases sy
 ·refine zf ?_;exact ⟨_,rfl,by have:=a.lt;have:=c.ge;simp only [reduceCtorEq,true_iff,false_iff];omega⟩
 refine zG ?_;refine sC (zgt _ (a.t zt).2 (c.t zt).2 zhh) ?_;rintro _ j m ⟨s,rfl,e⟩ D B;rcases e with ⟨rfl,e⟩|⟨rfl,e⟩|⟨rfl,e⟩
 ·refine zf ?_;exact ⟨_,rfl,by have:=a.lt;have:=c.lt;simp only [reduceCtorEq,true_iff,false_iff];omega⟩
 ·refine zf ?_;exact ⟨_,rfl,by have:=a.lt;have:=c.lt;simp only [reduceCtorEq,true_iff,false_iff];omega⟩
 refine zf ?_;exact ⟨_,rfl,by have:=a.lt;have:=c.lt;simp only [reduceCtorEq,true_iff,false_iff];omega⟩
end
def denZ (q:Rat):Int:=if q.den=1 then 0 else (q.den:Int)
theorem yz {q:Rat}:denZ q=0↔q.den=1:=by
 unfold denZ;have:=q.den_pos;split<;>omega
theorem wk {q:Rat}(h:¬denZ q=0):denZ q=(q.den:Int):=by
 unfold denZ at*
 split
 ·rename_i h1;rw [eN h1] at h;exact cA rfl h
 rfl
theorem vo (x y:Rat):(x+y).num=(x.num*y.den+y.num*x.den)/((sN (x.num*y.den+y.num*x.den).natAbs (x.den*y.den):Nat):Int):=by
 rw [HD,D5]
theorem uS (x y:Rat):(x+y).den=(x.den*y.den)/sN (x.num*y.den+y.num*x.den).natAbs (x.den*y.den):=by
 rw [HD,D5]
theorem rM (x y:Rat):(x*y).num=(x.num*y.num)/((sN (x.num*y.num).natAbs (x.den*y.den):Nat):Int):=by
 rw [HE,D5]
theorem rN (x y:Rat):(x*y).den=(x.den*y.den)/sN (x.num*y.num).natAbs (x.den*y.den):=by
 rw [HE,D5]
theorem rT (a b:Int)(m:Nat):sN (a*m+b).natAbs m=sN b.natAbs m:=by
 have c:(HP (a*m+b) m)=HP b m:=by
  rw [Int.add_comm,Int.gcd_add_mul_right_left]
 simpa [HP] using c
theorem za2 {x y:Rat}(c:denZ x=0)(d:denZ y=0):(x+y).num=x.num+y.num∧denZ (x+y)=0:=by
 rw [yz] at*
 have a:=vo x y;have b:=uS x y;rw [c,d] at a b;simp at a b;exact ⟨a,b⟩
theorem zhi {x y:Rat}(f:denZ x=0)(c:¬denZ y=0):(x+y).num=x.num*denZ y+y.num∧denZ (x+y)=denZ y:=by
 have g:=wk c;rw [yz] at f c;have a:=vo x y;have b:=uS x y;have d:sN (x.num*(y.den:Int)+y.num).natAbs y.den=1:=(rT x.num y.num y.den).trans y.reduced;rw [f] at a b;simp only [Bs] at a b;have e:((1:Nat):Int)=1:=rfl;rw [e,Int.mul_one,d] at a;rw [e,Int.mul_one,d,DR] at b;rw [a,g];refine ⟨by rw [e,Int.ediv_one],?_⟩;unfold denZ;rw [b,cC c]
theorem zlr {x y:Rat}(a:¬denZ x=0)(b:denZ y=0):(x+y).num=y.num*denZ x+x.num∧denZ (x+y)=denZ x:=by
 rw [Rat.add_comm];exact zhi b a
structure AddS (x y:Rat)(d l r:Nat)(N:Int)(s:Nat):Prop where
 hd:d=sN x.den y.den
 hl:y.den=d*l
 hr:x.den=d*r
 hN:N=x.num*l+y.num*r
 hs:s=sN N.natAbs d
theorem AddS.cop {x y:Rat}{d l r:Nat}{N:Int}{s:Nat}(a:AddS x y d l r N s):sN N.natAbs (r*l)=1:=by
 have e:0<d:=by rw [a.hd];exact Ds _ x.den_pos
 have b:C5 l r:=by
  have c:sN x.den y.den=d*sN r l:=by rw [a.hr,a.hl,EG]
  rw [←a.hd] at c;have:d*1=d*sN r l:=zo;have:=Nat.eq_of_mul_eq_mul_left e this;rw [Nat.coprime_iff_gcd_eq_one,B8];exact this.symm
 have f:C5 x.num.natAbs r:=CD ⟨d,by rw [a.hr,vT]⟩ x.reduced;have g:C5 y.num.natAbs l:=CD ⟨d,by rw [a.hl,vT]⟩ y.reduced;have c:sN N.natAbs r=1:=by
  have:sN (y.num*(r:Int)+x.num*(l:Int)).natAbs r=1:=by
   rw [rT,AX,sa];exact EZ f b
  rw [a.hN,Int.add_comm];exact this
 have i:sN N.natAbs l=1:=by
  have:sN (x.num*(l:Int)+y.num*(r:Int)).natAbs l=1:=by
   rw [rT,AX,sa];exact EZ g b.symm
  rw [a.hN];exact this
 exact EE c i
theorem AddS.res {x y:Rat}{d l r:Nat}{N:Int}{s:Nat}(a:AddS x y d l r N s):(x+y).num=N.tdiv (s:Int)∧(x+y).den=r*(y.den/s):=by
 have b:0<d:=by rw [a.hd];exact Ds _ x.den_pos
 have c:0<s:=by rw [a.hs];exact A5 _ b
 have q:=a.cop;have j:=vo x y;have m:=uS x y;have f:x.num*(y.den:Int)+y.num*(x.den:Int)=(d:Int)*N:=by
  rw [a.hl,a.hr,a.hN];simp only [A6];grind
 have g:x.den*y.den=d*(r*l*d):=by rw [a.hl,a.hr];grind
 have i:sN ((d:Int)*N).natAbs (d*(r*l*d))=d*s:=by
  rw [AX,sa,EG,DZ d (FV q),←a.hs]
 rw [f,g,i] at j;rw [f,g,i] at m;have o:(s:Int)∣N:=by
  have:s∣N.natAbs:=by rw [a.hs];exact BB _ _
  exact BZ.2 this
 have p:s∣d:=by rw [a.hs];exact BS _ _
 refine ⟨?_,?_⟩
 ·rw [j,A6,Int.mul_ediv_mul_of_pos _ _ zo,CH o]
 rw [m,Nat.mul_div_mul_left _ _ b];obtain ⟨e,u⟩:=p;rw [a.hl,u];rw [show r*l*(s*e)=s*(r*(l*e)) from by grind,BY _ c,show s*e*l=s*(l*e) from by grind,BY _ c]
theorem kX (a b:Nat):(a:Int).tdiv (b:Int)=((a/b:Nat):Int):=rfl
theorem AddS.mk' {x y:Rat}(b:¬denZ x=0)(c:¬denZ y=0):∃d l r N s,AddS x y d l r N s∧((sN (denZ x).natAbs (denZ y).natAbs:Nat):Int)=d∧(denZ y).tdiv ((sN (denZ x).natAbs (denZ y).natAbs:Nat):Int)=l∧(denZ x).tdiv ((sN (denZ x).natAbs (denZ y).natAbs:Nat):Int)=r∧x.num*((denZ y).tdiv ((sN (denZ x).natAbs (denZ y).natAbs:Nat):Int))+y.num*((denZ x).tdiv ((sN (denZ x).natAbs (denZ y).natAbs:Nat):Int))=N∧∀M:Int,M=N→((sN M.natAbs (((sN (denZ x).natAbs (denZ y).natAbs:Nat):Int)).natAbs:Nat):Int)=(s:Nat):=by
 rw [wk b,wk c];simp only [sa,kX];have e:0<sN x.den y.den:=Ds _ x.den_pos;refine ⟨sN x.den y.den,y.den/sN x.den y.den,x.den/sN x.den y.den,_,sN (x.num*((y.den/sN x.den y.den:Nat):Int)+y.num*((x.den/sN x.den y.den:Nat):Int)).natAbs (sN x.den y.den),⟨rfl,?_,?_,rfl,rfl⟩,rfl,rfl,rfl,rfl,?_⟩
 ·rw [CJ (BS _ _)]
 ·rw [CJ (BB _ _)]
 intro M a;rw [a]
theorem zmy (x y:Rat):(x*y).num=(x.num/((sN x.num.natAbs y.den:Nat):Int))*(y.num/((sN y.num.natAbs x.den:Nat):Int))∧(x*y).den=(x.den/sN y.num.natAbs x.den)*(y.den/sN x.num.natAbs y.den):=by
 have p:=rM x y;have q:=rN x y;have L:sN (x.num*y.num).natAbs (x.den*y.den)=sN x.num.natAbs y.den*sN y.num.natAbs x.den:=by
  rw [AX];by_cases hx:x.num=0
  ·have s:x.den=1:=by have:=x.reduced;rw [hx] at this;simpa using this
   rw [hx,s];simp
  by_cases hy:y.num=0
  ·have w:y.den=1:=by have:=y.reduced;rw [hy] at this;simpa using this
   rw [hy,w];simp
  have d:0<sN x.num.natAbs y.den:=A5 _ y.den_pos;have f:0<sN y.num.natAbs x.den:=A5 _ x.den_pos;have F:=Fu d;have G:=Fu f;have A:=CJ (BB x.num.natAbs y.den);have B:=CJ (BS x.num.natAbs y.den);have C:=CJ (BB y.num.natAbs x.den);have D:=CJ (BS y.num.natAbs x.den);have g:=x.reduced;have i:=y.reduced;generalize sN x.num.natAbs y.den=g1 at*
  generalize sN y.num.natAbs x.den=g2 at*
  generalize x.num.natAbs/g1=a at*
  generalize y.den/g1=b at*
  generalize y.num.natAbs/g2=c at*
  generalize x.den/g2=e at*
  rw [←A,←B,←C,←D];rw [←A,←D] at g;rw [←C,←B] at i;have m:C5 a e:=Fh ⟨g1,vT _ _⟩ (CD ⟨g2,vT _ _⟩ g);have o:C5 c b:=Fh ⟨g2,vT _ _⟩ (CD ⟨g1,vT _ _⟩ i);have:C5 (a*c) (e*b):=EZ (EE m F) (EE G o);rw [show g1*a*(g2*c)=(g1*g2)*(a*c) from by grind,show g2*e*(g1*b)=(g1*g2)*(e*b) from by grind,EG,this,AO]
 rw [L] at p q;have H:((sN x.num.natAbs y.den:Nat):Int)∣x.num:=BZ.2 (BB _ _);have I:((sN y.num.natAbs x.den:Nat):Int)∣y.num:=BZ.2 (BB _ _);have J:sN y.num.natAbs x.den∣x.den:=BS _ _;have K:sN x.num.natAbs y.den∣y.den:=BS _ _;refine ⟨?_,?_⟩
 ·rw [p,A6];obtain ⟨u,j⟩:=H;obtain ⟨v,l⟩:=I;have d:0<sN x.num.natAbs y.den:=A5 _ y.den_pos;have f:0<sN y.num.natAbs x.den:=A5 _ x.den_pos;generalize sN x.num.natAbs y.den=g1 at*
  generalize sN y.num.natAbs x.den=g2 at*
  rw [j,l,Di _ zo,Di _ zo,show (g1:Int)*u*(g2*v)=(g1*g2)*(u*v) from by grind,Di];exact Int.mul_ne_zero zo zo
 rw [q];obtain ⟨u,j⟩:=J;obtain ⟨v,l⟩:=K;have d:0<sN x.num.natAbs y.den:=A5 _ y.den_pos;have f:0<sN y.num.natAbs x.den:=A5 _ x.den_pos;generalize sN x.num.natAbs y.den=g1 at*
 generalize sN y.num.natAbs x.den=g2 at*
 rw [j,l,BY _ f,BY _ d,show g2*u*(g1*v)=(g1*g2)*(u*v) from by grind,BY _ (CQ d f)]
theorem zgs (x y:Rat):(x<y↔x.num*y.den<y.num*x.den)∧(x=y↔x.num*y.den=y.num*x.den)∧(y<x↔y.num*x.den<x.num*y.den):=by
 refine ⟨FE ..,?_,FE ..⟩;constructor
 ·rintro rfl;rfl
 intro h;have a:¬x<y:=by rw [FE];omega
 have b:¬y<x:=by rw [FE];omega
 exact Rat.le_antisymm (HV.1 b) (HV.1 a)
section
variable {cx:Nat}
theorem vj {x y:Int}(h:x.natAbs<m):(x.tdiv y).natAbs<m:=by
 rw [DG];exact Ae (Bk _ _) h
theorem wB {x y:Int}{a:Nat}(c:x.natAbs<2^a)(d:y.natAbs<2^b):(x*y).natAbs<2^(a+b):=by
 rw [AX,Bq];exact EK c d
theorem zek {x y:Int}{a:Nat}(c:x.natAbs<2^a)(d:y.natAbs<2^b)(h:a+b≤64):(x*y).natAbs<BW:=ud (wB c d) h
theorem lv {x y:Int}(a:x.natAbs<2^m)(c:y.natAbs<2^m):(x+y).natAbs<2^(m+1):=by
 rw [Ar];omega
theorem zdg {x y u v:Int}{a:Nat}(d:x.natAbs<2^a)(e:y.natAbs<2^b)(hu:u.natAbs<2^b)(c:v.natAbs<2^a)(h:a+b+1≤64):(x*y+u*v).natAbs<BW:=
 ud (lv (wB d e) (by rw [BT a b];exact wB hu c)) h
theorem zl2 {x y u:Int}{a:Nat}(c:x.natAbs<2^a)(d:y.natAbs<2^b)(hu:u.natAbs<2^b)(h:a+b+1≤64):(x*y+u).natAbs<BW:=
 ud (lv (wB c d) (tv hu (Ac zd zo))) h
theorem zk6 {x y:Int}(a:x.natAbs<m)(h0:¬x=0):((sN x.natAbs y.natAbs:Nat):Int).natAbs<m:=by
 rw [sa];exact Ae (Ff _ zo) a
theorem eK {x y:Int}(a:y.natAbs<m)(h0:¬y=0):((sN x.natAbs y.natAbs:Nat):Int).natAbs<m:=by
 rw [sa];exact Ae (Nat.gcd_le_right _ zo) a
theorem zp8 {x y:Int}(h:¬x=0):((sN x.natAbs y.natAbs:Nat):Int)≠0:=by
 have:=Ds (n:=y.natAbs) (m:=x.natAbs) zo;omega
theorem eI {x y:Int}(h:¬y=0):((sN x.natAbs y.natAbs:Nat):Int)≠0:=by
 have:=A5 (m:=x.natAbs) (n:=y.natAbs) zo;omega
theorem zpr:(1:Int).natAbs<BW:=ud (e:=1) zd zd
theorem szB {x:Int}(h:x.natAbs<BW:=by first|assumption|exact vj ‹_› |exact zek ‹_› ‹_› zo|exact zek ‹_› (vj ‹_›) zo|exact zek (vj ‹_›) (vj ‹_›) zo|exact zdg ‹_› (vj ‹_›) ‹_› (vj ‹_›) zo|exact zdg ‹_› ‹_› ‹_› ‹_› zo|exact zl2 ‹_› ‹_› ‹_› zo|exact zk6 ‹_› ‹_› |exact zk6 (zdg ‹_› (vj ‹_›) ‹_› (vj ‹_›) zo) ‹_› |exact eK ‹_› ‹_› |exact zpr):x.natAbs<BW:=h
theorem szN {x:Int}(h:x≠0:=by first|assumption|exact zp8 ‹_› |exact eI ‹_› |omega):x≠0:=h
def Sz (m:Nat)(q:Rat):Prop:=q.num.natAbs<2^m∧q.den<2^m
theorem Sz.z (h:Sz m q):(denZ q).natAbs<2^m:=by
 unfold denZ;split
 ·exact Ef m
 rw [sa];exact h.2
theorem Sz.mono (h:Sz m q)(a:m≤m'):Sz m' q:=⟨tv h.1 (Ac zd a),tv h.2 (Ac zd a)⟩
theorem mH {x:Int}{g:Nat}(h:x.natAbs<m):(x/(g:Int)).natAbs<m:=by
 refine Ae ?_ h;exact Int.natAbs_ediv_le_natAbs _ _
theorem Sz.mul {a:Nat}{x y:Rat}(c:Sz a x)(d:Sz b y):Sz (a+b) (x*y):=by
 refine ⟨?_,?_⟩
 ·rw [rM];exact mH (wB c.1 d.1)
 rw [rN];refine Ae (Bk _ _) ?_;rw [Bq];exact EK c.2 d.2
theorem Sz.zero (a:Nat)(h:1≤a):Sz a 0:=⟨Ef a,tv (by decide:(1:Nat)<2^1) (Ac zd h)⟩
def QV (q:Rat)(v:Value)(h:HF)(n:Nat):Prop:=∃b a l c d e f g,v=.agg #[kz b,jx a l c,kz d,jx e f g]∧IW h n b a l c q.num∧IW h n d e f g (denZ q)
theorem QV.zero (h:HF)(n:Nat):QV 0 (.agg #[kz false,jx none 0 0,kz false,jx none 0 0]) h n:=⟨_,_,_,_,_,_,_,_,rfl,IW.zero h n,IW.zero h n⟩
theorem zqb (k:Nat)(h:HF)(n:Nat):CX (cal (k+1)) 184 [jy .u64 1] h n (WV 1):=zk8 k h n (w:=1) zd
theorem zef (k:Nat)(h:HF)(n:Nat):CX (cal (k+2)) 161 [jy .i64 1] h n (IV 1):=by
 refine zu (fn:=Tryz.f161) R4 ?_;refine Zh ?_;intro g p u;refine zG ?_;refine vn R6 (ik:=.u64) (a:=1) rfl ?_;refine sC (zqb _ _ _) ?_;rintro _ i l ⟨c,e,d,rfl,f⟩ w v;refine sT #[kz false,jx c e d] ?_;refine sS [kz false,jx c e d] ?_;intro j s o;refine zq ?_;exact ⟨_,_,_,_,rfl,rfl,(f.t zt)⟩
theorem zi4 (k:Nat){x:Rat}(e:IW h n sx ax lx cx x.num)(u:IW h n dx ex fx gx (denZ x)):VF (cal (k+2)) 167 [.agg #[kz sx,jx ax lx cx,kz dx,jx ex fx gx]] h n fun v=>∃b:Bool,v=kz b∧(b=true↔x=0):=by
 refine zI (fn:=Tryz.f167) R4 ?_;refine zG ?_;refine sB [kz sx,jx ax lx cx,kz dx,jx ex fx gx] ?_;intro g l o;refine zG ?_;refine sC (yU _ (e.t zt)) ?_;rintro _ i j ⟨f,rfl,c⟩ s p;rcases bvs c with ⟨rfl,a⟩|⟨rfl,a⟩
 ·refine zf ?_;exact zno fun d=>cA (B7.2 d) a
 refine zf ?_;exact zye (B7.1 a)
theorem zo5 (k:Nat){x:Rat}(c:IW h n sx ax lx cx x.num)(p:IW h n dx ex fx gx (denZ x)):VF (cal (k+2)) 166 [.agg #[kz sx,jx ax lx cx,kz dx,jx ex fx gx]] h n fun v=>∃s:Int,v=jy .i64 s∧(s= -1∧x.num<0∨s=0∧x.num=0∨s=1∧0<x.num):=by
 refine zI (fn:=Tryz.f166) R4 ?_;refine zG ?_;refine sB [kz sx,jx ax lx cx,kz dx,jx ex fx gx] ?_;intro d g j;refine zG ?_;refine sC (zmc _ (c.t zt)) ?_;rintro _ e f ⟨i,rfl,a⟩ o l;rcases a with ⟨rfl,a⟩|⟨rfl,a⟩|⟨rfl,a⟩
 ·refine zf ?_;exact ⟨_,rfl,zo⟩
 ·refine zf ?_;exact ⟨_,rfl,zo⟩
 refine zf ?_;exact ⟨_,rfl,zo⟩
theorem rR (k:Nat){x:Rat}(a:IW h n sx ax lx cx x.num)(c:IW h n dx ex fx gx (denZ x)):CX (cal (k+2)) 167 [.agg #[kz sx,jx ax lx cx,kz dx,jx ex fx gx]] h n (BV (x=0)):=(zi4 k a c).cx
theorem zo6 (k:Nat){x:Rat}(a:IW h n sx ax lx cx x.num)(c:IW h n dx ex fx gx (denZ x)):CX (cal (k+2)) 166 [.agg #[kz sx,jx ax lx cx,kz dx,jx ex fx gx]] h n (SV3 x.num):=(zo5 k a c).cx
theorem denQ (k:Nat){x:Rat}(O:IW h n sx ax lx cx x.num)(i:IW h n dx ex fx gx (denZ x)):CX (cal (k+3)) 136 [.agg #[kz sx,jx ax lx cx,kz dx,jx ex fx gx]] h n (IV (x.den:Int)):=by
 refine zu (fn:=Tryz.f136) R4 ?_;refine zG ?_;refine sB [kz sx,jx ax lx cx,kz dx,jx ex fx gx] ?_;intro o D I;refine sA ?_;intro p F J;refine zG ?_;refine sC (yU _ (i.t zt)) ?_;rintro _ s y ⟨l,rfl,c⟩ M K;rcases bvs c with ⟨rfl,a⟩|⟨rfl,a⟩
 ·refine zG ?_;refine sS [kz dx,jx ex fx gx] ?_;intro u G B;refine zq ?_;exact ⟨_,_,_,_,rfl,(i.t zt).as (wk a)⟩
 refine zG ?_;refine sC (zef _ _ _) ?_;rintro _ v A ⟨e,d,j,f,rfl,g⟩ N L;refine sS [kz e,jx d j f] ?_;intro w H C;refine zq ?_;exact ⟨_,_,_,_,rfl,(g.t zt).as (by rw [yz.1 a];rfl)⟩
theorem ue (k:Nat){x:Int}{y:Int}(e:IW h n sx ax lx cx x)(f:IW h n sy ay ly cy y)(d:q.num=x)(c:(q.den:Int)=y):CX (cal (k+2)) 130 [.agg #[kz sx,jx ax lx cx],.agg #[kz sy,jx ay ly cy]] h n (QV q):=by
 refine zu (fn:=Tryz.f130) R4 ?_;refine zG ?_;refine sB [kz sx,jx ax lx cx] ?_;intro j B H;refine sB [kz sy,jx ay ly cy] ?_;intro l C I;refine sA ?_;intro o D J;refine zG ?_;refine sC (rG _ (f.t zt)) ?_;rintro _ p v ⟨i,rfl,a⟩ L K;rcases bvs a with ⟨rfl,g⟩|⟨rfl,g⟩
 ·refine zG ?_;refine sT #[kz sx,jx ax lx cx,kz sy,jx ay ly cy] ?_;refine sS [kz sx,jx ax lx cx,kz sy,jx ay ly cy] ?_;intro s F w;refine zq ?_;exact ⟨_,_,_,_,_,_,_,_,rfl,(e.t zt).as (d.symm),(f.t zt).as (((wk (mt yz.1 (by have:=c;omega))).trans c).symm)⟩
 refine zG ?_;refine sT #[kz sx,jx ax lx cx,kz false,jx none 0 0] ?_;refine sS [kz sx,jx ax lx cx,kz false,jx none 0 0] ?_;intro u G A;refine zq ?_;exact ⟨_,_,_,_,_,_,_,_,rfl,(e.t zt).as (d.symm),(IW.zero _ _).as ((yz.2 (by have:=c;omega)).symm)⟩
theorem jH (k:Nat){x:Int}{y:Int}(g:GG h n)(s:IW h n sx ax lx cx x)(j:IW h n sy ay ly cy y)(hx:x.natAbs<BW)(hy:y.natAbs<BW)(a6:¬y=0):CX (cal (k+9)) 135 [.agg #[kz sx,jx ax lx cx],.agg #[kz sy,jx ay ly cy]] h n fun v I O=>∃b a l c g d e f,v=.tuple #[.agg #[kz b,jx a l c],.agg #[kz g,jx d e f]]∧IW I O b a l c (x.tdiv ((sN x.natAbs y.natAbs:Nat):Int))∧IW I O g d e f (y.tdiv ((sN x.natAbs y.natAbs:Nat):Int)):=by
 refine zu (fn:=Tryz.f135) R4 ?_;refine zG ?_;refine sB [kz sx,jx ax lx cx] ?_;intro R ag aq;refine sB [kz sy,jx ay ly cy] ?_;intro S ah ar;refine sA ?_;intro T ai au;refine sA ?_;intro U aj av;refine zG ?_;refine sC (rG _ (j.t zt)) ?_;rintro _ V a7 ⟨P,rfl,p⟩ b3 aw;rcases bvs p with ⟨rfl,i⟩|⟨rfl,i⟩
 ·refine zG ?_;refine sC (gcdX _ (g.t zt) (s.t zt) (j.t zt) szB szB) ?_;rintro _ W a8 ⟨B,u,L,F,rfl,o⟩ b4 az;refine sA ?_;intro Y ak b0;refine sS [kz B,jx u L F] ?_;intro Z al ab;refine zG ?_;refine zm [0,0,3,0,0,31,63,127] rfl ?_;refine zH ?_;refine dC (quoX _ (s.t zt) (o.t zt) szB szB szN) ?_;rintro _ a0 a9 ⟨C,w,M,G,rfl,J⟩ b5 b1;refine zH ?_;refine dC (quoX _ (j.t zt) (o.t zt) szB szB szN) ?_;rintro _ a1 aa ⟨D,A,N,H,rfl,K⟩ b6 b2;refine dS [kz C,jx w M G] ?_;intro a2 am ac;refine dS [kz D,jx A N H] ?_;intro a3 an ad;refine zq ?_;exact ⟨_,_,_,_,_,_,_,_,rfl,(J.t zt),(K.t zt)⟩
 refine zG ?_;refine zm [0,0,1,7] rfl ?_;refine zH ?_;refine dS [kz sx,jx ax lx cx] ?_;intro a4 ao ae;refine dS [kz sy,jx ay ly cy] ?_;intro a5 ap af;refine zq ?_;exact ⟨_,_,_,_,_,_,_,_,rfl,(s.t zt).as (by rw [i];simp),(j.t zt).as (by rw [i];simp)⟩
theorem zhg {x y:Rat}(e:¬denZ x=0)(f:¬denZ y=0)(h:x.num*((denZ y).tdiv ((sN (denZ x).natAbs (denZ y).natAbs:Nat):Int))+y.num*((denZ x).tdiv ((sN (denZ x).natAbs (denZ y).natAbs:Nat):Int))=0):x+y=0:=by
 obtain ⟨d,l,r,N,s,a,g,i,j,c,o⟩:=AddS.mk' e f;rw [c] at h;rw [←B7,a.res.1,h,Int.zero_tdiv]
theorem jL {x y:Rat}(i:¬denZ x=0)(c:¬denZ y=0):(x+y).num=(x.num*((denZ y).tdiv ((sN (denZ x).natAbs (denZ y).natAbs:Nat):Int))+y.num*((denZ x).tdiv ((sN (denZ x).natAbs (denZ y).natAbs:Nat):Int))).tdiv ((sN (x.num*((denZ y).tdiv ((sN (denZ x).natAbs (denZ y).natAbs:Nat):Int))+y.num*((denZ x).tdiv ((sN (denZ x).natAbs (denZ y).natAbs:Nat):Int))).natAbs (((sN (denZ x).natAbs (denZ y).natAbs:Nat):Int)).natAbs:Nat):Int)∧((x+y).den:Int)=((denZ x).tdiv ((sN (denZ x).natAbs (denZ y).natAbs:Nat):Int))*((denZ y).tdiv ((sN (x.num*((denZ y).tdiv ((sN (denZ x).natAbs (denZ y).natAbs:Nat):Int))+y.num*((denZ x).tdiv ((sN (denZ x).natAbs (denZ y).natAbs:Nat):Int))).natAbs (((sN (denZ x).natAbs (denZ y).natAbs:Nat):Int)).natAbs:Nat):Int)):=by
 obtain ⟨d,l,r,N,s,a,j,o,e,f,g⟩:=AddS.mk' i c;rw [f,g N rfl,e];refine ⟨a.res.1,?_⟩;rw [a.res.2,A6,wk c,kX]
theorem za3 {x y:Rat}(c:¬denZ x=0)(d:¬denZ y=0)(h:((sN (denZ x).natAbs (denZ y).natAbs:Nat):Int)=1):(x+y).num=x.num*((denZ y).tdiv ((sN (denZ x).natAbs (denZ y).natAbs:Nat):Int))+y.num*((denZ x).tdiv ((sN (denZ x).natAbs (denZ y).natAbs:Nat):Int))∧((x+y).den:Int)=denZ x*denZ y:=by
 have a:=jL c d;rw [h] at a ⊢;have e:(1:Int).natAbs=1:=rfl;rw [e,FK,show ((1:Nat):Int)=1 from rfl,CN,CN,CN] at a;rw [CN,CN];exact a
theorem addQ (k:Nat){x:Rat}{y:Rat}(g:GG h n)(s:IW h n sx ax lx cx x.num)(f:IW h n dx ex fx gx (denZ x))(u:IW h n sy ay ly cy y.num)(i:IW h n dy ey fy gy (denZ y)){a:Nat}(hx:Sz a x)(hy:Sz b y)(dz:a+b+1≤64):CX (cal (k+9)) 88 [.agg #[kz sx,jx ax lx cx,kz dx,jx ex fx gx],.agg #[kz sy,jx ay ly cy,kz dy,jx ey fy gy]] h n (QV (x+y)):=by
 obtain ⟨au,ar⟩:x.num.natAbs<2^a∧(denZ x).natAbs<2^a:=⟨hx.1,hx.z⟩;obtain ⟨aw,av⟩:y.num.natAbs<2^b∧(denZ y).natAbs<2^b:=⟨hy.1,hy.z⟩;have bn:=ud au zo;have bm:=ud ar zo;have bp:=ud aw zo;have bo:=ud av zo;refine zu (fn:=Tryz.f88) R4 ?_;refine zG ?_;refine sB [kz sx,jx ax lx cx,kz dx,jx ex fx gx] ?_;intro cm fa fu;refine sB [kz sy,jx ay ly cy,kz dy,jx ey fy gy] ?_;intro cn fb fv;refine sA ?_;intro co fc fw;refine zG ?_;refine sC (yU _ (f.t zt)) ?_;rintro _ cp e8 ⟨bz,rfl,P⟩ gt fz;rcases bvs P with ⟨rfl,c⟩|⟨rfl,c⟩
 ·refine zG ?_;refine sC (yU _ (f.t zt)) ?_;rintro _ cq e9 ⟨c0,rfl,R⟩ gu g0;rcases bvs R with ⟨rfl,d⟩|⟨rfl,d⟩
  ·refine zG ?_;refine sC (yU _ (i.t zt)) ?_;rintro _ cr ea ⟨c1,rfl,S⟩ gv g1;rcases bvs S with ⟨rfl,e⟩|⟨rfl,e⟩
   ·refine zG ?_;refine sC (gcdX _ (g.t zt) (f.t zt) (i.t zt) szB szB) ?_;rintro _ cs eb ⟨a5,Y,bf,ac,rfl,l⟩ gw g2;refine sA ?_;intro ct fd g3;refine sS [kz a5,jx Y bf ac] ?_;intro cu fe ez;refine zG ?_;refine zm [0,1,0,7,0,16,0,127,0,0,1023,2047] rfl ?_;refine zH ?_;refine dC (quoX _ (i.t zt) (l.t zt) szB szB szN) ?_;rintro _ cv ec ⟨a6,Z,bg,ad,rfl,az⟩ gz g4;refine zH ?_;refine dC (quoX _ (f.t zt) (l.t zt) szB szB szN) ?_;rintro _ cw ed ⟨a7,a0,bh,ae,rfl,I⟩ i0 g5;refine dB [kz false,jx none 0 0] ?_;intro cz ff g6;refine dB [kz false,jx none 0 0] ?_;intro d0 fg g7;refine dS [kz a6,jx Z bg ad] ?_;intro d1 fh f0;refine dS [kz a7,jx a0 bh ae] ?_;intro d2 fi f1;refine zG ?_;refine zm [0,1,0,7,0,16,0,127,255,0,1023] rfl ?_;refine zH ?_;refine dC (mulX _ (s.t zt) (az.t zt) szB szB) ?_;rintro _ d3 ee ⟨c2,bq,e0,ce,rfl,b0⟩ i1 g8;refine zH ?_;refine dC (mulX _ (u.t zt) (I.t zt) szB szB) ?_;rintro _ d4 ef ⟨c3,br,e1,cf,rfl,b1⟩ i2 g9;refine dC (addX _ (b0.t zt) b1 szB szB) ?_;rintro _ d5 eg ⟨a8,a1,bi,af,rfl,o⟩ i3 ga;refine dB [kz false,jx none 0 0] ?_;intro d6 fj gb;refine dS [kz a8,jx a1 bi af] ?_;intro d7 fk f2;refine zG ?_;refine sC (yU _ (o.t zt)) ?_;rintro _ d8 eh ⟨c4,rfl,T⟩ i4 gc;rcases bvs T with ⟨rfl,N⟩|⟨rfl,N⟩
    ·refine zG ?_;refine sC (rG _ (l.t zt)) ?_;rintro _ d9 ei ⟨c5,rfl,U⟩ i5 gd;rcases bvs U with ⟨rfl,p⟩|⟨rfl,p⟩
     ·refine zG ?_;refine sC (gcdX _ (g.t zt) (o.t zt) (l.t zt) szB szB) ?_;rintro _ da ej ⟨a9,a2,bj,ag,rfl,J⟩ i6 ge;refine sA ?_;intro db fl gf;refine sS [kz a9,jx a2 bj ag] ?_;intro dc fm f3;refine zG ?_;refine zm [0,0,3,0,0,16,0,119,255,511,1023] rfl ?_;refine zH ?_;refine dC (quoX _ (o.t zt) (J.t zt) szB szB szN) ?_;rintro _ dd ek ⟨c6,bs,e2,cg,rfl,b2⟩ i7 gg;refine zH ?_;refine dC (quoX _ (i.t zt) (J.t zt) szB szB szN) ?_;rintro _ de el ⟨c7,bt,e3,ch,rfl,b3⟩ i8 gh;refine dC (mulX _ (I.t zt) b3 szB szB) ?_;rintro _ df em ⟨c8,bu,e4,ci,rfl,b4⟩ i9 gi;refine dC (ue _ (b2.t zt) b4 (jL d e).1 (jL d e).2) ?_;rintro _ dg en ⟨aa,a3,bk,ah,aj,al,an,ap,rfl,b5,bd⟩ ia gj;refine dS [kz aa,jx a3 bk ah,kz aj,jx al an ap] ?_;intro dh fo f4;refine zq ?_;exact ⟨_,_,_,_,_,_,_,_,rfl,(b5.t zt),(bd.t zt)⟩
     refine zG ?_;refine zm [0,0,2,0,8,30,63,127] rfl ?_;refine zH ?_;refine dC (mulX _ (f.t zt) (i.t zt) szB szB) ?_;rintro _ di eo ⟨c9,bv,e5,cj,rfl,b6⟩ ib gk;refine dC (ue _ (o.t zt) b6 (za3 d e p).1 (za3 d e p).2) ?_;rintro _ dj ep ⟨ab,a4,bl,ai,ak,am,ao,aq,rfl,b7,be⟩ ic gl;refine dS [kz ab,jx a4 bl ai,kz ak,jx am ao aq] ?_;intro dk fp f5;refine zq ?_;exact ⟨_,_,_,_,_,_,_,_,rfl,(b7.t zt),(be.t zt)⟩
    refine zG ?_;refine sT #[kz false,jx none 0 0,kz false,jx none 0 0] ?_;refine sS [kz false,jx none 0 0,kz false,jx none 0 0] ?_;intro dl fq f6;refine zq ?_;exact (show x+y=0 from zhg (c) (e) N)▸QV.zero _ _
   refine zG ?_;refine zm [0,1,0,4,15,0,32,127,0,256,1023,2047] rfl ?_;refine zH ?_;refine dC (mulX _ (u.t zt) (f.t zt) szB szB) ?_;rintro _ dm eq ⟨ca,bw,e6,ck,rfl,b8⟩ id gm;refine zH ?_;refine dC (addX _ b8 (s.t zt) szB szB) ?_;rintro _ dn er ⟨B,v,K,F,rfl,b9⟩ ie gn;refine zH ?_;refine dT #[kz B,jx v K F,kz dx,jx ex fx gx] ?_;refine dS [kz B,jx v K F,kz dx,jx ex fx gx] ?_;intro dp fr f7;refine zq ?_;exact ⟨_,_,_,_,_,_,_,_,rfl,(b9.t zt).as ((zlr d e).1.symm),(f.t zt).as ((zlr d e).2.symm)⟩
  exact cA d c
 refine zG ?_;refine sC (yU _ (i.t zt)) ?_;rintro _ dq es ⟨cb,rfl,V⟩ ig go;rcases bvs V with ⟨rfl,j⟩|⟨rfl,j⟩
 ·refine zG ?_;refine sC (yU _ (f.t zt)) ?_;rintro _ dr et ⟨cc,rfl,W⟩ ii gp;rcases bvs W with ⟨rfl,O⟩|⟨rfl,O⟩
  ·exact cA c O
  refine zG ?_;refine zm [0,1,0,4,15,0,32,127,0,256,1023,2047] rfl ?_;refine zH ?_;refine dC (mulX _ (s.t zt) (i.t zt) szB szB) ?_;rintro _ ds eu ⟨cd,bx,e7,cl,rfl,ba⟩ ij gq;refine zH ?_;refine dC (addX _ ba (u.t zt) szB szB) ?_;rintro _ dt ev ⟨C,w,L,G,rfl,bb⟩ ik gr;refine zH ?_;refine dT #[kz C,jx w L G,kz dy,jx ey fy gy] ?_;refine dS [kz C,jx w L G,kz dy,jx ey fy gy] ?_;intro du fs f8;refine zq ?_;exact ⟨_,_,_,_,_,_,_,_,rfl,(bb.t zt).as ((zhi c j).1.symm),(i.t zt).as ((zhi c j).2.symm)⟩
 refine zG ?_;refine sC (addX _ (s.t zt) (u.t zt) szB szB) ?_;rintro _ dv ew ⟨D,A,M,H,rfl,bc⟩ il gs;refine sT #[kz D,jx A M H,kz false,jx none 0 0] ?_;refine sS [kz D,jx A M H,kz false,jx none 0 0] ?_;intro dw ft f9;refine zq ?_;exact ⟨_,_,_,_,_,_,_,_,rfl,(bc.t zt).as ((za2 c j).1.symm),(IW.zero _ _).as ((za2 c j).2.symm)⟩
theorem bN {x y:Rat}(d:denZ x=0)(e:denZ y=0):(x*y).num=x.num*y.num∧denZ (x*y)=0:=by
 rw [yz] at*
 have a:=rM x y;have c:=rN x y;rw [d,e] at a c;simp at a c;exact ⟨a,c⟩
theorem jo (x y:Rat):(x*y).num=(x.num.tdiv ((sN x.num.natAbs ((y.den:Int)).natAbs:Nat):Int))*(y.num.tdiv ((sN y.num.natAbs ((x.den:Int)).natAbs:Nat):Int))∧((x*y).den:Int)=((x.den:Int).tdiv ((sN y.num.natAbs ((x.den:Int)).natAbs:Nat):Int))*((y.den:Int).tdiv ((sN x.num.natAbs ((y.den:Int)).natAbs:Nat):Int)):=by
 simp only [sa,kX];have h:=zmy x y;rw [CH (BZ.2 (BB _ _)),CH (BZ.2 (BB _ _))];refine ⟨h.1,?_⟩;rw [h.2,A6]
theorem mulQ (k:Nat){x:Rat}{y:Rat}(g:GG h n)(c:IW h n sx ax lx cx x.num)(C:IW h n dx ex fx gx (denZ x))(d:IW h n sy ay ly cy y.num)(D:IW h n dy ey fy gy (denZ y)){a:Nat}(hx:Sz a x)(B:Sz b y)(dz:a+b≤64):CX (cal (k+10)) 90 [.agg #[kz sx,jx ax lx cx,kz dx,jx ex fx gx],.agg #[kz sy,jx ay ly cy,kz dy,jx ey fy gy]] h n (QV (x*y)):=by
 obtain ⟨ap,an⟩:x.num.natAbs<2^a∧(denZ x).natAbs<2^a:=⟨hx.1,hx.z⟩;obtain ⟨au,aq⟩:y.num.natAbs<2^b∧(denZ y).natAbs<2^b:=⟨B.1,B.z⟩;have bq:=ud ap zo;have bo:=ud an zo;have bt:=ud au zo;have br:=ud aq zo;have e0:=x.den_pos;have e1:=y.den_pos;have ao:((x.den:Int)).natAbs<2^a:=hx.2;have ar:((y.den:Int)).natAbs<2^b:=B.2;have bp:=ud ao zo;have bs:=ud ar zo;refine zu (fn:=Tryz.f90) R4 ?_;refine zG ?_;refine sB [kz sx,jx ax lx cx,kz dx,jx ex fx gx] ?_;intro cn f8 fz;refine sB [kz sy,jx ay ly cy,kz dy,jx ey fy gy] ?_;intro co f9 g0;refine sA ?_;intro cp fa g1;refine zG ?_;refine sC (yU _ (c.t zt)) ?_;rintro _ cq ea ⟨c3,rfl,u⟩ gt g2;rcases bvs u with ⟨rfl,p⟩|⟨rfl,p⟩
 ·refine zG ?_;refine sC (yU _ (d.t zt)) ?_;rintro _ cr eb ⟨c4,rfl,v⟩ gu g3;rcases bvs v with ⟨rfl,s⟩|⟨rfl,s⟩
  ·refine zG ?_;refine sC (yU _ (C.t zt)) ?_;rintro _ cs ec ⟨c5,rfl,w⟩ gv g4;rcases bvs w with ⟨rfl,e⟩|⟨rfl,e⟩
   ·refine zG ?_;refine zm [0,1,0,4,15,31,63,63,0,0,895,2047] rfl ?_;refine zH ?_;refine dC (denQ _ (d.t zt) (D.t zt)) ?_;rintro _ ct ed ⟨c6,bu,e2,cf,rfl,av⟩ gw g5;refine dC (jH _ (g.t zt) (c.t zt) av szB szB zo) ?_;rintro _ cu ee ⟨L,F,bi,S,ah,Z,a5,ab,rfl,aw,bc⟩ gz g6;refine zH ?_;refine dB [kz false,jx none 0 0] ?_;intro cv fb g7;refine dB [kz false,jx none 0 0] ?_;intro cw fc g8;refine dS [kz L,jx F bi S] ?_;intro cz fd et;refine dS [kz ah,jx Z a5 ab] ?_;intro d0 fe eu;refine zG ?_;refine zm [0,1,0,4,15,31,63,63,0,0,895,2047] rfl ?_;refine zH ?_;refine dC (denQ _ (c.t zt) (C.t zt)) ?_;rintro _ d1 ef ⟨c7,bv,e3,cg,rfl,az⟩ i0 g9;refine dC (jH _ (g.t zt) (d.t zt) az szB szB zo) ?_;rintro _ d2 eg ⟨M,G,bj,T,ai,a0,a6,ac,rfl,b0,bd⟩ i1 ga;refine zH ?_;refine dB [kz false,jx none 0 0] ?_;intro d3 ff gb;refine dB [kz false,jx none 0 0] ?_;intro d4 fg gc;refine dS [kz M,jx G bj T] ?_;intro d5 fh ev;refine dS [kz ai,jx a0 a6 ac] ?_;intro d6 fi ew;refine zG ?_;refine zm [0,0,3,0,0,31,63,127] rfl ?_;refine zH ?_;refine dC (mulX _ (aw.t zt) (b0.t zt) szB szB) ?_;rintro _ d7 eh ⟨c8,bw,e4,ch,rfl,b1⟩ i2 gd;refine zH ?_;refine dC (mulX _ (bd.t zt) (bc.t zt) szB szB) ?_;rintro _ d8 ei ⟨c9,bx,e5,ci,rfl,b2⟩ i3 ge;refine dC (ue _ (b1.t zt) b2 (jo x y).1 (jo x y).2) ?_;rintro _ d9 ej ⟨N,H,bk,U,a1,a7,ad,aj,rfl,b3,be⟩ i4 gf;refine dS [kz N,jx H bk U,kz a1,jx a7 ad aj] ?_;intro da fj ez;refine zq ?_;exact ⟨_,_,_,_,_,_,_,_,rfl,(b3.t zt),(be.t zt)⟩
   refine zG ?_;refine sC (yU _ (D.t zt)) ?_;rintro _ db ek ⟨ca,rfl,A⟩ i5 gg;rcases bvs A with ⟨rfl,f⟩|⟨rfl,f⟩
   ·refine zG ?_;refine zm [0,1,0,4,15,31,63,63,0,0,895,2047] rfl ?_;refine zH ?_;refine dC (denQ _ (d.t zt) (D.t zt)) ?_;rintro _ dc el ⟨cb,bz,e6,cj,rfl,b4⟩ i6 gh;refine dC (jH _ (g.t zt) (c.t zt) b4 szB szB zo) ?_;rintro _ dd em ⟨O,I,bl,V,ak,a2,a8,ae,rfl,b5,bf⟩ i7 gi;refine zH ?_;refine dB [kz false,jx none 0 0] ?_;intro de fk gj;refine dB [kz false,jx none 0 0] ?_;intro df fl gk;refine dS [kz O,jx I bl V] ?_;intro dg fm f0;refine dS [kz ak,jx a2 a8 ae] ?_;intro dh fo f1;refine zG ?_;refine zm [0,1,0,4,15,31,63,63,0,0,895,2047] rfl ?_;refine zH ?_;refine dC (denQ _ (c.t zt) (C.t zt)) ?_;rintro _ di en ⟨cc,c0,e7,ck,rfl,b6⟩ i8 gl;refine dC (jH _ (g.t zt) (d.t zt) b6 szB szB zo) ?_;rintro _ dj eo ⟨P,J,bm,W,al,a3,a9,af,rfl,b7,bg⟩ i9 gm;refine zH ?_;refine dB [kz false,jx none 0 0] ?_;intro dk fp gn;refine dB [kz false,jx none 0 0] ?_;intro dl fq go;refine dS [kz P,jx J bm W] ?_;intro dm fr f2;refine dS [kz al,jx a3 a9 af] ?_;intro dn fs f3;refine zG ?_;refine zm [0,0,3,0,0,31,63,127] rfl ?_;refine zH ?_;refine dC (mulX _ (b5.t zt) (b7.t zt) szB szB) ?_;rintro _ dp ep ⟨cd,c1,e8,cl,rfl,b8⟩ ia gp;refine zH ?_;refine dC (mulX _ (bg.t zt) (bf.t zt) szB szB) ?_;rintro _ dq eq ⟨ce,c2,e9,cm,rfl,b9⟩ ib gq;refine dC (ue _ (b8.t zt) b9 (jo x y).1 (jo x y).2) ?_;rintro _ dr er ⟨R,K,bn,Y,a4,aa,ag,am,rfl,ba,bh⟩ ic gr;refine dS [kz R,jx K bn Y,kz a4,jx aa ag am] ?_;intro ds ft f4;refine zq ?_;exact ⟨_,_,_,_,_,_,_,_,rfl,(ba.t zt),(bh.t zt)⟩
   refine zG ?_;refine sC (mulX _ (c.t zt) (d.t zt) szB szB) ?_;rintro _ dt es ⟨j,i,o,l,rfl,bb⟩ id gs;refine sT #[kz j,jx i o l,kz false,jx none 0 0] ?_;refine sS [kz j,jx i o l,kz false,jx none 0 0] ?_;intro du fu f5;refine zq ?_;exact ⟨_,_,_,_,_,_,_,_,rfl,(bb.t zt).as ((bN e f).1.symm),(IW.zero _ _).as ((bN e f).2.symm)⟩
  refine zG ?_;refine sT #[kz false,jx none 0 0,kz false,jx none 0 0] ?_;refine sS [kz false,jx none 0 0,kz false,jx none 0 0] ?_;intro dv fv f6;refine zq ?_;exact (show x*y=0 from by rw [B7.1 s,Rat.mul_zero])▸QV.zero _ _
 refine zG ?_;refine sT #[kz false,jx none 0 0,kz false,jx none 0 0] ?_;refine sS [kz false,jx none 0 0,kz false,jx none 0 0] ?_;intro dw fw f7;refine zq ?_;exact (show x*y=0 from by rw [B7.1 p,Rat.zero_mul])▸QV.zero _ _
end
theorem xY {S:List (List UInt8)}{h:HF}{n:Nat}{a:Option Addr}{len cap:Nat}(d:Sl h n 1 (jx a len cap) (strs S)):len=gP S:=by
 obtain ⟨g,f,b,e,c⟩:=d.len;injection e with e1 e2 e3
 rw [zhz] at c;omega
theorem zmk (m:Nat)(l:List Value):gP (rep m l)=m*gP l:=by
 induction m with
 |zero=>simp [rep]
 |succ m ih=>rw [rep,nn,ih,Nat.succ_mul];omega
section
variable {l:Nat}{a:Option Addr}{e:TypeId}
def BX:Nat:=18446744073709551616^60
theorem uZ {e:Nat}(h:m<2^e)(g:e≤3840):m<BX:=by
 have c:e≤64*60:=g;generalize hk:60=k at c;have f:m<(2^64)^k:=by
  rw [←Ek];exact tv h (Ac zd c)
 subst hk;exact f
theorem zpx {x y:Int}{a:Nat}(c:x.natAbs<2^a)(f:y.natAbs<2^b)(h:a+b≤3840):(x*y).natAbs<BX:=uZ (wB c f) h
theorem zoy {x y u v:Int}{a:Nat}(f:x.natAbs<2^a)(g:y.natAbs<2^b)(hu:u.natAbs<2^b)(c:v.natAbs<2^a)(h:a+b+1≤3840):(x*y+u*v).natAbs<BX:=
 uZ (lv (wB f g) (by rw [BT a b];exact wB hu c)) h
theorem zl1 {x y u v:Int}{a c:Nat}(o:x.natAbs<2^a)(p:y.natAbs<2^d)(hu:u.natAbs<2^b)(j:v.natAbs<2^c)(f:a+d≤3839)(g:b+c≤3839):(x*y+u*v).natAbs<BX:=by
 obtain ⟨e,i⟩:∃e,e=3839:=⟨_,rfl⟩;rw [←i] at f g;exact uZ (e:=e+1) (lv (tv (wB o p) (Ac zd f)) (tv (wB hu j) (Ac zd g))) zo
theorem szU {x:Int}(h:x.natAbs<BX:=by first|assumption|exact zpx ‹_› ‹_› zo|exact zoy ‹_› ‹_› ‹_› ‹_› zo|exact zl1 ‹_› ‹_› ‹_› ‹_› zo zo|exact uZ (e:=1) zd zd):x.natAbs<BX:=h
def BD:Nat:=4294967296
theorem zm4 {e:Nat}(h:m<2^e)(c:e≤32):m<BD:=tv h (show 2^e≤2^32 from Ac zd c)
theorem zpy {x y:Int}{a:Nat}(c:x.natAbs<2^a)(f:y.natAbs<2^b)(h:a+b≤32):(x*y).natAbs<BD:=zm4 (wB c f) h
theorem szD {x:Int}(h:x.natAbs<BD:=by first|assumption|exact zpy ‹_› ‹_› zo|exact zm4 (e:=1) zd zd):x.natAbs<BD:=h
def UW (h:HF)(n:Nat)(a:Option Addr)(l c m:Nat):Prop:=∃L,Sl h n 1 (jx a l c) (u32s L)∧Norm L∧val L=m
theorem UW.ext {h:HF}{n:Nat}{c:Nat}(i:UW h n a l c m)(e:Ext n h h')(o:n≤n'):UW h' n' a l c m:=by
 obtain ⟨L,f,g,j⟩:=i;exact ⟨L,f.ext e o,g,j⟩
theorem UW.only {h:HF}{n:Nat}{c:Nat}(i:UW h n a l c m)(p:h bb=some (.row cs e))(hu:cs.all nu=true)(o:Only bb h h'):UW h' n a l c m:=by
 obtain ⟨L,f,g,j⟩:=i;exact ⟨L,f.only32 p hu o,g,j⟩
theorem UW.t {h:HF}{n:Nat}{c:Nat}(i:UW h n a l c m)(t:Tr n h n' h'):UW h' n' a l c m:=by
 obtain ⟨L,f,g,j⟩:=i;exact ⟨L,f.trG (fun x o=>by obtain ⟨d,_,rfl⟩:=Ay.1 o;rfl) t,g,j⟩
theorem UW.zero {h:HF}{n:Nat}{c:Nat}(i:UW h n a l c m):l=0↔m=0:=by
 obtain ⟨L,f,g,j⟩:=i;have e:=f.lenU;rw [←j,g.zero,←xd,e]
theorem UW.nil (h:HF)(n:Nat):UW h n none 0 0 0:=⟨[],.nil (.inl rfl),Norm.nil,rfl⟩
def UI (h:HF)(n:Nat)(b:Bool)(a:Option Addr)(l c:Nat)(x:Int):Prop:=b=decide (x<0)∧UW h n a l c x.natAbs
theorem UI.ext {h:HF}{n:Nat}{b:Bool}{c:Nat}{x:Int}(i:UI h n b a l c x)(e:Ext n h h')(f:n≤n'):UI h' n' b a l c x:=⟨i.1,i.2.ext e f⟩
theorem UI.only {h:HF}{n:Nat}{b:Bool}{c:Nat}{x:Int}(i:UI h n b a l c x)(g:h bb=some (.row cs e))(hu:cs.all nu=true)(f:Only bb h h'):UI h' n b a l c x:=⟨i.1,i.2.only g hu f⟩
theorem UI.t {h:HF}{n:Nat}{b:Bool}{c:Nat}{x:Int}(i:UI h n b a l c x)(t:Tr n h n' h'):UI h' n' b a l c x:=⟨i.1,i.2.t t⟩
theorem UI.x {h:HF}{n:Nat}{b:Bool}{c:Nat}{x:Int}(i:UI h n b a l c x)(t:Tx n h n' h'):UI h' n' b a l c x:=i.ext t.2 t.1
theorem UI.as {h:HF}{n:Nat}{b:Bool}{c:Nat}{x y:Int}(i:UI h n b a l c x)(e:x=y):UI h n b a l c y:=e▸i
theorem UI.lt {h:HF}{n:Nat}{c:Nat}{x:Int}(i:UI h n true a l c x):x<0:=of_decide_eq_true i.1.symm
theorem UI.ge {h:HF}{n:Nat}{c:Nat}{x:Int}(i:UI h n false a l c x):0≤x:=FB.1 (of_decide_eq_false i.1.symm)
theorem UI.zero (h:HF)(n:Nat):UI h n false none 0 0 0:=⟨rfl,UW.nil h n⟩
def UV (m:Nat)(v:Value)(h:HF)(n:Nat):Prop:=∃a l c,v=jx a l c∧UW h n a l c m
def UIV (x:Int)(v:Value)(h:HF)(n:Nat):Prop:=∃b a l c,v=.agg #[kz b,jx a l c]∧UI h n b a l c x
def NQ (q:Rat)(v:Value)(h:HF)(n:Nat):Prop:=∃b a l c d e f g,v=.agg #[kz b,jx a l c,kz d,jx e f g]∧UI h n b a l c q.num∧UI h n d e f g (denZ q)
theorem NQ.zero (h:HF)(n:Nat):NQ 0 (.agg #[kz false,jx none 0 0,kz false,jx none 0 0]) h n:=⟨_,_,_,_,_,_,_,_,rfl,UI.zero h n,UI.zero h n⟩
theorem Norm.len800 {L:List Nat}(h:Norm L)(c:val L<BX):gP L≤1200:=by
 refine h.len_pow (tv c ?_);unfold BX;decide+kernel
theorem UI.r {h:HF}{n:Nat}{b:Bool}{c:Nat}{x:Int}(i:UI h n b a l c x):∃L,IntR h n (kz b) (jx a l c) x L:=by
 obtain ⟨e,L,f,g,j⟩:=i;exact ⟨L,by rw [e],f,g,j⟩
theorem IntR.ui {h:HF}{n:Nat}{c1 c2:Value}{x:Int}{L:List Nat}(i:IntR h n c1 c2 x L):∃b a l c,c1=kz b∧c2=jx a l c∧UI h n b a l c x:=by
 obtain ⟨rfl,f,g,j⟩:=i;obtain ⟨a,l,c,rfl,_⟩:=f.len;exact ⟨_,_,_,_,rfl,rfl,rfl,L,f,g,j⟩
theorem RatR.nq {h:HF}{n:Nat}(r:RatR h n n1 n2 d1 d2 q ln ld):NQ q (.agg #[n1,n2,d1,d2]) h n:=by
 obtain ⟨b,a,l,c,rfl,rfl,i⟩:=r.num.ui;obtain ⟨_,rfl,f,g,j⟩:=r;obtain ⟨o,s,p,rfl,_⟩:=f.len;refine ⟨_,_,_,_,_,_,_,_,rfl,i,?_,ld,f,g,?_⟩
 ·unfold denZ;split<;>simp
 rw [j];unfold denZ;split<;>simp
theorem NQ.r {h:HF}{n:Nat}{b d:Bool}{e:Option Addr}{c f g:Nat}(i:UI h n b a l c q.num)(j:UI h n d e f g (denZ q)):∃ln ld,RatR h n (kz b) (jx a l c) (kz d) (jx e f g) q ln ld∧(∀m,Sz m q→m≤3840→gP ln≤1200∧gP ld≤1200):=by
 obtain ⟨ln,o⟩:=i.r;obtain ⟨B,ld,C,p,s⟩:=j;refine ⟨ln,ld,⟨o,?_,C,p,?_⟩,fun m A u=>⟨o.norm.len800 (by rw [o.val];exact uZ A.1 u),p.len800 (by rw [s];exact uZ A.z u)⟩⟩
 ·rw [B];unfold denZ;split<;>simp
 rw [s];unfold denZ;split<;>simp
theorem NewU.uv {n:Nat}{h:HF}{L:List Nat}(r:NewU n h v h' n' w L)(e:val L=m):Gw n h (UV m) v h' n' w:=by
 obtain ⟨f,g,i,a,c,rfl,j,o,_⟩:=r;exact ⟨f,g,i,_,_,_,rfl,L,j,o,e⟩
theorem tC (k:Nat){h:HF}{n:Nat}{c:Nat}(i:UW h n a l c m)(f:Bool):CX (cal (k+1)) 95 [kz f,jx a l c] h n (UIV (sgZ f m)):=by
 refine yg (vV k h n f a l c) ?_;rintro _ h' n' _ ⟨rfl,rfl,rfl,g⟩;refine ⟨rfl,ux _,g,_,_,_,_,rfl,?_,?_⟩
 ·rw [zdt];have:=i.zero;congr 1;by_cases h0:0<l
  ·rw [bO h0,bO zo]
  rw [aD h0,aD zo]
 rw [zdu];exact i.ext g zs
section
variable (k:Nat){h:HF}{n:Nat}{a1 a2:Option Addr}{l1 c1 l2 c2 x y:Nat}
theorem zq4 (i:UW h n a1 l1 c1 x)(j:UW h n a2 l2 c2 y)(c:x<BX∧y<BX):CX (cal (k+2)) 110 [jx a1 l1 c1,jx a2 l2 c2] h n (UV (x+y)):=by
 obtain ⟨A,o,f,rfl⟩:=i;obtain ⟨C,p,g,rfl⟩:=j;have:=f.len800 c.1;have:=g.len800 c.2;refine yg (gZ k o p f.1 g.1 zo) ?_;rintro v h' n' w ⟨L,r,e⟩;exact r.uv e
theorem zba (i:UW h n a1 l1 c1 x)(j:UW h n a2 l2 c2 y)(s:x<BX∧y<BX)(c:y≤x):CX (cal (k+2)) 112 [jx a1 l1 c1,jx a2 l2 c2] h n (UV (x-y)):=by
 obtain ⟨A,o,f,rfl⟩:=i;obtain ⟨C,p,g,rfl⟩:=j;have:=f.len800 s.1;refine yg (zdh k o p f.1 g.1 zo (f.len_le g c) c) ?_;rintro v h' n' w ⟨L,r,e⟩;exact r.uv e
theorem zis (i:UW h n a1 l1 c1 x)(j:UW h n a2 l2 c2 y)(c:x<BX∧y<BX):CX (cal (k+2)) 105 [jx a1 l1 c1,jx a2 l2 c2] h n (UV (x*y)):=by
 obtain ⟨A,o,f,rfl⟩:=i;obtain ⟨C,p,g,rfl⟩:=j;have:=f.len800 c.1;have:=g.len800 c.2;refine yg (hH k o p f.1 g.1 zo) ?_;rintro v h' n' w ⟨L,r,e⟩;exact r.uv e
theorem zqu (i:UW h n a1 l1 c1 x)(j:UW h n a2 l2 c2 y)(o:x<BX∧y<BX):CX (cal (k+1)) 111 [jx a1 l1 c1,jx a2 l2 c2] h n (SV3 ((x:Int)-y)):=by
 obtain ⟨A,f,c,rfl⟩:=i;obtain ⟨C,g,p,rfl⟩:=j;have:=c.len800 o.1;refine (gL k f g c p zo).cx.mono ?_;rintro _ _ _ rfl;refine ⟨_,rfl,?_⟩;rcases C7 (val A) (val C) with h|h|h
 ·exact .inl ⟨uj h,zo⟩
 ·exact .inr (.inl ⟨by rw [h];exact mU _,zo⟩)
 exact .inr (.inr ⟨tA h,zo⟩)
theorem zfh (h:HF)(n:Nat):CX (cal (k+2)) 73 [jy .i64 1] h n (UIV 1):=by
 refine yg (pn k h n 1 zd) ?_;rintro _ h' n' w ⟨f,g,j,c1,c2,L,rfl,r,_⟩;obtain ⟨b,a,l,c,rfl,rfl,i⟩:=r.ui;exact ⟨f,g,j,_,_,_,_,rfl,i⟩
end
theorem zrp (k:Nat){h:HF}{n:Nat}{b:Bool}{c:Nat}{x:Int}(i:UI h n b a l c x):CX (cal (k+2)) 104 [.agg #[kz b,jx a l c]] h n (UIV (-x)):=by
 obtain ⟨L,r⟩:=i.r;refine yg (zeh k r) ?_;rintro _ h' n' w ⟨f,g,j,c1,rfl,r⟩;obtain ⟨b,a,l,c,rfl,e,i⟩:=r.ui;cases e;exact ⟨f,g,j,_,_,_,_,rfl,i⟩
theorem kH (k:Nat){h:HF}{n:Nat}{f g:Bool}{a1 a2:Option Addr}{l1 c1 l2 c2:Nat}{x y:Int}(i:UI h n f a1 l1 c1 x)(j:UI h n g a2 l2 c2 y)(c:x.natAbs<BX)(F:y.natAbs<BD)(o:y≠0)(D:Av x y=q):CX (cal (k+5)) 71 [.agg #[kz f,jx a1 l1 c1],.agg #[kz g,jx a2 l2 c2]] h n (NQ q):=by
 obtain ⟨A,r⟩:=i.r;obtain ⟨C,s⟩:=j.r;have:=r.norm.len800 (by rw [r.val];exact c);have:=(show Norm [4294967295] from ⟨fun x c=>by simp at c;omega,rfl⟩).len_le s.norm (by rw [s.val];show _≤4294967295;unfold BD at F;omega);have:gP C≤1:=this;refine yg (zfi k r s o zo) ?_;rintro _ h' n' w ⟨p,u,B,I,J,G,H,ln,ld,rfl,r,_⟩;rw [D] at r;exact ⟨p,u,B,r.nq⟩
theorem jh (k:Nat){h:HF}{n:Nat}{b d:Bool}{e:Option Addr}{c f g:Nat}(i:UI h n b a l c q.num)(j:UI h n d e f g (denZ q)):CX (cal (k+2)) 31 [.agg #[kz b,jx a l c,kz d,jx e f g]] h n (SV3 q.num):=by
 obtain ⟨ln,ld,r,_⟩:=NQ.r i j;refine (bw k r).cx.mono ?_;rintro _ _ _ rfl;refine ⟨_,rfl,?_⟩;rcases Int.lt_trichotomy q.num 0 with h|h|h
 ·exact .inl ⟨Int.sign_eq_neg_one_of_neg h,h⟩
 ·exact .inr (.inl ⟨by rw [h];rfl,h⟩)
 exact .inr (.inr ⟨CM h,h⟩)
theorem zc7 (k:Nat){h:HF}{n:Nat}{b d:Bool}{e:Option Addr}{c f g:Nat}(i:UI h n b a l c q.num)(j:UI h n d e f g (denZ q))(s:Sz m q)(o:m≤3840):VF (cal (k+4)) 21 [.agg #[kz b,jx a l c,kz d,jx e f g]] h n fun v=>v=kF ⟨⟨ratT q⟩⟩:=by
 obtain ⟨ln,ld,r,p⟩:=NQ.r i j;have:=p m s o;exact nw k r zo
theorem zkr (k:Nat)(h:HF)(n:Nat)(s:List UInt8)(F:RdS s):CX (cal (k+6)) 52 [kF ⟨⟨s⟩⟩] h n fun v h' n'=>∃b a l c d e f g p,∃q:Rat,v=.tuple #[.agg #[kz b,jx a l c,kz d,jx e f g],kz p]∧UI h' n' b a l c q.num∧UI h' n' d e f g (denZ q)∧(p=true→ratT q=s)∧(xy s→p=true):=by
 refine yg (zml k h n s F) ?_;rintro _ h' n' w ⟨u,A,B,n1,n2,d1,d2,q,ln,ld,p,rfl,r,_,_,_,_,C,D⟩;obtain ⟨b,a,l,c,d,e,f,g,o,i,j⟩:=r.nq;injection o with o
 injection o with o
 injection o with e2 o
 injection o with e3 o
 injection o with e4 o
 injection o with e5 _
 subst e2 e3 e4 e5;exact ⟨u,A,B,_,_,_,_,_,_,_,_,p,q,rfl,i,j,C,D⟩
end
end Go.Proofs.YtfajmfoofmienaaGreatDoor
namespace Go.Proofs.YtfajmfoofmienaaGreatDoor
variable {s:List UInt8}{V b:Nat}
def dig (b:UInt8):Bool:=decide (48≤b.toNat∧b.toNat≤57)
theorem mL {b:UInt8}:dig b=true↔48≤b.toNat∧b.toNat≤57:=by unfold dig;simp
theorem AllD.all:AllD s↔∀b∈s,dig b=true:=by
 unfold AllD;constructor
 ·exact fun h b a=>mL.2 (h b a)
 exact fun h b a=>mL.1 (h b a)
theorem uK {p:UInt8→Bool}:∀b∈s.takeWhile p,p b=true:=by
 induction s with
 |nil=>intro b a;simp at a
 |cons x s ih=>
  intro b a;rw [Fk] at a;split at a
  ·rename_i h;rcases sP.1 a with rfl|a
   ·exact h
   exact ih b a
  simp at a
theorem ql {a r:List UInt8}(d:AllD a)(i:r=[]∨∃x e,r=x::e∧dig x=false):(a++r).takeWhile dig=a∧(a++r).dropWhile dig=r:=by
 induction a with
 |nil=>
  rcases i with rfl|⟨x,e,rfl,j⟩
  ·exact ⟨rfl,rfl⟩
  simp [Fk,Gz,j]
 |cons b a ih=>
  have f:dig b=true:=mL.2 (d b gN);have:=ih fun c g=>d c (by simp [g]);simp only [List.cons_append,Fk,Gz,f,if_true];exact ⟨by rw [this.1],this.2⟩
theorem ck {a b:UInt8}(h:a.toNat=b.toNat):a=b:=C0.1 h
theorem zac {b:UInt8}(h:48≤b.toNat∧b.toNat≤57):Bh (48+(b.toNat-48))=b:=by
 apply ck;rw [uW zo];omega
theorem zgh {d:List UInt8}(j:AllD d)(h0:d≠[])(f:d.head?≠some 48):dval d≠0∧(decB (dval d)).map Bh=d:=by
 induction hl:gP d generalizing d with
 |zero=>exact cA (xd.1 hl) h0
 |succ m ih=>
  obtain ⟨i,b,rfl⟩:∃i b,d=i++[b]:=⟨d.dropLast,d.getLast h0,(List.dropLast_concat_getLast h0).symm⟩;have g:=j b gN;rw [tO];by_cases hi:i=[]
  ·subst hi;have u:b.toNat≠48:=fun e=>f (by show some b=some 48;rw [ck (a:=b) (b:=48) e]);have l:dval []=0:=rfl;rw [l];refine ⟨zo,?_⟩;rw [mO zo (.inr zo)];have:decB 0=[]:=by unfold decB;rw [xH];rfl
   rw [this,AN,Cy,DY,zac g];rfl
  obtain ⟨o,p⟩:=ih (d:=i) (fun c q=>j c (by simp [q])) hi (by
   cases i with
   |nil=>exact cA rfl hi
   |cons x i=>simpa using f) (by simpa using hl)
  refine ⟨zo,?_⟩;rw [mO zo (.inl o),Bl,p,Cy,DY,zac g]
theorem pr {d:List UInt8}(f:AllD d)(h0:d≠[])(a:d.head?≠some 48):decT (dval d)=d:=by
 obtain ⟨c,e⟩:=zgh f h0 a;unfold decT;rw [cC c,e]
theorem zai:decT 1=[49]:=pr (d:=[49]) (fun b a=>by rw [nP.1 a];decide) gN gN
theorem zgk (h:V≠0):((decB V).map Bh).head?≠some 48:=by
 induction V using CW with
 |ind V ih=>
  have e:decB V=decB (V/10)++[48+V%10]:=by
   unfold decB;rw [wT h];simp
  rw [e];by_cases h2:V/10=0
  ·have:decB (V/10)=[]:=by unfold decB;rw [h2,xH];rfl
   rw [this];intro d;simp only [AN,Cy,DY,List.head?_cons,C6] at d;have:=uW (c:=V%10) zo;rw [d] at this;have f:(48:UInt8).toNat=48:=rfl;omega
  have:=ih (V/10) zo h2;cases hd:(decB (V/10)).map Bh with
  |nil=>
   have a:=(nc (V/10)).2;rw [hd] at a;exact cA a.symm h2
  |cons x l=>
   rw [Bl,hd];rw [hd] at this;simpa using this
theorem gI (h:V≠0):(decT V).head?≠some 48:=by
 unfold decT;rw [cC h];exact zgk h
theorem zak {a:Nat}(h:decT a=decT b):a=b:=by
 rw [←(xw a).2.1,h,(xw b).2.1]
def spl (s:List UInt8):List UInt8×List UInt8×Bool:=
 let b:=yK s
 let m:=b.takeWhile dig
 let r:=b.dropWhile dig
 if m=[48] then (m,[],!zQ s&&r.isEmpty)
 else if m=[]∨m.head?=some 48 then (m,[],false)
 else if r=[] then (m,[],true)
 else if r.head?≠some 47 then (m,[],false)
 else
  let d:=(r.drop 1).takeWhile dig
  let r2:=(r.drop 1).dropWhile dig
  (m,d,r2.isEmpty&& !d.isEmpty&&d.head? != some 48&&d != [49])
theorem zco (s:List UInt8):(yK s).takeWhile dig++(yK s).dropWhile dig=yK s:=Dj
theorem zms:s=(if zQ s then [45] else [])++yK s:=by
 unfold yK;by_cases h:zQ s=true
 ·rw [eN h,eN h];unfold zQ at h;cases s with
  |nil=>simp at h
  |cons x s=>
   have:x=45:=by simpa using h
   subst this;rfl
 rw [cC h,cC h];rfl
structure Frm (s:List UInt8)(m d:List UInt8):Prop where
 dm:AllD m
 m0:m≠[]
 dd:AllD d
 lead:m=[48]∧zQ s=false∧d=[]∨m.head?≠some 48
 den:d=[]∨d.head?≠some 48∧d≠[49]
 eq:s=(if zQ s then [45] else [])++(m++(if d=[] then [] else 47::d))
theorem qY {m d:List UInt8}(h:spl s=(m,d,true)):Frm s m d:=by
 have f:=zco s;have w:=zms (s:=s);have v:AllD ((yK s).takeWhile dig):=AllD.all.2 uK;unfold spl at h;simp only at h;generalize (yK s).takeWhile dig=m0 at*
 generalize (yK s).dropWhile dig=r at*
 split at h
 ·rename_i h48;simp only [BL] at h;obtain ⟨rfl,rfl,a⟩:=h;simp only [AT,BU,Hn] at a;obtain ⟨a,rfl⟩:=a;refine ⟨v,by rw [h48];simp,fun b f=>cA f gN,.inl ⟨h48,a,rfl⟩,.inl rfl,?_⟩;rw [eN rfl,f];exact w
 split at h
 ·simp at h
 rename_i h48 i;have j:¬m0=[]:=fun e=>i (.inl e);have l:¬m0.head?=some 48:=fun e=>i (.inr e);split at h
 ·rename_i hr;simp only [BL] at h;obtain ⟨rfl,rfl,_⟩:=h;refine ⟨v,j,fun b f=>cA f gN,.inr l,.inl rfl,?_⟩;subst hr;rw [eN rfl,f];exact w
 split at h
 ·simp at h
 rename_i hr c;have c:r.head?=some 47:=G6.1 c;simp only [BL] at h;obtain ⟨rfl,rfl,a⟩:=h;simp only [AT,BU,Hn,bne_iff_ne,ne_eq] at a;obtain ⟨⟨⟨a,o⟩,q⟩,u⟩:=a;obtain ⟨g,rfl⟩:∃g,r=47::g:=by
  cases r with
  |nil=>simp at c
  |cons x r=>exact ⟨r,by simp at c;rw [c]⟩
 simp only [List.drop_one,HR] at a o q u ⊢;have y:AllD (g.takeWhile dig):=AllD.all.2 uK;have p:g.takeWhile dig++g.dropWhile dig=g:=Dj;rw [a,A3] at p;rw [p] at y o q u ⊢;have i:¬g=[]:=fun e=>by rw [e] at o;simp at o
 refine ⟨v,j,y,.inr l,.inr ⟨q,u⟩,?_⟩;rw [cC i,f];exact w
theorem uT (q:Rat):spl (ratT q)=(decT q.num.natAbs,(if q.den=1 then [] else decT q.den),true):=by
 obtain ⟨B,C⟩:=sM q;obtain ⟨D,F,u⟩:=xw q.num.natAbs;obtain ⟨v,j,i⟩:=xw q.den;have g:=ql (a:=decT q.num.natAbs) (r:=if q.den=1 then [] else 47::decT q.den) D (by
  by_cases h:q.den=1
  ·left;rw [eN h]
  ·right;rw [cC h];exact ⟨47,_,rfl,rfl⟩)
 have d:=ql (a:=decT q.den) (r:=[]) v (.inl rfl);rw [A3] at d;unfold spl;simp only;rw [C,g.1,g.2,B];by_cases h0:q.num=0
 ·have c:q.den=1:=by
   have:=q.reduced;rw [h0] at this;simpa using this
  rw [h0,eN c,eN c];rfl
 have p:q.num.natAbs≠0:=zo;have f:=gI p;have m:¬decT q.num.natAbs=[48]:=fun e=>f (by rw [e];rfl);rw [cC m,cC (by rintro (e|e);exact u e;exact f e)];by_cases c:q.den=1
 ·rw [eN c,eN rfl,eN c]
 rw [cC c,cC gN,cC gN,cC c];simp only [List.drop_one,HR];rw [d.1,d.2];have o:q.den≠0:=q.den_nz;have w:(decT q.den).isEmpty=false:=by cases h:decT q.den with
  |nil=>exact cA h i
  |cons x l=>rfl
 have y:((decT q.den).head? != some 48)=true:=by rw [bne_iff_ne];exact gI o
 have A:(decT q.den != [49])=true:=by
  rw [bne_iff_ne];intro e;have:dval (decT q.den)=1:=by rw [e];rfl
  rw [j] at this;exact c this
 rw [w,y,A];rfl
theorem Frm.rat {m d:List UInt8}(h:Frm s m d)(C:d=[]∨sN (dval m) (dval d)=1):∃q:Rat,ratT q=s∧q.num=(if zQ s then -(dval m:Int) else dval m)∧q.den=(if d=[] then 1 else dval d):=by
 obtain ⟨l,v,i,a,j,y⟩:=h;have u:∃D:Nat,D≠0∧D=(if d=[] then 1 else dval d)∧sN (dval m) D=1∧(if D=1 then [] else 47::decT D)=(if d=[] then [] else 47::d):=by
  by_cases hd:d=[]
  ·refine ⟨1,by decide,by rw [eN hd],FK _,by rw [eN rfl,eN hd]⟩
  rcases j with h|⟨o,A⟩
  ·exact cA h hd
  have e:=pr i hd o;refine ⟨dval d,(zgh i hd o).1,by rw [cC hd],C.resolve_left hd,?_⟩;rw [e,cC hd,cC];intro h;rw [h] at e;exact A (by rw [←e];exact zai)
 obtain ⟨D,w,B,f,p⟩:=u;refine ⟨⟨if zQ s then -(dval m:Int) else dval m,D,w,?_⟩,?_,rfl,B⟩
 ·show C5 _ _;unfold C5;split
  ·rw [AR];exact f
  exact f
 have g:(if zQ s then -(dval m:Int) else dval m).natAbs=dval m:=by
  split
  ·rw [AR];rfl
  rfl
 have F:decT (dval m)=m:=by
  rcases a with ⟨h,_,_⟩|h
  ·rw [h];rfl
  exact pr l v h
 have c:(if (if zQ s then -(dval m:Int) else dval m)<0 then [45] else [])=(if zQ s then [45] else ([]:List UInt8)):=by
  by_cases hh:zQ s=true
  ·rw [eN hh,eN hh];rcases a with ⟨_,h,_⟩|h
   ·rw [h] at hh;cases hh
   have:=(zgh l v h).1;rw [eN zo]
  rw [cC hh,cC hh,cC zo]
 show (if (if zQ s then -(dval m:Int) else dval m)<0 then [45] else [])++(decT (if zQ s then -(dval m:Int) else dval m).natAbs++(if D=1 then [] else 47::decT D))=s;rw [c,g,F,p];exact y.symm
theorem qF (s:List UInt8):xy s↔(spl s).2.2=true∧((spl s).2.1=[]∨sN (dval (spl s).1) (dval (spl s).2.1)=1):=by
 constructor
 ·rintro ⟨q,rfl⟩;rw [uT];refine ⟨rfl,?_⟩;by_cases a:q.den=1
  ·left;show (if q.den=1 then [] else _)=_;rw [eN a]
  right;show sN (dval (decT _)) (dval (if q.den=1 then [] else _))=1;rw [cC a,(xw _).2.1,(xw _).2.1];exact q.reduced
 rintro ⟨c,e⟩;have f:=qY (s:=s) (m:=(spl s).1) (d:=(spl s).2.1) (by rw [←c]);obtain ⟨q,a,_⟩:=f.rat e;exact ⟨q,a⟩
theorem ze6 (h:GK.isBad s=true):¬xy s∧GK.isSmall s=false:=by
 unfold GK.isBad at h;rw [List.any_eq_true] at h;obtain ⟨l,c,a⟩:=h;have a:l=s:=by simpa using a
 subst a;simp only [GK.bads,sP,nN,or_false] at c;rcases c with rfl|rfl|rfl<;>exact ⟨fun h=>cA ((qF _).1 h).1 zd,by decide⟩
end Go.Proofs.YtfajmfoofmienaaGreatDoor
namespace Go.Proofs.YtfajmfoofmienaaGreatDoor
open Go Go.GL
variable {q:Rat}{s:List UInt8}
theorem uU {p:Rat}(h:ratT p=ratT q):p=q:=by
 have b:=uT p;have e:=uT q;rw [h,e] at b;have d:decT q.num.natAbs=decT p.num.natAbs:=congrArg Prod.fst b;have a:(if q.den=1 then [] else decT q.den)=(if p.den=1 then [] else decT p.den):=congrArg (fun x=>x.2.1) b;have c:=(sM p).1;have f:=(sM q).1;rw [h,f] at c;have j:=zak d;have l:q.num<0↔p.num<0:=decide_eq_decide.1 c;refine Rat.ext zo ?_;have g:=(xw p.den).2.2;have i:=(xw q.den).2.2;split at a<;>split at a
 ·omega
 ·exact cA a.symm g
 ·exact cA a i
 exact (zak a).symm
noncomputable def numOf (s:List UInt8):Rat:=open Classical in if h:xy s then h.choose else 0
theorem vK (h:¬xy s):numOf s=0:=by unfold numOf;rw [dif_neg h]
theorem sV (h:xy s):ratT (numOf s)=s:=by unfold numOf;rw [dif_pos h];exact h.choose_spec
theorem sW (h:ratT q=s):numOf s=q:=uU ((sV ⟨q,h⟩).trans h.symm)
theorem fw (x y:Rat):((x-y).num<0→x<y)∧((x-y).num=0→x=y)∧(0<(x-y).num→y<x):=by
 have a:=vo x (-y);rw [←Rat.sub_eq_add_neg,Rat.neg_num,Rat.neg_den] at a;have e:0<sN (x.num*(y.den:Int)+ -y.num*(x.den:Int)).natAbs (x.den*y.den):=A5 _ (CQ x.den_pos y.den_pos);have d:((sN (x.num*(y.den:Int)+ -y.num*(x.den:Int)).natAbs (x.den*y.den):Nat):Int)∣x.num*(y.den:Int)+ -y.num*(x.den:Int):=BZ.2 (BB _ _);have b:=zgs x y;rw [EX] at*
 generalize sN (x.num*(y.den:Int)+ -(y.num*(x.den:Int))).natAbs (x.den*y.den)=g at*
 obtain ⟨u,c⟩:=d;rw [c,Di _ zo] at a;rw [a];refine ⟨fun h=>b.1.2 ?_,fun h=>b.2.1.2 ?_,fun h=>b.2.2.2 ?_⟩
 ·have:=Int.mul_neg_of_pos_of_neg (show (0:Int)<g by omega) h;omega
 ·rw [h,Int.mul_zero] at c;omega
 have:=Int.mul_pos (show (0:Int)<g by omega) h;omega
end Go.Proofs.YtfajmfoofmienaaGreatDoor
