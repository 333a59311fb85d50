import Derived.Below
import Derived.Test.YtpcpimjejdegcaaGreatDoorRows
import Derived.ChangeSame
import Derived.ChangeVars
import Derived.ChangeSlices
import Derived.JoinedOf
import Derived.RowKit
import Derived.RowKitTokens
import Derived.LaidLaws
import Derived.Carry
import Derived.Handed
import Derived.Deep.Slices
import Derived.Test.YtpcpimjejdegcaaGreatDoorTie
import Derived.Test.YtpcpimjejdegcaaGreatDoorCards
import Derived.Test.YtpcpimjejdegcaaGreatDoorSlvE
open Option renaming some→ξ,none→θ
open Bool renaming true→φ,false→χ
open Go renaming Value→ψ
set_option linter.defProp false
open Bool renaming false_ne_true→Ep
open Classical renaming axiomOfChoice→F2,byContradiction→C1
open Go.Addr renaming add→FS
open Go.DataW renaming slice→ap3,trod→Fb
open Go.GL.Ren renaming addr→ai5
open Go.Proofs.Tryz renaming prog→Di
open Go.Proofs.YtpcpimjejdegcaaGreatDoor.ExtB renaming refl→El
open Go.Proofs.YtpcpimjejdegcaaGreatDoor.IW renaming zero→EB
open Go.Proofs.YtpcpimjejdegcaaGreatDoor.RS renaming sub→an0
open Go.Proofs.YtpcpimjejdegcaaGreatDoor.Sz renaming zero→Jt
open Go.Proofs.YtpcpimjejdegcaaGreatDoor.Tr renaming refl→Eo,s→FT,trans→HY
open Go.Proofs.YtpcpimjejdegcaaGreatDoor.UI renaming zero→Jv
open Go.Proofs.YtpcpimjejdegcaaGreatDoor.ratP renaming kp→Ei
open Go.Proofs.YtpcpimjejdegcaaGreatDoor.strP renaming kp→ag8
open Go.Value renaming bool→U,int→CJ,pointer→CM,slice→Y,string→CN
open Go.World renaming cell?→IS,holding→ak5
open Int renaming natAbs_mul→Dz,natAbs_natCast→C4,natAbs_neg→Ff,natAbs_tdiv→G3
open List renaming append_assoc→Dp,drop_eq_getElem_cons→EL,drop_eq_nil_of_le→Fa,drop_zero→DH,ext_getElem?→Et,flatMap_cons→HZ,getElem?_drop→D6,getElem?_eq_getElem→CK,getElem?_eq_none→Dl,getElem?_eq_some_iff→CQ,getElem?_map→DC,getElem?_mapIdx→Fr,getElem?_set→HX,getElem?_take→HH,getElem?_take_of_lt→EA,getElem_mem→EX,length→O,length_cons→DN,length_drop→Es,length_eq_zero_iff→CY,length_map→CU,length_range→Fo,length_replicate→Du,length_take→DD,length_take_of_le→Jw,map_append→Ev,map_congr_left→Ec,map_id→HI,map_map→Iw,map_take→Gx,mem_append→DW,mem_cons→Dk,mem_cons_of_mem→E7,mem_cons_self→Eb,mem_iff_getElem→Hn,mem_iff_getElem?→EI,mem_map→DU,mem_map_of_mem→F5,mem_of_getElem?→CL,mem_of_mem_drop→E5,mem_of_mem_take→Dx,mem_range→GQ,mem_replicate→aa5,mem_singleton→C0,nil_append→DP,not_mem_nil→CT,range→DV,replicate→CO,take_length→Da,take_of_length_le→CR,take_zero→EP
open Nat renaming add_assoc→GA,add_comm→Ee,add_sub_cancel_left→E1,div_le_self→Ef,le_mul_of_pos_left→ER,le_mul_of_pos_right→EK,le_of_ble_eq_true→De,le_of_eq→HW,le_of_lt→D9,le_refl→Ed,le_trans→C5,lt_of_le_of_lt→Dh,lt_of_lt_of_le→CZ,lt_succ_self→Fi,mul_le_mul→Df,mul_le_mul_left→C9,mul_le_mul_right→CS,mul_one→DL,mul_pos→EJ,not_lt_zero→DR,one_pos→IY,pow_le_pow_right→CW,pow_pos→Dw,pow_succ→Db,pow_zero→EG,succ_mul→EM,zero_add→Dd,zero_mul→D2
open Option renaming isSome_iff_exists→Dt,map_eq_some_iff→Eh,map_some→ag6
open Option.some renaming inj→Ej,injEq→HP
open Rat renaming add_assoc→HB,add_comm→ab8,add_zero→Gc,divInt→DK,divInt_eq_div→EE,div_def→Ge,div_mul_cancel→EU,intCast_eq_zero_iff→Eu,intCast_mul→DA,intCast_natCast→Ds,intCast_neg→It,le_antisymm→G5,le_of_lt→DQ,le_refl→FZ,lt_irrefl→E2,mul_assoc→HC,mul_comm→Fm,mul_nonneg→GS,mul_one→Fz,mul_pos→Fy,mul_zero→FC,natCast_mul→G7,not_le→E0,not_lt→FK,num_eq_zero→Fs,num_nonneg→FM,one_mul→IZ,zero_add→Js,zero_mul→ES
set_option maxHeartbeats 8000000
set_option linter.unusedVariables false
set_option linter.unusedSimpArgs false
noncomputable section
namespace Go.Proofs.YtpcpimjejdegcaaGreatDoor
section
open Go Go.GL
variable {n m b a c j cx lx V cap Z1 l n0 bs N co cr cy lr ly len k T D M Mo BB n' fq gq lq cu cw lu lw B P lo' bt Bl c1 c2 f1 f2 g1 kA l1 l2 lA cc lc N' f:Nat}{h h':HF}{ops r:List Oper}{ax ao ar ay aq eq au aw a1 a2 aA e1 ac:Option Addr}{hi:List UInt8}{d d0:Sol}{α β:Type}{X:CtxF}{ms w:List Nat}{t:TF}{al ld:List (Nat×Nat)}{ef:List (Nat×HF×List Nat)}{Q:SV->Prop}{o:Oper}{ys ob xs:List Rat}{S C:List (List UInt8)}{A:Adr}{L:(Nat->Rat)->Prop}{ty e ty':TypeId}{dq fd b1 b2:Bool}{ρ:Rat}{ik:IntKind}{σ:Nat->Rat}{bz:List (Nat×List Int)}{y:Operand}{z:ψ}
variable {s:List UInt8}
def zrs(k:Nat)(h:HF)(n:Nat):CX (Ka (k+2)) 41 [CJ .i64 (-1)] h n (IV (-1)):=by refine zw R4<|Za λo y F=>?_;refine zG ?_;refine wm R6 rfl<|zG ?_;refine sC (Td _ _ _) ?_;rintro _ p u⟨e,i,g,rfl,j⟩ H G;refine sT #[U φ,Y e i g] ?_;refine sS [U φ,Y e i g] λq C v=>?_;refine zq ?_;exact⟨_,_,_,_,ω,ω,j.t⟩
def newS(k:Nat)(h:HF)(n:Nat)(up:Bool):CX (Ka (k+2)) 41 [CJ .i64 (KD up)] h n (IV (KD up)):=by cases up;exact zrs k h n;exact NK k h n
def jE(k:Nat)(h:HF)(n:Nat)(up:Bool):CX (Ka (k+3)) 43 [CJ .i64 (KD up)] h n (QV (Kk up)):=by refine zw R4<|Za λh1 y F=>?_;refine zG ?_;refine sC (newS _ _ _ _) ?_;rintro _ p u⟨g,e,j,i,rfl,o⟩ H G;refine sT #[U g,Y e j i,U χ,η] ?_;refine sS [U g,Y e j i,U χ,η] λq C v=>?_;refine zq ?_;exact⟨_,_,_,_,_,_,_,_,ω,o.t.as (by cases up<;>rfl),(EB _ _).as (by cases up<;>rfl)⟩
def jH(up:Bool):Sz 1 (Kk up):=by cases up<;>exact⟨by decide,by decide⟩
theorem Sz.sg{a:Nat}{x:Rat}(h:Sz a x)(up:Bool):Sz a (x*Kk up):=by unfold Kk;cases up;rw[Cs Ep,show x*(-1:Rat)= -x by grind];exact h.neg;rw[Cx ω,Fz];exact h
theorem zpe{x:Rat}{up:Bool}(h:x*Kk up=0):x=0:=by unfold Kk at*;grind
section
variable {s:PS}{w:ψ}
def SolP.entI(i:SolP n m d s)(hv:∀c,c<n->s.nb c<n+m)(g:c<n):impC d (rowL n (s.T m)) c (s.nb c)↔∃u,ent m (Kd d.lo) (Kd d.hi) s u c:=by have p:=i.va _ (hv c g);obtain⟨C,o⟩:∃x,d.lo[s.nb c]?=ξ x:=⟨_,CK (by have:=i.ll;have:=hv c g;omega)⟩;obtain⟨y,j⟩:∃x,d.hi[s.nb c]?=ξ x:=⟨_,CK (by have:=i.lh;have:=hv c g;omega)⟩;have q:=(du p j).trans (Uw j).symm;have v:=(dt p o).trans (Ux o).symm;unfold impC;rw[vu g,q,v];constructor;rintro⟨z,e,h⟩;cases e;obtain h|h:=h;exact⟨φ,h⟩;exact⟨χ,h⟩;rintro⟨u,h⟩;cases u;exact⟨_,ω,.inr h⟩;exact⟨_,ω,.inl h⟩
def EntV.get(i:SolP n m d s)(hv:∀c,c<n->s.nb c<n+m)(h:EntV d (rowL n (s.T m)) w):(∃c up,w=.tuple #[CJ .i64 ((c:Nat):Int),CJ .i64 (KD up),U φ]/\Ent n m (Kd d.lo) (Kd d.hi) s c up)\/((∀c u,c<n->¬ent m (Kd d.lo) (Kd d.hi) s u c)/\w=.tuple #[CJ .i64 0,CJ .i64 0,U χ]):=by
 obtain⟨c,v,z,o,q,F,G,rfl⟩|⟨o,rfl⟩:=h;have e:c<n:=by have:=(CQ.1 o).1;have:=i.nl;omega
 rw[i.nb c e]at o;cases o;rw[vu e]at q;cases q;have y:∀j,j<n->s.nb j<s.nb c->∀u,¬ent m (Kd d.lo) (Kd d.hi) s u j:=λj p H u g=>by have:=G j _ (i.nb j p) ((i.entI hv p).2 ⟨u,g⟩);omega
 have⟨u,g⟩:=(i.entI hv e).1 F;refine .inl ⟨c,u,?_,e,g,y⟩;cases u;have C:0<s.T m c:=g.1;rw[Cs Z];rfl;have C:s.T m c<0:=g.1;rw[Cx C];rfl;exact .inr ⟨λc u e g=>o c _ (i.nb c e) ((i.entI hv e).2 ⟨u,g⟩),ω⟩
def SolP.sz(g:SolP n m d s)(hv:∀c,c<n->s.nb c<n+m)(z:SzP n m V T Z1 B d s)(p:Lim V T Z1 D B):SZ d D:=by have:=p.l1;have:=g.vl;have:=g.ll;have:=g.lh;have:=g.ls;have:=g.nl;have:=g.nm;have:=g.tl;refine⟨λq i=>?_,λq i=>(z.lo q i).mono Z,λq i=>(z.hi q i).mono Z,Z,Z,Z,λv j=>?_,Z,Z⟩;have⟨v,e⟩:=EI.1 i;have o:=(CQ.1 e).1;rw[g.va v Z]at e;cases e;exact(z.va v Z).mono Z;have⟨c,e⟩:=EI.1 j;have o:=(CQ.1 e).1;rw[g.nb c Z]at e;cases e;have:=hv c Z;omega
end
section
variable {lo hi:Nat->Option Rat}{s:PS}{up:Bool}{b:Int}
def Ln.opt(h:Ln m lo hi s c up m b f fd ρ)(C:Ent n m lo hi s c up):fd=χ/\(∀r g,¬Lc m lo hi s c up r g)\/fd=φ/\∃r,OptS n m lo hi s c up r ρ/\(r=θ/\b= -1\/∃i:Nat,r=ξ i/\b=(i:Int)):=by have p:∀{r g},Lc m lo hi s c up r g->cndK m m lo hi s c up r g:=λ{r g} q=>⟨q,λi e=>by subst e;exact q.1⟩;obtain⟨j,o⟩|⟨j,r,o,u,v,y⟩:=h;exact .inl ⟨j,λr g q=>o r g (p q)⟩;exact .inr ⟨j,r,⟨C,o.1,λF g q=>by rw[<-v];exact y F g (p q)⟩,u⟩
end
section
variable {s:PS}{a:Nat->Nat->Int}{B:Nat->Nat}
def zd4(k:Nat)(g:GG h n0)(S:Ste l n m bs a L A B d0 h n0 d s)(hF:Feas m (Kd d0.lo) (Kd d0.hi) s)(x:Fix n m M Mo N V T Z1 D BB a d0)(hn:0<n)(b1:n+m<=11):
  CF (Ka (k+15)) 19 [ι bs] h n0 λw P Z3 W=>∃d' s',n0<=Z3/\Ste l n m bs a L A B d0 P Z3 d' s'/\Feas m (Kd d0.lo) (Kd d0.hi) s'/\Tr n0 h Z3 P/\(∀b,b<3*l->P b=h b)/\(∀c∈W,3*l<=c)/\(w=.tuple #[CJ .i64 0,CJ .i64 0,U φ]/\(∀c u,c<n->¬ent m (Kd d0.lo) (Kd d0.hi) s' u c)\/∃(c:Nat) (up:Bool),w=.tuple #[CJ .i64 (c:Int),CJ .i64 (KD up),U χ]/\Ent n m (Kd d0.lo) (Kd d0.hi) s' c up/\∀r ρ,¬Lc m (Kd d0.lo) (Kd d0.hi) s' c up r ρ):=by
 have⟨bw,ew,gw,lw,ow,be⟩:=S.sm.nb.or ω (show O d.nb≠0 by have:=S.sp.nl;omega);have⟨bv,ev,gv,lv,ov,bd⟩:=S.sm.va.or ω (show O d.va≠0 by have:=S.sp.vl;omega);injection ew with ew;injection ev with ev;have hl:3*l<=3*n0:=by have:=S.ap.bs;have:=S.sm.bs.1;omega
 have h4:4^(n+m)<=4^11:=CW zd b1;refine Lu R4<|zG ?_;refine sF (λ_=>[(0,ι bs)]) (λz P Z3 w'=>n0<=Z3/\Ste l n m bs a L A B d0 P Z3 z.2.1 z.2.2/\Feas m (Kd d0.lo) (Kd d0.hi) z.2.2/\Tr n0 h Z3 P/\(∀b,b<3*l->P b=h b)/\(∀c∈w',3*l<=c)/\(z=(0,d,s)\/w'≠[])/\nT (Ug n m a (Kd d0.lo) (Kd d0.hi) L) (λs=>Lb m (Kd d0.lo) (Kd d0.hi) s (n+m)) z.1 z.2.2/\O z.2.1.va=O d.va/\O z.2.1.nb=O d.nb) (λz=>4^(n+m)-z.1) (0,d,s) ⟨CG,S,hF,Eo _ _,λ_ _=>rfl,λc hc=>BO hc CT,.inl ω,nT.start,ω,ω⟩ ?_;rintro⟨q,o,y⟩ t h1 n1 w1 ⟨y1,j,F1,T1,K1,a1,a4,ad,Z4,H⟩;dsimp only at y1 j F1 T1 Z4 H;have hq:q<4^(n+m):=ad.lt λs=>iI _;have x1:=x.same j.eq;have el:=j.eq.lo;have eh:=j.eq.hi;have I1:PInv n m a (Kd o.lo) (Kd o.hi) L y:=by rw[el,eh];exact j.iv
 have C:=x1.szp I1;have ay:=zfb (k+6) j.sm (j.sp.sz j.iv.nv C x.l) (by have:=x.l.l3;omega) (r:=(B m,rowL n (y.T m))) (by rw[j.sp.tl];exact j.ap.at j.sp CG) (by rw[j.sp.nl];exact yv);refine zG ?_;refine sC (ay.mono λw _ _ he=>EntV.get j.sp j.iv.nv he) ?_;rintro _ h2 n2 he y2 x2;rw[el,eh]at he;have S2:Ste l n m bs a L A B d0 h2 n2 o y:=⟨j.sm.ext x2 y2,j.sp,j.iv,j.ap,j.eq⟩;have T2:Tr n0 h n2 h2:=T1.trans ⟨y2,λc hc=>.inl (x2 c hc)⟩;have K2:∀b,b<3*l->h2 b=h b:=λb hb=>(x2 b Z).trans (K1 b hb);have y2:n1<=n2:=y2;obtain⟨c,up,rfl,hE⟩|⟨J,rfl⟩:=he;have hc:=hE.he;have af:=zia (k+1) (g.t T2) S2.sm j.sp j.iv.toPB C x.l (up:=up) hc (λi hi hT q hq=>x1.stp I1 hc hi hT hq);rw[el,eh]at af;refine zG ?_;refine sC af ?_;rintro _ h3 F⟨b,f,ρ,b3,a3,l3,c3,d3,e3,f3,u3,fd,rfl,i3,j3,hL,hS⟩ y3 x3;have hP:=hL.opt hE;refine Za λh4 p4 x4=>?_;refine zG ?_;refine sS [U b3,Y a3 l3 c3,U d3,Y e3 f3 u3] λG p5 o5=>?_;have y3:n2<=F:=y3;have k5:Exo n2 h2 G:=⟨(show Tx n2 h2 (F+1) G from zx).2⟩;have i5:=i3.t (zt:Tr F h3 (F+1) G);have j5:=j3.t (zt:Tr F h3 (F+1) G);have S5:Ste l n m bs a L A B d0 G (F+1) o y:=⟨S2.sm.ext k5.go Z,j.sp,j.iv,j.ap,j.eq⟩;have T5:Tr n0 h (F+1) G:=T2.trans ⟨Z,λc hc=>.inl (k5.go c hc)⟩;have K5:∀b,b<3*l->G b=h b:=λb hb=>(k5.go b Z).trans (K2 b hb);obtain⟨rfl,J⟩|⟨rfl,r,hO,hr⟩:=hP;refine zG ?_;refine⟨ω,[_,_,_],ω,⟨o,y,Z,S5,F1,T5,K5,a1,.inr ⟨c,up,ω,hE,J⟩⟩,λR=>?_⟩;have R:w1=[]:=R;obtain e|a2:=a4;cases e;exact⟨_,_,CG,S,hF,Eo _ _,A0,λc hc=>BO hc CT,.inr ⟨c,up,ω,hE,J⟩⟩;exact BO R a2;have b5:=x.l.l1;have b8:=x.l.l2;have b9:=x.l.l3;have IN:=hO.inv j.iv F1;have ae:=ad.next (λp τ hp hs hk=>zmy p τ hp hs hk) ⟨j.iv,F1,c,up,r,ρ,hO,ω⟩;refine kh ?_;refine dC (jE _ _ _ up) ?_;rintro _ h6 n6⟨b6,a6,l6,c6,d6,e6,f6,u6,rfl,i6,j6⟩ y6 x6;refine dC (mulQ _ ((g.t T5).x zx) i5.x j5.x i6 j6 hS (jH up) Z) ?_;rintro _ h7 n7⟨b7,a7,l7,c7,d7,e7,f7,u7,rfl,i7,j7⟩ y7 x7;have k7:Exo (F+1) G h7:=⟨(show Tx (F+1) G n7 h7 from zx).2⟩;have ag:F+1<=n7:=(show Tx (F+1) G n7 h7 from zx).1;have S7:Ste l n m bs a L A B d0 h7 n7 o y:=⟨S5.sm.ext k7.go ag,j.sp,j.iv,j.ap,j.eq⟩;have T7:Tr n0 h n7 h7:=T5.trans ⟨ag,λc hc=>.inl (k7.go c hc)⟩;have K7:∀b,b<3*l->h7 b=h b:=λb hb=>(k7.go b Z).trans (K5 b hb);have b0:=Up (k+2) (g.t T7) S7.sm j.sp j.iv.toPB C x.l hc i7 j7 (hS.sg up);refine wa _ R7 b0 ?_;rintro _ ar bb K⟨b4,va,an,al,I,ac,a0,a8,aa⟩;refine⟨rF ω ω,b4,?_⟩;have am:∀v,v<n+m->va[v]?=ξ (Kq y c (ρ*Kk up) (m+1) v):=λv hv=>(al v hv).trans (congrArg ξ (vi (by rw[j.iv.bm];omega)).symm);have Z0:=j.sp.mv an am;have a5:∀{v:ψ},(∀b,BkOf v b->3*l<=b)->∀b,b<3*l->¬BkOf v b:=λhv b hb av=>by have:=hv b av;omega
 have a0:∀b,b<3*l->ar b=h b:=λb hb=>(a0 b Z (a5 (λb hb=>(S7.sm.va.bk b hb).1) b hb)).trans (K7 b hb);obtain⟨rfl,rfl⟩|⟨i,rfl,rfl⟩:=hr;have hρ:ρ*Kk up≠0:=λe=>by rw[zpe e]at hO;exact hO.own0
 have aw:bv∈K:=(aa.resolve_left hρ) bv ⟨0,O o.va,O o.va,by rw[ev,Z4]⟩;refine zJ ?_;exact sK (q+1,{o with va:=va},optN m y c up θ ρ) ⟨Z,⟨I,Z0,IN.1,j.ap.mv,⟨j.eq.n,j.eq.sc,j.eq.lo,j.eq.hi⟩⟩,IN.2,T7.trans ac,a0,yL a8 a1,.inr (λe=>by have h:=wQ (n0:=n0) (l:=K) (w:=w1) ov.1 aw;have e:addW n0 K w1=[]:=e;rw[e]at h;cases h),ae,(by show O va=_;have:=S.sp.vl;omega),H⟩;have⟨az,ah,_⟩:=hO.ch;have ak:SzP n m V T Z1 BB {o with va:=va} ⟨y.toPT,Kq y c (ρ*Kk up) (m+1)⟩:=(by have b2:=x.szp (s:=optN m y c up (ξ i) ρ) IN.1;exact⟨b2.va,C.lo,C.hi,C.tT,C.tO,C.dd⟩);refine zJ ?_;refine zF _ R5 (Uv _ I Z0 j.iv.toPB ak x.l j.ap.mv az hc ah) ?_;rintro _ au bc a9⟨bf,aj,aq,ao,ai,ab⟩;have KF:∀b,b<3*l->au b=h b:=λb hb=>(ao b Z (λe=>by have:=j.ap.bs;omega) (λa ha e=>by have:=j.ap.lo a ha;omega) (a5 (λb hb=>(I.ba.bk b hb).1) b hb) (a5 (λb hb=>(I.nb.bk b hb).1) b hb)).trans (a0 b hb);have ax:bw∈a9:=ab bw ⟨0,O o.nb,O o.nb,by rw[ew,H]⟩;refine zG ?_;exact sK (q+1,_,optN m y c up (ξ i) ρ) ⟨Z,⟨aj,Z0.piv,IN.1,j.ap.mv.piv,⟨j.eq.n,j.eq.sc,j.eq.lo,j.eq.hi⟩⟩,IN.2,(T7.trans ac).trans aq,KF,yL ai (yL a8 a1),.inr (λe=>by have h:=wQ (n0:=n0) (l:=a9) (w:=addW n0 K w1) ow.1 ax;have e:addW n0 a9 (addW n0 K w1)=[]:=e;rw[e]at h;cases h),ae,(by show O va=_;have:=S.sp.vl;omega),aD⟩;refine zG ?_;refine⟨ω,[_,_,_],ω,⟨o,y,Z,S2,F1,T2,K2,a1,.inl ⟨ω,J⟩⟩,λR=>?_⟩;have R:w1=[]:=R;obtain e|a2:=a4;cases e;exact⟨_,_,CG,S,hF,Eo _ _,A0,λc hc=>BO hc CT,.inl ⟨ω,J⟩⟩;exact BO R a2
end
section
variable {sz:Nat}{ss:List (List UInt8)}{q:Rat}{up:Bool}
def Km{α:Type}(N:Nat)(f:Nat->α):List α:=(DV N).map f
section
variable {f g:Nat->α}{x:α}
theorem yo:O (Km N f)=N:=by unfold Km;rw[CU,Fo]
def wo(h:j<N):(Km N f)[j]?=ξ (f j):=by unfold Km;rw[DC,List.getElem?_range h];rfl
def mU{l:List α}(p:O l=N)(h:∀j,j<N->l[j]?=ξ (f j)):l=Km N f:=by refine Et λj=>?_;by_cases hj:j<N;rw[h j hj,wo hj];rw[Dl Z,Dl Af]
def oV:(Km N f).set j x=Km N (Ke f j x):=by refine mU (by rw[List.length_set,yo]) λi p=>?_;rw[HX,yo];unfold Ke;by_cases e:j=i;subst e;rw[Cx ω,Cx p,Cx rfl];rw[Cs e,Cs λq=>e q.symm,wo p]
def oW(h:∀j,j<N->f j=g j):Km N f=Km N g:=mU yo λj p=>by rw[wo p,h j p]
def eE:CO N x=Km N λ_=>x:=mU Du λj p=>by rw[List.getElem?_replicate,Cx p]
def kJ(h:x∈Km N f):∃j,j<N/\f j=x:=by have⟨j,p,e⟩:=DU.1 h;exact⟨j,GQ.1 p,e⟩
def UG{m:Nat}(h:m<=N):(Km N f).take m=Km m f:=mU (by rw[DD,yo];omega) λj p=>by rw[HH,Cx p,wo Z]
def zio{m:Nat}:(Km N f).drop m=Km (N-m) λj=>f (m+j):=mU (by rw[Es,yo]) λj p=>by rw[D6,wo Z]
end
structure OTN (n0:Nat)(h:HF)(n b:Nat)(ss:List (List UInt8)):Prop where
 o:OT h n b ss
 lo:3*n0<=b
 g:gro b=χ
def OTN.go{n0 n:Nat}{h:HF}(o:OTN n0 h n b ss)(T:Tr n h n' h')(e:h' b=h b):OTN n0 h' n' b ss:=⟨o.o.go ag8 T e,o.lo,o.g⟩
def OTN.ext{n0 n:Nat}{h:HF}(o:OTN n0 h n b ss)(x:J9 n h h')(p:n<=n'):OTN n0 h' n' b ss:=⟨o.o.ext ag8 x p,o.lo,o.g⟩
def OTN.low{n0 p n:Nat}{h:HF}(o:OTN n0 h n b ss)(u:p<=n0):OTN p h n b ss:=⟨o.o,by have:=o.lo;omega,o.g⟩
def OX(k:Nat){h:HF}{n:Nat}(g:GG h n){a:Option Addr}{L:Nat}{f:Nat->Rat}(iq:QS h n (Y a L cap) (Km L f))(hL:L<=1000){m:Nat}(hz:∀j,j<L->Sz m (f j))(hm:m<=1920):
  CX (Ka (k+11)) 20 [Y a L cap] h n λv h' n'=>∃b,v=Y (ξ ⟨b,0,θ⟩) L L/\OTN n h' n' b (Km L λj=>ratT (f j)):=by
 refine zw R4<|zG ?_;refine NM (L:=L) [CN ⟨⟨[]⟩⟩] ?_ hL;intro h1 K x1;refine zG ?_;have y:OT h1 (n+1) (3*n+2) (CO L []):=OR.fill Z K ag8 rfl;rw[iA (f:=λj=>ratT (f j))]at y;obtain⟨B,H⟩:∃B,B=3*n+2:=⟨_,ω⟩;have gB:gro B=χ:=by rw[H];exact zB _
 rw[<-H]at y⊢;refine sF (α:=Nat) (λz=>[(2,η),(3,Y (ξ ⟨B,0,θ⟩) L L),(9,Y a L cap),(10,CJ .i64 (L:Int)),(11,CJ .i64 (z:Int))])
  (λz h' n' w'=>w'=[]/\n+1<=n'/\J9 n h h'/\OT h' n' B (mixF (λj=>ratT (f j)) (λ_=>[]) z L)/\z<=L) (λz=>L-z) 0 ⟨ω,CG,x1,y,CH⟩ ?_
 rintro j t h2 I _⟨rfl,P,R,u,hj⟩;(try dsimp only at P u hj);refine zG ?_;by_cases q2:(j:Int)<(L:Int);refine zG ?_;have p:j<L:=Z;have⟨k3,u3,Z4,S,l3,W,C,Z3,Z0,w3,F,m3,r3,t3,i3,j3⟩:=QS.at iq (wo p);refine sI F r3 ?_;refine sL t3 m3 0 ?_;refine sA λh4 p4 x4=>?_;refine zG ?_;refine sS [U Z4,Y S l3 W,U C,Y Z3 Z0 w3] λh5 p5 o5=>?_;refine zG ?_;refine sC (TE _ g.x i3.x j3.x (hz j p) hm) ?_;rintro _ G n6 rfl y6 x6;refine sI (j:=j) ω p ?_;have o6:OT G n6 B (mixF (λj=>ratT (f j)) (λ_=>[]) j L):=u.xx ag8 zx;refine sZn (n0:=n) (j:=j) (q:=ratT (f j)) [CN ⟨⟨ratT (f j)⟩⟩] o6 ag8 (by rw[xE];exact p) (show(0:Nat)+j*1=j*1 from Z) ω Z ?_;intro h7 J s7;rw[pE (f:=λj=>ratT (f j)) p]at J;refine zG ?_;exact sK (j+1) ⟨ω,Z,λc hc=>(s7.1 c Z).trans ((show G c=h2 c by
  have e0:h2 c=h2 c:=rfl;exact zp).trans (R c hc)),J,by show j+1<=L;omega⟩
 obtain rfl:j=L:=Z;refine zG ?_;refine zq ?_;refine⟨_,ω,u.as ?_,Z,gB⟩;exact oW λi hi=>Cx hi
section
variable {i:Nat}{d:Tmp}
theorem zbn{x lo:Operand}{N:Nat}{j:Int}(mm:Nat)(p:nJ X ops t o d (o.op=.slice ty x (ξ lo) θ θ/\X.E.und ty=ξ (.slice e)/\X.E.inf e=ξ (sz,bt,z)/\J8 t x=Y (ξ ⟨b,0,θ⟩) N N/\J8 t lo=CJ ik j/\j=(mm:Int)))(R:mm<=N)(G:gro b=χ)(k:ED X ops r ms (i+1) ⟨⟨upd t d (Y (ξ ⟨b,if N=mm then 0 else 0+mm*sz,θ⟩) (N-mm) (N-mm)),h,n,w⟩,al,ld,ef⟩ Q):ED X ops (o::r) (m::ms) i ⟨⟨t,h,n,w⟩,al,ld,ef⟩ Q:=by
 have⟨p,F,J,v,K,u,P,H,I⟩:=p;refine yQ p F J (by rw[v];rfl) ?_ k;rw[v];subst I;show xc X.E ty (J8 t x) (ξ (J8 t lo)) θ=_;rw[P,H];have y:(0:Int)<=(mm:Int)/\(mm:Int)<=N:=Z;have C:offA N mm sz ⟨b,0,θ⟩=⟨b,if N=mm then 0 else 0+mm*sz,θ⟩:=by grind [offA,wO,Nat.beq_refl,Nat.beq,Nat.eq_of_beq_eq_true]
 simp only[xc,K,u,bnd,Cx y,Int.toNat_natCast,G,Bool.false_and,C]
end
def OR.lo{h:HF}{n N m:Nat}{p:List Rat}(o:OR 4 ratP h n b p)(u:O p=N)(hm:m<=N):QS h n (Y (ξ ⟨b,if N=m then 0 else 0+m*4,θ⟩) (N-m) (N-m)) (p.drop m):=by by_cases e:N=m;rw[Cx e,show N-m=0 by omega,Fa Z];exact⟨[],.nil (.inr ⟨b,0,θ,ω,o.1⟩),.nil⟩;rw[Cs e];have:=an0 zd (o.sl (len:=N) (cap:=N) u.symm CG) (m:=m) (c:=N-m) (cap':=N-m) Z CG;rw[CR aD]at this;exact this
def MulV(n m n0:Nat)(f:Nat->Rat)(w:ψ)(h':HF)(n':Nat):Prop:=∃b1 b2,w=.tuple #[Y (ξ ⟨b1,0,θ⟩) m m,Y (ξ ⟨b2,0,θ⟩) n n]/\OTN n0 h' n' b1 (Km m λi=>ratT (f (n+i)))/\OTN n0 h' n' b2 (Km n λv=>ratT (f v))
def zba{α:Type}{f g:Nat->α}{N:Nat}:Km N g=mixF f g 0 N:=oW (g:=λi=>if i<0 then f i else g i) λ_ _=>(Cs (DR _)).symm
def zh5{α:Type}{f g:Nat->α}{N:Nat}:mixF f g N N=Km N f:=oW (f:=λi=>if i<N then f i else g i) λ_ h=>Cx h
def qV(k:Nat)(g:GG h n0)(s:SM l h n0 bs d A){f σ:Nat->Rat}{N:Nat}(aa:N=n+m)(ol:OR 4 ratP h n0 Bl (Km N f))(gB:gro Bl=χ)(a7:Bl≠bs)(hs:O d.sc=N)(hσ:∀v,v<N->d.sc[v]?=ξ (σ v))(hN:d.n=n)(h0:0<n)(a9:N<=900){a:Nat}(R:∀v,v<N->Sz a (f v))(S:∀v,v<N->Sz b (σ v))(ab:a+b<=1900):
  CF (Ka (k+13)) 25 [ι bs,Y (ξ ⟨Bl,0,θ⟩) N N] h n0 λw h' n' W=>MulV n m n0 (λv=>f v*σ v) w h' n'/\n0<=n'/\ExtB n0 [Bl] h h'/\Tr n0 h n' h'/\∀c∈W,c=Bl:=by
 have⟨b0,a0,u0,c0,ty,st,i0⟩:=s.st;have a4:=s.bs.1;have a3:=ol.1;rw[hs,hN]at st;have I:=s.sc;rw[hs]at I;refine Lu R4<|zG ?_;refine sF (α:=Nat) (λz=>[(0,ι bs),(1,Y (ξ ⟨Bl,0,θ⟩) N N),(11,Y A.sc N N),(12,CJ .i64 (N:Int)),(13,CJ .i64 (z:Int))]) (λz h' n' w'=>n0<=n'/\ExtB n0 [Bl] h h'/\Tr n0 h n' h'/\OR 4 ratP h' n' Bl (mixF (λv=>f v*σ v) f z N)/\(∀c∈w',c=Bl)/\(z=0\/Bl∈w')/\z<=N) (λz=>N-z) 0 ⟨CG,El _ _ _,Eo _ _,ol.as zba,λc hc=>BO hc CT,.inl ω,CH⟩ ?_;rintro j t h1 F w1⟨y1,Y1,C,u,P,Z0,hj⟩;(try dsimp only at y1 C u hj);have J:∀c,c<3*n0->c≠Bl->h1 c=h c:=λc hc hn=>Y1 c hc (by simpa using hn);have a1:=I.go Ei C λb hb=>J b (I.bk b hb).2.1 λe=>by have:=(I.bk b hb).2.2.1;rw[e,gB]at this;cases this
 have ac:h1 bs=_:=(J bs a4 (Ne.symm a7)).trans st;have Z4:=g.t C;refine zG ?_;by_cases q1:(j:Int)<(N:Int);refine zG ?_;have p:j<N:=Z;have⟨k2,o2,b2,a2,l2,c2,d2,e2,f2,u2,ev,mv,rv,tv,iv,jv⟩:=QS.at a1.rs (hσ j p);refine sI ev rv ?_;refine sL tv mv 0 ?_;refine sA λh3 p3 G=>?_;refine zG ?_;refine NL (n0:=n0) [U b2,Y a2 l2 c2,U d2,Y e2 f2 u2] λZ3 p4 o4=>?_;refine zG ?_;have k4:∀c,c<3*F->Z3 c=h1 c:=λc hc=>(o4.1 c Z).trans (G c hc);have H:Tr F h1 (F+1) Z3:=zt;have ob:=u.go Ei H (k4 Bl u.1);refine zl ?_;refine zH ?_;obtain⟨c5,⟨b5,a5,l5,c5,d5,e5,f5,u5,rfl,i5,j5⟩,_,t5⟩:=ob.get (xG p) (off:=0+j*4) (Dd _);rw[Cs (Nat.lt_irrefl _)]at i5 j5;refine dI ω p ?_;refine dL t5 ob.1 0 ?_;refine zH ?_;refine dC (mulQ _ (Z4.t H) i5 j5 (iv.t H) (jv.t H) (R j p) (S j p) Z) ?_;rintro _ h6 n6⟨b6,a6,l6,c6,d6,e6,f6,u6,rfl,i6,j6⟩ y6 x6;refine dI ω p ?_;have a8:=ob.ext (n':=n6) Ei x6 y6;refine dZ (n0:=n0) (j:=j) (q:=f j*σ j) [U b6,Y a6 l6 c6,U d6,Y e6 f6 u6] a8 Ei (by rw[xE];exact p) (Dd _) ⟨_,_,_,_,_,_,_,_,ω,i6,j6⟩ ?_ (h3:=by first|exact rfl|exact rF ω rfl|exact rF ω (rF ω ω));intro h7 o7 S7 _;refine zG ?_;rw[pE (f:=λv=>f v*σ v) p]at o7;exact sK (j+1) ⟨Z,λc hc hn=>(by
  have y:c≠Bl:=λe=>hn (C0.2 e);exact(S7.1 c y).trans ((x6 c Z).trans ((k4 c Z).trans (J c hc y)))),C.trans (H.trans (FT S7 (Tr.e x6 y6 (Eo _ _)))),o7,yL (λc hc=>C0.1 hc) P,.inr (wQ a3 eF),by show j+1<=N;omega⟩
 obtain rfl:j=N:=Z;rw[zh5]at u;refine kh ?_;refine zbn n R9 Z gB ?_;have hz:∀v,v<j->Sz (a+b) (f v*σ v):=λv hv=>(R v hv).mul (S v hv);have q2:=u.lo (m:=n) yo Z;rw[zio]at q2;have hm:j-n=m:=Z;rw[hm]at q2⊢;refine dC (OX _ Z4 q2 Z (m:=a+b) (λi hi=>hz _ Z) Z) ?_;rintro _ h3 n3⟨b3,rfl,o3⟩ y3 G;refine zH ?_;refine OI n R6 ω ω ω Z ?_;have K:=an0 zd ((u.ext (n':=n3) Ei G y3).sl (len:=j) (cap:=j) yo.symm CG) (m:=0) (c:=n) (cap':=j) Z Z;rw[DH,UG Z]at K;(try dsimp only at K);refine dC (OX _ (Z4.ext G y3) K Z (m:=a+b) (λi hi=>hz _ Z) Z) ?_;rintro _ Z3 n4⟨b4,rfl,o4⟩ y4 x4;refine zJ ?_;refine⟨ω,[_,_],ω,⟨⟨_,_,ω,(o3.ext x4 y4).low Z,o4.low Z⟩,Z,λc hc hn=>?_,C.trans (HY ⟨y3,λc hc=>.inl (G c hc)⟩ ⟨y4,λc hc=>.inl (x4 c hc)⟩),P⟩,λhw=>?_⟩;have y:c≠Bl:=λe=>hn (C0.2 e);exact(x4 c Z).trans ((G c Z).trans (J c hc y));have hw:w1=[]:=hw;obtain e|e:=Z0;omega;rw[hw]at e;cases e
section
variable {s:PS}{a:Nat->Nat->Int}{B:Nat->Nat}
def conF(s:PS)(r:Nat)(low:Bool)(k:Nat):Nat->Rat:=match k with
 |0=>Ke (λ_=>0) (s.bs r) (Kk low)
 |k+1=>Ke (conF s r low k) (s.nb k) ((s.T r k:Rat)/s.d*Kk (!low))
def rayF(s:PS)(c:Nat)(up:Bool)(k:Nat):Nat->Rat:=match k with
 |0=>Ke (λ_=>0) (s.nb c) (Kk up)
 |k+1=>Ke (rayF s c up k) (s.bs k) ((s.T k c:Rat)/s.d*Kk up)
def jt{e:Nat}{f:Nat->Rat}{w:Nat}(p:∀v,Sz e (f v))(u:Sz e q)(v:Nat):Sz e (Ke f w q v):=by unfold Ke;split;exact u;exact p v
def UH{i:Nat}(v:0<s.d)(p:(s.T i c).natAbs<2^T)(u:s.d.natAbs<2^T):Sz (T+1) ((s.T i c:Rat)/s.d*Kk up):=by have:=xz v p u;rw[EE]at this;exact(this.sg up).mono Zq
def zdx(p:c<n)(u:0<s.d)(sz:SzP n m V T Z1 BB d s):∀k,k<=m->∀v,Sz (T+1) (rayF s c up k v):=by
 intro k;induction k with
 |zero=>exact λ_ v=>jt (λ_=>Jt _ Z) ((jH up).mono Z) v
 |succ k ih=>exact λy v=>jt (ih Z) (UH u (sz.tT k Z c p) sz.dd) v
def zn2{r:Nat}{low:Bool}(u:r<m)(p:0<s.d)(sz:SzP n m V T Z1 BB d s):∀k,k<=n->∀v,Sz (T+1) (conF s r low k v):=by
 intro k;induction k with
 |zero=>exact λ_ v=>jt (λ_=>Jt _ Z) ((jH low).mono Z) v
 |succ k ih=>exact λy v=>jt (ih Z) (UH p (sz.tT r u k Z) sz.dd) v
def rayP(k:Nat)(g:GG h n0)(S:Ste l n m bs a L A B d0 h n0 d s)(x:Fix n m M Mo N V T Z1 D BB a d0)(hT:T<=1900)(hc:c<n):
  CX (Ka (k+13)) 21 [ι bs,CJ .i64 (c:Int),CJ .i64 (KD up)] h n0 λw h' n'=>∃b,w=Y (ξ ⟨b,0,θ⟩) n n/\OTN n0 h' n' b (Km n λv=>ratT (rayF s c up m v)):=by
 have⟨b0,a0,u0,c0,ty,Z0,i0⟩:=S.sm.st;have H:=S.sm.bs.1;have ap:=S.sp.nm;have I:PInv n m a (Kd d.lo) (Kd d.hi) L s:=by rw[S.eq.lo,S.eq.hi];exact S.iv
 have sz:=(x.same S.eq).szp I;have an:=x.l.l1;have ao:=x.l.l2;have a2:=S.iv.toPB.tab.dp;have J:=S.sp.de;obtain⟨K,hK⟩:∃K,K=n+m:=⟨_,ω⟩;rw[S.sp.ls,<-hK,S.sp.dn,S.sp.bl]at Z0;have aq:=S.iv.nv c hc;refine zw R4<|zG ?_;refine NM (L:=K) [U χ,η,U χ,η] ?_ Z;intro h1 p1 F;obtain⟨Bl,G⟩:∃B,B=3*n0+2:=⟨_,ω⟩;have gl:gro Bl=χ:=by rw[G];exact zB _
 have o1:OR 4 ratP h1 (n0+1) Bl (Km K λ_=>0):=(by exact Ce);rw[<-G];have F:Exo n0 h h1:=⟨F⟩;have ai:h1 bs=_:=(F.go bs H).trans Z0;have S1:=S.sm.ext (n':=n0+1) F.go Zq;refine kh ?_;have⟨k4,o4,e4,m4,r4,t4⟩:=natS.at S1.nb.rs (S.sp.nb c hc);refine dI e4 r4 ?_;refine dL t4 m4 0 ?_;refine zH ?_;refine dC (jE _ _ _ up) ?_;rintro _ h3 n3⟨b3,a3,l3,c3,d3,e3,f3,u3,rfl,i3,j3⟩ y3 x3;refine dI ω (show s.nb c<K from Z) ?_;refine Qe (n0:=n0) (j:=s.nb c) (q:=Kk up) [U b3,Y a3 l3 c3,U d3,Y e3 f3 u3] (o1.ext Ei x3 y3) Ei Af (Dd _) ⟨_,_,_,_,_,_,_,_,ω,i3,j3⟩ Z ?_;rw[oV];intro h5 Z4 S5;have y3:n0+1<=n3:=y3;have x5:Exo n0 h h5:=⟨λb hb=>(S5.1 b Z).trans ((x3 b Z).trans (F.go b hb))⟩;have aj:h5 bs=_:=(x5.go bs H).trans Z0;(try dsimp only at Z4);refine zG ?_;refine sF (α:=Nat) (λz=>[(0,ι bs),(1,CJ .i64 (c:Int)),(2,CJ .i64 (KD up)),(7,Y (ξ ⟨Bl,0,θ⟩) K K),(30,Y A.ba m m),(31,CJ .i64 (m:Int)),(32,CJ .i64 (z:Int))]) (λz h' n' w'=>w'=[]/\n0+1<=n'/\J9 n0 h h'/\OR 4 ratP h' n' Bl (Km K (rayF s c up z))/\z<=m) (λz=>m-z) 0 ⟨ω,y3,x5.go,Z4,CH⟩ ?_;rintro j t y u _⟨rfl,y6,C,W,hj⟩;have y6:n0+1<=u:=y6;have C:Exo n0 h y:=⟨C⟩;(try dsimp only at W hj);have S6:=S.sm.ext (n':=u) C.go Z;have ar:y bs=_:=(C.go bs H).trans Z0;have g6:GG y u:=g.ext C.go Z;refine zG ?_;by_cases q6:(j:Int)<(m:Int);refine zG ?_;have p:j<m:=Z;have hw:=S.iv.bv j p;have⟨k7,o7,e7,m7,r7,t7⟩:=natS.at S6.ba.rs (S.sp.ba j p);rw[S.sp.bl]at r7;refine sI e7 r7 ?_;refine sL t7 m7 0 ?_;refine zG ?_;have⟨r0,g0,_,ae⟩:=S.sp.ta j Z;refine sC (Nl _ g6 S6 g0 (ae c hc) (yU (sz.tT j p c hc) Z) (by rw[J];exact yU sz.dd Z) (by rw[J];omega)) ?_;rintro _ h8 n8⟨b8,a8,l8,c8,d8,e8,f8,u8,rfl,i8,j8⟩ y8 x8;have sc:Sz T (DK (s.T j c) s.d):=xz a2 (sz.tT j p c hc) sz.dd;rw[J]at i8 j8;rw[EE]at i8 j8 sc;refine zG ?_;refine sC (jE _ _ _ up) ?_;rintro _ h9 n9⟨b9,a9,l9,c9,d9,e9,f9,u9,rfl,i9,j9⟩ y9 x9;refine sC (mulQ _ g6.x i8.x j8.x i9 j9 sc (jH up) Z) ?_;rintro _ a1 P⟨a7,a6,l10,aa,ab,ac,ad,ak,rfl,af,ag⟩ au R;have R:Exo u y a1:=⟨(show Tx u y P a1 from zx).2⟩;have a4:u<=P:=Z;refine sI ω (show s.bs j<K from Z) ?_;refine OK (n0:=n0) (j:=s.bs j) (q:=(s.T j c:Rat)/s.d*Kk up) [U a7,Y a6 l10 aa,U ab,Y ac ad ak] (W.ext (n':=P) Ei R.go a4) Ei Af (Dd _) ⟨_,_,_,_,_,_,_,_,ω,af,ag⟩ Z ?_;rw[oV];intro am ah a5 _;refine zG ?_;exact sK (j+1) ⟨ω,Z,λb hb=>(a5.1 b Z).trans ((R.go b Z).trans (C.go b hb)),ah,p⟩;obtain rfl:j=m:=Z;refine zG ?_;refine td n R8 ω Z ?_;have Z3:=an0 zd (W.sl (len:=K) (cap:=K) yo.symm CG) (m:=0) (c:=n) (cap':=K) Z Z;rw[DH,UG Z]at Z3;(try dsimp only at Z3);refine sC (OX _ g6 Z3 Z (m:=T+1) (λv _=>zdx hc a2 sz j CG v) Z) ?_;rintro _ h7 n7⟨b7,rfl,o7⟩ y7 x7;refine zG ?_;refine zq ?_ (hx:=⟨Z,λb hb=>(x7 b Z).trans (C.go b hb)⟩);exact⟨_,ω,o7.low Z⟩
def zf2(k:Nat)(g:GG h n0)(S:Ste l n m bs a L A B d0 h n0 d s)(x:Fix n m M Mo N V T Z1 D BB a d0)(hσ:∀v,v<n+m->d.sc[v]?=ξ (σ v))(a4:∀v,v<n+m->Sz b (σ v))(hb:T+1+b<=1900)(hn:0<n){r:Nat}(hr:r<m){low:Bool}:
  CX (Ka (k+14)) 18 [ι bs,CJ .i64 (r:Int),CJ .i64 (KD low)] h n0 λw h' n'=>MulV n m n0 (λv=>conF s r low n v*σ v) w h' n':=by
 have⟨b0,a0,u0,c0,ty,Z0,i0⟩:=S.sm.st;have H:=S.sm.bs.1;have aw:=S.sp.nm;have I:PInv n m a (Kd d.lo) (Kd d.hi) L s:=by rw[S.eq.lo,S.eq.hi];exact S.iv
 have sz:=(x.same S.eq).szp I;have au:=x.l.l1;have av:=x.l.l2;have a2:=S.iv.toPB.tab.dp;have J:=S.sp.de;obtain⟨K,Z4⟩:∃K,K=n+m:=⟨_,ω⟩;rw[S.sp.ls,<-Z4,S.sp.nl]at Z0;rw[<-Z4]at hσ a4;have ax:=S.iv.bv r hr;have⟨r0,g0,_,af⟩:=S.sp.ta r Z;refine zw R4<|zG ?_;refine NM (L:=K) [U χ,η,U χ,η] ?_ Z;intro h1 p1 F;obtain⟨Bl,G⟩:∃B,B=3*n0+2:=⟨_,ω⟩;have gl:gro Bl=χ:=by rw[G];exact zB _
 have o1:OR 4 ratP h1 (n0+1) Bl (Km K λ_=>0):=(by exact Ce);rw[<-G];have F:Exo n0 h h1:=⟨F⟩;have ao:h1 bs=_:=(F.go bs H).trans Z0;have S1:=S.sm.ext (n':=n0+1) F.go Zq;refine kh ?_;have⟨k4,o4,e4,m4,r4,t4⟩:=natS.at S1.ba.rs (S.sp.ba r hr);refine dI e4 r4 ?_;refine dL t4 m4 0 ?_;refine zH ?_;refine dC (jE _ _ _ low) ?_;rintro _ h3 n3⟨b3,a3,l3,c3,d3,e3,f3,u3,rfl,i3,j3⟩ y3 x3;refine dI ω (show s.bs r<K from Z) ?_;refine Qe (n0:=n0) (j:=s.bs r) (q:=Kk low) [U b3,Y a3 l3 c3,U d3,Y e3 f3 u3] (o1.ext Ei x3 y3) Ei Af (Dd _) ⟨_,_,_,_,_,_,_,_,ω,i3,j3⟩ Z ?_;rw[oV];intro h5 W S5;have y3:n0+1<=n3:=y3;have x5:Exo n0 h h5:=⟨λb hb=>(S5.1 b Z).trans ((x3 b Z).trans (F.go b hb))⟩;have ap:h5 bs=_:=(x5.go bs H).trans Z0;(try dsimp only at W);refine zG ?_;refine sF (α:=Nat) (λz=>[(0,ι bs),(1,CJ .i64 (r:Int)),(2,CJ .i64 (KD low)),(8,Y (ξ ⟨Bl,0,θ⟩) K K),(31,Y A.nb n n),(32,CJ .i64 (n:Int)),(33,CJ .i64 (z:Int))]) (λz h' n' w'=>w'=[]/\n0+1<=n'/\J9 n0 h h'/\OR 4 ratP h' n' Bl (Km K (conF s r low z))/\z<=n) (λz=>n-z) 0 ⟨ω,y3,x5.go,W,CH⟩ ?_;rintro j t C u _⟨rfl,y6,y,Z3,hj⟩;have y6:n0+1<=u:=y6;have y:Exo n0 h C:=⟨y⟩;(try dsimp only at Z3 hj);have S6:=S.sm.ext (n':=u) y.go Z;have ay:C bs=_:=(y.go bs H).trans Z0;have g6:GG C u:=g.ext y.go Z;refine zG ?_;by_cases q6:(j:Int)<(n:Int);refine zG ?_;have p:j<n:=Z;have hw:=S.iv.nv j p;have⟨k7,o7,e7,m7,r7,t7⟩:=natS.at S6.nb.rs (S.sp.nb j p);rw[S.sp.nl]at r7;refine sI e7 r7 ?_;refine sL t7 m7 0 ?_;refine zG ?_;refine sC (Nl _ g6 S6 g0 (af j p) (yU (sz.tT r hr j p) Z) (by rw[J];exact yU sz.dd Z) (by rw[J];omega)) ?_;rintro _ h8 n8⟨b8,a8,l8,c8,d8,e8,f8,u8,rfl,i8,j8⟩ y8 x8;have sc:Sz T (DK (s.T r j) s.d):=xz a2 (sz.tT r hr j p) sz.dd;rw[J]at i8 j8;rw[EE]at i8 j8 sc;refine zM ?_;refine zZ R4 (v:=CJ .i64 (KD (!low))) (by cases low<;>rfl) ?_;refine zG ?_;refine sC (jE _ _ _ (!low)) ?_;rintro _ h9 n9⟨b9,a9,l9,c9,d9,e9,f9,u9,rfl,i9,j9⟩ y9 x9;refine sC (mulQ _ g6.x i8.x j8.x i9 j9 sc (jH _) Z) ?_;rintro _ a1 P⟨aa,a7,l10,ab,ac,ad,ae,aq,rfl,ai,aj⟩ az R;have R:Exo u C a1:=⟨(show Tx u C P a1 from zx).2⟩;have a5:u<=P:=Z;refine sI ω (show s.nb j<K from Z) ?_;refine OK (n0:=n0) (j:=s.nb j) (q:=(s.T r j:Rat)/s.d*Kk (!low)) [U aa,Y a7 l10 ab,U ac,Y ad ae aq] (Z3.ext (n':=P) Ei R.go a5) Ei Af (Dd _) ⟨_,_,_,_,_,_,_,_,ω,ai,aj⟩ Z ?_;rw[oV];intro ar ak a6 _;refine zG ?_;exact sK (j+1) ⟨ω,Z,λb hb=>(a6.1 b Z).trans ((R.go b Z).trans (y.go b hb)),ak,p⟩;obtain rfl:j=n:=Z;refine zG ?_;have ag:=qV (k+0) (f:=conF s r low j) (σ:=σ) (a:=T+1) (b:=b) g6 S6 Z4 Z3 gl Z (S.sp.ls.trans Z4.symm) hσ S.sp.dn hn Z (λv _=>zn2 hr a2 sz j CG v) a4 Z;refine zF _ R5 ag ?_;rintro _ h7 n7 w7⟨⟨b1,b2,rfl,am,an⟩,y7,Y7,T7,ah⟩;rw[mY,zV (show ∀c∈w7,3*n0<=c from λc hc=>by have:=ah c hc;omega)];refine zG ?_;refine zq ?_ (hx:=⟨Z,λb hb=>(Y7 b Z (λe=>by have:=C0.1 e;omega)).trans (y.go b hb)⟩);exact⟨b1,b2,ω,am.low Z,an.low Z⟩
end
end
section
variable {x:Operand}
def LN(x:Rat)(lo hi:List UInt8):Prop:=(lo=[]\/zj lo<=x)/\(hi=[]\/x<=zj hi)
def Lw(v:χ=φ↔s≠[]):s=[]:=C1 λh=>by cases v.2 h
def neOf(v:φ=φ↔s≠[]):s≠[]:=v.1 rfl
def kX(m:Rat)(lo hi:List UInt8):Rat:=if m.num<0 then m*zj hi else m*zj lo
def MN(m:Rat)(lo hi:List UInt8):Prop:=(0<m.num->lo≠[])/\(m.num<0->hi≠[])
def Me{m:Rat}{lo:List UInt8}(h:0<m.num):kX m lo hi=m*zj lo:=by unfold kX;rw[Cs Z]
def UJ{m:Rat}{lo:List UInt8}(h:m.num<0):kX m lo hi=m*zj hi:=by unfold kX;rw[Cx h]
def NT{m:Rat}{lo:List UInt8}(h:m.num=0):kX m lo hi=0:=by unfold kX;rw[Cs Z,Fs.1 h,ES]
def OY{m:Rat}{lo:List UInt8}(hm:Sz b m)(e:Sz a (zj lo))(f:Sz a (zj hi)):Sz (a+b) (kX m lo hi):=by unfold kX;rw[Ee];split;exact hm.mul f;exact hm.mul e
def sumS:List SideD->List Rat->Rat
 |d::ds,m::ms=>kX m d.lo d.hi+sumS ds ms
 |_,_=>0
theorem NU(ms:List Rat):sumS [] ms=0:=by cases ms<;>rfl
theorem zws:∀{ds:List SideD} {ms:List Rat} {d:SideD} {m:Rat},O ds=O ms->sumS (ds++[d]) (ms++[m])=sumS ds ms+kX m d.lo d.hi:=by
 intro ds;induction ds with
 |nil=>
  intro ms d m h;cases ms with
  |nil=>show kX m d.lo d.hi+0=0+kX m d.lo d.hi;rw[Gc,Js]
  |cons _ _=>cases h
 |cons a ds ih=>
  intro ms d m h;cases ms with
  |nil=>cases h
  |cons b ms=>
   grind [kX,sumS,HB]
theorem Mf{ds:List SideD}{ms:List Rat}{j:Nat}{d:SideD}{m:Rat}(hx:ds[j]?=ξ d)(e:ms[j]?=ξ m):sumS (ds.take (j+1)) (ms.take (j+1))=sumS (ds.take j) (ms.take j)+kX m d.lo d.hi:=by
 rw[xa hx,xa e];have f:=(CQ.1 hx).1;have g:=(CQ.1 e).1;exact zws aD
def Mx(a:Nat)(ds:List SideD):Prop:=∀d∈ds,Sz a (zj d.lo)/\Sz a (zj d.hi)
def sumZ(c:Nat)(rs cs:List SideD)(R C:List Rat):Prop:=(∀j,j<=O rs->Sz c (sumS (rs.take j) (R.take j)))/\∀j,j<=O cs->Sz c (sumS rs (R.take (O rs))+sumS (cs.take j) (C.take j))
def hS{α β:Type}(R:α->β->Prop)(ds:List α)(xs:List β):Prop:=∀(j:Nat) d q,ds[j]?=ξ d->xs[j]?=ξ q->R d q
def hT{α β:Type}(R:α->β->Prop)(ds:List α)(xs:List β)(j:Nat):Prop:=∀i,i<j->∀d q,ds[i]?=ξ d->xs[i]?=ξ q->R d q
section
variable {R:α->β->Prop}{ds:List α}{ms:List β}{d:α}{m:β}
def hT.zero(ds:List α)(ms:List β):hT R ds ms 0:=λi hi=>BO hi (DR _)
theorem hT.step(h:hT R ds ms j)(q:ds[j]?=ξ d)(u:ms[j]?=ξ m)(v:R d m):hT R ds ms (j+1):=by intro i hi f p g l;by_cases e:i=j;grind;exact h i Z f p g l
def hT.all(h:hT R ds ms j)(hj:O ds<=j\/O ms<=j):hS R ds ms:=λi d m e f=>h i (by have:=(CQ.1 e).1;have:=(CQ.1 f).1;omega) d m e f
end
abbrev My(ds:List SideD)(ms:List Rat):Prop:=hS (λd m=>MN m d.lo d.hi) ds ms
abbrev O0(ds:List SideD)(ms:List Rat)(j:Nat):Prop:=hT (λd m=>MN m d.lo d.hi) ds ms j
abbrev UK(ds:List SideD)(xs:List Rat):Prop:=hS (λd q=>LN q d.lo d.hi) ds xs
abbrev inT(ds:List SideD)(xs:List Rat)(j:Nat):Prop:=hT (λd q=>LN q d.lo d.hi) ds xs j
def rowH(P:Rat->List UInt8->List UInt8->Prop)(xs:List Rat)(d:SideD):Prop:=P (dotR d.A (xs.take (O d.A))) d.lo d.hi
abbrev Qv(xs:List Rat)(d:SideD):Prop:=rowH LN xs d
def dirB(x:Rat)(lo hi:List UInt8):Prop:=(lo=[]\/0<=x.num)/\(hi=[]\/x.num<=0)
def colQ(rs:List SideD)(ms:List Rat)(c:Rat)(j:Nat):Nat->Rat
 |0=>c
 |i+1=>colQ rs ms c j i+((rs[i]?.bind λd=>d.A[j]?).getD 0)*ms[i]?.getD 0
theorem UL{rs:List SideD}{ms:List Rat}{c:Rat}{i j:Nat}{d:SideD}{a m:Rat}(e:rs[i]?=ξ d)(f:d.A[j]?=ξ a)(h3:ms[i]?=ξ m):colQ rs ms c j i+a*m=colQ rs ms c j (i+1):=by grind [colQ]
theorem zxl{rs:List SideD}{ms:List Rat}{c:Rat}{i j:Nat}{m:Rat}(h3:ms[i]?=ξ m)(e:m=0):colQ rs ms c j (i+1)=colQ rs ms c j i:=by simp_all [colQ,e,FC,Gc]
def No(c:Nat)(rs:List SideD)(R C:List Rat):Prop:=∀k q,C[k]?=ξ q->∀i,i<=O rs->Sz c (colQ rs R q k i)
def KH(rs:List SideD)(ms cs:List Rat)(i j:Nat):List Rat:=cs.mapIdx λk c=>colQ rs ms c k (if k<j then i+1 else i)
section
variable {rs:List SideD}{ms cs:List Rat}{i:Nat}
theorem sa:O (KH rs ms cs i j)=O cs:=List.length_mapIdx
def zwj:KH rs ms cs 0 0=cs:=by apply Et;intro k;unfold KH;rw[Fr];cases cs[k]?<;>rfl
def L3{c:Rat}(h:cs[k]?=ξ c):(KH rs ms cs i j)[k]?=ξ (colQ rs ms c k (if k<j then i+1 else i)):=by unfold KH;rw[Fr,h];rfl
def zwl(hj:O cs<=j):KH rs ms cs i j=KH rs ms cs (i+1) 0:=by
 apply Et;intro k;cases h:cs[k]? with
 |none=>unfold KH;rw[Fr,Fr,h];rfl
 |some c=>
  have:=(CQ.1 h).1;rw[L3 h,L3 h,Cx Z,Cs Z]
def zwk{m:Rat}(h3:ms[i]?=ξ m)(e:m=0):KH rs ms cs i 0=KH rs ms cs (i+1) 0:=by
 apply Et;intro k;cases h:cs[k]? with
 |none=>unfold KH;rw[Fr,Fr,h];rfl
 |some c=>rw[L3 h,L3 h,Cs Z,Cs Z,zxl h3 e]
theorem zxk{d:SideD}{a m s:Rat}(f:(KH rs ms cs i j)[j]?=ξ s)(p:rs[i]?=ξ d)(q:d.A[j]?=ξ a)(h3:ms[i]?=ξ m):(KH rs ms cs i j).set j (s+a*m)=KH rs ms cs i (j+1):=by
 have g:=(CQ.1 f).1;rw[sa]at g;have l:=CK g;rw[L3 l,Cs Z]at f;injection f with f
 apply Et;intro k;rw[HX];by_cases e:j=k
 .subst e;rw[Cx rfl,Cx (by rw[sa];exact g),L3 l,Cx Z,<-f,UL p q h3]
 rw[Cs e];cases h:cs[k]? with
 |none=>unfold KH;rw[Fr,Fr,h];rfl
 |some c=>
  rw[L3 h,L3 h]
  grind
def Qw(p:No c rs ms cs)(hi:i<O rs\/i<=O rs/\j=0):∀q∈KH rs ms cs i j,Sz c q:=by intro q l;have⟨k,e⟩:=EI.1 l;have g:=(CQ.1 e).1;rw[sa]at g;have f:=CK g;rw[L3 f]at e;injection e with e;rw[<-e];exact p k _ f _ (by split<;>omega)
end
section
variable {i:Nat}{d:Tmp}
def Ly{a b:List UInt8}(c:Bool)(e:nJ X ops t o d (o.op=.binOp .eql ty x y ty'/\J8 t x=CN ⟨⟨a⟩⟩/\J8 t y=CN ⟨⟨b⟩⟩))(p:(a==b)=c)
  (k:ED X ops r ms (i+1) ⟨⟨upd t d (U c),h,n,w⟩,al,ld,ef⟩ Q):ED X ops (o::r) (m::ms) i ⟨⟨t,h,n,w⟩,al,ld,ef⟩ Q:=by have⟨e,g,l,f,q,u⟩:=e;refine yQ e g l sP ?_ k;rw[f];show binE X.E .eql ty (J8 t x) (J8 t y)=_;rw[q,u,<-p];rfl
def Np{a b:List UInt8}(c:Bool)(e:nJ X ops t o d (o.op=.binOp .neq ty x y ty'/\J8 t x=CN ⟨⟨a⟩⟩/\J8 t y=CN ⟨⟨b⟩⟩))(p:(!(a==b))=c)
  (k:ED X ops r ms (i+1) ⟨⟨upd t d (U c),h,n,w⟩,al,ld,ef⟩ Q):ED X ops (o::r) (m::ms) i ⟨⟨t,h,n,w⟩,al,ld,ef⟩ Q:=by have⟨e,g,l,f,q,u⟩:=e;refine yQ e g l sP ?_ k;rw[f];show binE X.E .neq ty (J8 t x) (J8 t y)=_;rw[q,u,<-p];rfl
end
end
section
variable {cq:Nat}{sq:Bool}{q:Rat}
def mZ(k:Nat){x1 o x2 p:Bool}{s:Option Addr}{u:Nat}{lo:List UInt8}(v1:x1=φ↔lo≠[])(B:IW h n b1 a1 l1 c1 (zj lo).num)(C:IW h n o e1 f1 g1 (denZ (zj lo)))(v2:x2=φ↔hi≠[])(w:IW h n b2 a2 l2 c2 (zj hi).num)(y:IW h n p s f2 u (denZ (zj hi)))(l:IW h n sq aq lq cq q.num)(m:IW h n dq eq fq gq (denZ q))(A:Sz a (zj lo))(j:Sz a (zj hi))(i:Sz b q)(K:a+b<=2000):VF (Ka (k+7)) 78 [.agg #[Y aA lA kA,U x1,U b1,Y a1 l1 c1,U o,Y e1 f1 g1,U x2,U b2,Y a2 l2 c2,U p,Y s f2 u],.agg #[U sq,Y aq lq cq,U dq,Y eq fq gq]] h n λv=>∃b:Bool,v=U b/\(b=φ↔LN q lo hi):=by refine zO R4<|zG ?_;refine sB [Y aA lA kA,U x1,U b1,Y a1 l1 c1,U o,Y e1 f1 g1,U x2,U b2,Y a2 l2 c2,U p,Y s f2 u] λD P W=>?_;refine sB [U sq,Y aq lq cq,U dq,Y eq fq gq] λF R Z3=>?_;refine zG ?_;cases x1;refine zG ?_;cases x2;refine zf ?_;exact Kp (⟨.inl (Lw v1),.inl (Lw v2)⟩);refine zG ?_;refine sC ((xp _ l.x m.x w.x y.x i j Z).cx) ?_;rintro _ G L⟨S,rfl,e⟩ a5 Z0;obtain⟨rfl,e⟩|⟨rfl,e⟩|⟨rfl,e⟩:=e;refine zf ?_;exact Kp (⟨.inl (Lw v1),.inr (DQ e)⟩);refine zf ?_;exact Kp (⟨.inl (Lw v1),.inr Am⟩);refine zf ?_;exact Kf λc=>BO c.2 (λc=>by obtain c|c:=c;exact neOf v2 c;exact BO c (E0.2 e));refine zG ?_;refine sC ((xp _ l.x m.x B.x C.x i A Z).cx) ?_;rintro _ H M⟨T,rfl,d⟩ a6 a0;obtain⟨rfl,d⟩|⟨rfl,d⟩|⟨rfl,d⟩:=d;refine zf ?_;exact Kf λc=>BO c.1 (λc=>by obtain c|c:=c;exact neOf v1 c;exact BO c (E0.2 d));refine zG ?_;cases x2;refine zf ?_;exact Kp (⟨.inr Br,.inl (Lw v2)⟩);refine zG ?_;refine sC ((xp _ l.x m.x w.x y.x i j Z).cx) ?_;rintro _ I N⟨Z4,rfl,f⟩ a7 a3;obtain⟨rfl,f⟩|⟨rfl,f⟩|⟨rfl,f⟩:=f;refine zf ?_;exact Kp (⟨.inr Br,.inr (DQ f)⟩);refine zf ?_;exact Kp (⟨.inr Br,.inr (by rw[f];exact FZ)⟩);refine zf ?_;exact Kf λc=>BO c.2 (λc=>by obtain c|c:=c;exact neOf v2 c;exact BO c (E0.2 f));refine zG ?_;cases x2;refine zf ?_;exact Kp (⟨.inr (DQ d),.inl (Lw v2)⟩);refine zG ?_;refine sC ((xp _ l.x m.x w.x y.x i j Z).cx) ?_;rintro _ J Z1⟨V,rfl,g⟩ a8 a4;obtain⟨rfl,g⟩|⟨rfl,g⟩|⟨rfl,g⟩:=g;refine zf ?_;exact Kp (⟨.inr (DQ d),.inr (DQ g)⟩);refine zf ?_;exact Kp (⟨.inr (DQ d),.inr (by rw[g];exact FZ)⟩);refine zf ?_;exact Kf λc=>BO c.2 (λc=>by obtain c|c:=c;exact neOf v2 c;exact BO c (E0.2 g))
def UM(k:Nat)(g:GG h n){x1 P x2 R:Bool}{S:Option Addr}{g2:Nat}{lo:List UInt8}(v1:x1=φ↔lo≠[])(i1:IW h n b1 a1 l1 c1 (zj lo).num)(j1:IW h n P e1 f1 g1 (denZ (zj lo)))(v2:x2=φ↔hi≠[])(i2:IW h n b2 a2 l2 c2 (zj hi).num)(j2:IW h n R S f2 g2 (denZ (zj hi)))(T:IW h n sq aq lq cq q.num)(Z4:IW h n dq eq fq gq (denZ q))(Z0:Sz a (zj lo))(Z3:Sz a (zj hi))(Z1:Sz b q)(ad:a+b<=2000):CX (Ka (k+11)) 114 [.agg #[Y aA lA kA,U x1,U b1,Y a1 l1 c1,U P,Y e1 f1 g1,U x2,U b2,Y a2 l2 c2,U R,Y S f2 g2],.agg #[U sq,Y aq lq cq,U dq,Y eq fq gq]] h n λv V W=>∃b a l c d e f g ok,v=.tuple #[.agg #[U b,Y a l c,U d,Y e f g],U ok]/\IW V W b a l c (kX q lo hi).num/\IW V W d e f g (denZ (kX q lo hi))/\(ok=φ↔MN q lo hi):=by refine zw R4<|zG ?_;refine sB [Y aA lA kA,U x1,U b1,Y a1 l1 c1,U P,Y e1 f1 g1,U x2,U b2,Y a2 l2 c2,U R,Y S f2 g2] λa0 am ay=>?_;refine sB [U sq,Y aq lq cq,U dq,Y eq fq gq] λa3 an az=>?_;refine sA λa4 ao b0=>?_;refine zG ?_;refine sC (fD _ T.x Z4.x) ?_;rintro _ a5 ae⟨ax,rfl,i⟩ b6 b3;obtain⟨rfl,i⟩|⟨rfl,i⟩|⟨rfl,i⟩:=i;refine kh ?_;refine dC (mulQ _ g.x T.x Z4.x i2.x j2.x Z1 Z3 Z) ?_;rintro _ a6 af⟨p,m,M,u,y,B,D,G,rfl,I,K⟩ b7 b4;refine zH ?_;cases x2;refine dS [U p,Y m M u,U y,Y B D G] λa7 ap ah=>?_;refine zq ?_;exact⟨_,_,_,_,_,_,_,_,_,ω,I.t.as AC,K.t.as AC,⟨λj=>(by cases j),λj=>BO (Lw v2) (j.2 i)⟩⟩;refine dS [U p,Y m M u,U y,Y B D G] λa8 ar ai=>?_;refine zq ?_;exact⟨_,_,_,_,_,_,_,_,_,ω,I.t.as AC,K.t.as AC,⟨λ_=>⟨λj=>Z,λ_=>neOf v2⟩,λ_=>rfl⟩⟩;refine zG ?_;refine sT #[U χ,η,U χ,η] ?_;refine sS [U χ,η,U χ,η] λa9 au aj=>?_;refine zq ?_;exact⟨_,_,_,_,_,_,_,_,_,ω,(EB _ _).as (by rw[NT i];rfl),(EB _ _).as (by rw[NT i];rfl),⟨λ_=>⟨λj=>Z,λj=>Z⟩,λ_=>rfl⟩⟩;refine kh ?_;refine dC (mulQ _ g.x T.x Z4.x i1.x j1.x Z1 Z0 Z) ?_;rintro _ aa ag⟨s,o,N,w,A,C,F,H,rfl,J,L⟩ b8 b5;refine zH ?_;cases x1;refine dS [U s,Y o N w,U A,Y C F H] λab av ak=>?_;refine zq ?_;exact⟨_,_,_,_,_,_,_,_,_,ω,J.t.as (by rw[Me i]),L.t.as (by rw[Me i]),⟨λj=>(by cases j),λj=>BO (Lw v1) (j.1 i)⟩⟩;refine dS [U s,Y o N w,U A,Y C F H] λac aw al=>?_;refine zq ?_;exact⟨_,_,_,_,_,_,_,_,_,ω,J.t.as (by rw[Me i]),L.t.as (by rw[Me i]),⟨λ_=>⟨λ_=>neOf v1,λj=>Z⟩,λ_=>rfl⟩⟩
end
section
variable {L lo:Nat}{rs:List SideD}
def Qx(a L:Nat)(rs:List SideD):Prop:=∀d∈rs,(∀q∈d.A,Sz a q)/\O d.A<=L
def zr3(k:Nat)(g:GG h n){cs:List SideD}(io:QS h n (Y ao lo co) ob)(ir:KC h n (Y ar lr cr) rs)(ic:KC h n (Y ac lc cc) cs)(ix:QS h n (Y ax lx cx) xs)(a6:Mx a rs)(a5:Mx a cs)(C:Qx a L rs)(a7:∀q∈xs,Sz b q)(ct:O cs<=O xs)(hL:L<=O xs)(cq:O cs<1000000/\O rs<1000000)(b4:L<1000000)(hc:∀d∈rs,∀j,j<=O d.A->Sz c (dotR (d.A.take j) (xs.take j)))(cp:c+b+a<=1900)(ha:a<=90):VF (Ka (k+13)) 77 [.agg #[Y ao lo co,Y ar lr cr,Y ac lc cc],Y ax lx cx,.func (.func 78) #[] #[]] h n λv=>∃b:Bool,v=U b/\(b=φ↔hS (λd q=>LN q d.lo d.hi) cs xs/\∀d∈rs,rowH LN xs d):=by have d2:=ir.len;have d1:=ic.len;have d3:=ix.len;refine zO R4<|zG ?_;refine sB [Y ao lo co,Y ar lr cr,Y ac lc cc] λb2 dd dl=>?_;refine zG ?_;refine sF (α:=Nat) (λz=>[(1,Y ax lx cx),(2,.func (.func 78) #[] #[]),(3,ι (3*n+2)),(12,Y ac lc cc),(13,CJ .i64 (lc:Int)),(14,CJ .i64 (z:Int))]) (λz h' n' w'=>w'=[]/\n+1<=n'/\ExtB (n+1) [] b2 h'/\z<=O cs/\hT (λd q=>LN q d.lo d.hi) cs xs z) (λz=>O cs-z) 0 ⟨ω,CG,El _ _ _,CH,(hT.zero _ _)⟩ ?_;rintro j t b3 a4 _⟨rfl,dt,bx,hj,m⟩;(try dsimp only at hj m);refine zG ?_;by_cases q13:(j:Int)<(lc:Int);refine zG ?_;obtain⟨c8,f⟩:∃d,(cs)[j]?=ξ d:=⟨_,CK Z⟩;have⟨cu,d8,a8,aj,ah,ad,aq,an,bd,av,bo,bq,bs,bu,s,I,G,S,K,Z4,W,Z0,a1,az,bf,bi,bl,bw,al,b5,b9,D,N,P⟩:=KC.at ic f;refine sI az bi ?_;refine sL bl bf 0 ?_;refine sA λcg de dm=>?_;refine zG ?_;refine sS [Y a8 aj ah,U ad,U aq,Y an bd av,U bo,Y bq bs bu,U s,U I,Y G S K,U Z4,Y W Z0 a1] λch df d9=>?_;refine mN ?_;refine yQ (v:=.func (.func 78) #[] #[]) ω ω ω ω rfl<|zH ?_;obtain⟨c9,l⟩:∃d,(xs)[j]?=ξ d:=⟨_,CK Z⟩;have⟨cv,da,c2,c0,cz,c6,di,dj,dk,dn,b0,bg,bj,bm,b6,ba⟩:=QS.at ix l;refine dI b0 bj ?_;refine dL bm bg 0 ?_;refine dC ((mZ _ al b5.x b9.x D N.x P.x b6.x ba.x (a5 _ (CL f)).1 (a5 _ (CL f)).2 (a7 _ (CL l)) Z).cx) ?_;rintro _ ci d4⟨c3,rfl,aa⟩ du dp;obtain⟨rfl,y⟩|⟨rfl,y⟩:=Kg aa;refine zf ?_;exact Kf λp=>BO (p.1 _ _ _ f l) y;refine zJ ?_;exact sK (j+1) ⟨ω,Z,zy,Z,(m.step f l y)⟩;refine zG ?_;have af:=m.all (.inl Z);refine zG ?_;refine sF (α:=Nat) (λz=>[(1,Y ax lx cx),(2,.func (.func 78) #[] #[]),(29,Y ar lr cr),(30,CJ .i64 (lr:Int)),(31,CJ .i64 (z:Int))]) (λz h' n' w'=>w'=[]/\a4<=n'/\ExtB a4 [] b3 h'/\z<=O rs/\∀d∈rs.take z,rowH LN xs d) (λz=>O rs-z) 0 ⟨ω,CG,El _ _ _,CH,(λr hr=>BO hr eF)⟩ ?_;rintro i t cj d5 _⟨rfl,dv,bz,a3,o⟩;(try dsimp only at a3 o);refine zG ?_;by_cases q20:(i:Int)<(lr:Int);refine zG ?_;obtain⟨ca,e⟩:∃d,(rs)[i]?=ξ d:=⟨_,CK Z⟩;have⟨cw,db,a9,ak,ai,ae,au,ap,be,aw,bp,br,bt,bv,u,J,H,T,M,V,Z3,a0,a2,b1,bh,bk,bn,ag,am,b7,bb,F,Z1,R⟩:=KC.at ir e;refine sI b1 bk ?_;refine sL bn bh 0 ?_;refine sA λck dg dq=>?_;refine sS [Y a9 ak ai,U ae,U au,Y ap be aw,U bp,Y br bt bv,U u,U J,Y H T M,U V,Y Z3 a0 a2] λcl dh dc=>?_;refine mN ?_;refine yQ (v:=.func (.func 78) #[] #[]) ω ω ω ω rfl<|zH ?_;have w:=hc _ (CL e);refine dC (Nk _ g.x ag.x ix.x (C _ (CL e)).1 a7 (by have:=(C _ (CL e)).2;omega) w Z (by have:=(C _ (CL e)).2;have:=b4;omega)) ?_;rintro _ cm d6⟨c4,c1,d0,c7,cb,cd,ce,cf,rfl,b8,bc⟩ dw dr;refine dC ((mZ _ am b7.x bb.x F Z1.x R.x b8 bc (a6 _ (CL e)).1 (a6 _ (CL e)).2 (by have:=w _ CG;rw[Da]at this;exact this) Z).cx) ?_;rintro _ cn d7⟨c5,rfl,ab⟩ dx ds;obtain⟨rfl,B⟩|⟨rfl,B⟩:=Kg ab;refine zf ?_;exact Kf λp=>BO (p.2 _ (CL e)) B;refine zJ ?_;exact sK (i+1) ⟨ω,Z,zy,Z,(ot o e B)⟩;refine zf ?_;exact Kp (⟨af,by have p:=o;rw[CR Z]at p;exact p⟩)
def UN(k:Nat)(g:GG h n){cs:List SideD}(io:QS h n (Y ao lo co) ob)(ir:KC h n (Y ar lr cr) rs)(ic:KC h n (Y ac lc cc) cs)(ix:QS h n (Y ax lx cx) xs)(iy:QS h n (Y ay ly cy) ys)(N:Mx a rs)(M:Mx a cs)(bl:∀q∈xs,Sz b q)(bm:∀q∈ys,Sz b q)(eu:O rs<=O xs)(ev:O cs<=O ys)(hz:sumZ c rs cs xs ys)(hb:c+(a+b)+1<=2496)(es:a+b<=2000)(et:O rs<1000000/\O cs<1000000):CX (Ka (k+12)) 79 [.agg #[Y ao lo co,Y ar lr cr,Y ac lc cc],Y ax lx cx,Y ay ly cy] h n λv y D=>∃b a l c d e f g ok,v=.tuple #[.agg #[U b,Y a l c,U d,Y e f g],U ok]/\(ok=φ↔My rs xs/\My cs ys)/\(ok=φ->IW y D b a l c (sumS rs (xs.take (O rs))+sumS cs (ys.take (O cs))).num/\IW y D d e f g (denZ (sumS rs (xs.take (O rs))+sumS cs (ys.take (O cs))))):=by have f3:=ir.len;have f2:=ic.len;have f4:=ix.len;have f5:=iy.len;refine zw R4<|zG ?_;refine sB [Y ao lo co,Y ar lr cr,Y ac lc cc] λe5 fp gc=>?_;refine sA λe6 fq gd=>?_;refine Za λcd d5 ge=>?_;refine zG ?_;refine sF (α:=Nat×Bool×Option Addr×Nat×Nat×Bool×Option Addr×Nat×Nat) (λz=>[(1,Y ax lx cx),(2,Y ay ly cy),(3,ι (3*n+2)),(6,ι (3*(n+1)+2)),(8,ι (3*(n+1+1)+2)),(18,Y ar lr cr),(19,CJ .i64 (lr:Int)),(20,CJ .i64 (z.1:Int))]) (λz y D w'=>w'=[]/\n+1+1+1<=D/\ExtB (n+1+1+1) [3*(n+1+1)+2] cd y/\y (3*(n+1+1)+2)=ξ (.row [U z.2.1,Y z.2.2.1 z.2.2.2.1 z.2.2.2.2.1,U z.2.2.2.2.2.1,Y z.2.2.2.2.2.2.1 z.2.2.2.2.2.2.2.1 z.2.2.2.2.2.2.2.2] 66)/\IW y D z.2.1 z.2.2.1 z.2.2.2.1 z.2.2.2.2.1 ((sumS (rs.take z.1) (xs.take z.1)).num)/\IW y D z.2.2.2.2.2.1 z.2.2.2.2.2.2.1 z.2.2.2.2.2.2.2.1 z.2.2.2.2.2.2.2.2 (denZ (sumS (rs.take z.1) (xs.take z.1)))/\z.1<=O rs/\O0 rs xs z.1) (λz=>O rs-z.1) (0,χ,θ,0,0,χ,θ,0,0) ⟨ω,CG,El _ _ _,d5,(EB _ _).as Ay,(EB _ _).as Ay,CH,(hT.zero _ _)⟩ ?_;rintro⟨j,bS,aS,lS,kS,uS,vS,wS,xS⟩ t H J _ ⟨rfl,gr,dt,G,m,o,hj,I⟩;dsimp only at G m o hj I;refine zG ?_;by_cases q15:(j:Int)<(lr:Int);refine zG ?_;obtain⟨e1,u⟩:∃d,(rs)[j]?=ξ d:=⟨_,CK Z⟩;have⟨ew,fa,bn,bx,bv,br,c4,c2,cz,c6,dg,di,dk,dm,Z1,Z0,W,a7,a1,a9,ab,ae,ag,c8,d1,d8,dc,dp,c0,ce,cm,Z4,a3,a5⟩:=KC.at ir u;refine sI c8 d8 ?_;refine sL dc d1 0 ?_;refine sA λe7 fr gf=>?_;refine zG ?_;refine sS [Y bn bx bv,U br,U c4,Y c2 cz c6,U dg,Y di dk dm,U Z1,U Z0,Y W a7 a1,U a9,Y ab ae ag] λe8 fs fb=>?_;refine kh ?_;obtain⟨e2,A⟩:∃d,(xs)[j]?=ξ d:=⟨_,CK Z⟩;have⟨ex,fc,dx,dv,f0,dz,g6,g8,ga,gg,c9,d2,d9,dd,cf,cn⟩:=QS.at ix A;refine dI c9 d9 ?_;refine dL dd d2 0 ?_;refine dC (UM _ g.x c0 ce.x cm.x Z4 a3.x a5.x cf.x cn.x (N _ (CL u)).1 (N _ (CL u)).2 (bl _ (CL A)) Z) ?_;rintro _ e9 f6⟨am,ai,bg,au,b0,b4,b8,bc,dr,rfl,cg,cp,bp⟩ gs gh;obtain⟨rfl,S⟩|⟨rfl,S⟩:=Kg bp;refine zH ?_;refine dB [U χ,η,U χ,η] λea ft gi=>?_;refine dS [U am,Y ai bg au,U b0,Y b4 b8 bc] λeb fu fd=>?_;refine zJ ?_;refine sT #[U χ,η,U χ,η] ?_;refine sS [U χ,η,U χ,η] λec fv fe=>?_;refine zq ?_;exact⟨_,_,_,_,_,_,_,_,_,ω,⟨λC=>(by cases C),λC=>BO (C.1 _ _ _ u A) S⟩,λC=>(by cases C)⟩;refine zH ?_;refine dB [U χ,η,U χ,η] λed fw gj=>?_;refine dS [U am,Y ai bg au,U b0,Y b4 b8 bc] λee fx ff=>?_;refine zJ ?_;refine sC (addQ _ g.x m.t o.t cg.t cp.t (hz.1 _ hj) (OY (bl _ (CL A)) (N _ (CL u)).1 (N _ (CL u)).2) Z) ?_;rintro _ ef f7⟨an,aj,bh,av,b1,b5,b9,bd,rfl,ch,cq⟩ gt gk;refine sS [U an,Y aj bh av,U b1,Y b5 b9 bd] λeg d6 fg=>?_;refine zG ?_;exact sK (j+1,an,aj,bh,av,b1,b5,b9,bd) ⟨ω,Z,zy,d6,(ch.t.as (by rw[Mf u A])),(cq.t.as (by rw[Mf u A])),Z,(I.step u A S)⟩;refine zG ?_;have bt:=I.all (.inl Z);refine zG ?_;refine sF (α:=Nat×Bool×Option Addr×Nat×Nat×Bool×Option Addr×Nat×Nat) (λz=>[(2,Y ay ly cy),(6,ι (3*(n+1)+2)),(8,ι (3*(n+1+1)+2)),(42,Y ac lc cc),(43,CJ .i64 (lc:Int)),(44,CJ .i64 (z.1:Int))]) (λz y D w'=>w'=[]/\J<=D/\ExtB J [3*(n+1+1)+2] H y/\y (3*(n+1+1)+2)=ξ (.row [U z.2.1,Y z.2.2.1 z.2.2.2.1 z.2.2.2.2.1,U z.2.2.2.2.2.1,Y z.2.2.2.2.2.2.1 z.2.2.2.2.2.2.2.1 z.2.2.2.2.2.2.2.2] 66)/\IW y D z.2.1 z.2.2.1 z.2.2.2.1 z.2.2.2.2.1 ((sumS rs (xs.take (O rs))+sumS (cs.take z.1) (ys.take z.1)).num)/\IW y D z.2.2.2.2.2.1 z.2.2.2.2.2.2.1 z.2.2.2.2.2.2.2.1 z.2.2.2.2.2.2.2.2 (denZ (sumS rs (xs.take (O rs))+sumS (cs.take z.1) (ys.take z.1)))/\z.1<=O cs/\O0 cs ys z.1) (λz=>O cs-z.1) (0,bS,aS,lS,kS,uS,vS,wS,xS) ⟨ω,CG,El _ _ _,G,m.as Bf,o.as Bf,CH,(hT.zero _ _)⟩ ?_;rintro⟨i,bT,aT,lT,kT,uT,vT,wT,xT⟩ t R bk _ ⟨rfl,gu,du,K,p,s,hi,F⟩;dsimp only at K p s hi F;refine zG ?_;by_cases q29:(i:Int)<(lc:Int);refine zG ?_;obtain⟨e3,w⟩:∃d,(cs)[i]?=ξ d:=⟨_,CK Z⟩;have⟨ey,fh,bo,bz,bw,bs,c5,c3,d0,c7,dh,dj,dl,dn,P,a0,Z3,a8,a2,aa,ad,af,ah,ca,d3,da,de,dq,c1,ci,ct,V,a4,a6⟩:=KC.at ic w;refine sI ca da ?_;refine sL de d3 0 ?_;refine sA λeh fy gl=>?_;refine zG ?_;refine sS [Y bo bz bw,U bs,U c5,Y c3 d0 c7,U dh,Y dj dl dn,U P,U a0,Y Z3 a8 a2,U aa,Y ad af ah] λei fz fi=>?_;refine kh ?_;obtain⟨e4,B⟩:∃d,(ys)[i]?=ξ d:=⟨_,CK Z⟩;have⟨ez,fj,dy,dw,f1,e0,g7,g9,gb,gm,cb,d4,db,df,cj,cu⟩:=QS.at iy B;refine dI cb db ?_;refine dL df d4 0 ?_;refine dC (UM _ g.x c1 ci.x ct.x V a4.x a6.x cj.x cu.x (M _ (CL w)).1 (M _ (CL w)).2 (bm _ (CL B)) Z) ?_;rintro _ ej f8⟨ap,ak,bi,aw,b2,b6,ba,be,ds,rfl,ck,cv,bq⟩ gv gn;obtain⟨rfl,T⟩|⟨rfl,T⟩:=Kg bq;refine zH ?_;refine dB [U χ,η,U χ,η] λek g0 go=>?_;refine dS [U ap,Y ak bi aw,U b2,Y b6 ba be] λel g1 fk=>?_;refine zJ ?_;refine sT #[U χ,η,U χ,η] ?_;refine sS [U χ,η,U χ,η] λem g2 fl=>?_;refine zq ?_;exact⟨_,_,_,_,_,_,_,_,_,ω,⟨λC=>(by cases C),λC=>BO (C.2 _ _ _ w B) T⟩,λC=>(by cases C)⟩;refine zH ?_;refine dB [U χ,η,U χ,η] λen g3 gp=>?_;refine dS [U ap,Y ak bi aw,U b2,Y b6 ba be] λeo g4 fm=>?_;refine zJ ?_;refine sC (addQ _ g.x p.t s.t ck.t cv.t (hz.2 _ hi) (OY (bm _ (CL B)) (M _ (CL w)).1 (M _ (CL w)).2) Z) ?_;rintro _ ep f9⟨aq,al,bj,az,b3,b7,bb,bf,rfl,cl,cw⟩ gw gq;refine sS [U aq,Y al bj az,U b3,Y b7 bb bf] λeq d7 fn=>?_;refine zG ?_;exact sK (i+1,aq,al,bj,az,b3,b7,bb,bf) ⟨ω,Z,zy,d7,(cl.t.as (by rw[Mf w B,<-HB])),(cw.t.as (by rw[Mf w B,<-HB])),Z,(F.step w B T)⟩;refine zG ?_;have bu:=F.all (.inl Z);refine zG ?_;refine sS [U bT,Y aT lT kT,U uT,Y vT wT xT] λer g5 fo=>?_;refine zq ?_;exact⟨_,_,_,_,_,_,_,_,_,ω,⟨λ_=>⟨bt,bu⟩,λ_=>rfl⟩,λ_=>⟨p.t.as aD,s.t.as aD⟩⟩
end
section
variable {cq:Nat}{s:List UInt8}{sq:Bool}{q:Rat}{ss:List (List UInt8)}
def UO(k:Nat)(hs:O s<1000000):VF (Ka (k+7)) 68 [CN ⟨⟨s⟩⟩] h n λv=>∃b:Bool,v=U b/\(b=φ↔bdOk s):=by
 refine zO R4<|zG ?_;refine sC (PX _ _ _ s hs) ?_;rintro _ B J⟨g,f,u,i,l,m,o,p,y,A,rfl,H,I,w,d⟩ Z4 R;cases y;have d:¬vF s:=λe=>by cases d e
 refine Za λC M S=>?_;refine sS [U g,Y f u i,U l,Y m o p] λD N K=>?_;refine zG ?_;by_cases q14:s=[];refine un φ R6 (by simp[q14]) ?_;refine zf ?_;exact Kp (.inl q14);refine un χ R6 (by simp[q14]) ?_;refine zf ?_;exact Kf λe=>by obtain e|e:=e;exact BO e q14;exact BO e d
 have d:vF s:=⟨_,w ω⟩;refine Za λF Z1 T=>?_;refine sS [U g,Y f u i,U l,Y m o p] λG P L=>?_;refine zf ?_;exact Kp (.inr d)
def UP(k:Nat){lo:List UInt8}(l:O lo<1000000)(i:O hi<1000000)(B:Sz a (zj lo))(A:Sz b (zj hi))(a0:a+b<=2000):VF (Ka (k+9)) 29 [CN ⟨⟨lo⟩⟩,CN ⟨⟨hi⟩⟩] h n λv=>∃b:Bool,v=U b/\(b=φ↔pairOk lo hi):=by refine zO R4<|zG ?_;refine sC ((UO _ l).cx) ?_;rintro _ Z4 a3⟨F,rfl,m⟩ ae a9;obtain⟨rfl,f⟩|⟨rfl,f⟩:=Kg m;refine zf ?_;exact Kf λd=>BO d.1 f;refine zG ?_;refine sC ((UO _ i).cx) ?_;rintro _ V a4⟨G,rfl,o⟩ af aa;obtain⟨rfl,g⟩|⟨rfl,g⟩:=Kg o;refine zf ?_;exact Kf λd=>BO d.2.1 g;refine zG ?_;by_cases q13:lo=[];refine un φ R6 A9 ?_;refine zf ?_;exact Kp (⟨f,g,.inl q13⟩);refine un χ R6 A9 ?_;refine zG ?_;by_cases q14:hi=[];refine un φ R6 (by simp[q14]) ?_;refine zf ?_;exact Kp (⟨f,g,.inr (.inl q14)⟩);refine un χ R6 (by simp[q14]) ?_;refine zG ?_;refine sC (numU _ _ _ lo l) ?_;rintro _ W a5⟨H,C,a1,J,L,N,P,S,rfl,p,w⟩ ag ab;refine zG ?_;refine sC (numU _ _ _ hi i) ?_;rintro _ Z3 a6⟨I,D,a2,K,M,Z1,R,T,rfl,u,y⟩ ah ac;refine sC ((Ni _ p.t w.t u y B A Z).cx) ?_;rintro _ Z0 a7⟨a8,rfl,e⟩ ai ad;obtain⟨rfl,e⟩|⟨rfl,e⟩|⟨rfl,e⟩:=e;refine zf ?_;exact Kp (⟨f,g,.inr (.inr (DQ e))⟩);refine zf ?_;exact Kp (⟨f,g,.inr (.inr Am)⟩);refine zf ?_;exact Kf λd=>by obtain d|d|d:=d.2.2;exact BO d q13;exact BO d q14;exact BO d (E0.2 e)
def UQ(k:Nat)(p:UI h n sq aq lq cq q.num)(u:UI h n dq eq fq gq (denZ q)){lo:List UInt8}(w:O lo<1000000)(m:O hi<1000000)(I:Sz a (zj lo))(o:Sz a (zj hi))(l:Sz b q)(am:a+b<=2000):VF (Ka (k+9)) 71 [.agg #[U sq,Y aq lq cq,U dq,Y eq fq gq],CN ⟨⟨lo⟩⟩,CN ⟨⟨hi⟩⟩] h n λv=>∃b:Bool,v=U b/\(b=φ↔LN q lo hi):=by refine zO R4<|zG ?_;refine sB [U sq,Y aq lq cq,U dq,Y eq fq gq] λad b4 b9=>?_;refine kh ?_;by_cases q12:lo=[];refine Ly φ R6 A7 ?_;refine zH ?_;by_cases q13:hi=[];refine Ly φ R6 A9 ?_;refine zf ?_;exact Kp (⟨.inl q12,.inl q13⟩);refine Ly χ R6 A9 ?_;refine zH ?_;refine dC (numU _ _ _ hi m) ?_;rintro _ ae au⟨N,J,an,S,W,a1,a5,a9,rfl,y,D⟩ bi ba;refine dC ((Ni _ p.x u.x y D l o Z).cx) ?_;rintro _ af av⟨b5,rfl,f⟩ bj bb;obtain⟨rfl,f⟩|⟨rfl,f⟩|⟨rfl,f⟩:=f;refine zf ?_;exact Kp (⟨.inl q12,.inr (DQ f)⟩);refine zf ?_;exact Kp (⟨.inl q12,.inr (by rw[f];exact FZ)⟩);refine zf ?_;exact Kf λd=>BO d.2 (λd=>by obtain d|d:=d;exact q13 d;exact BO d (E0.2 f));refine Ly χ R6 A7 ?_;refine zH ?_;refine dC (numU _ _ _ lo w) ?_;rintro _ ag aw⟨Z1,K,ao,T,Z3,a2,a6,aa,rfl,A,F⟩ bk bc;refine dC ((Ni _ p.x u.x A F l I Z).cx) ?_;rintro _ ah az⟨b6,rfl,e⟩ bl bd;obtain⟨rfl,e⟩|⟨rfl,e⟩|⟨rfl,e⟩:=e;refine zf ?_;exact Kf λd=>BO d.1 (λd=>by obtain d|d:=d;exact q12 d;exact BO d (E0.2 e));refine zH ?_;by_cases q18:hi=[];refine Ly φ R6 (by simp[q18]) ?_;refine zf ?_;exact Kp (⟨.inr Am,.inl q18⟩);refine Ly χ R6 (by simp[q18]) ?_;refine zH ?_;refine dC (numU _ _ _ hi m) ?_;rintro _ ai b0⟨P,L,ap,Z4,Z0,a3,a7,ab,rfl,B,G⟩ bm be;refine dC ((Ni _ p.x u.x B G l o Z).cx) ?_;rintro _ aj b1⟨b7,rfl,g⟩ bn bf;obtain⟨rfl,g⟩|⟨rfl,g⟩|⟨rfl,g⟩:=g;refine zf ?_;exact Kp (⟨.inr Am,.inr (DQ g)⟩);refine zf ?_;exact Kp (⟨.inr Am,.inr (by rw[g];exact FZ)⟩);refine zf ?_;exact Kf λd=>BO d.2 (λd=>by obtain d|d:=d;exact q18 d;exact BO d (E0.2 g));refine zH ?_;by_cases q21:hi=[];refine Ly φ R6 (by simp[q21]) ?_;refine zf ?_;exact Kp (⟨.inr (DQ e),.inl q21⟩);refine Ly χ R6 (by simp[q21]) ?_;refine zH ?_;refine dC (numU _ _ _ hi m) ?_;rintro _ ak b2⟨R,M,ar,V,a0,a4,a8,ac,rfl,C,H⟩ bo bg;refine dC ((Ni _ p.x u.x C H l o Z).cx) ?_;rintro _ al b3⟨b8,rfl,i⟩ bp bh;obtain⟨rfl,i⟩|⟨rfl,i⟩|⟨rfl,i⟩:=i;refine zf ?_;exact Kp (⟨.inr (DQ e),.inr (DQ i)⟩);refine zf ?_;exact Kp (⟨.inr (DQ e),.inr (by rw[i];exact FZ)⟩);refine zf ?_;exact Kf λd=>BO d.2 (λd=>by obtain d|d:=d;exact q21 d;exact BO d (E0.2 i))
def UR(k:Nat)(w:UI h n sq aq lq cq q.num)(y:UI h n dq eq fq gq (denZ q)){lo:List UInt8}(a0:O lo<1000000)(Z0:O hi<1000000)(a6:Sz a (zj lo))(a5:Sz a (zj hi))(W:Sz b q)(b5:a+b<=2000):CX (Ka (k+8)) 72 [.agg #[U sq,Y aq lq cq,U dq,Y eq fq gq],CN ⟨⟨lo⟩⟩,CN ⟨⟨hi⟩⟩] h n λv Z3 n'=>∃b a l c d e f g ok,v=.tuple #[.agg #[U b,Y a l c,U d,Y e f g],U ok]/\UI Z3 n' b a l c (kX q lo hi).num/\UI Z3 n' d e f g (denZ (kX q lo hi))/\(ok=φ↔MN q lo hi):=by refine zw R4<|zG ?_;refine sB [U sq,Y aq lq cq,U dq,Y eq fq gq] λal bl bw=>?_;refine sA λam bm bx=>?_;refine zG ?_;refine sC (LI _ w.x y.x) ?_;rintro _ an b8⟨bs,rfl,u⟩ c7 bz;obtain⟨rfl,u⟩|⟨rfl,u⟩|⟨rfl,u⟩:=u;refine zG ?_;refine sC (LI _ w.x y.x) ?_;rintro _ ao b9⟨bt,rfl,i⟩ c8 c0;obtain⟨rfl,i⟩|⟨rfl,i⟩|⟨rfl,i⟩:=i;refine kh ?_;refine dC (numU _ _ _ hi Z0) ?_;rintro _ ap ba⟨a9,a7,b6,ab,ad,af,ah,aj,rfl,a1,a3⟩ c9 c1;refine dC (OF _ w.x y.x a1 a3 W a5 Z) ?_;rintro _ ar bb⟨C,A,Z4,F,H,J,L,N,rfl,P,S⟩ ca c2;refine zH ?_;by_cases q17:hi=[];refine Np χ R6 (by simp[q17]) ?_;refine dS [U C,Y A Z4 F,U H,Y J L N] λau bn bg=>?_;refine zq ?_;exact⟨_,_,_,_,_,_,_,_,_,ω,P.t.as AC,S.t.as AC,⟨λp=>(by cases p),λp=>BO q17 (p.2 i)⟩⟩;refine Np φ R6 (by simp[q17]) ?_;refine dS [U C,Y A Z4 F,U H,Y J L N] λav bo bh=>?_;refine zq ?_;exact⟨_,_,_,_,_,_,_,_,_,ω,P.t.as AC,S.t.as AC,⟨λ_=>⟨λp=>Z,λ_=>q17⟩,λ_=>rfl⟩⟩;exact BO i Z;exact BO i Z;refine zG ?_;refine sC (LI _ w.x y.x) ?_;rintro _ aw bc⟨bu,rfl,o⟩ cb c3;obtain⟨rfl,o⟩|⟨rfl,o⟩|⟨rfl,o⟩:=o;exact BO o Z;refine zG ?_;refine sT #[U χ,η,U χ,η] ?_;refine sS [U χ,η,U χ,η] λaz bp bi=>?_;refine zq ?_;exact⟨_,_,_,_,_,_,_,_,_,ω,(Jv _ _).as (by rw[NT o];rfl),(Jv _ _).as (by rw[NT o];rfl),⟨λ_=>⟨λp=>Z,λp=>Z⟩,λ_=>rfl⟩⟩;exact BO o Z;refine zG ?_;refine sC (LI _ w.x y.x) ?_;rintro _ b0 bd⟨bv,rfl,m⟩ cc c4;obtain⟨rfl,m⟩|⟨rfl,m⟩|⟨rfl,m⟩:=m;exact BO m Z;exact BO m Z;refine kh ?_;refine dC (numU _ _ _ lo a0) ?_;rintro _ b1 be⟨aa,a8,b7,ac,ae,ag,ai,ak,rfl,a2,a4⟩ cd c5;refine dC (OF _ w.x y.x a2 a4 W a6 Z) ?_;rintro _ b2 bf⟨D,B,V,G,I,K,M,Z1,rfl,R,T⟩ ce c6;refine zH ?_;by_cases q25:lo=[];refine Np χ R6 (by simp[q25]) ?_;refine dS [U D,Y B V G,U I,Y K M Z1] λb3 bq bj=>?_;refine zq ?_;exact⟨_,_,_,_,_,_,_,_,_,ω,R.t.as (by rw[Me m]),T.t.as (by rw[Me m]),⟨λp=>(by cases p),λp=>BO q25 (p.1 m)⟩⟩;refine Np φ R6 (by simp[q25]) ?_;refine dS [U D,Y B V G,U I,Y K M Z1] λb4 br bk=>?_;refine zq ?_;exact⟨_,_,_,_,_,_,_,_,_,ω,R.t.as (by rw[Me m]),T.t.as (by rw[Me m]),⟨λ_=>⟨λ_=>q25,λp=>Z⟩,λ_=>rfl⟩⟩
def O1{f:α->β}{l:List α}{d:α}(h:l[j]?=ξ d):(l.map f)[j]?=ξ (f d):=by rw[DC,h];rfl
def O2(k:Nat)(ix:Sl h n 1 (Y ax lx cx) (strs ss))(iy:NS h n (Y ay ly cy) ys)(V:∀s∈ss,O s<1000000)(C:∀q∈ss.map zj,Sz a q)(D:∀q∈ys,Sz b q)(hl:O ss<=O ys)(hc:∀j,j<=O (ss.map zj)->Sz c (dotR ((ss.map zj).take j) (ys.take j)))(hb:c+a+b+1<=2400)(hn:O ss<1000000):CX (Ka (k+8)) 34 [Y ax lx cx,Y ay ly cy] h n (NQ (dotR (ss.map zj) (ys.take (O (ss.map zj))))):=by have bd:=z8 ix;have be:=iy.len;refine zw R4<|Za λb1 bn bt=>?_;refine zG ?_;refine sT #[U χ,η,U χ,η] ?_;refine sA λb2 bo bu=>?_;refine sS [U χ,η,U χ,η] λZ4 a7 bi=>?_;refine zG ?_;refine sF (α:=Nat×Bool×Option Addr×Nat×Nat×Bool×Option Addr×Nat×Nat) (λz=>[(0,Y ax lx cx),(1,Y ay ly cy),(4,ι (3*n+2)),(5,ι (3*(n+1)+2)),(6,CJ .i64 (z.1:Int))]) (λz o L w'=>w'=[]/\n+1+1<=L/\ExtB (n+1+1) [3*(n+1)+2] Z4 o/\o (3*(n+1)+2)=ξ (.row [U z.2.1,Y z.2.2.1 z.2.2.2.1 z.2.2.2.2.1,U z.2.2.2.2.2.1,Y z.2.2.2.2.2.2.1 z.2.2.2.2.2.2.2.1 z.2.2.2.2.2.2.2.2] 85)/\UI o L z.2.1 z.2.2.1 z.2.2.2.1 z.2.2.2.2.1 ((dotR ((ss.map zj).take z.1) (ys.take z.1)).num)/\UI o L z.2.2.2.2.2.1 z.2.2.2.2.2.2.1 z.2.2.2.2.2.2.2.1 z.2.2.2.2.2.2.2.2 (denZ (dotR ((ss.map zj).take z.1) (ys.take z.1)))/\z.1<=O ss) (λz=>O ss-z.1) (0,χ,θ,0,0,χ,θ,0,0) ⟨ω,CG,El _ _ _,a7,(Jv _ _).as AB,(Jv _ _).as AB,CH⟩ ?_;rintro⟨j,I,H,K,J,M,N,Z1,P⟩ t m G _ ⟨rfl,c0,ad,l,e,f,hj⟩;dsimp only at l e f hj;refine zG ?_;by_cases q15:(j:Int)<(lx:Int);refine kh ?_;obtain⟨R,g⟩:∃d,(ss)[j]?=ξ d:=⟨_,CK Z⟩;have⟨b8,bj,S,a5,a9,ab⟩:=vM ix g;refine dI S a9 ?_;refine dL ab a5 0 ?_;refine dC (numU _ _ _ R (V _ (CL g))) ?_;rintro _ b3 bf⟨ah,ae,ba,ak,an,ar,av,az,rfl,W,a1⟩ c1 bv;refine zH ?_;obtain⟨ao,i⟩:∃d,(ys)[j]?=ξ d:=⟨_,CK Z⟩;have⟨b9,bk,ai,af,bb,al,bq,br,bs,bw,T,a6,aa,ac,Z3,a2⟩:=NS.at iy i;refine dI T aa ?_;refine dL ac a6 0 ?_;refine dC (OF _ W a1 Z3.x a2.x (C _ (F5 (CL g))) (D _ (CL i)) Z) ?_;rintro _ b4 bg⟨aj,ag,bc,am,ap,au,aw,b0,rfl,Z0,a3⟩ c2 bx;refine dC (OE _ e.t f.t Z0 a3 (hc _ eP) ((C _ (F5 (CL g))).mul (D _ (CL i))) Z) ?_;rintro _ b5 bh⟨u,p,F,v,w,y,A,B,rfl,a0,a4⟩ c3 bz;refine dS [U u,Y p F v,U w,Y y A B] λb6 a8 bl=>?_;refine zG ?_;exact sK (j+1,u,p,F,v,w,y,A,B) ⟨ω,Z,zy,a8,(a0.t.as (congrArg Rat.num (wK (O1 g) i).symm)),(a4.t.as (congrArg denZ (wK (O1 g) i).symm)),Z⟩;refine zG ?_;refine sS [U I,Y H K J,U M,Y N Z1 P] λb7 bp bm=>?_;refine zq ?_;exact⟨_,_,_,_,_,_,_,_,ω,e.t.as aD,f.t.as aD⟩
end
section
variable {lo:Nat}{p:LPD}
def O3(k:Nat)(g:Sl h n 1 (Y ax lx cx) (strs S))(u:∀s∈S,O s<500)(hb:O S<1000000):CX (Ka (k+8)) 30 [Y ax lx cx,CJ .i64 (m:Int)] h n λv q w=>∃a l c e,v=.tuple #[Y a l c,CJ .i64 e]/\(e=1/\¬(∀s∈S,vF s)\/e=4/\(∀s∈S,vF s)/\O S≠m\/e=0/\(∀s∈S,vF s)/\O S=m/\NS q w (Y a l c) (S.map zj)):=by have D:=z8 g;refine zw R4<|zG ?_;refine sC (OH _ g u hb) ?_;rintro _ C F⟨A,i,B,y,rfl,f,j⟩ H G;obtain⟨rfl,b⟩|⟨rfl,b⟩:=Kg f;refine zq ?_;exact⟨_,_,_,_,ω,.inl ⟨ω,b⟩⟩;have d:=j rfl;have o:=d.len;rw[CU]at o;refine zG ?_;by_cases q12:(i:Int)=(m:Int);refine zq ?_;exact⟨_,_,_,_,ω,.inr (.inr ⟨ω,b,Z,d⟩)⟩;refine zq ?_;exact⟨_,_,_,_,ω,.inr (.inl ⟨ω,b,Z⟩)⟩
def zyk(k:Nat)(io:Sl h n 1 (Y ao lo co) (strs p.obj))(ir:Kz h n (Y ar lr cr) p.rows)(iw:Sl h n 1 (Y aw lw cw) (strs p.lower))(iu:Sl h n 1 (Y au lu cu) (strs p.upper))(hp:LPB a p)(ha:a+a<=2000):VF (Ka (k+10)) 8 [.agg #[Y ao lo co,Y ar lr cr,Y aw lw cw,Y au lu cu]] h n λv=>∃b:Bool,v=U b/\(b=φ↔VLP p):=by
 have bh:=z8 io;have bi:=ir.len;have bk:=z8 iw;have bj:=z8 iu;have⟨a1,G,H,e,a0,b8,b9,ba⟩:=hp;refine zO R4<|zG ?_;refine sB [Y ao lo co,Y ar lr cr,Y aw lw cw,Y au lu cu] λb2 bs bt=>?_;refine zG ?_;refine sC (OH _ io.x (λs R=>(a1 s R).1) a0) ?_;rintro _ Z3 J⟨ak,bf,aq,ag,rfl,L,a7⟩ bz bu;obtain⟨rfl,B⟩|⟨rfl,B⟩:=Kg L;refine zf ?_;exact Kf λhv=>BO hv.ob B;have a2:=a7 rfl;have ad:=a2.len;rw[CU]at ad;refine zG ?_;by_cases q13:(lo:Int)<1;refine zf ?_;exact Kf λhv=>by have:=hv.n1;exact BL
 refine zG ?_;by_cases q14:(lo:Int)>64;refine zf ?_;exact Kf λhv=>by have:=hv.n1;exact BL
 refine zG ?_;by_cases q15:(lw:Int)=(lo:Int);refine zG ?_;by_cases q16:(lu:Int)=(lo:Int);refine zG ?_;by_cases q17:(lr:Int)>64;refine zf ?_;exact Kf λhv=>by have:=hv.n1;exact BL
 refine zG ?_;refine sF (α:=Nat) (λz=>[(1,ι (3*n+2)),(3,CJ .i64 (lo:Int)),(6,CJ .i64 (z:Int))]) (λz P T Z4=>Z4=[]/\J<=T/\ExtB J [] Z3 P/\z<=O p.obj/\∀i,i<z->∀lo hi,p.lower[i]?=ξ lo->p.upper[i]?=ξ hi->pairOk lo hi) (λz=>O p.obj-z) 0 ⟨ω,CG,El _ _ _,CH,(λi hi=>BO hi (DR _))⟩ ?_;rintro j t Z0 K _⟨rfl,c0,ai,hj,o⟩;(try dsimp only at hj o);refine zG ?_;by_cases q19:(j:Int)<(lo:Int);refine kh ?_;obtain⟨az,f⟩:∃d,(p.lower)[j]?=ξ d:=⟨_,CK Z⟩;have⟨bb,bp,V,a5,a9,ab⟩:=vM iw f;refine dI V a9 ?_;refine dL ab a5 0 ?_;refine zH ?_;obtain⟨b0,g⟩:∃d,(p.upper)[j]?=ξ d:=⟨_,CK Z⟩;have⟨bc,bq,W,a6,aa,ac⟩:=vM iu g;refine dI W aa ?_;refine dL ac a6 0 ?_;refine dC ((UP _ (CZ (G _ (CL f)).1 zd) (CZ (H _ (CL g)).1 zd) (G _ (CL f)).2 (H _ (CL g)).2 Z).cx) ?_;rintro _ b3 bl⟨an,rfl,N⟩ c1 bv;obtain⟨rfl,D⟩|⟨rfl,D⟩:=Kg N;refine zf ?_;exact Kf λhv=>BO (hv.bd _ _ _ f g) D;refine zJ ?_;exact sK (j+1) ⟨ω,Z,zy,Z,(TG o f g D)⟩;refine zG ?_;have b7:j=O p.obj:=Z;refine zG ?_;refine sF (α:=Nat) (λz=>[(1,ι (3*n+2)),(3,CJ .i64 (lo:Int)),(7,CJ .i64 (z:Int))]) (λz P T Z4=>Z4=[]/\K<=T/\ExtB K [] Z0 P/\z<=O p.rows/\∀r∈p.rows.take z,pairOk r.lo r.hi/\(∀s∈r.A,vF s)/\O r.A=O p.obj) (λz=>O p.rows-z) 0 ⟨ω,CG,El _ _ _,CH,(λr hr=>BO hr eF)⟩ ?_;rintro i t b4 bm _⟨rfl,c2,aj,hi,q⟩;(try dsimp only at hi q);refine zG ?_;by_cases q24:(i:Int)<(lr:Int);refine zG ?_;obtain⟨b1,c⟩:∃d,(p.rows)[i]?=ξ d:=⟨_,CK Z⟩;have⟨be,br,al,a4,av,l,u,w,y,I⟩:=Kz.at ir c;have af:=z8 I;refine sI l w ?_;refine zG ?_;refine sL y u 0 ?_;refine sC (OH _ I.x (λs R=>((e _ (CL c)).2.2.2 s R).1) (e _ (CL c)).2.2.1) ?_;rintro _ b5 bn⟨am,bg,ay,ah,rfl,M,a8⟩ c3 bw;obtain⟨rfl,C⟩|⟨rfl,C⟩:=Kg M;refine mN ?_;refine zf ?_;exact Kf λhv=>BO (hv.rw _ (CL c)).2.1 C;have a3:=a8 rfl;have ae:=a3.len;rw[CU]at ae;refine kh ?_;refine dI l w ?_;refine zH ?_;refine dL y u 0 ?_;refine zH ?_;by_cases q27:(a4:Int)=(lo:Int);refine zH ?_;refine dI l w ?_;refine zH ?_;refine dL y u 1 ?_;refine zH ?_;refine dI l w ?_;refine zH ?_;refine dL y u 2 ?_;refine dC ((UP _ (CZ (e _ (CL c)).1.1 zd) (CZ (e _ (CL c)).2.1.1 zd) (e _ (CL c)).1.2 (e _ (CL c)).2.1.2 Z).cx) ?_;rintro _ b6 bo⟨ap,rfl,Z1⟩ c4 bx;obtain⟨rfl,F⟩|⟨rfl,F⟩:=Kg Z1;refine zf ?_;exact Kf λhv=>BO (hv.rw _ (CL c)).1 F;refine zJ ?_;exact sK (i+1) ⟨ω,Z,zy,Z,(ot q c ⟨F,C,Z⟩)⟩;refine zf ?_;exact Kf λhv=>BO (hv.rw _ (CL c)).2.2 Z;refine zf ?_;exact Kp (⟨Z,Z,Z,Z,Z,B,λj2 lo hi h1 h2=>o j2 aD lo hi h1 h2,by have hq:=q;rw[CR Z]at hq;exact hq⟩);refine zf ?_;exact Kf λhv=>by have:=hv.n1;exact BL
 refine zf ?_;exact Kf λhv=>by have:=hv.n1;exact BL
end
section
variable {L lo:Nat}{p:LPD}
def zyq{A:List (List UInt8)}(h:∀s∈A,Ko a s):∀q∈A.map zj,Sz a q:=by intro q d;obtain⟨s,e,rfl⟩:=DU.1 d;exact(h s e).2
def jJ(p:LPD):O (zk p)=O p.rows:=by unfold zk;rw[CU]
def US(h:O p.lower=O p.upper):O (zC p)=O p.lower:=by unfold zC;rw[List.length_zipWith,h,Nat.min_self]
def LPB.rows(h:LPB a p):Mx a (zk p):=by intro d f;obtain⟨r,e,rfl⟩:=DU.1 f;exact⟨(h.rl r e).1.2,(h.rl r e).2.1.2⟩
def LPB.cols(h:LPB a p):Mx a (zC p):=by intro d f;unfold zC at f;rw[EI]at f;have⟨j,e⟩:=f;rw[List.getElem?_zipWith]at e;split at e;rename_i lo hi h1 h2;injection e with e;subst e;exact⟨(h.lw _ (CL h1)).2,(h.up _ (CL h2)).2⟩;cases e
def UT(k:Nat)(io:Sl h n 1 (Y ao lo co) (strs p.obj))(ir:Kz h n (Y ar lr cr) p.rows)(iw:Sl h n 1 (Y aw lw cw) (strs p.lower))(iu:Sl h n 1 (Y au lu cu) (strs p.upper))(hp:LPB a p)(ha:a+a<=2000)(T:NS h n (Y ax lx cx) xs)(M:∀q∈xs,Sz b q)(bk:O xs=O p.lower/\O xs=O p.upper)(bj:∀r∈p.rows,O r.A<=L)(hL:L<=O xs)(hc:∀d∈zk p,∀j,j<=O d.A->Sz c (dotR (d.A.take j) (xs.take j)))(bc:c+b+a<=1900)(bd:a<=90):VF (Ka (k+10)) 31 [.agg #[Y ao lo co,Y ar lr cr,Y aw lw cw,Y au lu cu],Y ax lx cx] h n λv=>∃b:Bool,v=U b/\(b=φ↔UK (zC p) xs/\∀d∈zk p,Qv xs d):=by have bs:=z8 io;have bt:=ir.len;have bv:=z8 iw;have bu:=z8 iu;have⟨bi,H,I,f,be,bf,bg,bh⟩:=hp;have bw:=T.len;refine zO R4<|zG ?_;refine sB [Y ao lo co,Y ar lr cr,Y aw lw cw,Y au lu cu] λa0 c6 ca=>?_;refine zG ?_;refine sF (α:=Nat) (λz=>[(1,Y ax lx cx),(2,ι (3*n+2)),(5,CJ .i64 (z:Int))]) (λz P Z4 V=>V=[]/\n+1<=Z4/\ExtB (n+1) [] a0 P/\z<=O xs/\inT (zC p) xs z) (λz=>O xs-z) 0 ⟨ω,CG,El _ _ _,CH,(hT.zero _ _)⟩ ?_;rintro j t a1 K _⟨rfl,cf,ag,hj,u⟩;(try dsimp only at hj u);refine zG ?_;by_cases q13:(j:Int)<(lx:Int);refine kh ?_;obtain⟨b0,o⟩:∃d,(xs)[j]?=ξ d:=⟨_,CK Z⟩;have⟨bl,c2,al,ai,bp,aq,c7,c8,c9,cb,W,a6,a9,ac,a2,a4⟩:=NS.at T o;refine dI W a9 ?_;refine dL ac a6 0 ?_;refine zH ?_;obtain⟨b1,g⟩:∃d,(p.lower)[j]?=ξ d:=⟨_,CK Z⟩;have⟨bm,c3,Z3,a7,aa,ad⟩:=vM iw g;refine dI Z3 aa ?_;refine dL ad a7 0 ?_;refine zH ?_;obtain⟨b2,l⟩:∃d,(p.upper)[j]?=ξ d:=⟨_,CK Z⟩;have⟨bn,c4,Z0,a8,ab,ae⟩:=vM iu l;refine dI Z0 ab ?_;refine dL ae a8 0 ?_;refine dC ((UQ _ a2.x a4.x (CZ (H _ (CL g)).1 zd) (CZ (I _ (CL l)).1 zd) (H _ (CL g)).2 (I _ (CL l)).2 (M _ (CL o)) Z).cx) ?_;rintro _ b8 bx⟨am,rfl,N⟩ cg cc;obtain⟨rfl,C⟩|⟨rfl,C⟩:=Kg N;refine zf ?_;exact Kf λS=>BO (S.1 _ _ _ (gj g l) o) C;refine zJ ?_;exact sK (j+1) ⟨ω,Z,zy,Z,(u.step (gj g l) o C)⟩;refine zG ?_;have R:=u.all (.inr Z);refine zG ?_;refine sF (α:=Nat) (λz=>[(1,Y ax lx cx),(2,ι (3*n+2)),(6,CJ .i64 (z:Int))]) (λz P Z4 V=>V=[]/\K<=Z4/\ExtB K [] a1 P/\z<=O p.rows/\∀r∈p.rows.take z,Qv xs (rowS r)) (λz=>O p.rows-z) 0 ⟨ω,CG,El _ _ _,CH,(λr hr=>BO hr eF)⟩ ?_;rintro i t b9 bz _⟨rfl,ch,ah,hi,m⟩;(try dsimp only at hi m);refine zG ?_;by_cases q19:(i:Int)<(lr:Int);refine kh ?_;obtain⟨b3,e⟩:∃d,(p.rows)[i]?=ξ d:=⟨_,CK Z⟩;have⟨bo,c5,aj,bq,av,w,B,F,G,J⟩:=Kz.at ir e;have af:=z8 J;refine dI w F ?_;refine zH ?_;refine dL G B 0 ?_;refine zH ?_;have y:=hc _ (CL (LK e));refine dC (O2 _ J.x T.x (λs hs=>CZ ((f _ (CL e)).2.2.2 s hs).1 zd) (zyq (f _ (CL e)).2.2.2) M aD y Z aD) ?_;rintro _ ba c0⟨an,ak,br,az,b4,b5,b6,b7,rfl,a3,a5⟩ ci cd;refine zH ?_;refine dI w F ?_;refine zH ?_;refine dL G B 1 ?_;refine zH ?_;refine dI w F ?_;refine zH ?_;refine dL G B 2 ?_;refine dC ((UQ _ a3 a5 (CZ (f _ (CL e)).1.1 zd) (CZ (f _ (CL e)).2.1.1 zd) (f _ (CL e)).1.2 (f _ (CL e)).2.1.2 (by have:=y _ CG;rw[Da]at this;exact this) Z).cx) ?_;rintro _ bb c1⟨ap,rfl,Z1⟩ cj ce;obtain⟨rfl,D⟩|⟨rfl,D⟩:=Kg Z1;refine zf ?_;exact Kf λS=>BO (S.2 _ (CL (LK e))) D;refine zJ ?_;exact sK (i+1) ⟨ω,Z,zy,Z,(ot m e D)⟩;refine zf ?_;exact Kp (⟨R,λd hd=>by obtain⟨r,hr,rfl⟩:=DU.1 hd;rw[CR Z]at m;exact m r hr⟩)
def UU(k:Nat)(io:Sl h n 1 (Y ao lo co) (strs p.obj))(ir:Kz h n (Y ar lr cr) p.rows)(iw:Sl h n 1 (Y aw lw cw) (strs p.lower))(iu:Sl h n 1 (Y au lu cu) (strs p.upper))(hp:LPB a p)(ha:a+a<=2000)(ix:NS h n (Y ax lx cx) xs)(iy:NS h n (Y ay ly cy) ys)(b5:∀q∈xs,Sz b q)(b6:∀q∈ys,Sz b q)(dq:O xs=O p.rows)(dr:O ys=O p.lower/\O ys=O p.upper)(hz:sumZ c (zk p) (zC p) xs ys)(hb:c+(a+b)+1<=2496)(dj:a+b<=2000):CX (Ka (k+9)) 32 [.agg #[Y ao lo co,Y ar lr cr,Y aw lw cw,Y au lu cu],Y ax lx cx,Y ay ly cy] h n λv B G=>∃b a l c d e f g ok,v=.tuple #[.agg #[U b,Y a l c,U d,Y e f g],U ok]/\(ok=φ↔My (zk p) xs/\My (zC p) ys)/\(ok=φ->UI B G b a l c (sumS (zk p) (xs.take (O (zk p)))+sumS (zC p) (ys.take (O (zC p)))).num/\UI B G d e f g (denZ (sumS (zk p) (xs.take (O (zk p)))+sumS (zC p) (ys.take (O (zC p)))))):=by have f4:=hp.rows;have f3:=hp.cols;have e0:=z8 io;have e1:=ir.len;have e3:=z8 iw;have e2:=z8 iu;have⟨dp,R,S,H,dk,dl,dm,dn⟩:=hp;have e4:=ix.len;have e5:=iy.len;have T:=jJ p;have bc:=US (p:=p) Z;refine zw R4<|zG ?_;refine sB [Y ao lo co,Y ar lr cr,Y aw lw cw,Y au lu cu] λcz ep fb=>?_;refine sA λd0 eq fc=>?_;refine zG ?_;refine sT #[U χ,η,U χ,η] ?_;refine sA λd1 er fd=>?_;refine sS [U χ,η,U χ,η] λbh c0 ea=>?_;refine zG ?_;refine sF (α:=Nat×Bool×Option Addr×Nat×Nat×Bool×Option Addr×Nat×Nat) (λz=>[(1,Y ax lx cx),(2,Y ay ly cy),(3,ι (3*n+2)),(6,ι (3*(n+1)+2)),(8,ι (3*(n+1+1)+2)),(9,CJ .i64 (z.1:Int))]) (λz B G w'=>w'=[]/\n+1+1+1<=G/\ExtB (n+1+1+1) [3*(n+1+1)+2] bh B/\B (3*(n+1+1)+2)=ξ (.row [U z.2.1,Y z.2.2.1 z.2.2.2.1 z.2.2.2.2.1,U z.2.2.2.2.2.1,Y z.2.2.2.2.2.2.1 z.2.2.2.2.2.2.2.1 z.2.2.2.2.2.2.2.2] 85)/\UI B G z.2.1 z.2.2.1 z.2.2.2.1 z.2.2.2.2.1 ((sumS ((zk p).take z.1) (xs.take z.1)).num)/\UI B G z.2.2.2.2.2.1 z.2.2.2.2.2.2.1 z.2.2.2.2.2.2.2.1 z.2.2.2.2.2.2.2.2 (denZ (sumS ((zk p).take z.1) (xs.take z.1)))/\z.1<=O xs/\O0 (zk p) xs z.1) (λz=>O xs-z.1) (0,χ,θ,0,0,χ,θ,0,0) ⟨ω,CG,El _ _ _,c0,(Jv _ _).as Ay,(Jv _ _).as Ay,CH,(hT.zero _ _)⟩ ?_;rintro⟨j,bS,aS,lS,kS,uS,vS,wS,xS⟩ t K N _ ⟨rfl,fo,ce,J,o,s,hj,M⟩;dsimp only at J o s hj M;refine zG ?_;by_cases q16:(j:Int)<(lx:Int);refine kh ?_;obtain⟨cp,C⟩:∃d,(xs)[j]?=ξ d:=⟨_,CK Z⟩;have⟨ds,eb,cj,cg,dx,cl,f5,f7,f9,fe,bd,bv,c3,c7,bi,bp⟩:=NS.at ix C;refine dI bd c3 ?_;refine dL c7 bv 0 ?_;refine zH ?_;obtain⟨cq,m⟩:∃d,(p.rows)[j]?=ξ d:=⟨_,CK Z⟩;have⟨dt,ec,ch,dy,cm,ad,b2,b4,b7,bj⟩:=Kz.at ir m;have cb:=z8 bj;refine dI ad b4 ?_;refine zH ?_;refine dL b7 b2 1 ?_;refine zH ?_;refine dI ad b4 ?_;refine zH ?_;refine dL b7 b2 2 ?_;refine dC (UR _ bi.x bp.x (CZ (H _ (CL m)).1.1 zd) (CZ (H _ (CL m)).2.1.1 zd) (H _ (CL m)).1.2 (H _ (CL m)).2.1.2 (b5 _ (CL C)) Z) ?_;rintro _ d2 e6⟨a1,W,av,a5,a9,ae,ai,am,cc,rfl,bk,bq,b8⟩ fp ff;obtain⟨rfl,Z4⟩|⟨rfl,Z4⟩:=Kg b8;refine zH ?_;refine dB [U χ,η,U χ,η] λd3 es fg=>?_;refine dS [U a1,Y W av a5,U a9,Y ae ai am] λd4 et ed=>?_;refine zJ ?_;refine sT #[U χ,η,U χ,η] ?_;refine sS [U χ,η,U χ,η] λd5 eu ee=>?_;refine zq ?_;exact⟨_,_,_,_,_,_,_,_,_,ω,⟨λF=>(by cases F),λF=>BO (F.1 _ _ _ (LK m) C) Z4⟩,λF=>(by cases F)⟩;refine zH ?_;refine dB [U χ,η,U χ,η] λd6 ev fh=>?_;refine dS [U a1,Y W av a5,U a9,Y ae ai am] λd7 ew ef=>?_;refine zJ ?_;refine sC (OE _ o.t s.t bk.t bq.t (hz.1 _ (by rw[T];omega)) (OY (b5 _ (CL C)) (H _ (CL m)).1.2 (H _ (CL m)).2.1.2) Z) ?_;rintro _ d8 e7⟨a2,Z3,az,a6,aa,af,aj,an,rfl,bl,br⟩ fq fi;refine sS [U a2,Y Z3 az a6,U aa,Y af aj an] λd9 c1 eg=>?_;refine zG ?_;exact sK (j+1,a2,Z3,az,a6,aa,af,aj,an) ⟨ω,Z,zy,c1,(bl.t.as (by rw[Mf (LK m) C];rfl)),(br.t.as (by rw[Mf (LK m) C];rfl)),Z,(M.step (LK m) C Z4)⟩;refine zG ?_;have ba:=M.all (.inr Z);refine zG ?_;refine sF (α:=Nat×Bool×Option Addr×Nat×Nat×Bool×Option Addr×Nat×Nat) (λz=>[(2,Y ay ly cy),(3,ι (3*n+2)),(6,ι (3*(n+1)+2)),(8,ι (3*(n+1+1)+2)),(12,CJ .i64 (z.1:Int))]) (λz B G w'=>w'=[]/\N<=G/\ExtB N [3*(n+1+1)+2] K B/\B (3*(n+1+1)+2)=ξ (.row [U z.2.1,Y z.2.2.1 z.2.2.2.1 z.2.2.2.2.1,U z.2.2.2.2.2.1,Y z.2.2.2.2.2.2.1 z.2.2.2.2.2.2.2.1 z.2.2.2.2.2.2.2.2] 85)/\UI B G z.2.1 z.2.2.1 z.2.2.2.1 z.2.2.2.2.1 ((sumS (zk p) (xs.take (O p.rows))+sumS ((zC p).take z.1) (ys.take z.1)).num)/\UI B G z.2.2.2.2.2.1 z.2.2.2.2.2.2.1 z.2.2.2.2.2.2.2.1 z.2.2.2.2.2.2.2.2 (denZ (sumS (zk p) (xs.take (O p.rows))+sumS ((zC p).take z.1) (ys.take z.1)))/\z.1<=O ys/\O0 (zC p) ys z.1) (λz=>O ys-z.1) (0,bS,aS,lS,kS,uS,vS,wS,xS) ⟨ω,CG,El _ _ _,J,o.as AT,s.as AT,CH,(hT.zero _ _)⟩ ?_;rintro⟨i,bT,aT,lT,kT,uT,vT,wT,xT⟩ t P b3 _ ⟨rfl,fr,cf,Z1,u,w,hi,I⟩;dsimp only at Z1 u w hi I;refine zG ?_;by_cases q28:(i:Int)<(ly:Int);refine kh ?_;obtain⟨cs,D⟩:∃d,(ys)[i]?=ξ d:=⟨_,CK Z⟩;have⟨du,eh,ck,ci,dz,cn,f6,f8,fa,fj,be,bw,c4,c8,bm,bs⟩:=NS.at iy D;refine dI be c4 ?_;refine dL c8 bw 0 ?_;refine zH ?_;obtain⟨ct,y⟩:∃d,(p.lower)[i]?=ξ d:=⟨_,CK Z⟩;have⟨dv,ei,bf,bx,c5,c9⟩:=vM iw y;refine dI bf c5 ?_;refine dL c9 bx 0 ?_;refine zH ?_;obtain⟨cv,A⟩:∃d,(p.upper)[i]?=ξ d:=⟨_,CK Z⟩;have⟨dw,ej,bg,bz,c6,ca⟩:=vM iu A;refine dI bg c6 ?_;refine dL ca bz 0 ?_;refine dC (UR _ bm.x bs.x (CZ (R _ (CL y)).1 zd) (CZ (S _ (CL A)).1 zd) (R _ (CL y)).2 (S _ (CL A)).2 (b6 _ (CL D)) Z) ?_;rintro _ da e8⟨a3,Z0,b0,a7,ab,ag,ak,ap,cd,rfl,bn,bt,b9⟩ fs fk;obtain⟨rfl,V⟩|⟨rfl,V⟩:=Kg b9;refine zH ?_;refine dB [U χ,η,U χ,η] λdb ex fl=>?_;refine dS [U a3,Y Z0 b0 a7,U ab,Y ag ak ap] λdc ey ek=>?_;refine zJ ?_;refine sT #[U χ,η,U χ,η] ?_;refine sS [U χ,η,U χ,η] λdd ez el=>?_;refine zq ?_;exact⟨_,_,_,_,_,_,_,_,_,ω,⟨λF=>(by cases F),λF=>BO (F.2 _ _ _ (gj y A) D) V⟩,λF=>(by cases F)⟩;refine zH ?_;refine dB [U χ,η,U χ,η] λde f0 fm=>?_;refine dS [U a3,Y Z0 b0 a7,U ab,Y ag ak ap] λdf f1 em=>?_;refine zJ ?_;refine sC (OE _ u.t w.t bn.t bt.t (by have:=hz.2 i (by rw[bc];omega);rw[T]at this;exact this) (OY (b6 _ (CL D)) (R _ (CL y)).2 (S _ (CL A)).2) Z) ?_;rintro _ dg e9⟨a4,a0,b1,a8,ac,ah,al,aq,rfl,bo,bu⟩ ft fn;refine sS [U a4,Y a0 b1 a8,U ac,Y ah al aq] λdh c2 en=>?_;refine zG ?_;exact sK (i+1,a4,a0,b1,a8,ac,ah,al,aq) ⟨ω,Z,zy,c2,(bo.t.as (by rw[Mf (gj y A) D,<-HB])),(bu.t.as (by rw[Mf (gj y A) D,<-HB])),Z,(I.step (gj y A) D V)⟩;refine zG ?_;have bb:=I.all (.inr Z);refine zG ?_;refine sS [U bT,Y aT lT kT,U uT,Y vT wT xT] λdi f2 eo=>?_;refine zq ?_;exact⟨_,_,_,_,_,_,_,_,_,ω,⟨λ_=>⟨ba,bb⟩,λ_=>rfl⟩,λ_=>⟨u.t.as aD,w.t.as aD⟩⟩
end
def allN(S:List (List UInt8)):Prop:=∀s∈S,vF s
def valQ(p:LPD)(S:List (List UInt8)):Rat:=dotR (p.obj.map zj) ((S.map zj).take (O (p.obj.map zj)))
def bndQ(p:LPD)(R C:List (List UInt8)):Rat:=sumS (zk p) ((R.map zj).take (O (zk p)))+sumS (zC p) ((C.map zj).take (O (zC p)))
def feaP(p:LPD)(S:List (List UInt8)):Prop:=UK (zC p) (S.map zj)/\∀d∈zk p,Qv (S.map zj) d
def bndP(p:LPD)(R C:List (List UInt8)):Prop:=My (zk p) (R.map zj)/\My (zC p) (C.map zj)
open Classical in
open Classical in
open Classical in
section
variable {p:LPD}{R:List (List UInt8)}
open Classical in
open Classical in
end
def Ko.nums{b:Nat}{S:List (List UInt8)}(h:∀s∈S,Ko b s):∀q∈S.map zj,Sz b q:=by intro q a;obtain⟨s,c,rfl⟩:=DU.1 a;exact(h s c).2
def VLP.rwb{a:Nat}{p:LPD}(h:VLP p)(e:LPB a p):Qx a (O p.obj) (zk p):=by intro d c;obtain⟨r,b,rfl⟩:=DU.1 c;exact⟨Ko.nums (e.rl r b).2.2.2,by show(r.A.map zj).length<=_;rw[CU,(h.rw r b).2.2];exact Ed _⟩
def VLP.cols{p:LPD}(h:VLP p):O (zC p)=O p.obj:=by rw[US (h.ll.trans h.lu.symm),h.ll]
section
variable {i r:Nat}{up:Bool}{q:Rat}
def rA(rs:List SideD)(i:Nat):List Rat:=((rs[i]?).getD ⟨[],[],[]⟩).A
def Qy{rs:List SideD}(h:i<O rs):rA rs i=(rs[i]).A:=by unfold rA;rw[CK h];rfl
structure Fea (cs rs:List SideD)(x:Nat->Rat):Prop where
 v:∀v,v<O cs->inBd (K0 cs) (K6 cs) v (x v)
 r:∀i,i<O rs->inBd (K0 rs) (K6 rs) i (Kc (O cs) λj=>atR (rA rs i) j*x j)
def Fea.congr{cs rs:List SideD}{x y:Nat->Rat}(h:Fea cs rs x)(e:∀v,v<O cs->x v=y v):Fea cs rs y:=
 ⟨λv c=>e v c▸h.v v c,λi hi=>by
  have d:(Kc (O cs) λj=>atR (rA rs i) j*y j)=Kc (O cs) λj=>atR (rA rs i) j*x j:=yg λj f=>by rw[e j f]
  rw[d];exact h.r i hi⟩
theorem zdy{n m:Nat}{a:Nat->Nat->Int}{L:(Nat->Rat)->Prop}{s:PS}{e:Nat}(h:PB n m a L s.toPT)(c:e<n):∀k,k<=m->rayF s e up k=rayV s.toPT e up k:=by
 intro k;induction k with
 |zero=>
  intro _;show Ke (λ_=>0) (s.nb e) (Kk up)=Ke (λ_=>0) (s.nb e) (0+Kk up);rw[Js]
 |succ k ih=>
  intro g;have f:rayV s.toPT e up k (s.bs k)=0:=oI (λq=>h.dis e k c Z q.symm) λi hi q=>by have:=h.jnj k i Z Z q;omega
  show Ke (rayF s e up k) (s.bs k) ((s.T k e:Rat)/s.d*Kk up)=Ke (rayV s.toPT e up k) (s.bs k) (rayV s.toPT e up k (s.bs k)+(s.T k e:Rat)/s.d*Kk up);grind
section
variable {cs rs:List SideD}{ss:List Rat}{y:Nat×List Int}{s:Rat}{st:PS}{x:Nat->Rat}
def ScI.fea(c:ScI cs rs ob ss bz y s)(p:PrO cs rs ob)(d:L0 (O cs) (O rs) (aF (O cs) (zI (bz++[y]))) x):(∀v,v<O cs+O rs->inBd (Kd (solI cs rs ss bz y).lo) (Kd (solI cs rs ss bz y).hi) v (x v))↔Fea cs rs x:=by
 rw[c.lo,c.hi];have h:=zqa (cl:=K0 cs) (ch:=K6 cs) (rl:=K0 rs) (rh:=K6 rs) (f:=λi=>atR (rA rs i)) d (λi hi=>(c.row p hi).pos) λi hi j e=>by rw[Qy hi];exact(c.row p hi).eq j e
 exact h.trans ⟨λh=>⟨h.1,h.2⟩,λh=>⟨h.v,h.r⟩⟩
def ScI.val(c:ScI cs rs ob ss bz y s)(p:PrO cs rs ob)(d:L0 (O cs) (O rs) (aF (O cs) (zI (bz++[y]))) x):x (O cs+O rs)=s*Kc (O cs) λj=>atR ob j*x j:=
 zp0 d (c.obj p).eq
abbrev NX(cs rs:List SideD)(ss:List Rat)(bz:List (Nat×List Int))(y:Nat×List Int)(st:PS):Prop:=PInv (O cs) (O rs) (aF (O cs) (zI (bz++[y]))) (Kd (solI cs rs ss bz y).lo) (Kd (solI cs rs ss bz y).hi) (L0 (O cs) (O rs) (aF (O cs) (zI (bz++[y])))) st
theorem zpu{s a b:Rat}(c:0<s)(h:s*a<s*b):a<b:=E0.1 λd=>by
 have e:=GS (DQ c) (show 0<=a-b by grind)
 grind
def zlu(c:ScI cs rs ob ss bz y s)(p:PrO cs rs ob)(f:NX cs rs ss bz y st)(F:Feas (O rs) (Kd (solI cs rs ss bz y).lo) (Kd (solI cs rs ss bz y).hi) st){e:Nat}(o:Ent (O cs) (O rs) (Kd (solI cs rs ss bz y).lo) (Kd (solI cs rs ss bz y).hi) st e up)(H:∀r ρ,¬Lc (O rs) (Kd (solI cs rs ss bz y).lo) (Kd (solI cs rs ss bz y).hi) st e up r ρ)(I:0<q):Fea cs rs (λv=>st.x v+q*rayF st e up (O rs) v)/\(Kc (O cs) λj=>atR ob j*(st.x j+q*rayF st e up (O rs) j))<Kc (O cs) λj=>atR ob j*st.x j:=by
 have⟨l,A,d⟩:=Ent.unb f F o H I;have g:∀v,v<O cs->rayV st.toPT e up (O rs+1) v=rayF st e up (O rs) v:=λv u=>(by rw[zdy f.toPB o.he _ CG];exact vi (by show v≠st.bs (O rs);rw[f.bm];omega));have C:=(c.fea p l).1 A;rw[c.val p l,c.val p f.xL]at d;have d:=zpu (c.obj p).pos d;have w:(Kc (O cs) λj=>atR ob j*(st.x j+q*rayV st.toPT e up (O rs+1) j))=Kc (O cs) λj=>atR ob j*(st.x j+q*rayF st e up (O rs) j):=yg λj G=>by rw[g j G]
 rw[w]at d;exact⟨C.congr λv u=>by rw[g v u],d⟩
end
theorem QB.nd{A:Nat}(h:QB A B q):q.num.natAbs<=A/\q.den<=B:=by
 obtain⟨x,y,g,p,l,o⟩:=h;have e:q=DK x y:=by grind [EE,Eu.1,Fm,Rat.mul_div_cancel]
 obtain⟨d,f⟩:=pt g;rw[<-e]at d f;constructor
 .rw[d,G3];exact C5 (Ef _ _) l
 have c:=congrArg Int.natAbs f;rw[G3,C4]at c;rw[c];exact C5 (Ef _ _) o
def UX(h:V<10^k)(c:1<=k):O (decT V)<=k:=by unfold decT;split;exact c;rw[CU,kY];exact ws k V h
theorem O4{A a:Nat}(h:QB A B q)(l:A<10^a)(o:B<10^b)(c:1<=a)(hb:1<=b):O (ratT q)<=a+b+2:=by have⟨d,e⟩:=h.nd;have f:=UX (V:=q.num.natAbs) Z c;have g:=UX (V:=q.den) Z hb;unfold Go.Proofs.YtpcpimjejdegcaaGreatDoor.ratT;grind
section
variable {a:Nat->Nat->Int}{lo hi:Nat->Option Rat}{st:PS}{x:Nat->Rat}{D:Int}
theorem Vtx.dot{E:Nat}(h:Vtx n m a x N D)(A:∀v,v<n+m->∀j,j<n->(a v j).natAbs<=M){l:List Rat}(d:∀q∈l,NE E P q)(G:O l<=n)(F:k<=n):QB (k*(P*E^(O l-1)*vN n M N)) (E^O l*vD n N) (Kc k λj=>atR l j*x j):=by have C:=OS d;have c:∀j,∃w:Int,((lcmD l 1:Int):Rat)*atR l j=w/\w.natAbs<=P*E^(O l-1):=λj=>(by by_cases hj:j<O l;have e:=CK hj;rw[wg e,Ds];exact UA d (CL e);refine⟨0,?_,CH⟩;unfold atR;grind);have⟨w,c⟩:=F2 c;have f:=h.sum (by have:=C.1;omega) (λj=>(c j).1) (λj=>(c j).2) A k F;have⟨X,Z3,g,o,p,u⟩:=f;refine⟨X,Z3,g,o,p,C5 u (CS _ ?_)⟩;omega
end
theorem UY{l c:List Rat}{f:Nat->Rat}{n:Nat}(g:O c=n)(d:∀j,j<n->c[j]?=ξ (f j))(e:O l<=n)(hj:j<=O l):dotR (l.take j) (c.take j)=Kc j λj=>atR l j*f j:=by grind [rM,yg,wg]
def nV:Nat:=10^38*1001
def num8{n:Nat}(c:1<=n)(d:n<=5):vN n (10^32) nV<2^800/\vD n nV<2^700/\vN n (10^32) nV<10^241/\vD n nV<10^208/\vN n (10^32) (10^38)<=vN n (10^32) nV/\vD n (10^38)<=vD n nV:=by have h:n=1\/n=2\/n=3\/n=4\/n=5:=Z;obtain rfl|rfl|rfl|rfl|rfl:=h<;>exact⟨eH,eH,eH,eH,eH,eH⟩
def zp2{n:Nat}(c:1<=n)(d:n<=5)(o:k<=n)(p:r<=n):k*(10^14*(10^10)^(r-1)*vN n (10^32) nV)<2^990/\(10^10)^r*vD n nV<2^990:=by have⟨e,f,_⟩:=num8 c d;have g:10^14*(10^10)^(r-1)<=10^14*(10^10)^4:=C9 _ (CW zd Z);have l:(10^10)^r<=(10^10)^5:=CW zd Z;constructor;refine Dh (Df (show k<=5 from Z) (Df g (D9 e))) ?_;decide+kernel;refine Dh (Df l (D9 f)) ?_;decide+kernel
end
section
variable {sz:Nat}{s:List UInt8}{v:ψ}{cs:List ψ}
def UZ(l:List (List UInt8)):O (strs l)=O l*1:=by simp[strs]
def zd5(l:List (List UInt8)):ones (strs l)=φ:=by
 induction l with
 |nil=>rfl
 |cons e l ih=>exact ih
theorem U1(k:Nat){a:Option Addr}(f:Sl h n 1 (Y a len cap) (strs S))(hb:O S<1000000):
  CX (Ka (k+1)) 13 [Y a len cap] h n λv h' n'=>Gr0 h' n n' 9 1 v (O S) (strs S):=by
 refine zw R4 ?_;have j:=z8 f;subst j;refine mL ?_;refine pZ R5 ?_;generalize hh:upd h (3*n+2) _=h1;have c:J9 n h h1:=by grind [J9.upd]
 refine zM ?_;refine Sy R8 zd (.emp CG (Fi _)) (uX (f.ext c Zq)) Z (UZ _) (zd5 _) (by show n<=n/\_;omega) ?_;intro v q o p d g _ _;rw[Dd,DP]at d;obtain⟨i,rfl,_⟩:=d.shape;refine Zc ?_;exact retX [Y i (O S) (O S)] R3 (show n<=o from Z) (c.trans g CG) d
def fitL(l:List (List UInt8))(n:Nat)(s:List UInt8):List (List UInt8):=(l++CO (n-O l) s).take n
theorem pF(l:List (List UInt8))(n:Nat)(s:List UInt8):O (fitL l n s)=n:=by grind [fitL]
theorem ziq{l:List (List UInt8)}{x:List UInt8}(h:x∈fitL l n s):x∈l\/x=s:=by obtain h|h:=DW.1 (Dx h);exact .inl h;exact .inr (List.eq_of_mem_replicate h)
def Ku(lo:Nat)(h:HF)(n:Nat)(v:ψ)(L:List (List UInt8)):Prop:=Sl h n 1 v (strs L)/\∀ad len cap,v=Y (ξ ad) len cap->3*lo<=ad.block/\(len≠0->∃T,h ad.block=ξ (.row (strs T) 9)/\ad=⟨ad.block,0,θ⟩/\T.take len=L/\len<=O T/\len<=cap)
def Ku.of_gr0{lo:Nat}{c:List ψ}(g:Gr0 h lo n 9 1 v len c){T:List (List UInt8)}(i:c=strs T)(hm:m<=len){a:Option Addr}(hv:v=Y a l k):Ku lo h n (Y a m k) (T.take m):=by
 have j:∀(x:List ψ),x=strs T->x.take m=strs (T.take m):=λx e=>by rw[e];unfold strs;rw[Gx]
 cases g with
 |gro g=>
  cases g with
  |nil=>
   cases hv;have d:m=0:=Z;subst d;exact⟨.nil (.inl ω),λf l c e=>by cases e⟩
  |at_ hg hlo hb hr hl ho=>
   cases hv;refine⟨.at_ hb hr ω hm Z aD,λf l c e=>?_⟩;cases e;subst i;exact⟨hlo,λ_=>⟨T,hr,ω,ω,by rw[UZ]at hl;omega,hm⟩⟩
 | @emp m2 hlo hm2=>
  cases hv;have d:m=0:=Z;subst d;refine⟨.nil (.inr ⟨_,_,_,ω,Z⟩),λf l c e=>?_⟩;cases e;exact⟨by show 3*lo<=3*m2+2;omega,λh=>BO ω h⟩
def Ku.go{lo:Nat}{L:List (List UInt8)}(s:Ku lo h n v L)(p:∀b cs,3*lo<=b->b<3*n->h b=ξ (.row cs 9)->h' b=h b)(q:n<=n'):Ku lo h' n' v L:=by
 have⟨s,f⟩:=s;generalize hcl:strs L=cl at s;cases s with
 |nil ha=>exact⟨by rw[hcl];exact .nil (uw ha q),λa len cap e=>by cases e;exact⟨(f _ _ _ ω).1,λh=>BO ω h⟩⟩
 | @at_ b off len cap x cs cells hb hx hc hcap hl he=>
  by_cases h0:len=0;subst h0;have o:cl=[]:=by rw[<-he];simp
  subst o;exact⟨by rw[hcl];exact .nil (.inr ⟨_,_,_,ω,Z⟩),λa len cap e=>by cases e;exact⟨(f _ _ _ ω).1,λh=>BO ω h⟩⟩;have⟨c,i⟩:=f _ _ _ rfl;have⟨T,d,j⟩:=i h0;have g:=p _ _ c hb d;exact⟨by rw[hcl];exact .at_ Z (g.trans hx) hc hcap hl he,λa len cap e=>by cases e;exact⟨c,λ_=>⟨T,g.trans d,j⟩⟩⟩
def Ku.ext{lo:Nat}{L:List (List UInt8)}(s:Ku lo h n v L)(x:J9 n h h')(c:n<=n'):Ku lo h' n' v L:=s.go (λb _ _ a _=>x b a) c
def Ku.x{lo:Nat}{L:List (List UInt8)}(g:Ku lo h n v L)(t:Tx n h n' h':=by exact zx):Ku lo h' n' v L:=g.ext t.2 t.1
def Ku.st{lo:Nat}{L:List (List UInt8)}(s:Ku lo h n v L)(_:h b=ξ (.row cs e))(_:cs.all nu=φ)(a:Only b h h')(hb:b<3*lo):Ku lo h' n v L:=s.go (λk _ c _ _=>a k Z) CG
def Ku.sto{lo:Nat}{L:List (List UInt8)}(g:Ku lo h n v L)(o:Kx b h h')(hb:b<3*lo):Ku lo h' n v L:=by have⟨o,_,_,a,c⟩:=o;exact g.st a c o hb
def Ku.ss{lo:Nat}{L:List (List UInt8)}(s:Ku lo h n v L):Sl h n 1 v (strs L):=s.1
def Ku.lo{lo:Nat}{L:List (List UInt8)}(s:Ku lo h n v L)(c:lo'<=lo):Ku lo' h n v L:=⟨s.1,λa len cap e=>⟨by have:=(s.2 a len cap e).1;omega,(s.2 a len cap e).2⟩⟩
def Nq(lo:Nat)(c:List ψ)(d:RowD)(h:HF)(n:Nat):Prop:=∃a l k,c=[Y a l k,CN ⟨⟨d.lo⟩⟩,CN ⟨⟨d.hi⟩⟩]/\Ku lo h n (Y a l k) d.A
structure GRW (lo:Nat)(h:HF)(n:Nat)(v:ψ)(ds:List RowD):Prop where
 ex:∃C,Gro h lo n 38 3 v (O ds) C/\Rec 3 (λc d=>Nq lo c d h n) C ds
def GRW.nil(lo:Nat)(h:HF)(n:Nat):GRW lo h n (η) []:=⟨[],.nil,.nil⟩
def GRW.ext{lo:Nat}{f:List RowD}(g:GRW lo h n v f)(x:J9 n h h')(i:n<=n'):GRW lo h' n' v f:=by have⟨C,j,o⟩:=g.ex;exact⟨C,j.ext x i,o.mono λc d⟨a,l,k,e,s⟩=>⟨a,l,k,e,s.ext x i⟩⟩
def GRW.x{lo:Nat}{a:List RowD}(g:GRW lo h n v a)(t:Tx n h n' h':=by exact zx):GRW lo h' n' v a:=g.ext t.2 t.1
def GRW.st{lo:Nat}{f:List RowD}(g:GRW lo h n v f)(p:h b=ξ (.row cs e))(q:cs.all nu=φ)(i:Only b h h')(hb:b<3*lo):GRW lo h' n v f:=by have⟨C,j,o⟩:=g.ex;exact⟨C,j.same λk u _ _=>i k Z,o.mono λc d⟨a,l,k,e,s⟩=>⟨a,l,k,e,s.st p q i hb⟩⟩
def GRW.sto{lo:Nat}{a:List RowD}(g:GRW lo h n v a)(o:Kx b h h')(hb:b<3*lo):GRW lo h' n v a:=by have⟨o,_,_,c,d⟩:=o;exact g.st c d o hb
def GRW.lo{lo:Nat}{f:List RowD}(g:GRW lo h n v f)(o:lo'<=lo):GRW lo' h n v f:=by
 have⟨C,i,j⟩:=g.ex;refine⟨C,?_,j.mono λc d⟨a,l,k,e,s⟩=>⟨a,l,k,e,s.lo o⟩⟩;generalize (O f)=m at i⊢;cases i with
 |nil=>exact .nil
 |at_ hg hlo hb hr hl2 ho=>exact .at_ hg Z hb hr hl2 ho
def GRW.rws{lo:Nat}{f:List RowD}(g:GRW lo h n v f):Kz h n v f:=by have⟨C,i,j⟩:=g.ex;exact⟨C,i.sl,j.mono λc d⟨a,l,k,e,s⟩=>⟨a,l,k,e,s.1⟩⟩
def Ku.keep{lo d:Nat}{u:ψ}{L:List (List UInt8)}{C:List ψ}(s:Ku lo h n v L)(g:Gro h d n 38 3 u len C)(k:Keep u n h h')(f:n<=n'):Ku lo h' n' v L:=
 s.go (λb cs j a i=>by
  refine k b a λo l c e=>?_;cases g with
  |nil=>cases e
  |at_ hg hlo hb3 hr2 hl2 ho=>
   cases e;rw[i]at hr2;injection hr2 with hr2
   injection hr2 with _ hr2
   exact BO hr2 zd) f
def GRW.app{lo:Nat}{v':ψ}{f:List RowD}{d:RowD}{C c:List ψ}(j:Gro h lo n 38 3 v (O f) C)(o:Rec 3 (λc d=>Nq lo c d h n) C f)(s:Nq lo c d h n)(k:Keep v n h h')(g:Gro h' lo (n+1) 38 3 v' (O f+1) (C++c)):GRW lo h' (n+1) v' (f++[d]):=by have i:∀c d,Nq lo c d h n->Nq lo c d h' (n+1):=λc d⟨a,l,m,e,s⟩=>⟨a,l,m,e,s.keep j k Zq⟩;refine⟨C++c,by rw[List.length_append];exact g,(o.mono i).snoc ?_ (i _ _ s)⟩;obtain⟨a,l,m,rfl,_⟩:=s;rfl
def Gr0.slice{lo:Nat}{a:Option Addr}{c:List ψ}(g:Gr0 h lo n e sz (Y a l k) len c):l=len/\k=len/\(a=θ\/∃b,a=ξ ⟨b,0,θ⟩):=by
 cases g with
 |gro g=>
  cases g with
  |nil=>exact⟨ω,ω,.inl ω⟩
  |at_ hg hlo hb hr hl ho=>exact⟨ω,ω,.inr ⟨_,ω⟩⟩
 |emp hlo hm=>exact⟨ω,ω,.inr ⟨_,ω⟩⟩
theorem bI(k:Nat){a:Option Addr}(u:Sl h n 1 (Y a len cap) (strs S))(hb:O S<1000000)(hm:m<1000000)(s:List UInt8):
  CX (Ka (k+2)) 14 [Y a len cap,CJ .i64 (m:Int),CN ⟨⟨s⟩⟩] h n λv h' n'=>∃a c,v=Y a m c/\Ku n h' n' (Y a m c) (fitL S m s):=by
 refine zw R4 ?_;have B:=z8 u;subst B;refine mL ?_;refine zM ?_;refine gJ R5 (U1 k u hb) λv L P o q H=>?_;obtain⟨y,rfl,_⟩:=o.shape;refine Zc ?_;refine ye (α:=Option Addr×Nat) (λz=>[(1,CJ .i64 (m:Int)),(2,CN ⟨⟨s⟩⟩),(7,Y z.1 (O S+z.2) (O S+z.2))]) (λz h' n' G=>G=[]/\n<=n'/\J9 n h h'/\Gr0 h' n n' 9 1 (Y z.1 (O S+z.2) (O S+z.2)) (O S+z.2) (strs (S++CO z.2 s))/\(z.2=0\/O S+z.2<=m)) (λz=>m-(O S+z.2))
  (y,0) P3 ⟨ω,q,H,by rw[List.replicate_zero,List.append_nil];exact o,.inl ω⟩ (by show m-(O S+0)<LL;unfold LL;omega) ?_
 rintro⟨K,j⟩ t M R _ ⟨rfl,d,i,f,D⟩;simp only at f D;refine zN ?_;by_cases hc:O S+j<m;refine Zm ?_;refine wE [CN ⟨⟨s⟩⟩] R5 λN F w=>?_;refine Sy R8 zd (f.ext w Zq) (yp F R2) Z ω ω (by show n<=n/\_;omega) ?_;intro v Z1 T J p I _ _;obtain⟨A,rfl,_⟩:=p.shape;refine Zc ?_;refine goOn (A,j+1) Z P3 ⟨ω,aD,(i.trans (w.mono d) CG).trans I CG,?_,.inr Z⟩;rw[List.replicate_succ',<-Dp,fg];exact p;refine Zt ?_;have C:(S++CO j s).take m=fitL S m s:=by grind [fitL]
 have g:=Ku.of_gr0 f ω (m:=m) Z rfl;rw[C]at g;obtain e|⟨b,e⟩:=f.slice.2.2;subst e;refine fh m R9 Z<|Zc ?_;exact retX [Y θ m (O S+j)] R3 d i ⟨_,_,ω,g⟩;subst e;refine td m R8 ω Z<|Zc ?_;exact retX [Y (ξ ⟨b,0,θ⟩) m (O S+j)] R3 d i ⟨_,_,ω,g⟩
end
section
variable {p:LPD}{s:List UInt8}
def Qz(r:RowD):Prop:=O r.A<=7/\(∀s∈r.A,(O s:Int)<=8)/\∀s∈[r.lo,r.hi],(O s:Int)<=8
structure SmlP (p:LPD):Prop where
 n1:O p.obj<=5
 n2:O p.rows<=6
 n3:O p.lower<=7
 n4:O p.upper<=7
 ob:∀s∈p.obj,(O s:Int)<=8
 lw:∀s∈p.lower,(O s:Int)<=8
 up:∀s∈p.upper,(O s:Int)<=8
 rw:∀r∈p.rows,Qz r
def SmlP.lpb(h:SmlP p):LPB 27 p:=
 ⟨λs a=>txt8 (h.ob s a),λs a=>txt8 (h.lw s a),λs a=>txt8 (h.up s a),λr b=>⟨txt8 ((h.rw r b).2.2 _ eF),txt8 ((h.rw r b).2.2 _ eF),by have:=(h.rw r b).1;omega,λs a=>txt8 ((h.rw r b).2.1 s a)⟩,by have:=h.n1;omega,by have:=h.n2;omega,by have:=h.n3;omega,by have:=h.n4;omega⟩
def QA(n:Nat)(r:RowD):RowD:=⟨fitL r.A n [48],r.lo,r.hi⟩
def vo(p:LPD):List RowD:=p.rows.map (QA (O p.obj))
def U5(p:LPD):LPD:=⟨p.obj,vo p,fitL p.lower (O p.obj) [],fitL p.upper (O p.obj) []⟩
def zal{i:Nat}{r:RowD}(h:p.rows[i]?=ξ r):(vo p)[i]?=ξ (QA (O p.obj) r):=by unfold vo;rw[DC,h];rfl
theorem rW(p:LPD):O (vo p)=O p.rows:=by unfold vo;rw[CU]
theorem tr{l:List (List UInt8)}{n:Nat}{m:Int}(h:∀x∈l,(O x:Int)<=m)(a:(O s:Int)<=m):∀x∈fitL l n s,(O x:Int)<=m:=by grind [ziq]
def SmlP.tidy(h:SmlP p):SmlP (U5 p):=
 ⟨h.n1,by show(vo p).length<=6;rw[rW];exact h.n2,Ai,Ai,h.ob,tr h.lw zd,tr h.up zd,λr c=>by
  obtain⟨b,a,rfl⟩:=DU.1 c;exact⟨Ai,tr (h.rw b a).2.1 zd,(h.rw b a).2.2⟩⟩
def zmu(k:Nat){h:HF}{n:Nat}{a:Option Addr}(f:Sl h n 1 (Y a len cap) (strs S))(hb:O S<1000000):
  CX (Ka (k+1)) 13 [Y a len cap] h n λv b e=>∃a l c,v=Y a l c/\Ku n b e (Y a l c) S:=
 (U1 k f hb).mono λv b e g=>by
  obtain⟨j,rfl,_⟩:=g.shape;have:=Ku.of_gr0 g ω CG rfl;rw[Da]at this;exact⟨_,_,_,ω,this⟩
section
variable {d:Tmp}
end
section
variable {i:Nat}{d:Tmp}
end
end
section
variable {s:List UInt8}{p:LPD}{st:PS}
structure SmQ (p:LPD):Prop where
 n1:O p.obj<=5
 n2:O p.rows<=6
 ob:∀s∈p.obj,NE (10^10) (10^14) (zj s)
 lw:∀s∈p.lower,(O s:Int)<=8
 up:∀s∈p.upper,(O s:Int)<=8
 rw:∀r∈p.rows,Qz r
 lpb:LPB 48 p
def Ko.wid(h:Ko a s)(hb:a<=b):Ko b s:=⟨h.1,h.2.mono hb⟩
def LPB.wid(h:LPB a p)(hb:a<=b):LPB b p:=
 ⟨λs c=>(h.ob s c).wid hb,λs c=>(h.lw s c).wid hb,λs c=>(h.up s c).wid hb,λr d=>⟨(h.rl r d).1.wid hb,(h.rl r d).2.1.wid hb,(h.rl r d).2.2.1,λs c=>((h.rl r d).2.2.2 s c).wid hb⟩,h.n1,h.n2,h.n3,h.n4⟩
def SmlP.q(h:SmlP p):SmQ p:=
 ⟨h.n1,h.n2,λs c=>(MM (h.ob s c)).up,h.lw,h.up,h.rw,h.lpb.wid zd⟩
def U6(hv:VLP p)(o:SmQ p):PrO (zC p) (zk p) (p.obj.map zj):=by have v:=hv.cols;have F:∀d∈zC p,∃j f e,p.lower[j]?=ξ f/\p.upper[j]?=ξ e/\d.lo=f/\d.hi=e:=λd u=>(by have⟨j,y⟩:=EI.1 u;have K:=(CQ.1 y).1;have c:=CK (l:=p.lower) (i:=j) (by have:=hv.ll;omega);have g:=CK (l:=p.upper) (i:=j) (by have:=hv.lu;omega);rw[gj c g]at y;cases y;exact⟨j,_,_,c,g,ω,ω⟩);have w:∀{f e:List UInt8},(f=[]\/e=[]\/zj f<=zj e)->f≠[]->e≠[]->zj f<=zj e:=λh c g=>(h.resolve_left c).resolve_left g;refine⟨by rw[v];exact hv.n1,by rw[v];exact o.n1,by rw[jJ];exact o.n2,λd u=>?_,λd u=>?_,by rw[CU,v],λq B=>?_⟩;have⟨j,f,e,c,g,G,H⟩:=F d u;rw[G,H];exact⟨MM (o.lw _ (CL c)),MM (o.up _ (CL g)),w (hv.bd j f e c g).2.2⟩;obtain⟨r,D,rfl⟩:=DU.1 u;have⟨c,g,J⟩:=hv.rw r D;have⟨L,I,C⟩:=o.rw r D;refine⟨MM (C r.lo eF),MM (C r.hi eF),w c.2.2,?_,λq B=>?_⟩;show(r.A.map zj).length=_;rw[CU,v];exact J;obtain⟨s,o,rfl⟩:=DU.1 B;exact MM (I s o);obtain⟨s,c,rfl⟩:=DU.1 B;exact o.ob s c
def optF(st:PS)(m:Nat)(s:Rat)(k:Nat):Nat->Rat:=match k with
 |0=>λ_=>0
 |k+1=>Ke (optF st m s k) (st.nb k) ((st.T m k:Rat)/st.d/s)
def zmv{T Z1 e:Nat}{d:Sol}{s:Rat}(g:0<st.d)(sz:SzP n m V T Z1 e d st)(f:T<=Z1)(i:Sz P s):∀k,k<=n->∀v,Sz (Z1+P+1) (optF st m s k v):=by
 intro k;induction k with
 |zero=>exact λ_ v=>Jt _ Z
 |succ k ih=>
  intro l v;have c:=xz g (sz.tO k Z) (CZ sz.dd (CW zd f));rw[EE]at c;exact jt (ih Z) ((c.div i).mono Z) v
structure SolI (p:LPD)(ss:List Rat)(bz:List (Nat×List Int))(y:Nat×List Int)(s:Rat)(st:PS):Prop where
 c:ScI (zC p) (zk p) (p.obj.map zj) ss bz y s
 I:NX (zC p) (zk p) ss bz y st
noncomputable abbrev loI (p:LPD) (ss:List Rat) (bz:List (Nat×List Int)) (y:Nat×List Int):Nat->Option Rat:=Kd (solI (zC p) (zk p) ss bz y).lo
noncomputable abbrev hiI (p:LPD) (ss:List Rat) (bz:List (Nat×List Int)) (y:Nat×List Int):Nat->Option Rat:=Kd (solI (zC p) (zk p) ss bz y).hi
def SolA(p:LPD)(ss:List Rat)(bz:List (Nat×List Int))(y:Nat×List Int)(st:PS)(n0:Nat)(w:ψ)(h:HF)(n:Nat):Prop:=∃r low q b1 b2,w=.tuple #[.agg #[CJ .i64 2,CN ⟨⟨[]⟩⟩,η,η,Y (ξ ⟨b1,0,θ⟩) (O (zk p)) (O (zk p)),Y (ξ ⟨b2,0,θ⟩) (O (zC p)) (O (zC p))],CJ .i64 0]/\Vio (O (zk p)) (loI p ss bz y) (hiI p ss bz y) st r low q/\(∀c,c<O (zC p)->¬suit (loI p ss bz y) (hiI p ss bz y) (rdOf (O (zk p)) st r 0 low) c)/\OTN n0 h n b1 (Km (O (zk p)) λi=>ratT (conF st r low (O (zC p)) (O (zC p)+i)*KU (zC p) ss (O (zC p)+i)))/\OTN n0 h n b2 (Km (O (zC p)) λv=>ratT (conF st r low (O (zC p)) v*KU (zC p) ss v))
def SolB(p:LPD)(ss:List Rat)(bz:List (Nat×List Int))(y:Nat×List Int)(st:PS)(n0:Nat)(w:ψ)(h:HF)(n:Nat):Prop:=∃e up bX bR,w=.tuple #[.agg #[CJ .i64 3,CN ⟨⟨[]⟩⟩,Y (ξ ⟨bX,0,θ⟩) (O (zC p)) (O (zC p)),Y (ξ ⟨bR,0,θ⟩) (O (zC p)) (O (zC p)),η,η],CJ .i64 0]/\Feas (O (zk p)) (loI p ss bz y) (hiI p ss bz y) st/\Ent (O (zC p)) (O (zk p)) (loI p ss bz y) (hiI p ss bz y) st e up/\(∀r ρ,¬Lc (O (zk p)) (loI p ss bz y) (hiI p ss bz y) st e up r ρ)/\OTN n0 h n bX (Km (O (zC p)) λv=>ratT (st.x v))/\OTN n0 h n bR (Km (O (zC p)) λv=>ratT (rayF st e up (O (zk p)) v))
def SolC(p:LPD)(ss:List Rat)(bz:List (Nat×List Int))(y:Nat×List Int)(s:Rat)(st:PS)(n0:Nat)(w:ψ)(h:HF)(n:Nat):Prop:=∃bX b1 b2,w=.tuple #[.agg #[CJ .i64 1,CN ⟨⟨ratT (Kc (O (zC p)) λj=>atR (p.obj.map zj) j*st.x j)⟩⟩,Y (ξ ⟨bX,0,θ⟩) (O (zC p)) (O (zC p)),η,Y (ξ ⟨b1,0,θ⟩) (O (zk p)) (O (zk p)),Y (ξ ⟨b2,0,θ⟩) (O (zC p)) (O (zC p))],CJ .i64 0]/\Feas (O (zk p)) (loI p ss bz y) (hiI p ss bz y) st/\(∀c u,c<O (zC p)->¬ent (O (zk p)) (loI p ss bz y) (hiI p ss bz y) st u c)/\OTN n0 h n bX (Km (O (zC p)) λv=>ratT (st.x v))/\OTN n0 h n b1 (Km (O (zk p)) λi=>ratT (optF st (O (zk p)) s (O (zC p)) (O (zC p)+i)*KU (zC p) ss (O (zC p)+i)))/\OTN n0 h n b2 (Km (O (zC p)) λv=>ratT (optF st (O (zk p)) s (O (zC p)) v*KU (zC p) ss v))
def SolR(p:LPD)(n0:Nat)(w:ψ)(h:HF)(n:Nat):Prop:=
 (¬VLP p/\w=.tuple #[.agg #[CJ .i64 0,CN ⟨⟨[]⟩⟩,η,η,η,η],CJ .i64 1])\/
 VLP p/\∃ss bz y s st,SolI p ss bz y s st/\(SolA p ss bz y st n0 w h n\/SolB p ss bz y st n0 w h n\/SolC p ss bz y s st n0 w h n)
def SolI.vtx{ss:List Rat}{f:List (Nat×List Int)}{y:Nat×List Int}{s:Rat}(h:SolI p ss f y s st)(e:PrO (zC p) (zk p) (p.obj.map zj)):∃D,Vtx (O (zC p)) (O (zk p)) (aF (O (zC p)) (zI (f++[y]))) st.x nV D:=by have⟨D,d⟩:=h.I.vtx (fixI h.c e).b;have q:=num8 e.n1 e.n5;refine⟨D,d.pos,C5 d.le (show vD _ _<=vD _ _ from q.2.2.2.2.2),λv u P o=>?_⟩;have⟨z,g,i⟩:=d.val v u P o;refine⟨z,g,C5 i ?_⟩;have l:(10^38)^(O (zC p)-1)<=nV^(O (zC p)-1):=Nat.pow_le_pow_left eH _;exact C9 _ (Df (C9 _ (CS _ l)) eH)
def U7{a:Nat->Nat->Int}{x:Nat->Rat}{D:Int}(h:Vtx n m a x nV D)(i:∀v,v<n+m->∀j,j<n->(a v j).natAbs<=10^32)(f:1<=n)(g:n<=5){l d:List Rat}(u:∀q∈l,NE (10^10) (10^14) q)(c:O l<=n)(w:O d=n)(o:∀j,j<n->d[j]?=ξ (x j))(hj:j<=O l):Sz 990 (dotR (l.take j) (d.take j)):=by rw[UY w o c hj];have e:=zp2 f g (k:=j) (r:=O l) Z c;exact(h.dot i u c Z).sz e.1 e.2
end
end
section
variable {n m V w r E Q B k N:Nat}{low:Bool}{f0 f y t M:Nat->Rat}{nb:Nat->Nat}{lo hi:Nat->Option Rat}{σ q g p:Rat}{a:Nat->Nat->Int}{L:(Nat->Rat)->Prop}{s:PS}
theorem QC(d:w<V):(Kc V λv=>Ke f w q v*y v)=(Kc V λv=>f v*y v)+(q-f w)*y w:=by have e:Kc V (λc=>if c=w then 0 else Ke f w q c*y c)=Kc V (λc=>if c=w then 0 else f c*y c):=yg λc _=>(by grind [vi]);grind [uM,Ke,qM]
def Ld(f0:Nat->Rat)(nb:Nat->Nat)(t:Nat->Rat):Nat->Nat->Rat
 |0=>f0
 |k+1=>Ke (Ld f0 nb t k) (nb k) (t k)
def NY{v:Nat}:∀{k:Nat},(∀c,c<k->nb c≠v)->Ld f0 nb t k v=f0 v
 |0,_=>rfl
 |k+1,h=>(vi λe=>h k (Fi k) e.symm).trans (NY λc hc=>h c (Nat.lt_succ_of_lt hc))
def QD(hj:∀c c',c<n->c'<n->nb c=nb c'->c=c'){c:Nat}:∀{k:Nat},k<=n->c<k->Ld f0 nb t k (nb c)=t c
 |k+1,hk,hc=>by
  by_cases e:c=k
  .subst e;exact qM
  exact(vi λh=>e (hj _ _ Z Z h)).trans (QD hj Z Z)
theorem QE(hj:∀c c',c<n->c'<n->nb c=nb c'->c=c')(i:∀c,c<n->nb c<V)(d:∀c,c<n->f0 (nb c)=0):∀k,k<=n->(Kc V λv=>Ld f0 nb t k v*y v)=(Kc V λv=>f0 v*y v)+Kc k λc=>t c*y (nb c)
 |0,_=>(Gc _).symm
 |k+1,hk=>by
  have h1:Ld f0 nb t k (nb k)=0:=(NY λc j h=>by have:=hj _ _ Z Z h;omega).trans (d k Z);have e:=QC (f:=Ld f0 nb t k) (q:=t k) (y:=y) (i k Z);rw[h1,QE hj i d k Z]at e;refine e.trans ?_;show _=_+(Kc k (λc=>t c*y (nb c))+t k*y (nb k))
  grind
structure Wei (n m:Nat)(lo hi:Nat->Option Rat)(L:(Nat->Rat)->Prop)(M b:Nat->Rat)(κ:Rat):Prop where
 sum:∀y,L y->(Kc (n+m) λv=>M v*y v)=κ*y (n+m)
 pos:∀v,v<n+m->0<M v->lo v=ξ (b v)
 neg:∀v,v<n+m->M v<0->hi v=ξ (b v)
section
variable {b:Nat->Rat}
theorem Mz{t d:Rat}(c:0<d):(0<t/d↔0<t)/\(t/d<0↔t<0):=by have h:=EU (a:=t) (b:=d) (λe=>by rw[e]at c;exact E2 c);constructor<;>constructor<;>intro q;rw[<-h];exact Fy q c;grind [xY,FK.2,DQ];rw[<-h];have:=Fy (a:= -(t/d)) aD c;grind;exact(yq (show t/d*d<0 by rw[h];exact q)).elim (λe=>BO e.2 (FK.2 (DQ c))) (·.1)
theorem PInv.wei(h:PInv n m a lo hi L s)(K:∀c u,c<n->¬ent m lo hi s u c)(Z1:0<σ):Wei n m lo hi L (Ld (λ_=>0) s.nb (λc=>(s.T m c:Rat)/s.d/σ) n) s.x σ⁻¹ :=by
 have J:=h.toPB.dpos;have G:∀v,v<n+m->∀(P:Rat->Prop),¬P 0->P (Ld (λ_=>0) s.nb (λc=>(s.T m c:Rat)/s.d/σ) n v)->∃c,c<n/\s.nb c=v/\P ((s.T m c:Rat)/s.d/σ):=λv D P R F=>(by obtain⟨c,e,rfl⟩|⟨i,hi,rfl⟩:=h.cov v D;rw[QD h.inj (Ed n) e]at F;exact⟨c,e,ω,F⟩;rw[NY λc e=>h.dis c i e hi]at F;exact BO F R);refine⟨λy S=>?_,λv D I=>?_,λv D I=>?_⟩;rw[QE h.inj h.nv (λ_ _=>rfl) n CG,Qn λj _=>ES _,Js];have o:=(h.rep y).1 S m (Ed m);rw[h.bm]at o;have A:(Kc n λc=>(s.T m c:Rat)/s.d/σ*y (s.nb c))=Kc n λc=>(s.d:Rat)⁻¹ *σ⁻¹ *((s.T m c:Rat)*y (s.nb c)):=yg λc _=>by rw[Ge,Ge];grind
 rw[A,wL,<-o];grind;obtain⟨c,e,rfl,o⟩:=G v D (0< ·) E2 I;have A:=Rat.intCast_pos.1 ((Mz J).1.1 ((Mz Z1).1.1 o));have⟨l,C,H⟩:=mO λq=>K c χ e ⟨A,q⟩;rw[C,G5 ((h.bd c e).1.1 l C) H];obtain⟨c,e,rfl,o⟩:=G v D (· <0) E2 I;have A:=aE.1 ((Mz J).2.1 ((Mz Z1).2.1 o));have⟨u,C,H⟩:=mP λq=>K c φ e ⟨A,q⟩;rw[C,G5 H ((h.bd c e).1.2 u C)]
def zzd(b:Bool):Kk b*Kk b=1/\Kk (!b)= -Kk b:=by cases b<;>decide+kernel
theorem Vio.wei(h:PInv n m a lo hi L s)(hv:Vio m lo hi s r low g)(G:∀c,c<n->¬suit lo hi (rdOf m s r 0 low) c):Wei n m lo hi L (Ld (Ke (λ_=>0) (s.bs r) (Kk low)) s.nb (λc=>(s.T r c:Rat)/s.d*Kk (!low)) n) (Ke s.x (s.bs r) (s.x (s.bs r)+g)) 0/\0<Kk low*g:=by
 have H:=h.toPB.dpos;have R:=hv.hr;have J:∀c,c<n->s.nb c≠s.bs r:=λc e=>h.dis c r e R;have C:=hv.v;unfold Viol at C;unfold suit rdOf at G;have I:∀v,v<n+m->∀(P:Rat->Prop),¬P 0->P (Ld (Ke (λ_=>0) (s.bs r) (Kk low)) s.nb (λc=>(s.T r c:Rat)/s.d*Kk (!low)) n v)->(∃c,c<n/\s.nb c=v/\P ((s.T r c:Rat)/s.d*Kk (!low)))\/s.bs r=v/\P (Kk low):=λv hv P W K=>(by obtain⟨c,e,rfl⟩|⟨i,hi,rfl⟩:=h.cov v hv;rw[QD h.inj (Ed n) e]at K;exact .inl ⟨c,e,ω,K⟩;rw[NY λc e=>h.dis c i e hi]at K;grind [qM,vi]);have S:0<Kk low*g:=by
  cases low with
  |true=>rw[Cx rfl]at C;have⟨l,_,D,A⟩:=C;show 0<1*g;grind
  |false=>rw[Cs Ep]at C;have⟨l,_,D,A⟩:=C;show 0< -1*g;grind
 refine⟨⟨λy Z4=>?_,λv hv Z1=>?_,λv hv Z1=>?_⟩,S⟩;rw[QE h.inj h.nv (λc e=>vi (J c e)) n CG,QC (h.bv r R),Qn λj _=>ES _];have o:=(h.rep y).1 Z4 r (D9 R);have D:(Kc n λc=>(s.T r c:Rat)/s.d*Kk (!low)*y (s.nb c))=Kc n λc=>(s.d:Rat)⁻¹ *Kk (!low)*((s.T r c:Rat)*y (s.nb c)):=yg λc _=>by rw[Ge];grind
 rw[D,wL,<-o,(zzd low).2];grind;obtain⟨c,e,rfl,o⟩|⟨rfl,o⟩:=I v hv (0< ·) E2 Z1;rw[vi (J c e)];have F:∃l,lo (s.nb c)=ξ l/\s.x (s.nb c)<=l:=mO λq=>by
  cases low with
  |true=>exact G c e (.inr ⟨(Mz H).2.1 (by have o:0<(s.T r c:Rat)/s.d* -1:=o;grind),q⟩)
  |false=>exact G c e (.inr ⟨(Mz H).1.1 (by have o:0<(s.T r c:Rat)/s.d*1:=o;grind),q⟩)
 have⟨l,A,F⟩:=F;rw[A,G5 ((h.bd c e).1.1 l A) F];cases low with
 |true=>rw[Cx rfl]at C;have⟨l,D,_,A⟩:=C;rw[qM,D];grind
 |false=>exact BO o zd
 obtain⟨c,e,rfl,o⟩|⟨rfl,o⟩:=I v hv (· <0) E2 Z1;rw[vi (J c e)];have F:∃u,hi (s.nb c)=ξ u/\u<=s.x (s.nb c):=mP λq=>by
  cases low with
  |true=>exact G c e (.inl ⟨(Mz H).1.1 (by have o:(s.T r c:Rat)/s.d* -1<0:=o;grind),q⟩)
  |false=>exact G c e (.inl ⟨(Mz H).2.1 (by have o:(s.T r c:Rat)/s.d*1<0:=o;grind),q⟩)
 have⟨u,A,F⟩:=F;rw[A,G5 F ((h.bd c e).1.2 u A)];cases low with
 |true=>exact BO o zd
 |false=>rw[Cs Ep]at C;have⟨l,D,_,A⟩:=C;rw[qM,D];grind
theorem zyv{lo hi:Option Rat}{x d:Rat}(h:∀q:Rat,0<q->(∀l,lo=ξ l->l<=x+q*d)/\∀u,hi=ξ u->x+q*d<=u):(∀l,lo=ξ l->0<=d)/\∀u,hi=ξ u->d<=0:=by
 have i:∀c e:Rat,0<e->(∀q:Rat,0<q->q*e<=c)->False:=λc e v h=>by
  have D:=h (ab c/e+1) (by
   have:0<=ab c:=by unfold ab;split<;>grind
   have:=GS this (DQ (Rat.inv_pos.2 v));rw[Ge];grind)
  grind [ab,Rat.add_mul,EU,E2]
 refine⟨λl A=>FK.1 λo=>i (x-l) (-d) aD λq j=>?_,λu C=>FK.1 λo=>i (u-x) d o λq j=>?_⟩;have:=(h q j).1 l A;grind;have:=(h q j).2 u C;grind
end
def PZ(E Qb B:Nat)(p:Rat):Prop:=∃Q:Nat,0<Q/\Q<=Qb/\∃w:Int,((E*Q:Nat):Rat)*p=w/\w.natAbs<=E*Q*B
section
variable {b:Nat}{t:Rat}
theorem PZ.add(h:PZ E Q B p)(h':PZ E k b t):PZ E (Q*k) (B+b) (p+t):=by have⟨c,u,v,x,i,A⟩:=h;have⟨d,j,l,y,e,o⟩:=h';refine⟨c*d,EJ u j,Df v l,d*x+c*y,?_,?_⟩;simp only[G7,Rat.intCast_add,DA,Ds]at i e⊢;rw[<-i,<-e];grind;refine C5 (Int.natAbs_add_le _ _) ?_;rw[Dz,Dz,C4,C4];have C:=C9 d A;have D:=C9 c o;grind
def PZ.zero:PZ E 1 0 0:=⟨1,IY,CG,0,by rw[FC];rfl,CH⟩
def PZ.sum{f:Nat->Rat}(h:∀i,i<N->PZ E k b (f i)):∀j,j<=N->PZ E (k^j) (j*b) (Kc j f)
 |0,_=>by rw[EG,D2];exact PZ.zero
 |j+1,hj=>by rw[Db,EM];exact(PZ.sum h j Z).add (h j Z)
def PZ.mono{d c:Nat}(h:PZ E Q B p)(u:Q<=d)(o:B<=c):PZ E d c p:=by have⟨q,e,i,w,j,l⟩:=h;exact⟨q,e,C5 i u,w,j,C5 l (C9 _ o)⟩
def PZ.qb(h:PZ E Q B p)(l:0<E):QB (E*Q*B) (E*Q) p:=by have⟨q,d,e,w,i,j⟩:=h;have c:=C9 E e;exact⟨w,(E*q:Nat),by exact_mod_cast EJ l d,by rw[Ds];exact i,C5 j (CS _ c),by rw[C4];exact c⟩
theorem PZ.mul{W:Nat}{M c:Rat}(l:0<E)(o:∃w:Int,(E:Rat)*M=w/\w.natAbs<=W)(u:∃(q:Nat) (z:Int),0<q/\q<=k/\(q:Rat)*c=z/\z.natAbs<=q*B):PZ E k (W*B) (M*c):=by have⟨w,D,j⟩:=o;have⟨q,z,d,e,C,i⟩:=u;refine⟨q,d,e,w*z,?_,?_⟩;grind;rw[Dz];have v:=Df j i;have A:=ER (W*(q*B)) l;grind
end
end
section
open Go Go.GL
variable {h h':HF}{co cr lo lr cx cy lx ly cu cw lu lw c b m j n0 i a cc lc c1 c2 f1 g1 l1 nt kk fq gq lq bytes L k N cap bt sz n' f2 kA l2 lA l P E B:Nat}{ao ar ax ay au aw az ac a1 e1 aq eq a2 aA:Option Addr}{rs ds:List SideD}{q κ s g:Rat}{ob xs ys qs ms:List Rat}{st:PS}{ops r:List Oper}{low b1 dq b2:Bool}{hi V:List UInt8}{bz:List (Nat×List Int)}{e ty xT:TypeId}{w:List Nat}{Q:SV->Prop}{o:Oper}{d:Tmp}{y:Nat×List Int}{M:Nat->Rat}{ρ' ρ:Ren}{ik' ik:IntKind}{α D:Type}{cs:List ψ}{al ld:List (Nat×Nat)}{ef:List (Nat×HF×List Nat)}{z:ψ}{x:Operand}{S:List (List UInt8)}
section
variable {len:Nat}{sT:TypeId}
def OQ(h:HF)(n b:Nat)(qs:List Rat):Prop:=b<3*n/\∃C e,h b=ξ (.row C e)/\C.all nu=φ/\Rec 4 (λc q=>ratP c q h n) C qs
def ratP.t{h h':HF}{n n':Nat}{c:List ψ}(r:ratP c q h n)(t:Tr n h n' h':=by exact zt):ratP c q h' n':=by have⟨b,a,l,k,d,e,f,g,e1,i,j⟩:=r;exact⟨b,a,l,k,d,e,f,g,e1,i.t t,j.t t⟩
def O5{b:Nat}{h h':HF}(t:h' b=h b:=by(repeat (first|exact rfl|(apply J9.zz;assumption;omega)|(apply Kx.zz;assumption;omega)|(apply ExtB.zz;assumption;omega;(simp only[List.mem_cons,List.not_mem_nil,or_false,not_false_eq_true]<;>omega))))):h' b=h b:=t
section
variable {n:Nat}
def OQ.go(o:OQ h n b qs)(t:Tr n h n' h')(e:h' b=h b):OQ h' n' b qs:=by have⟨g,C,e1,a,c,f⟩:=o;exact⟨Bs,C,e1,e.trans a,c,f.mono λ_ _ r=>r.t t⟩
def OQ.as{a:List Rat}(o:OQ h n b qs)(e:qs=a):OQ h n b a:=e▸o
def OQ.sl(o:OQ h n b qs)(l:len=O qs)(g:len<=cap):QS h n (Y (ξ ⟨b,0,θ⟩) len cap) qs:=by have⟨f,C,e1,c,p,a⟩:=o;have:=a.len;subst l;exact⟨C,.at_ f c ω g Z aD,a⟩
def OQ.at(o:OQ h n b qs)(hj:qs[j]?=ξ q):∃b1 a1 l1 c1 c e1 f1 g1,At h b (0+j*4) [U b1,Y a1 l1 c1,U c,Y e1 f1 g1]/\IW h n b1 a1 l1 c1 q.num/\IW h n c e1 f1 g1 (denZ q):=by have f:=(CQ.1 hj).1;have⟨_,_,b1,a1,l1,c1,c,e1,f1,g1,e,_,_,a,i,j⟩:=QS.at (o.sl ω CG) hj;injection e with e;injection e with e2 e3;subst e2 e3;exact⟨b1,a1,l1,c1,c,e1,f1,g1,a,i,j⟩
theorem Rec.set{P:List ψ->D->Prop}{a:List D}(r:Rec sz P cs a){c:List ψ}{d:D}(g:O c=sz)(l:P c d):∀{j:Nat},j<O a->Rec sz P (zu cs (j*sz) c) (a.set j d):=by
 induction r with
 |nil=>intro j f;cases f
 | @cons c1 cs d1 a hl hp1 hr ih=>
  intro j f;cases j with
  |zero=>
   have e:zu (c1++cs) (0*sz) c=c++cs:=(by unfold zu;rw[D2,EP,DP,Dd,g,<-hl,List.drop_left]);rw[e];exact .cons g l hr
  |succ j=>
   have e:zu (c1++cs) ((j+1)*sz) c=c1++zu cs (j*sz) c:=by grind [zu,EM,Ee,List.take_append,CR,E1,Dp,GA,List.drop_append,Fa]
   rw[e];exact .cons hl hp1 (ih (by simpa using f))
def zwn{c:List ψ}{o:Nat}(h:cs.all nu=φ)(f:c.all nu=φ):(zu cs o c).all nu=φ:=by rw[List.all_eq_true]at*;intro x a;unfold zu at a;obtain a|a:=DW.1 a;exact h x (Dx a);obtain a|a:=DW.1 a;exact f x a;exact h x (E5 a)
def OQ.set{c C:List ψ}(o:OQ h n b qs)(g:h b=ξ (.row C e))(hj:j<O qs)(r:ratP c q h n)(p:h' b=ξ (.row (zu C (j*4) c) e))(y:Only b h h'):OQ h' n b (qs.set j q)/\Kx b h h':=by have⟨v,B,G,a,f,u⟩:=o;rw[g]at a;cases a;have l:Kx b h h':=⟨y,_,_,g,f⟩;have t:Tr n h n h':=FT l (Eo _ _);have A:=r;obtain⟨b1,a1,l1,c1,F,e1,f1,g1,rfl,_,_⟩:=A;exact⟨⟨v,_,_,p,zwn f ω,(u.mono λ_ _ r=>r.t t).set ω (r.t t) hj⟩,l⟩
theorem OQ.zeros(hb:b<3*n)(a:h b=ξ (.row (rep L [U χ,η,U χ,η]) e)):OQ h n b (CO L 0):=by
 have z:ratP [U χ,η,U χ,η] 0 h n:=⟨_,_,_,_,_,_,_,_,rfl,EB _ _,EB _ _⟩;refine⟨hb,_,_,a,?_,?_⟩
 .clear a;induction L with
  |zero=>rfl
  |succ L ih=>show List.all (_++rep L _) nu=φ;rw[List.all_append,ih];rfl
 clear a;induction L with
 |zero=>exact .nil
 |succ L ih=>exact .cons rfl z ih
theorem NS.zeros(hb:b<3*n)(a:h b=ξ (.row (rep L [U χ,η,U χ,η]) e)):NS h n (Y (ξ ⟨b,0,θ⟩) L L) (CO L 0):=by
 have z:numP [U χ,η,U χ,η] 0 h n:=⟨_,_,_,_,_,_,_,_,rfl,Jv _ _,Jv _ _⟩;have r:Rec 4 (λc q=>numP c q h n) (rep L [U χ,η,U χ,η]) (CO L 0):=by
  clear a;induction L with
  |zero=>exact .nil
  |succ L ih=>exact .cons rfl z ih
 have:=r.len;rw[Du]at this;exact⟨_,.at_ hb a rfl CG Z aD,r⟩
end
section
variable {t:TF}{n:Nat}
theorem sM{l c:Operand}(k:∀h',h' (3*n+2)=ξ (.row (rep L [.bool χ,.slice θ 0 0,.bool χ,.slice θ 0 0]) e)->J9 n h h'->EO (KI kk n0 nt) ops r ⟨upd t d (.slice (ξ ⟨3*n+2,0,θ⟩) L L),h',n+1,w⟩ Q)(a:zh ops t o=φ:=by rfl)(hd:o.dst=ξ d:=by rfl)(hn:zv nt (ξ d)=φ:=by rfl)(ho:o.op=.makeSlice ty l c:=by rfl)(hu:Kj.und ty=ξ (.slice e):=by rfl)(hi:Kj.inf e=ξ (4,bt,z):=by rfl)(hz:zn z=[.bool χ,.slice θ 0 0,.bool χ,.slice θ 0 0]:=by rfl)(hl:J8 t l=.int ik (L:Int):=by rfl)(hc:J8 t c=.int ik' (L:Int):=by rfl)(h1:L<=L/\L*bt<=1099511627776/\L<=1099511627776:=by omega):EO (KI kk n0 nt) ops (o::r) ⟨t,h,n,w⟩ Q:=
 vB ⟨a,hd,hn,ho,hu,hi,hl,hc,(by rw[hz];rfl)⟩ h1 (k _ (by grind [zg]) (J9.upd Z))
def sY{s:Operand}{b u m:Nat}{a:Option Addr}{qs cs:List Rat}(M:OQ h n b qs)(i:QS h n (.slice a m c2) cs)(hm:m=qs.length)(B:3*n0<=b)(k:∀h',OQ h' n b cs->Kx b h h'->EO (KI kk n0 nt) ops r ⟨upd t d (.int .i64 (m:Int)),h',n,w⟩ Q)(K:zh ops t o=φ:=by rfl)(hd:o.dst=ξ d:=by rfl)(hn:zv nt (ξ d)=φ:=by rfl)(ho:o.op=.call {callee:=.builtin .copy,args:=#[s,x],argTypes:=#[sT,xT]}:=by rfl)(hu:Kj.und sT=ξ (.slice e):=by rfl)(hi:Kj.inf e=ξ (4,bytes,z):=by rfl)(v:J8 t s=.slice (ξ ⟨b,0,θ⟩) u cap:=by rfl)(hx:J8 t x=.slice a m c2:=by rfl)(hd2:m<=u:=by omega):EO (KI kk n0 nt) ops (o::r) ⟨t,h,n,w⟩ Q:=by
 have⟨I,C,e1,g1,G,H⟩:=M;have J:=i.len;have⟨p,N,y⟩:=i;have l1:=H.len;have Z1:=y.len;have A:∀{cs:List ψ} {F:List Rat},Rec 4 (λc q=>ratP c q h n) cs F->cs.all nu=φ/\ones cs=φ:=by
  intro cs F r;induction r with
  |nil=>exact⟨ω,ω⟩
  |cons _ hp _ ih=>
   obtain⟨b,a,l,k,d,e,f,g,rfl,_,_⟩:=hp;exact⟨by rw[List.all_append,ih.1];rfl,ih.2⟩
 refine lZ ⟨K,hd,hn,ho,hu,hi,v⟩ (by rw[hx];exact uX N) hd2 g1 Z (A y).2 B ?_;rw[List.drop_eq_nil_of_le Z,List.append_nil];have v:Kx b h (upd h b (ξ (.row p e1))):=⟨λc hc=>zm hc,_,_,g1,G⟩;have t:Tr n h n (upd h b (ξ (.row p e1))):=Tr.s v (Tr.refl _ _);exact k _ ⟨I,p,e1,zg _ _ _,(A y).1,y.mono λ_ _ r=>r.t t⟩ v
end
section
variable {ms:List Nat}{t:TF}{n:Nat}
def dM{l c:Operand}(k:∀h',h' (3*n+2)=ξ (.row (rep L [.bool χ,.slice θ 0 0,.bool χ,.slice θ 0 0]) e)->J9 n h h'->ED (KI kk n0 nt) ops r ms (i+1) ⟨⟨upd t d (.slice (ξ ⟨3*n+2,0,θ⟩) L L),h',n+1,w⟩,(i,3*n+2)::al,ld,ef⟩ Q)(p:zh ops t o=φ:=by rfl)(hd:o.dst=ξ d:=by rfl)(hn:zv nt (ξ d)=φ:=by rfl)(ho:o.op=.makeSlice ty l c:=by rfl)(hu:Kj.und ty=ξ (.slice e):=by rfl)(hi:Kj.inf e=ξ (4,bt,z):=by rfl)(hz:zn z=[.bool χ,.slice θ 0 0,.bool χ,.slice θ 0 0]:=by rfl)(hl:J8 t l=.int ik (L:Int):=by rfl)(hc:J8 t c=.int ik' (L:Int):=by rfl)(h1:L<=L/\L*bt<=1099511627776/\L<=1099511627776:=by omega):ED (KI kk n0 nt) ops (o::r) (m::ms) i ⟨⟨t,h,n,w⟩,al,ld,ef⟩ Q:=by
 have g:Kr Kj o.op (J8 t)=ξ ⟨rep L (zn z),e,χ,ξ (L,L)⟩:=by
  rw[ho];show tn Kj ty (J8 t l) (J8 t c)=_;rw[hl,hc];have c1:=Nat.ble_eq_true_of_le h1.1;have c2:=Nat.ble_eq_true_of_le h1.2.1;have a:=Nat.ble_eq_true_of_le h1.2.2;have f:Nat.beq (zn z).length 4=φ:=by rw[hz];rfl
  show(match Kj.und ty,Value.int ik (.ofNat L),Value.int ik' (.ofNat L)with|some (.slice e),.int _ (.ofNat len),.int _ (.ofNat cap)=>_|_,_,_=>θ)=_;simp only[hu,hi,c1,c2,a,f,Bool.and_self]
 exact Px p hd hn (by rw[ho];rfl) g (k _ (by rw[<-hz];exact zg _ _ _) (J9.upd (show 3*n<=3*n+2 from Z)))
def dO{a:Operand}{b:Nat}{qs:List Rat}{f:Bool}(g:OQ h n b qs)(hj:j<qs.length)(A:IW h n b1 a1 l1 c1 q.num)(B:IW h n f e1 f1 g1 (denZ q))(k:∀h',OQ h' n b (qs.set j q)->Kx b h h'->ED (KI kk n0 nt) ops r ms (i+1) ⟨⟨t,h',n,w⟩,al,ld,(i,h,[b])::ef⟩ Q)(y:zh ops t o=φ:=by rfl)(hd:o.dst=θ:=by rfl)(ho:o.op=.store ty a x:=by rfl)(hi:Kj.inf ty=ξ (4,bt,z):=by rfl)(ha:J8 t a=.pointer (ξ ⟨b,0+j*4,θ⟩):=by rfl)(hx:J8 t x=.agg #[.bool b1,.slice a1 l1 c1,.bool f,.slice e1 f1 g1]:=by rfl)(hnew:3*n0<=b:=by omega)(h1:xq m ef=φ:=by rfl)(h2:xJ m al=φ:=by rfl)(h3:ya m [b] ld=φ:=by first|exact rfl|(repeat (first|exact rfl|(apply SW;omega)))):ED (KI kk n0 nt) ops (o::r) (m::ms) i ⟨⟨t,h,n,w⟩,al,ld,ef⟩ Q:=by have l:=g;have⟨G,C,e,p,H,F⟩:=g;have v:=F.len;refine jX (cs:=[.bool b1,.slice a1 l1 c1,.bool f,.slice e1 f1 g1]) ⟨y,hd,ho,hi,ha,(by rw[hx];rfl),ω⟩ ω p Z hnew ⟨h1,h2,h3⟩ ?_;rw[Nat.zero_add];have s:=l.set p hj ⟨_,_,_,_,_,_,_,_,ω,A,B⟩ (zg _ _ _) (λc u=>zm u);exact k _ s.1 s.2
end
def cutS{α:Type}(live:α->List (Nat×ψ))(I:α->HF->Nat->List Nat->Prop)(s:SV):Prop:=∃z,tJ s.t (live z)/\I z s.h s.n s.w
def NZ{a:α->List (Nat×ψ)}{I:α->HF->Nat->List Nat->Prop}{s:SV}(z:α)(f:I z s.h s.n s.w)(c:tJ s.t (a z):=by(repeat (first|exact trivial|refine⟨ω,?_⟩))):cutS a I s:=⟨z,c,f⟩
def U8{X:CtxF}{ops r:List Oper}{s:SV}{Q:SV->Prop}(a:α->List (Nat×ψ))(I:α->HF->Nat->List Nat->Prop)(l:EO X ops r s (cutS a I))(hb:∀z t h n w,I z h n w->Q ⟨gk t (a z),h,n,w⟩):EO X ops r s Q:=
 Xy l λc⟨z,f,g⟩=>by
  have:=hb z c.t c.h c.n c.w g;rw[wU f]at this;exact this
end
section
variable {cq n:Nat}{sq:Bool}
def U9(k:Nat){x1 m x2 o:Bool}{p:Option Addr}{s:Nat}{lo:List UInt8}(v1:x1=φ↔lo≠[])(i1:IW h n b1 a1 l1 c1 (zj lo).num)(j1:IW h n m e1 f1 g1 (denZ (zj lo)))(v2:x2=φ↔hi≠[])(i2:IW h n b2 a2 l2 c2 (zj hi).num)(j2:IW h n o p f2 s (denZ (zj hi)))(j:IW h n sq aq lq cq q.num)(l:IW h n dq eq fq gq (denZ q)):VF (Ka (k+3)) 82 [.agg #[Y aA lA kA,U x1,U b1,Y a1 l1 c1,U m,Y e1 f1 g1,U x2,U b2,Y a2 l2 c2,U o,Y p f2 s],.agg #[U sq,Y aq lq cq,U dq,Y eq fq gq]] h n λv=>∃b:Bool,v=U b/\(b=φ↔dirB q lo hi):=by
 refine zO R4<|zG ?_;refine sB [Y aA lA kA,U x1,U b1,Y a1 l1 c1,U m,Y e1 f1 g1,U x2,U b2,Y a2 l2 c2,U o,Y p f2 s] λu I P=>?_;refine sB [U sq,Y aq lq cq,U dq,Y eq fq gq] λw J R=>?_;refine zG ?_;cases x1;refine zG ?_;cases x2;refine zf ?_;exact Kp (⟨.inl (Lw v1),.inl (Lw v2)⟩);refine zG ?_;refine sC (fD _ j.x l.x) ?_;rintro _ y D⟨K,rfl,g⟩ W S;obtain⟨rfl,g⟩|⟨rfl,g⟩|⟨rfl,g⟩:=g;refine zf ?_;exact Kp (⟨.inl (Lw v1),.inr Z⟩);refine zf ?_;exact Kp (⟨.inl (Lw v1),.inr Z⟩);refine zf ?_;exact Kf λd=>by obtain d|d:=d.2;exact BO d (neOf v2);omega
 refine zG ?_;refine sC (fD _ j.x l.x) ?_;rintro _ A F⟨M,rfl,i⟩ Z3 T;obtain⟨rfl,i⟩|⟨rfl,i⟩|⟨rfl,i⟩:=i;refine zf ?_;exact Kf λd=>by obtain d|d:=d.1;exact BO d (neOf v1);omega
 refine zG ?_;cases x2;refine zf ?_;exact Kp (⟨.inr Z,.inl (Lw v2)⟩);refine zG ?_;refine sC (fD _ j.x l.x) ?_;rintro _ B G⟨N,rfl,e⟩ Z0 Z4;obtain⟨rfl,e⟩|⟨rfl,e⟩|⟨rfl,e⟩:=e;exact BO e Z;refine zf ?_;exact Kp (⟨.inr Z,.inr Z⟩);exact BO e Z;refine zG ?_;cases x2;refine zf ?_;exact Kp (⟨.inr Z,.inl (Lw v2)⟩);refine zG ?_;refine sC (fD _ j.x l.x) ?_;rintro _ C H⟨Z1,rfl,f⟩ a0 V;obtain⟨rfl,f⟩|⟨rfl,f⟩|⟨rfl,f⟩:=f;exact BO f Z;exact BO f Z;refine zf ?_;exact Kf λd=>by obtain d|d:=d.2;exact BO d (neOf v2);omega
def zz6(k:Nat)(g:GG h n){cs:List SideD}(io:QS h n (Y ao lo co) ob)(ir:KC h n (Y ar lr cr) rs)(ic:KC h n (Y ac lc cc) cs)(ix:QS h n (Y ax lx cx) xs)(dp:Mx a rs)(dn:Mx a cs)(B:Qx a L rs)(bm:∀q∈xs,Sz b q)(d0:O cs<=O xs)(hL:L<=O xs)(cz:O cs<1000000/\O rs<1000000)(b5:L<1000000)(hc:∀d∈rs,∀j,j<=O d.A->Sz c (dotR (d.A.take j) (xs.take j)))(cw:c+b+a<=1900):VF (Ka (k+13)) 77 [.agg #[Y ao lo co,Y ar lr cr,Y ac lc cc],Y ax lx cx,.func (.func 82) #[] #[]] h n λv=>∃b:Bool,v=U b/\(b=φ↔hS (λd q=>dirB q d.lo d.hi) cs xs/\∀d∈rs,rowH dirB xs d):=by have d7:=ir.len;have d6:=ic.len;have d8:=ix.len;refine zO R4<|zG ?_;refine sB [Y ao lo co,Y ar lr cr,Y ac lc cc] λb3 di du=>?_;refine zG ?_;refine sF (α:=Nat) (λz=>[(1,Y ax lx cx),(2,.func (.func 82) #[] #[]),(3,ι (3*n+2)),(12,Y ac lc cc),(13,CJ .i64 (lc:Int)),(14,CJ .i64 (z:Int))]) (λz h' n' w'=>w'=[]/\n+1<=n'/\ExtB (n+1) [] b3 h'/\z<=O cs/\hT (λd q=>dirB q d.lo d.hi) cs xs z) (λz=>O cs-z) 0 ⟨ω,CG,El _ _ _,CH,(hT.zero _ _)⟩ ?_;rintro j t b4 a5 _⟨rfl,e2,c0,hj,f⟩;(try dsimp only at hj f);refine zG ?_;by_cases q13:(j:Int)<(lc:Int);refine zG ?_;obtain⟨cd,s⟩:∃d,(cs)[j]?=ξ d:=⟨_,CK Z⟩;have⟨d1,dd,a6,ah,af,aa,an,al,be,au,bq,bs,bu,bw,o,H,F,R,J,T,V,Z3,a0,aw,bg,bj,bn,bz,aj,b6,ba,C,M,Z1⟩:=KC.at ic s;refine sI aw bj ?_;refine sL bn bg 0 ?_;refine sA λck dj dv=>?_;refine zG ?_;refine sS [Y a6 ah af,U aa,U an,Y al be au,U bq,Y bs bu bw,U o,U H,Y F R J,U T,Y V Z3 a0] λcl dk de=>?_;refine mN ?_;refine yQ (v:=.func (.func 82) #[] #[]) ω ω ω ω rfl<|zH ?_;obtain⟨ce,u⟩:∃d,(xs)[j]?=ξ d:=⟨_,CK Z⟩;have⟨d2,df,c6,c4,d4,ca,dr,ds,dt,dw,az,bh,bk,bo,b7,bb⟩:=QS.at ix u;refine dI az bk ?_;refine dL bo bh 0 ?_;refine dC ((U9 _ aj b6.x ba.x C M.x Z1.x b7.x bb.x).cx) ?_;rintro _ cm d9⟨c7,rfl,a8⟩ e3 dx;obtain⟨rfl,w⟩|⟨rfl,w⟩:=Kg a8;refine zf ?_;exact Kf λm=>BO (m.1 _ _ _ s u) w;refine zJ ?_;exact sK (j+1) ⟨ω,Z,zy,Z,(f.step s u w)⟩;refine zG ?_;have ad:=f.all (.inl Z);refine zG ?_;refine sF (α:=Nat) (λz=>[(1,Y ax lx cx),(2,.func (.func 82) #[] #[]),(29,Y ar lr cr),(30,CJ .i64 (lr:Int)),(31,CJ .i64 (z:Int))]) (λz h' n' w'=>w'=[]/\a5<=n'/\ExtB a5 [] b4 h'/\z<=O rs/\∀d∈rs.take z,rowH dirB xs d) (λz=>O rs-z) 0 ⟨ω,CG,El _ _ _,CH,(λr hr=>BO hr eF)⟩ ?_;rintro i t cn da _⟨rfl,e4,c3,a4,l⟩;(try dsimp only at a4 l);refine zG ?_;by_cases q20:(i:Int)<(lr:Int);refine zG ?_;obtain⟨cf,e⟩:∃d,(rs)[i]?=ξ d:=⟨_,CK Z⟩;have⟨d3,dg,a7,ai,ag,ab,ap,am,bf,av,br,bt,bv,bx,p,I,G,S,K,Z4,W,Z0,a3,b0,bi,bl,bp,ae,ak,b8,bc,D,N,P⟩:=KC.at ir e;refine sI b0 bl ?_;refine sL bp bi 0 ?_;refine sA λcp dl dy=>?_;refine sS [Y a7 ai ag,U ab,U ap,Y am bf av,U br,Y bt bv bx,U p,U I,Y G S K,U Z4,Y W Z0 a3] λct dm dh=>?_;refine mN ?_;refine yQ (v:=.func (.func 82) #[] #[]) ω ω ω ω rfl<|zH ?_;refine dC (Nk _ g.x ae.x ix.x (B _ (CL e)).1 bm (by have:=(B _ (CL e)).2;omega) (hc _ (CL e)) Z (by have:=(B _ (CL e)).2;have:=b5;omega)) ?_;rintro _ cu db⟨c8,c5,d5,cb,cg,ch,ci,cj,rfl,b9,bd⟩ e5 dz;refine dC ((U9 _ ak b8.x bc.x D N.x P.x b9 bd).cx) ?_;rintro _ cv dc⟨c9,rfl,a9⟩ e6 e0;obtain⟨rfl,y⟩|⟨rfl,y⟩:=Kg a9;refine zf ?_;exact Kf λm=>BO (m.2 _ (CL e)) y;refine zJ ?_;exact sK (i+1) ⟨ω,Z,zy,Z,(ot l e y)⟩;refine zf ?_;exact Kp (⟨ad,by have m:=l;rw[CR Z]at m;exact m⟩)
def Va(k:Nat)(A:QS h n (Y ax lx cx) xs)(B:QS h n (Y ay ly cy) ys)(K:∀q∈xs,Sz a q)(M:∀q∈ys,Sz b q)(hl:O xs<=O ys)(hb:O xs<1000000)(ad:a+b<=2400):VF (Ka (k+6)) 80 [Y ax lx cx,Y ay ly cy] h n λv=>∃b:Bool,v=U b/\(b=φ↔hS Eq xs ys):=by have ah:=A.len;have ai:=B.len;refine zO R4<|zG ?_;refine sF (α:=Nat) (λz=>[(1,Y ay ly cy),(7,Y ax lx cx),(8,CJ .i64 (lx:Int)),(9,CJ .i64 (z:Int))]) (λz Z4 W Z3=>Z3=[]/\n<=W/\ExtB n [] h Z4/\z<=O xs/\hT Eq xs ys z) (λz=>O xs-z) 0 ⟨ω,CG,El _ _ _,CH,(hT.zero _ _)⟩ ?_;rintro j t a8 aj _⟨rfl,b5,Z0,hj,g⟩;(try dsimp only at hj g);refine zG ?_;by_cases q12:(j:Int)<(lx:Int);refine zG ?_;obtain⟨a6,e⟩:∃d,(xs)[j]?=ξ d:=⟨_,CK Z⟩;have⟨ae,al,o,m,F,p,P,R,S,T,s,G,I,N,w,C⟩:=QS.at A e;refine sI s I ?_;refine sL N G 0 ?_;refine sA λa9 ap b0=>?_;refine zG ?_;refine sS [U o,Y m F p,U P,Y R S T] λaa au am=>?_;refine kh ?_;obtain⟨a7,f⟩:∃d,(ys)[j]?=ξ d:=⟨_,CK Z⟩;have⟨af,an,a3,a0,ag,a5,av,aw,az,b3,u,H,J,Z1,y,D⟩:=QS.at B f;refine dI u J ?_;refine dL Z1 H 0 ?_;refine dC ((zy2 _ w.x C.x y.x D.x (K _ (CL e)) (M _ (CL f)) Z).cx) ?_;rintro _ ab ak⟨a4,rfl,l⟩ b6 b4;obtain⟨rfl,i⟩|⟨rfl,i⟩:=Kg l;refine zf ?_;exact Kf λV=>BO (V _ _ _ e f) i;refine zJ ?_;exact sK (j+1) ⟨ω,Z,zy,Z,(g.step e f i)⟩;refine zf ?_;exact Kp (g.all (.inl Z))
end
section
variable {n:Nat}
def Vb(k:Nat)(g:GG h n){cs:List SideD}(io:QS h n (Y ao lo co) ob)(ir:KC h n (Y ar lr cr) rs)(ic:KC h n (Y ac lc cc) cs)(ix:QS h n (Y ax lx cx) xs)(iy:QS h n (Y ay ly cy) ys)(Z4:∀d∈rs,∀q∈d.A,Sz a q)(Z0:∀q∈xs,Sz b q)(e8:∀q∈ys,Sz b q)(av:∀d∈rs,O d.A=O cs)(dc:O xs=O rs)(dd:O ys=O cs)(db:O cs<1000000/\O rs<1000000)(hz:No c rs xs ys)(hb:c+(a+b)+1<=2496):CX (Ka (k+11)) 81 [.agg #[Y ao lo co,Y ar lr cr,Y ac lc cc],Y ax lx cx,Y ay ly cy] h n λv p s=>∃a l c,v=Y a l c/\QS p s (Y a l c) (KH rs xs ys (O rs) 0):=by have dr:=ir.len;have dq:=ic.len;have ds:=ix.len;have dt:=iy.len;refine zw R4<|zG ?_;refine sB [Y ao lo co,Y ar lr cr,Y ac lc cc] λd5 e3 ei=>?_;refine zG ?_;refine sM λal W ej=>?_;obtain⟨e,eB⟩:∃b,b=3*(n+1)+2:=⟨_,ω⟩;have a2:OQ al (n+1+1) e (CO lc 0):=eB▸OQ.zeros Z W;rw[<-eB];refine zG ?_;refine sY a2 iy.x aD Z λam a3 dv=>?_;refine zG ?_;refine sF (α:=Nat) (λz=>[(1,Y ax lx cx),(6,η),(7,Y (ξ ⟨e,0,θ⟩) lc lc),(20,Y ar lr cr),(21,CJ .i64 (lr:Int)),(22,CJ .i64 (z:Int))]) (λz p s w'=>w'=[]/\n+1+1<=s/\ExtB (n+1+1) [e] am p/\OQ p s e (KH rs xs ys z 0)/\z<=O rs) (λz=>O rs-z) 0 ⟨ω,CG,El _ _ _,(a3.as zwj.symm),CH⟩ ?_;rintro i t an bh _⟨rfl,es,c5,o,hi⟩;(try dsimp only at o hi);refine zG ?_;by_cases q15:(i:Int)<(lr:Int);refine zG ?_;obtain⟨ag,m⟩:∃d,(rs)[i]?=ξ d:=⟨_,CK Z⟩;have⟨dg,dw,D,f,J,a1,ab,a9,ba,ae,bs,bu,bx,c0,F,L,K,N,M,Z1,P,R,S,ah,bc,bj,bn,I,c4,de,df,bw,c2,c3⟩:=KC.at ir m;refine sI ah bj ?_;refine sL bn bc 0 ?_;refine sA λd6 e4 ek=>?_;refine zG ?_;refine sS [Y D f J,U a1,U ab,Y a9 ba ae,U bs,Y bu bx c0,U F,U L,Y K N M,U Z1,Y P R S] λd7 e5 dx=>?_;refine zG ?_;obtain⟨cp,T⟩:∃d,(xs)[i]?=ξ d:=⟨_,CK Z⟩;have⟨dh,dy,cd,c7,dk,cj,e9,ec,ef,el,ai,bd,bk,bo,aw,b4⟩:=QS.at ix T;refine sI ai bk ?_;refine sL bo bd 0 ?_;refine sC (kD _ aw.x b4.x) ?_;rintro _ H B⟨ce,rfl,a0⟩ et em;obtain⟨rfl,Z3⟩|⟨rfl,Z3⟩:=Kg a0;refine zG ?_;have la:=I.len;have lb:=av _ (CL m);have a4:OQ H B e (KH rs xs ys i 0):=o.go zt O5;refine sF (α:=Nat) (λz=>[(1,Y ax lx cx),(6,η),(7,Y (ξ ⟨e,0,θ⟩) lc lc),(8,CJ .i64 (i:Int)),(20,Y ar lr cr),(21,CJ .i64 (lr:Int)),(22,CJ .i64 (i:Int)),(33,Y D f J),(34,CJ .i64 (f:Int)),(35,CJ .i64 (z:Int))]) (λz p s w'=>w'=[]/\B<=s/\ExtB B [e] H p/\OQ p s e (KH rs xs ys i z)/\z<=O ys) (λz=>O ys-z) 0 ⟨ω,CG,El _ _ _,a4,CH⟩ ?_;rintro j t ap V _⟨rfl,eu,c6,C,hj⟩;(try dsimp only at C hj);refine zG ?_;by_cases q23:(j:Int)<(f:Int);refine zG ?_;obtain⟨cq,w⟩:∃d,(ag.A)[j]?=ξ d:=⟨_,CK Z⟩;have⟨di,dz,ad,aa,bb,af,bt,bv,bz,c1,aj,be,bl,bp,az,b5⟩:=QS.at I w;refine sI aj bl ?_;refine sL bp be 0 ?_;refine sA λd8 e6 en=>?_;refine zG ?_;refine sS [U ad,Y aa bb af,U bt,Y bv bz c1] λaq e7 e0=>?_;refine kh ?_;have u:OQ aq (V+1) e (KH rs xs ys i j):=C.go zt O5;obtain⟨ct,G⟩:∃d,(KH rs xs ys i j)[j]?=ξ d:=⟨_,CK (by rw[sa];omega)⟩;have⟨cf,c8,dl,ck,ea,ed,eg,eo,bq,b0,b6⟩:=u.at G;have bf:=u.1;refine dI ω (show j<lc from Z) ?_;refine dL bq bf 0 ?_;refine zH ?_;obtain⟨cu,y⟩:∃d,(xs)[i]?=ξ d:=⟨_,CK Z⟩;have⟨dj,e1,cg,c9,dm,cl,eb,ee,eh,ep,ak,bg,bm,br,b1,b7⟩:=QS.at ix y;refine dI ak bm ?_;refine dL br bg 0 ?_;refine dC (mulQ _ g.x az.x b5.x b1.x b7.x (Z4 _ (CL m) _ (CL w)) (Z0 _ (CL y)) Z) ?_;rintro _ d9 du⟨ch,ca,dn,cm,cv,cz,d1,d3,rfl,b2,b8⟩ ev eq;refine dC (addQ _ g.x b0.t b6.t b2 b8 (Qw hz (.inl Z) _ (CL G)) ((Z4 _ (CL m) _ (CL w)).mul (Z0 _ (CL y))) Z) ?_;rintro _ au bi⟨ci,cb,dp,cn,cw,d0,d2,d4,rfl,b3,b9⟩ ew er;refine dI ω (show j<lc from Z) ?_;have a5:OQ au bi e (KH rs xs ys i j):=u.go zt O5;refine dO (j:=j) a5 (by rw[sa];omega) b3 b9 ?_;intro da a6 e2;have a8:=a6.as (zxk G m w y);refine zG ?_;exact sK (j+1) ⟨ω,Z,zy,a8,Z⟩;refine zG ?_;have oe:=C.as (zwl Z);refine zG ?_;exact sK (i+1) ⟨ω,Z,zy,oe,Z⟩;refine zG ?_;have a7:OQ H B e (KH rs xs ys i 0):=o.go zt O5;exact sK (i+1) ⟨ω,Z,zy,(a7.as (zwk T Z3)),Z⟩;refine zq ?_;exact⟨_,_,_,ω,(o.as aD).sl (by rw[sa];omega) CG⟩
end
def O6(p:LPD)(R C:List (List UInt8))(W:List Rat):Prop:=hS Eq (KH (zk p) (R.map zj) (C.map zj) (O (zk p)) 0) W
def dirP(p:LPD)(Z3:List (List UInt8)):Prop:=hS (λd q=>dirB q d.lo d.hi) (zC p) (Z3.map zj)/\∀d∈zk p,rowH dirB (Z3.map zj) d
structure PR1 (p:LPD)(V:List UInt8)(X Z3 R C:List (List UInt8)):Prop where
 ax:allN X
 lx:O X=O p.obj
 fx:feaP p X
 ar:allN R
 lr:O R=O p.rows
 ac:allN C
 lc:O C=O p.obj
 ly:O Z3=0
 vx:ratT (valQ p X)=V
 bo:bndP p R C
 vb:ratT (bndQ p R C)=V
 co:O6 p R C (p.obj.map zj)
structure PR2 (p:LPD)(V:List UInt8)(X Z3 R C:List (List UInt8)):Prop where
 ar:allN R
 lr:O R=O p.rows
 ac:allN C
 lc:O C=O p.obj
 lx:O X=0
 ly:O Z3=0
 v0:V=[]
 bo:bndP p R C
 sb:0<(bndQ p R C).num
 co:O6 p R C (CO (O p.obj) 0)
structure PR3 (p:LPD)(V:List UInt8)(X Z3 R C:List (List UInt8)):Prop where
 ax:allN X
 lx:O X=O p.obj
 fx:feaP p X
 ay:allN Z3
 ly:O Z3=O p.obj
 lr:O R=0
 lc:O C=0
 v0:V=[]
 sy:(valQ p Z3).num<0
 dy:dirP p Z3
def prv(p:LPD)(o:Int)(V:List UInt8)(X Z3 R C:List (List UInt8)):Prop:=o=1/\PR1 p V X Z3 R C\/o=2/\PR2 p V X Z3 R C\/o=3/\PR3 p V X Z3 R C
section
variable {p:LPD}{o:Int}{X Z3 R C:List (List UInt8)}
def KQ(h:o=1):prv p o V X Z3 R C↔PR1 p V X Z3 R C:=⟨λa=>by obtain a|a|a:=a;exact a.2;omega;omega,λa=>.inl ⟨h,a⟩⟩
def KV(h:o=2):prv p o V X Z3 R C↔PR2 p V X Z3 R C:=⟨λa=>by obtain a|a|a:=a;omega;exact a.2;omega,λa=>.inr (.inl ⟨h,a⟩)⟩
def KR(h:o=3):prv p o V X Z3 R C↔PR3 p V X Z3 R C:=⟨λa=>by obtain a|a|a:=a;omega;omega;exact a.2,λa=>.inr (.inr ⟨h,a⟩)⟩
def PR1.len(y:PR1 p V X Z3 R C):O X=O p.obj/\O R=O p.rows/\O C=O p.obj/\O Z3=0:=⟨y.lx,y.lr,y.lc,y.ly⟩
def PR2.len(y:PR2 p V X Z3 R C):O X=0/\O R=O p.rows/\O C=O p.obj/\O Z3=0/\O V=0:=⟨y.lx,y.lr,y.lc,y.ly,congrArg O y.v0⟩
def PR3.len(y:PR3 p V X Z3 R C):O X=O p.obj/\O R=0/\O C=0/\O Z3=O p.obj/\O V=0:=⟨y.lx,y.lr,y.lc,y.ly,congrArg O y.v0⟩
def N0(h:O S=0):allN S:=λs a=>by rw[CY.1 h]at a;cases a
def O7(h:prv p o V X Z3 R C):allN X/\allN Z3/\allN R/\allN C:=by obtain⟨_,h⟩|⟨_,h⟩|⟨_,h⟩:=h;exact⟨h.ax,N0 h.ly,h.ar,h.ac⟩;exact⟨N0 h.lx,N0 h.ly,h.ar,h.ac⟩;exact⟨h.ax,h.ay,N0 h.lr,N0 h.lc⟩
end
def dotZ(c:Nat)(p:LPD)(X:List Rat):Prop:=(∀j,j<=O (p.obj.map zj)->Sz c (dotR ((p.obj.map zj).take j) (X.take j)))/\∀d∈zk p,∀j,j<=O d.A->Sz c (dotR (d.A.take j) (X.take j))
def dotZ.val{p:LPD}{X:List (List UInt8)}(h:dotZ c p (X.map zj)):Sz c (valQ p X):=by have:=h.1 _ CG;rw[Da]at this;exact this
def sumZ.bnd{p:LPD}{R C:List (List UInt8)}(h:sumZ c (zk p) (zC p) (R.map zj) (C.map zj)):Sz c (bndQ p R C):=by have:=h.2 _ CG;rw[Da]at this;exact this
structure CkZ (p:LPD)(V:List UInt8)(X Z3 R C:List (List UInt8)):Prop where
 tX:∀s∈X,Ko 822 s
 tY:∀s∈Z3,Ko 568 s
 tR:∀s∈R,Ko 700 s
 tC:∀s∈C,Ko 700 s
 lX:O X<1000000/\O Z3<1000000/\O R<1000000/\O C<1000000/\O V<1000000
 zX:O X=O p.obj->dotZ 1045 p (X.map zj)
 zY:O Z3=O p.obj->dotZ 1300 p (Z3.map zj)
 zS:O R=O p.rows->O C=O p.obj->sumZ 1760 (zk p) (zC p) (R.map zj) (C.map zj)/\No 1760 (zk p) (R.map zj) (C.map zj)
section
variable {cq n:Nat}{sq:Bool}{p:LPD}
def Vc(k:Nat)(m:UI h n sq aq lq cq q.num)(o:UI h n dq eq fq gq (denZ q)){lo:List UInt8}:VF (Ka (k+3)) 37 [.agg #[U sq,Y aq lq cq,U dq,Y eq fq gq],CN ⟨⟨lo⟩⟩,CN ⟨⟨hi⟩⟩] h n λv=>∃b:Bool,v=U b/\(b=φ↔dirB q lo hi):=by
 refine zO R4<|zG ?_;refine sB [U sq,Y aq lq cq,U dq,Y eq fq gq] λs G L=>?_;refine zG ?_;by_cases q12:lo=[];refine un φ R6 A7 ?_;refine zG ?_;by_cases q13:hi=[];refine un φ R6 A9 ?_;refine zf ?_;exact Kp (⟨.inl (q12),.inl (q13)⟩);refine un χ R6 A9 ?_;refine zG ?_;refine sC (LI _ m.x o.x) ?_;rintro _ u B⟨H,rfl,g⟩ R M;obtain⟨rfl,g⟩|⟨rfl,g⟩|⟨rfl,g⟩:=g;refine zf ?_;exact Kp (⟨.inl (q12),.inr Z⟩);refine zf ?_;exact Kp (⟨.inl (q12),.inr Z⟩);refine zf ?_;exact Kf λd=>by obtain d|d:=d.2;exact BO d q13;omega
 refine un χ R6 A7 ?_;refine zG ?_;refine sC (LI _ m.x o.x) ?_;rintro _ w C⟨I,rfl,l⟩ S N;obtain⟨rfl,l⟩|⟨rfl,l⟩|⟨rfl,l⟩:=l;refine zf ?_;exact Kf λd=>by obtain d|d:=d.1;exact BO d q12;omega
 refine zG ?_;by_cases q16:hi=[];refine un φ R6 (by simp[q16]) ?_;refine zf ?_;exact Kp (⟨.inr Z,.inl (q16)⟩);refine un χ R6 (by simp[q16]) ?_;refine zG ?_;refine sC (LI _ m.x o.x) ?_;rintro _ y D⟨J,rfl,e⟩ T Z1;obtain⟨rfl,e⟩|⟨rfl,e⟩|⟨rfl,e⟩:=e;exact BO e Z;refine zf ?_;exact Kp (⟨.inr Z,.inr Z⟩);exact BO e Z;refine zG ?_;by_cases q18:hi=[];refine un φ R6 (by simp[q18]) ?_;refine zf ?_;exact Kp (⟨.inr Z,.inl (q18)⟩);refine un χ R6 (by simp[q18]) ?_;refine zG ?_;refine sC (LI _ m.x o.x) ?_;rintro _ A F⟨K,rfl,f⟩ Z4 P;obtain⟨rfl,f⟩|⟨rfl,f⟩|⟨rfl,f⟩:=f;exact BO f Z;exact BO f Z;refine zf ?_;exact Kf λd=>by obtain d|d:=d.2;exact BO d q18;omega
def O8{cs:List Rat}{c:Rat}(h:cs[k]?=ξ c):(KH rs ms cs i 0)[k]?=ξ (colQ rs ms c k i):=by rw[L3 h,Cs (DR _)]
def Vd{c:Rat}{d:SideD}{a m:Rat}(e:rs[i]?=ξ d)(f:d.A[j]?=ξ a)(h3:ms[i]?=ξ m):colQ rs ms c j i+m*a=colQ rs ms c j (i+1):=by rw[Fm,UL e f h3]
def Ve(k:Nat)(io:Sl h n 1 (Y ao lo co) (strs p.obj))(ir:Kz h n (Y ar lr cr) p.rows)(iw:Sl h n 1 (Y aw lw cw) (strs p.lower))(iu:Sl h n 1 (Y au lu cu) (strs p.upper))(hp:LPB a p)(ha:a+a<=2000)(hv:VLP p){M L:Nat}{zs:List Rat}(ix:NS h n (Y ax lx cx) xs)(iy:NS h n (Y ay ly cy) ys)(iz:NS h n (Y az M L) zs){e:Nat}(a3:∀q∈xs,Sz b q)(bf:∀q∈zs,Sz e q)(d1:O xs=O p.rows)(d2:O ys=O p.obj)(d3:O zs=O p.obj)(hz:No c (zk p) xs ys)(hb:c+(a+b)+1<=2496)(cl:c+e+1<=2496):VF (Ka (k+9)) 35 [.agg #[Y ao lo co,Y ar lr cr,Y aw lw cw,Y au lu cu],Y ax lx cx,Y ay ly cy,Y az M L] h n λv=>∃b:Bool,v=U b/\(b=φ↔hS Eq (KH (zk p) xs ys (O (zk p)) 0) zs):=by
 have o:=jJ p;have de:=z8 io;have df:=ir.len;have dh:=z8 iw;have dg:=z8 iu;have⟨cv,cm,d0,J,cn,cp,cs,ct⟩:=hp;have di:=ix.len;have dj:=iy.len;have dk:=iz.len;refine zO R4<|zG ?_;refine sB [Y ao lo co,Y ar lr cr,Y aw lw cw,Y au lu cu] λaf dy e7=>?_;refine zG ?_;refine sF (α:=Nat) (λz=>[(1,Y ax lx cx),(2,Y ay ly cy),(3,Y az M L),(4,ι (3*n+2)),(9,CJ .i64 (z:Int))]) (λz G K w'=>w'=[]/\n+1<=K/\ExtB (n+1) [] af G/\z<=O ys/\hT Eq (KH (zk p) xs ys (O (zk p)) 0) zs z) (λz=>O ys-z) 0 ⟨ω,CG,El _ _ _,CH,(hT.zero _ _)⟩ ?_;rintro j t ce w _⟨rfl,ef,bn,hj,D⟩;(try dsimp only at hj D);refine zG ?_;by_cases q13:(j:Int)<(ly:Int);refine zG ?_;obtain⟨C,s⟩:∃d,(ys)[j]?=ξ d:=⟨_,CK Z⟩;have⟨d4,dr,P,N,a0,S,a4,a5,a6,a7,aa,b3,ba,bg,ah,an⟩:=NS.at iy s;refine sI aa ba ?_;refine sL bg b3 0 ?_;refine sA λcf dz e8=>?_;refine sS [U P,Y N a0 S,U a4,Y a5 a6 a7] λag b8 ds=>?_;refine zG ?_;refine sF (α:=Nat×Bool×Option Addr×Nat×Nat×Bool×Option Addr×Nat×Nat) (λz=>[(1,Y ax lx cx),(2,Y ay ly cy),(3,Y az M L),(4,ι (3*n+2)),(9,CJ .i64 (j:Int)),(10,ι (3*w+2)),(11,CJ .i64 (z.1:Int))]) (λz G K w'=>w'=[]/\w+1<=K/\ExtB (w+1) [3*w+2] ag G/\G (3*w+2)=ξ (.row [U z.2.1,Y z.2.2.1 z.2.2.2.1 z.2.2.2.2.1,U z.2.2.2.2.2.1,Y z.2.2.2.2.2.2.1 z.2.2.2.2.2.2.2.1 z.2.2.2.2.2.2.2.2] 85)/\UI G K z.2.1 z.2.2.1 z.2.2.2.1 z.2.2.2.2.1 ((colQ (zk p) xs C j z.1).num)/\UI G K z.2.2.2.2.2.1 z.2.2.2.2.2.2.1 z.2.2.2.2.2.2.2.1 z.2.2.2.2.2.2.2.2 (denZ (colQ (zk p) xs C j z.1))/\z.1<=O xs) (λz=>O xs-z.1) (0,P,N,a0,S,a4,a5,a6,a7) ⟨ω,CG,El _ _ _,b8,ah.x,an.x,CH⟩ ?_;rintro⟨i,bS,aS,lS,kS,uS,vS,wS,xS⟩ t H a2 _ ⟨rfl,eg,bo,F,f,g,hi⟩;(try dsimp only at F f g hi);refine zG ?_;by_cases q18:(i:Int)<(lx:Int);refine kh ?_;obtain⟨c4,y⟩:∃d,(xs)[i]?=ξ d:=⟨_,CK Z⟩;have⟨d5,dt,bu,bp,d9,bz,e1,e3,e5,e9,ab,b4,bb,bh,ai,ap⟩:=NS.at ix y;refine dI ab bb ?_;refine dL bh b4 0 ?_;refine zH ?_;obtain⟨a8,m⟩:∃d,(p.rows)[i]?=ξ d:=⟨_,CK Z⟩;have⟨d6,du,bq,da,c0,ac,b5,bc,bi,Z0⟩:=Kz.at ir m;have bl:=z8 Z0;have bm:=(hv.rw _ (CL m)).2.2;refine dI ac bc ?_;refine zH ?_;refine dL bi b5 0 ?_;refine zH ?_;obtain⟨a9,u⟩:∃d,(a8.A)[j]?=ξ d:=⟨_,CK Z⟩;have⟨d7,dv,ad,b6,bd,bj⟩:=vM Z0 u;refine dI ad bd ?_;refine dL bj b6 0 ?_;refine dC (numU _ _ _ a9 (CZ ((J _ (CL m)).2.2.2 _ (CL u)).1 zd)) ?_;rintro _ cg dl⟨bv,br,db,c1,c5,c8,ca,cc,rfl,aj,av⟩ eh ea;refine dC (OF _ ai.x ap.x aj av (a3 _ (CL y)) ((J _ (CL m)).2.2.2 _ (CL u)).2 Z) ?_;rintro _ ch dm⟨bw,bs,dc,c2,c6,c9,cb,cd,rfl,ak,b0⟩ ei eb;refine dC (OE _ f.t g.t ak b0 (hz _ _ s _ (by rw[o];omega)) ((a3 _ (CL y)).mul ((J _ (CL m)).2.2.2 _ (CL u)).2) Z) ?_;rintro _ ci dn⟨R,Z1,a1,T,Z4,V,W,Z3,rfl,al,b1⟩ ej ec;refine dS [U R,Y Z1 a1 T,U Z4,Y V W Z3] λcj b9 dw=>?_;refine zG ?_;exact sK (i+1,R,Z1,a1,T,Z4,V,W,Z3) ⟨ω,Z,zy,b9,(al.t.as (congrArg Rat.num (Vd (LK m) (O1 u) y))),(b1.t.as (congrArg denZ (Vd (LK m) (O1 u) y))),Z⟩;refine zG ?_;have I:i=O p.rows:=Z;refine zl ?_;refine zH ?_;obtain⟨c7,B⟩:∃d,(zs)[j]?=ξ d:=⟨_,CK Z⟩;have⟨d8,dx,bx,bt,dd,c3,e2,e4,e6,ed,ae,b7,be,bk,am,b2⟩:=NS.at iz B;refine dI ae be ?_;refine dL bk b7 0 ?_;refine dC ((Ni _ f g am.x b2.x (hz _ _ s _ (by rw[o];omega)) (bf _ (CL B)) Z).cx) ?_;rintro _ ck dp⟨e0,rfl,l⟩ ek ee;obtain⟨rfl,l⟩|⟨rfl,l⟩|⟨rfl,l⟩:=l;refine zf ?_;exact Kf λhq=>by have e:=hq _ _ _ (O8 s) B;exact Cm
 refine zJ ?_;exact sK (j+1) ⟨ω,Z,zy,Z,(D.step (O8 s) B (by rw[o,<-I];exact l))⟩;refine zf ?_;exact Kf λhq=>by have e:=hq _ _ _ (O8 s) B;exact Cm
 refine zf ?_;exact Kp (D.all (.inl (by rw[sa];omega)))
end
section
variable {n r:Nat}
def O9:q.num<0↔q<0:=by rw[<-Int.not_le,<-E0,FM]
theorem N1:0<q.num↔0<q:=by
 rw[show 0<q.num↔(-q).num<0 by rw[Rat.neg_num];omega,O9];constructor<;>grind
def QF{g:Nat->Rat}(f:O ds=N)(hm:O ms=N)(h:∀j,j<N->∀d m,ds[j]?=ξ d->ms[j]?=ξ m->kX m d.lo d.hi=g j):∀j,j<=N->sumS (ds.take j) (ms.take j)=Kc j g
 |0,_=>by rw[EP,NU];rfl
 |j+1,hj=>by
  have e1:=CK (l:=ds) (i:=j) Z;have c:=CK (l:=ms) (i:=j) Z;rw[Mf e1 c,QF f hm h j Z,h j Z _ _ e1 c];rfl
theorem QG{f:Nat->Rat}:∀m,Kc (n+m) f=Kc n f+Kc m λi=>f (n+i)
 |0=>(Gc _).symm
 |m+1=>by
  show Kc (n+m) f+f (n+m)=Kc n f+((Kc m λi=>f (n+i))+f (n+m));rw[QG m]
  grind
theorem Vf{rs:List SideD}{c:Rat}{g:Nat->Rat}(h:∀i,i<N->((rs[i]?.bind λd=>d.A[k]?).getD 0)*ms[i]?.getD 0=g i):∀i,i<=N->colQ rs ms c k i=c+Kc i g
 |0,_=>(Gc _).symm
 |i+1,hi=>by
  show colQ rs ms c k i+_=c+(Kc i g+g i);rw[Vf h i Z,h i Z]
  grind
section
variable {cs:List SideD}{ss:List Rat}{b:Nat->Rat}
abbrev LO(cs rs:List SideD)(ss:List Rat)(bz:List (Nat×List Int))(y:Nat×List Int)(M b:Nat->Rat)(κ:Rat):Prop:=Wei (O cs) (O rs) (Kd (solI cs rs ss bz y).lo) (Kd (solI cs rs ss bz y).hi) (L0 (O cs) (O rs) (aF (O cs) (zI (bz++[y])))) M b κ
theorem Vg{m σ b:Rat}{d:SideD}{v:Nat}(l:ds[v]?=ξ d)(c:0<σ)(u:0<m->((K0 ds v).map λq=>q*σ)=ξ b)(w:m<0->((K6 ds v).map λq=>q*σ)=ξ b):MN (m*σ) d.lo d.hi/\kX (m*σ) d.lo d.hi=m*b:=by
 have p:0<m*σ↔0<m:=⟨λh=>(xY h).elim (·.1) λe=>BO e.2 (FK.2 (DQ c)),λh=>Fy h c⟩;have o:m*σ<0↔m<0:=⟨λh=>(yq h).elim (λe=>BO e.2 (FK.2 (DQ c))) (·.1),λh=>by have:=Fy (a:= -m) aD c;grind⟩;have f:0<m->d.lo≠[]/\zj d.lo*σ=b:=λh=>by
  have:=u h;rw[OV l]at this;split at this
  .next q=>exact⟨q,by injection this⟩
  cases this
 have g:m<0->d.hi≠[]/\zj d.hi*σ=b:=λh=>by
  have:=w h;rw[OW l]at this;split at this
  .next q=>exact⟨q,by injection this⟩
  cases this
 refine⟨⟨λh=>(f (p.1 (N1.1 h))).1,λh=>(g (o.1 (O9.1 h))).1⟩,?_⟩;by_cases c1:0<m
 .rw[Me (N1.2 (p.2 c1)),<-(f c1).2]
  grind
 by_cases c2:m<0
 .rw[UJ (O9.2 (o.2 c2)),<-(g c2).2]
  grind
 have:m=0:=G5 (FK.1 c1) (FK.1 c2);rw[this,ES,ES,NT rfl]
def LP(cs rs:List SideD)(ss:List Rat)(M:Nat->Rat):List Rat:=Km (O rs) λi=>M (O cs+i)*KU cs ss (O cs+i)
def MO(cs:List SideD)(ss:List Rat)(M:Nat->Rat):List Rat:=Km (O cs) λv=>M v*KU cs ss v
def Vh:KU cs ss (O cs+i)=atR ss i:=by unfold KU;rw[Cs Z,E1]
def Vi{v:Nat}(h:v<O cs):KU cs ss v=1:=Cx h
def QH(h:(LP cs rs ss M)[i]?=ξ q):i<O rs/\q=M (O cs+i)*atR ss i:=by
 have c:i<O rs:=by have:=(CQ.1 h).1;unfold LP at this;rw[yo]at this;exact this
 unfold LP at h;rw[wo c,Vh]at h;injection h with h;exact⟨c,h.symm⟩
def QI{v:Nat}(h:(MO cs ss M)[v]?=ξ q):v<O cs/\q=M v:=by
 have c:v<O cs:=by have:=(CQ.1 h).1;unfold MO at this;rw[yo]at this;exact this
 unfold MO at h;rw[wo c,Vi c,Fz]at h;injection h with h;exact⟨c,h.symm⟩
def Wei.rw(W:LO cs rs ss bz y M b κ)(c:ScI cs rs ob ss bz y s)(p:PrO cs rs ob){d:SideD}(f:rs[i]?=ξ d):MN (M (O cs+i)*atR ss i) d.lo d.hi/\kX (M (O cs+i)*atR ss i) d.lo d.hi=M (O cs+i)*b (O cs+i):=by have g:=(CQ.1 f).1;refine Vg f (c.row p g).pos (λh=>?_) λh=>?_;have:=W.pos _ Z h;rw[c.lo,gn]at this;exact this;have:=W.neg _ Z h;rw[c.hi,gn]at this;exact this
def Wei.cl(W:LO cs rs ss bz y M b κ)(c:ScI cs rs ob ss bz y s){v:Nat}{d:SideD}(f:cs[v]?=ξ d):MN (M v) d.lo d.hi/\kX (M v) d.lo d.hi=M v*b v:=by have g:=(CQ.1 f).1;have h:=Vg (m:=M v) (b:=b v) (σ:=1) f zd (λh=>?_) λh=>?_;rw[Fz]at h;exact h;have:=W.pos _ Z h;rw[c.lo,nD g]at this;rw[this];exact congrArg ξ (Fz _);have:=W.neg _ Z h;rw[c.hi,nD g]at this;rw[this];exact congrArg ξ (Fz _)
def Wei.ok(W:LO cs rs ss bz y M b κ)(c:ScI cs rs ob ss bz y s)(p:PrO cs rs ob):My rs (LP cs rs ss M)/\My cs (MO cs ss M):=
 ⟨λi d q f g=>by rw[(QH g).2];exact(W.rw c p f).1,λi d q f g=>by rw[(QI g).2];exact(W.cl c f).1⟩
def Wei.sR(W:LO cs rs ss bz y M b κ)(c:ScI cs rs ob ss bz y s)(p:PrO cs rs ob):∀j,j<=O rs->sumS (rs.take j) ((LP cs rs ss M).take j)=Kc j λi=>M (O cs+i)*b (O cs+i):=
 QF ω yo λj _ d q f g=>by rw[(QH g).2];exact(W.rw c p f).2
def Wei.sC(W:LO cs rs ss bz y M b κ)(c:ScI cs rs ob ss bz y s):∀j,j<=O cs->sumS (cs.take j) ((MO cs ss M).take j)=Kc j λv=>M v*b v:=
 QF ω yo λj _ d q f g=>by rw[(QI g).2];exact(W.cl c f).2
def Wei.tot(W:LO cs rs ss bz y M b κ)(c:ScI cs rs ob ss bz y s)(p:PrO cs rs ob):sumS rs ((LP cs rs ss M).take (O rs))+sumS cs ((MO cs ss M).take (O cs))=Kc (O cs+O rs) λv=>M v*b v:=by have d:=W.sR c p _ CG;have f:=W.sC c _ CG;rw[Da]at d f;rw[d,f,QG];exact ab8 _ _
theorem zzy(c:ScI cs rs ob ss bz y s)(p:PrO cs rs ob)(hi:i<O rs)(f:k<O cs):((rs[i]?.bind λd=>d.A[k]?).getD 0)*((LP cs rs ss M)[i]?).getD 0=M (O cs+i)*(zI (bz++[y]) i k:Rat):=by have g:=(p.lr _ (EX hi)).2.2.2.1;unfold LP;rw[wo hi,Vh,CK hi,(c.row p hi).eq k f];show((rs[i]).A[k]?).getD 0*(M (O cs+i)*atR ss i)=M (O cs+i)*(atR ss i*((rs[i]).A[k]?).getD 0);grind
def Wei.comb(W:LO cs rs ss bz y M b κ)(c:ScI cs rs ob ss bz y s)(p:PrO cs rs ob)(l:k<O cs):(∀i,i<=O rs->colQ rs (LP cs rs ss M) (M k) k i=M k+Kc i λi=>M (O cs+i)*(zI (bz++[y]) i k:Rat))/\colQ rs (LP cs rs ss M) (M k) k (O rs)=κ*(s*atR ob k):=by
 have o:=Vf (c:=M k) (k:=k) λi C=>zzy (M:=M) c p C l;refine⟨o,?_⟩;have u:=W.sum (Go.Proofs.YtpcpimjejdegcaaGreatDoor.xF (O cs) (zI (bz++[y])) λv=>if v=k then 1 else 0) xF_L;have d:∀f:Nat->Rat,(Kc (O cs) λj=>f j*if j=k then 1 else 0)=f k:=λf=>(by rw[Qo l λj _ g=>by rw[Cs g,FC],Cx ω,Fz]);rw[OO,d (λj=>(zI (bz++[y]) (O rs) j:Rat)),(c.obj p).eq k l,QG]at u;rw[o _ CG,<-u];have w:(Kc (O cs) λv=>M v*Go.Proofs.YtpcpimjejdegcaaGreatDoor.xF (O cs) (zI (bz++[y])) (λv=>if v=k then 1 else 0) v)=M k:=(by rw[<-d M];exact yg λj g=>by rw[jo g]);have A:(Kc (O rs) λi=>M (O cs+i)*Go.Proofs.YtpcpimjejdegcaaGreatDoor.xF (O cs) (zI (bz++[y])) (λv=>if v=k then 1 else 0) (O cs+i))=Kc (O rs) λi=>M (O cs+i)*(zI (bz++[y]) i k:Rat):=yg λi _=>by rw[OO,d λj=>(zI (bz++[y]) i j:Rat)]
 rw[w,A]
theorem ScR.ne{v E:Nat}{zs:List Int}(h:ScR qs v zs q)(p:∀q∈qs,NE E P q)(H:1<=E)(I:1<=P):NE P (E^O qs) q:=by
 obtain⟨rfl,_⟩|⟨g,Z1,F,z,L,u⟩:=h.fr;exact⟨I,Dw H⟩;have⟨j,o⟩:=EI.1 L;have c:=(CQ.1 o).1;have e:=CK (l:=qs) (i:=j) (by rw[<-h.len];exact c);have d:=h.eq j _ _ e o;have J:=p _ (CL e);generalize qs[j]'(by rw[<-h.len];exact c)=f at*;have G:=Mt f;have K:f.num≠0:=λC=>u (by
  rw[Fs.1 C,FC]at d;exact Eu.1 d)
 have w:QB (E^O qs) g q:=⟨(lcmD qs 1:Nat),g,Z,by rw[Ds,Ds,<-F];grind,by rw[C4];exact(OS p).2,by rw[C4];exact Ed _⟩;have A:QB (z.natAbs*f.den) f.num.natAbs q:=⟨f.num.sign*z*f.den,f.num.natAbs,Z,by
  have D:((f.num.natAbs:Int):Rat)=(f.num.sign:Rat)*f.num:=by rw[<-DA,Int.sign_mul_self]
  rw[D,<-G,DA,DA,d,Ds];grind,by rw[Dz,Dz,C4,Int.natAbs_sign_of_ne_zero K,Nat.one_mul];exact Ed _,by rw[C4];exact Ed _⟩
 exact⟨C5 A.nd.2 J.num,w.nd.1⟩
def le11{b x:Nat}(d:a<=x)(c:b<=x)(hi:i<=6):a+i*b<=11*x:=by have:=Df hi c;omega
def WZ(N E W:Nat)(M:Nat->Rat):Prop:=0<E/\∀v,v<N->∃w:Int,(E:Rat)*M v=w/\w.natAbs<=W
def Pa{P:Rat->Prop}{f0:Nat->Rat}{nb:Nat->Nat}{t:Nat->Rat}(h0:∀v,P (f0 v))(h1:∀c,c<n->P (t c)):∀k,k<=n->∀v,P (Ld f0 nb t k v)
 |0,_,v=>h0 v
 |k+1,hk,v=>by
  show P (if v=nb k then t k else Ld f0 nb t k v);split
  .exact h1 k Z
  exact Pa h0 h1 k Z v
def T0:Nat:=120*10^160
def QJ(c:1<=n)(d:n<=5):KJ n*((10^32)^(n-1)*10^32)<=T0/\KJ n*(10^32)^n<=T0:=by have h:n=1\/n=2\/n=3\/n=4\/n=5:=Z;obtain rfl|rfl|rfl|rfl|rfl:=h<;>exact⟨eH,eH⟩
def ScI.ne(c:ScI cs rs ob ss bz y s)(p:PrO cs rs ob)(hi:i<O rs):NE (10^8) (10^30) (atR ss i):=by have⟨P,_,g,_⟩:=c.sc;have u:=c.ls;have o:=c.lb;have d:=CK (l:=ss) (i:=i) Z;have f:=p.lr _ (EX hi);have h:=(g i _ _ _ (CK hi) (CK (l:=bz) (i:=i) Z) d).ne f.2.2.2.2 zd zd;rw[wg d];rw[f.2.2.2.1]at h;exact⟨h.den,C5 h.num (jW p.n1 p.n5).2⟩
def ScI.nes(c:ScI cs rs ob ss bz y s)(p:PrO cs rs ob)(l:∀q∈ob,NE (10^6) (10^8) q):NE (10^8) (10^30) s/\∀j,j<O cs->(zI (bz++[y]) (O rs) j).natAbs<=10^32:=by have⟨P,_,_,d⟩:=c.sc;have h:=d.ne l zd zd;have o:=d.scF l zd zd p.lo.1;have f:=jW p.n1 p.n5;rw[p.lo.1]at h;refine⟨⟨h.den,C5 h.num f.2⟩,λj w=>?_⟩;have⟨D,g,A,u,_,_,_,v⟩:=o.ex;have e:zI (bz++[y]) (O rs)=LZ y.2:=(by funext j;unfold zI;rw[<-c.lb,Qu]);rw[e];exact C5 (ER _ u) (C5 (v j w) f.1)
def MP(c:ScI cs rs ob ss bz y s)(p:PrO cs rs ob):∀v,v<O cs+O rs->∀j,j<O cs->(aF (O cs) (zI (bz++[y])) v j).natAbs<=10^32:=(fixI c p).b.aM
theorem zzj(c:ScI cs rs ob ss bz y s)(p:PrO cs rs ob)(F:∀q∈ob,NE (10^6) (10^8) q)(f:NX cs rs ss bz y st):∃E,E<=T0*10^30/\WZ (O cs+O rs) E (T0*10^8) (Ld (λ_=>0) st.nb (λc=>(st.T (O rs) c:Rat)/st.d/s) (O cs)):=by
 have J:=f.toPB.tab.dp;have l:=(c.obj p).pos;have o:=QJ p.n1 p.n5;have g:=c.nes p F;have G:=N1.2 l;refine⟨st.d.natAbs*s.num.natAbs,Df (C5 (f.toPB.bD (MP c p)) o.2) g.1.num,EJ Z Z,λv _=>Pa (P:=λq=>∃w:Int,((st.d.natAbs*s.num.natAbs:Nat):Rat)*q=w/\w.natAbs<=T0*10^8) (λ_=>⟨0,FC _,CH⟩) (λk D=>⟨st.T (O rs) k*s.den,?_,?_⟩) _ CG v⟩;have u:((st.d.natAbs:Nat):Rat)=(st.d:Rat):=by rw[<-Ds];congr 1;omega
 have A:((s.num.natAbs:Nat):Rat)=(s.den:Rat)*s:=by rw[<-Ds,Mt];congr 1;omega
 have H:=EU (a:=(st.T (O rs) k:Rat)/st.d) (b:=s) (λe=>by rw[e]at l;exact E2 l);have I:=EU (a:=(st.T (O rs) k:Rat)) f.toPB.d0;rw[G7,u,A,DA,Ds];grind;rw[Dz,C4];refine Df (C5 (f.toPB.bT (MP c p) CG D λj C=>?_) o.1) g.1.den;rw[f.bm,nQ];exact g.2 j C
theorem zzs(c:ScI cs rs ob ss bz y s)(p:PrO cs rs ob)(f:NX cs rs ss bz y st)(D:r<O rs):∃E,E<=T0*10^30/\WZ (O cs+O rs) E (T0*10^8) (Ld (Ke (λ_=>0) (st.bs r) (Kk low)) st.nb (λc=>(st.T r c:Rat)/st.d*Kk (!low)) (O cs)):=by
 have L:=f.toPB.tab.dp;have C:=QJ p.n1 p.n5;have A:=C5 (f.toPB.bD (MP c p)) C.2;have o:((st.d.natAbs:Nat):Rat)=(st.d:Rat):=by rw[<-Ds];congr 1;omega
 have l:∀(x:Int) (u:Bool),x.natAbs<=T0->∃w:Int,(x:Rat)*Kk u=w/\w.natAbs<=T0*10^8:=λx u F=>by
  have g:T0<=T0*10^8:=EK _ zd;cases u with
  |true=>exact⟨x,Fz _,C5 F g⟩
  |false=>exact⟨-x,by rw[It];show(x:Rat)* -1=_;grind,by rw[Ff];exact C5 F g⟩
 refine⟨st.d.natAbs,C5 A (EK _ zd),Z,λv _=>Pa (P:=λq=>∃w:Int,((st.d.natAbs:Nat):Rat)*q=w/\w.natAbs<=T0*10^8) (λv=>?_) (λk K=>?_) _ CG v⟩;unfold Ke;split;rw[o];exact l st.d low A;exact⟨0,FC _,CH⟩;have G:=EU (a:=(st.T r k:Rat)) f.toPB.d0;have⟨w,H,I⟩:=l (st.T r k) (!low) (C5 (f.toPB.bT (MP c p) (D9 D) K λj J=>MP c p _ (f.toPB.bv r D) j J) C.1);refine⟨w,?_,I⟩;rw[o,<-H,<-G];grind
theorem PZ.ne{E Q B e m:Nat}{p b:Rat}(h:PZ E Q B p)(hb:NE e m b):PZ E (Q*e) (B*m) (p*b):=by have⟨q,c,d,w,f,g⟩:=h;refine⟨q*b.den,EJ c b.den_pos,Df d hb.den,w*b.num,?_,?_⟩;rw[DA,<-f,<-Mt b];simp only[G7];grind;rw[Dz];exact C5 (Df g (C5 hb.num (ER m b.den_pos))) (HW aD)
section
variable {Q e:Nat}
def PZ.nil(h:1<=Q):PZ E Q B 0:=PZ.zero.mono h CH
def pw(c:1<=Q*e):∀{ds:List SideD} {ms:List Rat},(∀d∈ds,NE e m (zj d.lo)/\NE e m (zj d.hi))->(∀q∈ms,PZ E Q B q)->PZ E ((Q*e)^O ds) (O ds*(B*m)) (sumS ds ms)
 |[],ms,_,_=>by rw[NU];exact PZ.nil (Dw c)
 |d::ds,[],_,_=>PZ.nil (Dw c)
 |d::ds,q::ms,hd,hm=>by
  show PZ E ((Q*e)^(O ds+1)) ((O ds+1)*(B*m)) (kX q d.lo d.hi+sumS ds ms);rw[ab8,Db,EM];refine(pw c (λd g=>hd d (E7 _ g)) λq l=>hm q (E7 _ l)).add ?_;have h2:=hd d Eb;have f:=hm q Eb;unfold kX;split
  .exact f.ne h2.2
  exact f.ne h2.1
def oK{rs:List SideD}{c:Rat}(f:1<=Q*e)(l:∀d∈rs,∀q∈d.A,NE e m q)(hm:∀q∈ms,PZ E Q B q)(g:PZ E 1 B c):∀i,PZ E ((Q*e)^i) (B+i*(B*m)) (colQ rs ms c j i)
 |0=>by rw[EG,D2];exact g
 |i+1=>by
  rw[Db,EM,<-GA];refine(oK f l hm g i).add ?_;cases h2:rs[i]?.bind λd=>d.A[j]? with
  |none=>exact(ES _).symm▸PZ.nil f
  |some a=>cases h3:ms[i]? with
   |none=>exact(FC _).symm▸PZ.nil f
   |some q=>
    have⟨d,h4,h5⟩:=Option.bind_eq_some_iff.1 h2;exact(Fm _ _)▸(hm q (CL h3)).ne (l d (CL h4) a (CL h5))
end
def PrO.szs(p:PrO cs rs ob){E:Nat}{R C:List Rat}(u:0<E)(G:E<=T0*10^36)(v:∀q∈R,PZ E (10^8) (T0*10^39) q)(o:∀q∈C,PZ E 1 (T0*10^39) q):sumZ 1760 rs cs R C/\No 1760 rs R C:=by have Z1:=p.n5;have J:=p.m6;have l:∀a b B (q:Rat),a<=6->b<=5->B<=11*(T0*10^39*10^8)->PZ E ((10^8*10^6)^a*(1*10^6)^b) B q->Sz 1760 q:=λa b B q H I F h=>(by have A:=(h.mono (Df (CW eH H) (CW eH I)) F).qb u;have c:=CS ((10^8*10^6)^6*(1*10^6)^5) G;have D:=CS (11*(T0*10^39*10^8)) c;exact A.sz (Dh D eH) (Dh c eH));have w:∀j,PZ E ((10^8*10^6)^O (rs.take j)) (O (rs.take j)*(T0*10^39*10^8)) (sumS (rs.take j) (R.take j)):=λj=>pw eH (λd hd=>have h:=p.lr d (Dx hd);⟨h.1,h.2.1⟩) λq f=>v q (Dx f);have K:∀j,PZ E ((1*10^6)^O (cs.take j)) (O (cs.take j)*(T0*10^39*10^8)) (sumS (cs.take j) (C.take j)):=λj=>pw eH (λd hd=>have h:=p.lc d (Dx hd);⟨h.1,h.2.1⟩) λq f=>o q (Dx f);refine⟨⟨λj g=>?_,λj g=>?_⟩,λk q f i L=>?_⟩;have h:=w j;rw[Jw g]at h;exact l j 0 (j*(T0*10^39*10^8)) _ Z Z (CS _ Z) (by rw[EG,DL];exact h);have h:=w (O rs);have c:=K j;rw[Da]at h;rw[Jw g]at c;exact l _ j _ _ J Z (by rw[<-Nat.add_mul];exact CS _ Z) (h.add c);have h:=oK (j:=k) eH (λd hd=>(p.lr d hd).2.2.2.2) v (o q (CL f)) i;exact l i 0 (T0*10^39+i*(T0*10^39*10^8)) _ Z Z (le11 (EK _ eH) CG Z) (by rw[EG,DL];exact h)
def WZ.pz{E:Nat}(h:WZ N E (T0*10^8) M){v:Nat}(hv:v<N):PZ E 1 (T0*10^8) (M v):=by have⟨w,c,d⟩:=h.2 v hv;exact⟨1,IY,CG,w,by rw[DL];exact c,by rw[DL];exact C5 d (ER _ h.1)⟩
theorem ScI.szm(c:ScI cs rs ob ss bz y s)(p:PrO cs rs ob){E:Nat}(u:E<=T0*10^30)(f:WZ (O cs+O rs) E (T0*10^8) M):(∀q∈LP cs rs ss M,PZ E (1*10^8) (T0*10^8*10^30) q/\QB (T0*10^38) (T0*10^38) q)/\∀q∈MO cs ss M,PZ E 1 (T0*10^8) q/\QB (T0*10^38) (T0*10^38) q:=by have A:=f.1;refine⟨λq d=>?_,λq d=>?_⟩;have⟨i,d⟩:=EI.1 d;obtain⟨C,rfl⟩:=QH d;have o:=c.ne p C;refine⟨(f.pz Z).ne o,?_⟩;have⟨w,g,l⟩:=f.2 (O cs+i) Z;refine⟨w*(atR ss i).num,(E*(atR ss i).den:Nat),by exact_mod_cast EJ A (atR ss i).den_pos,?_,?_,?_⟩;rw[Ds,G7,DA,<-g,<-Mt];grind;rw[Dz];exact C5 (Df l o.num) eH;rw[C4];exact C5 (Df u o.den) eH;have⟨v,d⟩:=EI.1 d;obtain⟨D,rfl⟩:=QI d;refine⟨f.pz Z,?_⟩;have⟨w,g,l⟩:=f.2 v Z;exact⟨w,E,Z,by rw[Ds];exact g,C5 l eH,by rw[C4];exact C5 u eH⟩
end
end
section
variable {n:Nat}{d:Sol}
theorem SolP.va_fn(a:SolP n m d st):d.va.take n=Km n st.x:=by have:=a.vl;exact mU aD λj b=>by rw[HH,Cx b];exact a.va j Z
end
def SM.vaN{l n0 g n m:Nat}{h:HF}{d:Sol}{A:Adr}{st:PS}(s:SM l h n0 g d A)(f:SolP n m d st)(p:0<n):∃e,A.va=ξ ⟨e,0,θ⟩/\QS h n0 (Y (ξ ⟨e,0,θ⟩) n (n+m)) (Km n st.x):=by have i:=f.vl;have⟨e,a,o,q,u,j⟩:=s.va.or ω Z;injection a with a;have b:=s.va.rs;rw[a]at b;have b:=an0 zd b (m:=0) (c:=n) (cap':=n+m) Z Z;rw[DH,f.va_fn]at b;exact⟨e,a,b⟩
set_option exponentiation.threshold 9999 in
def zo6(k:Nat){h:HF}{n:Nat}(g:GG h n){ao ar aw au:Option Addr}{lo co lr cr lw cw lu cu:Nat}{p:LPD}(io:Sl h n 1 (Y ao lo co) (strs p.obj))(ir:Kz h n (Y ar lr cr) p.rows)(iw:Sl h n 1 (Y aw lw cw) (strs p.lower))(iu:Sl h n 1 (Y au lu cu) (strs p.upper))(hs:SmQ p):
  CX (Ka (k+16)) 7 [.agg #[Y ao lo co,Y ar lr cr,Y aw lw cw,Y au lu cu]] h n (SolR p n):=by
 refine zw R4<|zG ?_;refine sB [Y ao lo co,Y ar lr cr,Y aw lw cw,Y au lu cu] λh1 p1 x1=>?_;refine sA λh2 p2 x2=>?_;refine zG ?_;refine sC (TH _ g.x io.x ir.x iw.x iu.x hs.lpb Z) ?_;rintro _ h3 y⟨aO,lO,kO,aR,lR,kR,aC,lC,kC,ok,rfl,ef,hq⟩ y3 x3;refine Za λh4 p4 x4=>?_;refine zG ?_;refine sS [Y aO lO kO,Y aR lR kR,Y aC lC kC] λZ1 p5 o5=>?_;have y3:n+1+1<=y:=y3;obtain⟨rfl,hv⟩|⟨rfl,hv⟩:=Kg ef;.refine zG ?_;refine sT #[CJ .i64 0,CN ⟨⟨[]⟩⟩,η,η,η,η] ?_;refine sS [CJ .i64 0,CN ⟨⟨[]⟩⟩,η,η,η,η] λh6 p6 o6=>?_;refine zG ?_;refine zq ?_;exact .inl ⟨hv,ω⟩
 have⟨iO,iR,iC⟩:=hq rfl;have pr:=U6 hv hs;have ey:=iO.1.len;subst ey;have n1:=pr.n1;have n5:=pr.n5;have m6:=pr.m6;have bg:=pr.lo.1;have ca:48*O (zC p)+48+1<=289:=Z;have X5:Exo n h Z1:=⟨(show Tx n h (y+1) Z1 from zx).2⟩;have bf:=iO.x (h':=Z1) (n':=y+1) zx;have er:=iR.x (h':=Z1) (n':=y+1) zx;have ep:=iC.x (h':=Z1) (n':=y+1) zx;have fm:Z1 (3*n+2)=_:=(zp:Z1 (3*n+2)=_);have cz:Z1 (3*(n+1)+2)=_:=(zp:Z1 (3*(n+1)+2)=_);have g5:GG Z1 (y+1):=g.ext X5.go Z;have fi:n<=y+1:=Z;have be:∀q∈p.obj.map zj,Sz 48 q:=Ko.nums hs.lpb.ob;have cd:=za7 (k+2) g5 bf.1 er.sds ep.sds (a:=48) (P:=289) (LPB.cols hs.lpb) (λd hd=>⟨(LPB.rows hs.lpb d hd).1,(LPB.rows hs.lpb d hd).2,(pr.lr d hd).2.2.2.1,(hv.rwb hs.lpb d hd).1⟩) be bg n1 ca Z Z Z;refine zG ?_;refine sC cd ?_;rintro _ h6 n6⟨bs,A,M,N,B,zs,s,rfl,S6,ek,ec,ei,cg⟩ y6 x6;have y6:y+1<=n6:=y6;have x6:Exo (y+1) Z1 h6:=⟨x6⟩;have c:ScI (zC p) (zk p) (p.obj.map zj) M N (B,zs) s:=⟨ek,ec,289,by decide,ei,cg⟩;have S6:=steI c pr S6;have F:=fixI c pr;have g6:GG h6 n6:=g5.ext x6.go y6;have cf:=zmn (k+0) g6 S6 F n1 Z;refine zG ?_;refine zF _ R5 cf ?_;rintro _ h8 n8 w8⟨d8,s8,y8,S8,T8,K8,ch,af⟩;rw[mY,zV (show ∀c∈w8,3*n<=c from λc hc=>by have:=ch c hc;omega)];have X8:Exo (y+1) Z1 h8:=⟨λb hb=>(K8 b hb).trans (x6.go b hb)⟩;have f1:y+1<=n8:=Z;have g8:GG h8 n8:=g5.ext X8.go f1;have cl:∀v,v<O (zC p)+O (zk p)->d8.sc[v]?=ξ (KU (zC p) M v):=λv hv=>by rw[S8.eq.sc];exact(c.sg hv).1
 have ck:∀v,v<O (zC p)+O (zk p)->Sz 290 (KU (zC p) M v):=λv hv=>(c.sg hv).2;have d0:h8 (3*(n+1)+2)=_:=(X8.go _ Z).trans cz;have f5:h8 (3*y+2)=_:=(X8.go _ Z).trans p5;obtain⟨rfl,hF⟩|⟨r,bh,q,rfl,hV,R⟩:=af;rotate_left;.refine zG ?_;have ba:=zf2 (k+1) g8 S8 F cl ck zd n1 hV.hr (low:=bh);refine sC ba ?_;rintro _ h9 n9⟨b1,b2,rfl,o1,o2⟩ y9 x9;have bn:h9 (3*(n+1)+2)=_:=(x9 _ Z).trans d0;have X9:Exo n h h9:=⟨λb hb=>(x9 b Z).trans ((X8.go b Z).trans (X5.go b hb))⟩;refine zG ?_;refine sT #[CJ .i64 2,CN ⟨⟨[]⟩⟩,η,η,Y (ξ ⟨b1,0,θ⟩) (O (zk p)) (O (zk p)),Y (ξ ⟨b2,0,θ⟩) (O (zC p)) (O (zC p))] ?_;refine sS (hb:=bn) [CJ .i64 2,CN ⟨⟨[]⟩⟩,η,η,Y (ξ ⟨b1,0,θ⟩) (O (zk p)) (O (zk p)),Y (ξ ⟨b2,0,θ⟩) (O (zC p)) (O (zC p))] λG fl aq=>?_;have bx:Tr n9 h9 n9 G:=FT aq (Eo _ _);refine zG ?_;refine zq ?_ (hx:=⟨Z,λb hb=>(aq.1 b Z).trans (X9.go b hb)⟩);exact .inr ⟨hv,M,N,(B,zs),s,s8,⟨c,S8.iv⟩,.inl ⟨r,bh,q,b1,b2,ω,hV,R,(o1.go bx (aq.1 _ (by have:=o1.lo;omega))).low Z,(o2.go bx (aq.1 _ (by have:=o2.lo;omega))).low Z⟩⟩
 have ce:=zd4 (k+0) g8 S8 hF F n1 Z;refine zG ?_;refine zF _ R5 ce ?_;rintro v9 h9 n9 w9⟨d9,C,y9,w,F9,T9,K9,ci,af⟩;rw[mY,zV (show ∀c∈w9,3*n<=c from λc hc=>by have:=ci c hc;omega)];have X9:Exo (y+1) Z1 h9:=⟨λb hb=>(K9 b hb).trans (X8.go b hb)⟩;have f2:y+1<=n9:=Z;have g9:GG h9 n9:=g5.ext X9.go f2;have I9:NX (zC p) (zk p) M N (B,zs) C:=w.iv;have a6:=F.szp I9;have el:∀v,v<O (zC p)+O (zk p)->d9.sc[v]?=ξ (KU (zC p) M v):=λv hv=>by rw[w.eq.sc];exact(c.sg hv).1
 have bn:h9 (3*(n+1)+2)=_:=(X9.go _ Z).trans cz;have f6:h9 (3*y+2)=_:=(X9.go _ Z).trans p5;have⟨b0,a0,u0,c0,ty,d2,i0⟩:=w.sm.st;have eb:=w.sm.bs.1;have⟨bv,c6,qv⟩:=w.sm.vaN w.sp n1;rw[w.sp.dn,w.sp.vl,w.sp.nl,w.sp.bl,w.sp.ls]at d2;obtain⟨c1,c2,ok,rfl,eg⟩:∃(c1 c2:Int) (ok:Bool),v9=Value.tuple #[CJ .i64 c1,CJ .i64 c2,U ok]/\(ok=φ/\(∀c u,c<O (zC p)->¬ent (O (zk p)) (loI p M N (B,zs)) (hiI p M N (B,zs)) C u c)\/ok=χ/\∃(e:Nat) (up:Bool),c1=(e:Int)/\c2=KD up/\Ent (O (zC p)) (O (zk p)) (loI p M N (B,zs)) (hiI p M N (B,zs)) C e up/\∀r ρ,¬Lc (O (zk p)) (loI p M N (B,zs)) (hiI p M N (B,zs)) C e up r ρ):=(by obtain⟨rfl,R⟩|⟨e,up,rfl,hE,R⟩:=af;exact⟨0,0,φ,ω,.inl ⟨ω,R⟩⟩;exact⟨(e:Int),KD up,χ,ω,.inr ⟨ω,e,up,ω,ω,hE,R⟩⟩);refine kh ?_;refine OI (b:=bv) (off:=0) (O (zC p)) R6 (by show Y A.va _ _=_;rw[c6]) ω ω Z ?_;refine dC (OX _ g9 qv Z (m:=750) (λj hj=>a6.va j Z) zd) ?_;rintro _ G Z4⟨bX,rfl,oX⟩ ay V;have V:Exo n9 h9 G:=⟨V⟩;have b5:Exo (y+1) Z1 G:=⟨λb hb=>(V.go b Z).trans (X9.go b hb)⟩;have bj:G (3*(n+1)+2)=_:=(V.go _ Z).trans bn;have dg:G (3*y+2)=_:=(V.go _ Z).trans f6;have di:G bs=_:=(V.go _ eb).trans d2;have aj:GG G Z4:=g9.ext V.go ay;have a8:Ste (y+1) (O (zC p)) (O (zk p)) bs (aF (O (zC p)) (zI (N++[(B,zs)]))) (L0 (O (zC p)) (O (zk p)) (aF (O (zC p)) (zI (N++[(B,zs)])))) A (λi=>(Lk (N++[(B,zs)]) i).1) (solI (zC p) (zk p) M N (B,zs)) G Z4 d9 C:=⟨w.sm.ext V.go ay,w.sp,w.iv,w.ap,w.eq⟩;have ay:n9<=Z4:=ay;refine zJ ?_;obtain⟨rfl,R⟩|⟨rfl,e,up,rfl,rfl,hE,R⟩:=eg;rotate_left;.refine zG ?_;have eh:=rayP (k+2) aj a8 F zd hE.he (up:=up);refine sC eh ?_;rintro _ a4 l⟨bR,rfl,oR⟩ az a7;have d7:=oX.ext a7 az;have da:a4 (3*(n+1)+2)=_:=(a7 _ Z).trans bj;have dk:Exo n h a4:=⟨λb hb=>(a7 b Z).trans ((b5.go b Z).trans (X5.go b hb))⟩;refine zG ?_;refine sT #[CJ .i64 3,CN ⟨⟨[]⟩⟩,Y (ξ ⟨bX,0,θ⟩) (O (zC p)) (O (zC p)),Y (ξ ⟨bR,0,θ⟩) (O (zC p)) (O (zC p)),η,η] ?_;refine sS (hb:=da) [CJ .i64 3,CN ⟨⟨[]⟩⟩,Y (ξ ⟨bX,0,θ⟩) (O (zC p)) (O (zC p)),Y (ξ ⟨bR,0,θ⟩) (O (zC p)) (O (zC p)),η,η] λc8 cv av=>?_;have c3:Tr l a4 l c8:=FT av (Eo _ _);refine zG ?_;refine zq ?_ (hx:=⟨Z,λb hb=>(av.1 b Z).trans (dk.go b hb)⟩);exact .inr ⟨hv,M,N,(B,zs),s,C,⟨c,w.iv⟩,.inr (.inl ⟨e,up,bX,bR,ω,F9,hE,R,(d7.go c3 (av.1 _ (by have:=oX.lo;omega))).low Z,(oR.go c3 (av.1 _ (by have:=oR.lo;omega))).low Z⟩)⟩
 refine zG ?_;have ej:=qa (k+3) aj (bf.1.ext (n':=Z4) b5.go Z) be (P:=289) (by rw[bg];exact ca) zd Z;refine sC ej ?_;rintro _ a4 l⟨B2,zs2,s2,dt,dm,l11,dw,dz,e2,e6,f8,rfl,_,_,_,_,ag,cm,cp⟩ az a7;have es:s2=s:=ag.ds.trans cg.ds.symm;subst es;refine Za λc8 cv d3=>?_;refine zG ?_;refine sS [U dt,Y dm l11 dw,U dz,Y e2 e6 f8] λa1 cx cs=>?_;have cn:=cm.t (show Tr l a4 (l+1) a1 from zt);have cq:=cp.t (show Tr l a4 (l+1) a1 from zt);have ad:Exo Z4 G a1:=⟨λb hb=>(cs.1 b Z).trans ((d3 b Z).trans (a7 b hb))⟩;have az:Z4<=l:=az;have ah:a1 bs=_:=(ad.go bs Z).trans di;have bk:a1 (3*(n+1)+2)=_:=(ad.go _ Z).trans bj;have bo:a1 (3*y+2)=_:=(ad.go _ Z).trans dg;obtain⟨K,hK⟩:∃K,K=O (zC p)+O (zk p):=⟨_,ω⟩;rw[<-hK]at ah;refine zG ?_;refine NM (L:=K) [U χ,η,U χ,η] ?_ Z;intro H cy W;obtain⟨Bl,b9⟩:∃B,B=3*(l+1)+2:=⟨_,ω⟩;have gl:gro Bl=χ:=by rw[b9];exact zB _
 have f3:OR 4 ratP H (l+1+1) Bl (Km K λ_=>0):=(by rw[b9,<-eE];exact OR.fill Z cy Ei ⟨_,_,_,_,_,_,_,_,ω,EB _ _,EB _ _⟩);rw[<-b9];have W:Exo (l+1) a1 H:=⟨W⟩;have dl:Exo Z4 G H:=⟨λb hb=>(W.go b Z).trans (ad.go b hb)⟩;have dj:H bs=_:=(W.go bs Z).trans ah;have db:H (3*(n+1)+2)=_:=(W.go _ Z).trans bk;have dh:H (3*y+2)=_:=(W.go _ Z).trans bo;have bu:H (3*l+2)=_:=(W.go _ Z).trans cx;have em:=cn.ext (n':=l+1+1) W.go Zq;have et:=cq.ext (n':=l+1+1) W.go Zq;have cb:=a8.iv.toPB.tab.dp;have bc:=a8.sp.de;have⟨r0,g0,_,e9⟩:=a8.sp.ta (O (zk p)) CG;refine zG ?_;refine sF (α:=Nat) (λz=>[(2,ι (3*(n+1)+2)),(4,ι (3*y+2)),(6,ι bs),(14,Y (ξ ⟨bX,0,θ⟩) (O (zC p)) (O (zC p))),(16,ι (3*l+2)),(17,Y (ξ ⟨Bl,0,θ⟩) K K),(90,Y A.nb (O (zC p)) (O (zC p))),(91,CJ .i64 (O (zC p):Int)),(92,CJ .i64 (z:Int))]) (λz h' S w'=>w'=[]/\l+1+1<=S/\ExtB (l+1+1) [Bl] H h'/\Tr (l+1+1) H S h'/\OR 4 ratP h' S Bl (Km K (optF C (O (zk p)) s2 z))/\z<=O (zC p)) (λz=>O (zC p)-z) 0 ⟨ω,CG,El _ _ _,Eo _ _,f3,CH⟩ ?_;rintro j t I Z3 _⟨rfl,d4,c4,a9,ax,hj⟩;(try dsimp only at d4 a9 ax hj);have a5:∀b,b<3*(l+1+1)->b≠Bl->I b=H b:=λb hb hn=>c4 b hb (by simpa using hn);have b6:Exo Z4 G I:=⟨λb hb=>(a5 b Z Z).trans (dl.go b hb)⟩;have b3:=a8.sm.ext (n':=Z3) b6.go Z;have br:I bs=_:=(a5 bs Z Z).trans dj;have bm:I (3*(n+1)+2)=_:=(a5 _ Z Z).trans db;have bp:I (3*y+2)=_:=(a5 _ Z Z).trans dh;have fd:I (3*l+2)=_:=(a5 _ Z Z).trans bu;have en:=em.t a9;have eu:=et.t a9;have b8:GG I Z3:=aj.ext b6.go Z;refine zG ?_;by_cases q15:(j:Int)<(O (zC p):Int);.refine zG ?_;have al:j<O (zC p):=Z;have fj:=w.iv.nv j al;have⟨ac,fk,e3,ez,d1,f7⟩:=natS.at b3.nb.rs (w.sp.nb j al);rw[w.sp.nl]at d1;refine sI e3 d1 ?_;refine sL f7 ez 0 ?_;refine kh ?_;have cj:=a6.tO j al;have ba:=Nl (k+4) b8 b3 (i:=O (zk p)) (j:=j) g0 (e9 j al) (yU cj zd) (by rw[bc];exact yU a6.dd zd) (by rw[bc];omega);refine dC ba ?_;rintro _ ea f0⟨du,dq,ew,dx,e0,e4,e7,f9,rfl,aa,ab⟩ ae a3;have sc:Sz 620 (DK (C.T (O (zk p)) j) C.d):=xz cb cj (CZ a6.dd (CW zd zd));rw[bc]at aa ab;rw[EE]at aa ab sc;refine zH ?_;refine dC (divQ _ (b8.ext a3 ae) aa ab (en.ext a3 ae) (eu.ext a3 ae) sc ag.sz zd) ?_;rintro _ ak an⟨dv,dr,ex,dy,e1,e5,e8,fa,rfl,eo,ev⟩ fc bt;refine dI ω (show C.nb j<K from Z) ?_;have Z0:Exo Z3 I ak:=⟨λb hb=>(bt b Z).trans (a3 b hb)⟩;refine Qe (n0:=n) (j:=C.nb j) (q:=(C.T (O (zk p)) j:Rat)/C.d/s2) [U dv,Y dr ex dy,U e1,Y e5 e8 fa] (ax.ext (n':=an) Ei Z0.go Z) Ei Af (Dd _) ⟨_,_,_,_,_,_,_,_,ω,eo,ev⟩ Z ?_;rw[oV];intro fh f4 bw;refine zG ?_;exact sK (j+1) ⟨ω,Z,λb hb hn=>(bw.1 b (λe=>hn (C0.2 e))).trans ((Z0.go b Z).trans (a5 b hb (λe=>hn (C0.2 e)))),a9.trans (HY ⟨show Z3<=an by omega,λb hb=>.inl (Z0.go b hb)⟩ (FT bw (Eo _ _))),f4,mp⟩
 have ed:j=O (zC p):=Z;subst ed;refine zG ?_;have ee:=qV (k+2) (f:=optF C (O (zk p)) s2 (O (zC p))) (σ:=KU (zC p) M) (a:=910) (b:=290) b8 b3 hK ax gl Z (w.sp.ls.trans hK.symm) (λv hv=>el v Z) w.sp.dn n1 Z (λv _=>zmv cb a6 zd ag.sz _ CG v) (λv hv=>ck v Z) zd;refine zF _ R5 ee ?_;rintro _ J a2 fb⟨⟨b1,b2,rfl,o1,o2⟩,fo,c5,fg,d6⟩;rw[mY,zV (show ∀c∈fb,3*n<=c from λc hc=>by have:=d6 c hc;omega)];have ac:∀b,b<3*Z3->b≠Bl->J b=I b:=λb hb hn=>c5 b hb (by simpa using hn);have ai:Exo Z4 G J:=⟨λb hb=>(ac b Z Z).trans (b6.go b hb)⟩;have b7:Exo (y+1) Z1 J:=⟨λb hb=>(ai.go b Z).trans (b5.go b hb)⟩;have ff:J bs=_:=(ac bs Z Z).trans br;have dc:J (3*(n+1)+2)=_:=(ac _ Z Z).trans bm;have fe:J (3*y+2)=_:=(ac _ Z Z).trans bp;have c7:GG J a2:=aj.ext ai.go Z;have bi:=oX.ext (n':=a2) ai.go Z;have bq:=qv.ext (n':=a2) (show J9 n9 h9 J from λb hb=>(ai.go b Z).trans (V.go b hb)) Z;rw[<-hK]at bq;refine kh ?_;refine OI (b:=bv) (off:=0) (O (zC p)) R6 (by show Y A.va _ _=_;rw[c6]) ω ω Z ?_;have⟨D,hD⟩:=SolI.vtx (p:=p) ⟨c,w.iv⟩ pr;have cc:∀j,j<=O (p.obj.map zj)->Sz 990 (dotR ((p.obj.map zj).take j) ((Km (O (zC p)) C.x).take j)):=λj hj=>U7 hD F.b.aM n1 n5 pr.lo.2 Z yo (λj hj=>wo hj) hj;have bd:=Nk (k+4) c7 (bf.1.ext (n':=a2) b7.go Z) bq be (b:=750) (λq hq=>by obtain⟨j,hj,rfl⟩:=kJ hq;exact a6.va j Z) Af cc zd Z;rw[CR (show(Km (O (zC p)) C.x).length<=O (p.obj.map zj) by rw[yo];omega)]at bd;have bb:=cc _ CG;rw[CR CG,CR (show(Km (O (zC p)) C.x).length<=O (p.obj.map zj) by rw[yo];omega)]at bb;have d5:dotR (p.obj.map zj) (Km (O (zC p)) C.x)=Kc (O (zC p)) λj=>atR (p.obj.map zj) j*C.x j:=(by rw[rM Af (O (zC p)) bg];exact yg λj hj=>by rw[wg (wo hj)]);rw[d5]at bd bb;refine dC bd ?_;rintro _ ea f0⟨du,dq,ew,dx,e0,e4,e7,f9,rfl,aa,ab⟩ ae a3;refine dC (TE _ (c7.ext a3 ae) aa ab bb zd) ?_;rintro _ ak an rfl fc bt;have Z0:Exo a2 J ak:=⟨λb hb=>(bt b Z).trans (a3 b hb)⟩;have df:ak (3*(n+1)+2)=_:=(Z0.go _ Z).trans dc;refine zJ ?_;refine sT #[CJ .i64 1,CN ⟨⟨ratT (Kc (O (zC p)) λj=>atR (p.obj.map zj) j*C.x j)⟩⟩,Y (ξ ⟨bX,0,θ⟩) (O (zC p)) (O (zC p)),η,Y (ξ ⟨b1,0,θ⟩) (O (zk p)) (O (zk p)),Y (ξ ⟨b2,0,θ⟩) (O (zC p)) (O (zC p))] ?_;refine sS (hb:=df) [CJ .i64 1,CN ⟨⟨ratT (Kc (O (zC p)) λj=>atR (p.obj.map zj) j*C.x j)⟩⟩,Y (ξ ⟨bX,0,θ⟩) (O (zC p)) (O (zC p)),η,Y (ξ ⟨b1,0,θ⟩) (O (zk p)) (O (zk p)),Y (ξ ⟨b2,0,θ⟩) (O (zC p)) (O (zC p))] λc9 fn ct=>?_;have b4:Tr a2 J an c9:=FT ct ⟨Z,λb hb=>.inl (Z0.go b hb)⟩;have am:∀b,b<3*a2->b≠3*(n+1)+2->c9 b=J b:=λb hb hn=>(ct.1 b hn).trans (Z0.go b hb);refine zG ?_;refine zq ?_ (hx:=⟨Z,λb hb=>(am b Z Z).trans ((b7.go b Z).trans (X5.go b hb))⟩);exact .inr ⟨hv,M,N,(B,zs),s2,C,⟨c,w.iv⟩,.inr (.inr ⟨bX,b1,b2,ω,F9,R,(bi.go b4 (am _ bi.o.1 (by have:=oX.lo;omega))).low Z,(o1.go b4 (am _ o1.o.1 (by have:=o1.lo;omega))).low Z,(o2.go b4 (am _ o2.o.1 (by have:=o2.lo;omega))).low Z⟩)⟩
def cq(p:LPD)(R C:List (List UInt8))(j i:Nat):Rat:=colQ (zk p) (R.map zj) (((C.map zj)[j]?).getD 0) j i
def sq(p:LPD)(R C X:List (List UInt8))(j:Nat):Rat:=dotR ((KH (zk p) (R.map zj) (C.map zj) (O (zk p)) 0).take j) ((X.map zj).take j)
section
variable {p:LPD}{R C X:List (List UInt8)}
end
section
variable {n:Nat}{p:LPD}
def zdg(k:Nat)(J:Sl h n 1 (Y ao lo co) (strs p.obj))(K:Kz h n (Y ar lr cr) p.rows)(M:Sl h n 1 (Y aw lw cw) (strs p.lower))(L:Sl h n 1 (Y au lu cu) (strs p.upper)):VF (Ka (k+2)) 4 [.agg #[Y ao lo co,Y ar lr cr,Y aw lw cw,Y au lu cu]] h n λv=>∃b:Bool,v=U b/\(b=φ->SmlP p):=by have ac:=z8 J;have ad:=K.len;have af:=z8 M;have ae:=z8 L;refine zO R4<|zG ?_;refine sB [Y ao lo co,Y ar lr cr,Y aw lw cw,Y au lu cu] λa4 am an=>?_;refine zG ?_;by_cases q12:(lo:Int)>5;exact BG;refine zG ?_;by_cases q13:(lr:Int)>6;exact BG;refine zG ?_;by_cases q14:(lw:Int)>7;exact BG;refine zG ?_;by_cases q15:(lu:Int)>7;exact BG;refine zG ?_;refine sC ((mI _ (8) J.x Z).cx) ?_;rintro _ a5 ag⟨Z3,rfl,C⟩ b0 ap;obtain⟨rfl,u⟩|⟨rfl,u⟩:=Kg C;exact BG;refine zG ?_;refine sC ((mI _ (8) M.x Z).cx) ?_;rintro _ a6 ah⟨Z0,rfl,D⟩ b1 aq;obtain⟨rfl,w⟩|⟨rfl,w⟩:=Kg D;exact BG;refine zG ?_;refine sC ((mI _ (8) L.x Z).cx) ?_;rintro _ I q⟨a0,rfl,F⟩ b2 av;obtain⟨rfl,y⟩|⟨rfl,y⟩:=Kg F;exact BG;refine zG ?_;refine sF (α:=Nat) (λz=>[(1,ι (3*n+2)),(3,CJ .i64 (z:Int))]) (λz P T Z4=>Z4=[]/\q<=T/\ExtB q [] I P/\z<=O p.rows/\∀r∈p.rows.take z,Qz r) (λz=>O p.rows-z) 0 ⟨ω,CG,El _ _ _,CH,(λs R=>BO R eF)⟩ ?_;rintro i t a7 ai _⟨rfl,b3,V,hi,e⟩;(try dsimp only at hi e);refine zG ?_;by_cases q20:(i:Int)<(lr:Int);refine kh ?_;obtain⟨l,m⟩:∃d,(p.rows)[i]?=ξ d:=⟨_,CK Z⟩;have⟨ab,al,W,N,a3,c,f,g,j,o⟩:=Kz.at K m;have S:=z8 o;refine dI c g ?_;refine zH ?_;refine dL j f 0 ?_;refine zH ?_;by_cases q22:(N:Int)>7;exact BG;refine zH ?_;refine dI c g ?_;refine zH ?_;refine dL j f 0 ?_;refine dC ((mI _ (8) o.x Z).cx) ?_;rintro _ a8 aj⟨a1,rfl,G⟩ b4 ax;obtain⟨rfl,A⟩|⟨rfl,A⟩:=Kg G;exact BG;refine zH ?_;refine dI c g ?_;refine zH ?_;refine dL j f 1 ?_;refine zH ?_;refine dI c g ?_;refine zH ?_;refine dL j f 2 ?_;refine Uz [CN ⟨⟨l.lo⟩⟩,CN ⟨⟨l.hi⟩⟩] R5 λa9 Z1 ay=>?_;refine dC ((mI _ (8) (zo8 Z1 Z) (by show 2<100000000;omega)).cx) ?_;rintro _ aa ak⟨a2,rfl,H⟩ b5 az;obtain⟨rfl,B⟩|⟨rfl,B⟩:=Kg H;exact BG;refine zJ ?_;exact sK (i+1) ⟨ω,Z,zy,Z,(ot e m ⟨Z,A,B⟩)⟩;refine zf ?_;exact⟨_,ω,λ_=>⟨Z,Z,Z,Z,u,w,y,by have a:=e;rw[CR Z]at a;exact a⟩⟩
end
section
variable {n:Nat}{v:ψ}{p:LPD}
def N2(n:Nat)(v:ψ):Prop:=∀ad len cap,v=Y (ξ ad) len cap->ad.block<3*n
def Ku.blt{L:List (List UInt8)}(s:Ku lo h n v L):N2 n v:=by
 have⟨s,_⟩:=s;generalize strs L=c at s;intro j g f e;subst e;cases s with
 |nil a=>
  obtain a|⟨b,i,l,a,d⟩:=a;cases a;cases a;exact d
 |at_ d=>exact d
theorem zxr(k:Nat)(io:Sl h n 1 (Y ao lo co) (strs p.obj))(ir:Kz h n (Y ar lr cr) p.rows)(iw:Sl h n 1 (Y aw lw cw) (strs p.lower))(iu:Sl h n 1 (Y au lu cu) (strs p.upper))(hp:SmlP p):CX (Ka (k+3)) 6 [.agg #[Y ao lo co,Y ar lr cr,Y aw lw cw,Y au lu cu]] h n λv B C=>∃aO lO kO aR lR kR aL lL kL aU lU kU nA nB nC,v=.agg #[Y aO lO kO,Y aR lR kR,Y aL lL kL,Y aU lU kU]/\(n<=nA/\nA<=nB/\nB<=nC/\nC<=C)/\Ku n B C (Y aO lO kO) p.obj/\GRW nC B C (Y aR lR kR) (vo p)/\Ku nA B C (Y aL lL kL) (fitL p.lower (O p.obj) [])/\Ku nB B C (Y aU lU kU) (fitL p.upper (O p.obj) [])/\N2 nA (Y aO lO kO)/\N2 nB (Y aL lL kL)/\N2 nC (Y aU lU kU):=by
 have bo:=z8 io;have bp:=ir.len;have br:=z8 iw;have bq:=z8 iu;have⟨be,bf,bg,bh,bi,bj,bk,aj⟩:=hp;refine zw R4<|zG ?_;refine sB [Y ao lo co,Y ar lr cr,Y aw lw cw,Y au lu cu] λb7 bu c4=>?_;refine sA λb8 bv c5=>?_;refine kh ?_;refine dC (zmu _ io.x Z) ?_;rintro _ b9 a5⟨u,y,w,rfl,a2⟩ cc c6;refine zH ?_;refine dC (bI _ iw.x Z (m:=lo) Z []) ?_;have ab:=a2.blt;rintro _ af V⟨j,q,rfl,S⟩ cd c7;have S:Ku a5 af V (Y j lo q) (fitL p.lower (O p.obj) []):=by grind
 have ac:=S.blt;refine zH ?_;refine dC (bI _ iu.x Z (m:=lo) Z []) ?_;rintro _ ag a⟨o,s,rfl,T⟩ ce c8;have T:Ku V ag a (Y o lo s) (fitL p.upper (O p.obj) []):=by grind
 have ae:N2 (a+1) _:=λad len cap e=>CZ (T.blt ad len cap e) Z;refine dT #[Y u y w,η,Y j lo q,Y o lo s] ?_;refine dB [η,η,η,η] λba bw c9=>?_;refine dS [Y u y w,η,Y j lo q,Y o lo s] λah av bs=>?_;refine zG ?_;refine sF (α:=Nat×Option Addr×Nat×Nat) (λz=>[(1,ι (3*n+2)),(2,ι (3*(n+1)+2)),(3,CJ .i64 (lo:Int)),(4,ι (3*a+2)),(5,CJ .i64 (z.1:Int))]) (λz B C w'=>w'=[]/\a+1<=C/\ExtB (a+1) [3*a+2] ah B/\B (3*a+2)=ξ (.row [Y u y w,Y z.2.1 z.2.2.1 z.2.2.2,Y j lo q,Y o lo s] 25)/\GRW (a+1) B C (Y z.2.1 z.2.2.1 z.2.2.2) ((vo p).take z.1)/\z.1<=O p.rows) (λz=>O p.rows-z.1) (0,θ,0,0) ⟨ω,CG,El _ _ _,av,GRW.nil _ _ _,CH⟩ ?_;rintro⟨i,Z0,lT,kT⟩ t P K _ ⟨rfl,cf,b3,L,b,hi⟩;dsimp only at L b hi;refine zG ?_;by_cases q19:(i:Int)<(lr:Int);refine kh ?_;obtain⟨g,N⟩:∃d,(p.rows)[i]?=ξ d:=⟨_,CK Z⟩;have⟨bm,bt,b4,bn,b5,M,Z4,W,Z3,a3⟩:=Kz.at ir N;have b0:=z8 a3;refine dI M W ?_;refine zH ?_;refine dL Z3 Z4 0 ?_;refine zH ?_;refine dC (bI _ a3.x (by have:=(aj _ (CL N)).1;omega) (m:=lo) Z [48]) ?_;rintro _ ai F⟨H,I,rfl,a4⟩ cg ca;have a4:Ku K ai F (Y H lo I) (fitL g.A (O p.obj) [48]):=by grind
 refine zH ?_;refine dI M W ?_;refine zH ?_;refine dL Z3 Z4 1 ?_;refine zH ?_;refine dI M W ?_;refine zH ?_;refine dL Z3 Z4 2 ?_;refine dT #[Y H lo I,CN ⟨⟨g.lo⟩⟩,CN ⟨⟨g.hi⟩⟩] ?_;refine Uz [Y H lo I,CN ⟨⟨g.lo⟩⟩,CN ⟨⟨g.hi⟩⟩] (l:=1) (c:=1) R5 λR ax cb=>?_;have az:Nq (a+1) [Y H lo I,CN ⟨⟨g.lo⟩⟩,CN ⟨⟨g.hi⟩⟩] (QA (O p.obj) g) R (F+1):=⟨_,_,_,ω,(a4.x).lo (show a+1<=K from Z)⟩;have⟨b1,f,a9⟩:=((b.x (h':=R) (n':=F+1) zx)).ex;have a8:R (3*F+2)=_:=ax;refine Zx (lo:=(a+1)) (mm:=1) ω ω ω ω ω ω ω ω ⟨De ω,De ω⟩ ω ω ω f (yp a8 R2) CG aD ω ω ⟨Bn,Z⟩ λc3 J b2 Z1 a6 D b6=>?_;have aa:=GRW.app f a9 az D Z1;have⟨a1,a7,_⟩:=Z1.shape;subst a7;replace a6:Exa (a+1) _ _:=⟨a6⟩;have bx:J (3*n+2)=_:=(D.blk f (zB _) Z).trans zp;have bz:J (3*(n+1)+2)=_:=(D.blk f (zB _) Z).trans zp;have c0:J (3*a+2)=_:=(D.blk f (zB _) Z).trans zp;have c1:J (3*F+2)=_:=(D.blk f (zB _) Z).trans zp;refine zH ?_;refine dS [Y u y w,Y a1 (O ((vo p).take i)+1) (O ((vo p).take i)+1),Y j lo q,Y o lo s] λbb ay aq=>?_;have ak:=aa.sto aq Z;refine zG ?_;exact sK (i+1,a1,(O ((vo p).take i)+1),(O ((vo p).take i)+1)) ⟨ω,Z,zy,ay,((xa (zal N)).symm▸ak),Z⟩;refine zG ?_;have bd:i=O p.rows:=Z;have a0:GRW (a+1) P K (Y Z0 lT kT) (vo p):=by grind [rW,CR]
 refine zG ?_;refine sS [Y u y w,Y Z0 lT kT,Y j lo q,Y o lo s] λbc c2 G=>?_;have al:=a2.x.sto G Z;have am:=S.x.sto G Z;have an:=T.x.sto G Z;have bl:=b.sto G Z;have ap:=a0.sto G Z;refine zq ?_;exact⟨_,_,_,_,_,_,_,_,_,_,_,_,a5,V,a+1,ω,⟨Z,Z,Z,Z⟩,(al).lo Z,ap,am,an,ab,ac,ae⟩
def zlw(k:Nat)(F:Sl h n 1 (Y ao lo co) (strs p.obj))(G:Kz h n (Y ar lr cr) p.rows)(I:Sl h n 1 (Y aw lw cw) (strs p.lower))(H:Sl h n 1 (Y au lu cu) (strs p.upper))(y:SmlP p):CX (Ka (k+3)) 6 [.agg #[Y ao lo co,Y ar lr cr,Y aw lw cw,Y au lu cu]] h n λv a b=>∃d q j f s l c o i g u m,v=.agg #[Y d q j,Y f s l,Y c o i,Y g u m]/\Ku n a b (Y d q j) p.obj/\GRW n a b (Y f s l) (vo p)/\Ku n a b (Y c o i) (fitL p.lower (O p.obj) [])/\Ku n a b (Y g u m) (fitL p.upper (O p.obj) []):=
 (zxr k F G I H y).mono λv a b⟨d,q,j,f,s,l,c,o,i,g,u,m,L,M,N,e,⟨w,J,K,_⟩,A,B,C,D,_⟩=>⟨d,q,j,f,s,l,c,o,i,g,u,m,e,A,B.lo Z,C.lo w,D.lo Z⟩
end
section
variable {p:LPD}{X:List (List UInt8)}
theorem kG{a:List SideD}{v:Nat}{d:SideD}{x:Rat}(h:a[v]?=ξ d):inBd (K0 a) (K6 a) v x↔LN x d.lo d.hi:=by grind [inBd,LN,OV,OW]
theorem bJ(hv:VLP p)(o:PrO (zC p) (zk p) (p.obj.map zj))(u:O X=O p.obj):feaP p X↔Fea (zC p) (zk p) (atR (X.map zj)):=by
 have s:=hv.cols;have w:O (X.map zj)=O (zC p):=by grind
 have e:∀i (h:i<O (zk p)),dotR ((zk p)[i]).A ((X.map zj).take ((zk p)[i]).A.length)=Kc (O (zC p)) λj=>atR (rA (zk p) i) j*atR (X.map zj) j:=λi h=>(by have c:=(o.lr _ (EX h)).2.2.2.1;rw[CR Z,rM Z (O (zC p)) c,Qy h]);constructor;rintro⟨c,g⟩;refine⟨λv hv=>?_,λi a=>?_⟩;have b:=CK hv;have f:=CK (l:=X.map zj) (i:=v) Z;rw[kG b,wg f];exact c v _ _ b f;rw[kG (CK a),<-e i a];exact g _ (EX a);rintro⟨c,g⟩;refine⟨λv d q b f=>?_,λd m=>?_⟩;have hv:=(CQ.1 b).1;have:=c v hv;rw[kG b,wg f]at this;exact this;obtain⟨i,a,rfl⟩:=Hn.1 m;have:=g i a;rw[kG (CK a),<-e i a]at this;exact this
theorem lF(hv:VLP p)(b:O X=O p.obj):valQ p X=Kc (O (zC p)) λj=>atR (p.obj.map zj) j*atR (X.map zj) j:=by have a:=hv.cols;grind [valQ,rM,CR,CU]
end
def OTN.ss{n0 n b:Nat}{h:HF}{ss:List (List UInt8)}(o:OTN n0 h n b ss){L:Nat}(a:O ss=L):Sl h n 1 (Y (ξ ⟨b,0,θ⟩) L L) (strs ss):=o.o.sl a.symm CG
section
variable {r:Nat}{up:Bool}{R:List (List UInt8)}
theorem qu{q:Nat->Rat}:(Km N λv=>ratT (q v)).map zj=Km N q:=by grind [Km,yb,Iw,Ec]
def dG{q:Nat->Rat}:allN (Km N λv=>ratT (q v)):=λs a=>by
 obtain⟨v,_,rfl⟩:=kJ a;exact⟨_,ω⟩
theorem QK{v:Nat}{q:Nat->Rat}(h:v<N):atR (Km N q) v=q v:=wg (wo h)
def gK{n:Nat}{a:Nat->Nat->Int}{x:Nat->Rat}{D:Int}(h:Vtx n m a x nV D)(w:∀v,v<n+m->∀j,j<n->(a v j).natAbs<=10^32)(o:1<=n)(u:n<=5){v:Nat}(hv:v<n+m):Ko 822 (ratT (x v)):=by have⟨e,f,i,l,_⟩:=num8 o u;have d:=h.qb Z (w v hv);have A:=O4 d i l zd zd;exact⟨Z,by rw[yb];exact(d.sz e (CZ f eH)).mono zd⟩
def Vj(h:QB (T0*10^38) (T0*10^38) q):Ko 700 (ratT q):=by have d:=O4 (a:=201) (b:=201) h eH eH zd zd;exact⟨Z,by rw[yb];exact h.sz eH eH⟩
def QL{st:PS}:∀k,conF st r low k=Ld (Ke (λ_=>0) (st.bs r) (Kk low)) st.nb (λc=>(st.T r c:Rat)/st.d*Kk (!low)) k
 |0=>rfl
 |k+1=>congrArg (Ke · _ _) (QL k)
def QM{st:PS}{s:Rat}:∀k,optF st m s k=Ld (λ_=>0) st.nb (λc=>(st.T m c:Rat)/st.d/s) k
 |0=>rfl
 |k+1=>congrArg (Ke · _ _) (QM k)
def Vk{st:PS}:∀k,rayF st c up k=Ld (Ke (λ_=>0) (st.nb c) (Kk up)) st.bs (λi=>(st.T i c:Rat)/st.d*Kk up) k
 |0=>rfl
 |k+1=>congrArg (Ke · _ _) (Vk k)
section
variable {p:LPD}{ss:List Rat}{b:Nat->Rat}
structure PrZ (p:LPD):Prop where
 v:VLP p
 q:PrO (zC p) (zk p) (p.obj.map zj)
 o:∀q∈p.obj.map zj,NE (10^6) (10^8) q
def PrZ.n(z:PrZ p):O (zC p)=O p.obj:=z.v.cols
noncomputable abbrev rT (p:LPD) (ss:List Rat) (M:Nat->Rat):List (List UInt8):=Km (O (zk p)) λi=>ratT (M (O (zC p)+i)*KU (zC p) ss (O (zC p)+i))
noncomputable abbrev cT (p:LPD) (ss:List Rat) (M:Nat->Rat):List (List UInt8):=Km (O (zC p)) λv=>ratT (M v*KU (zC p) ss v)
def Vl(W:LO (zC p) (zk p) ss bz y M b κ)(c:ScI (zC p) (zk p) (p.obj.map zj) ss bz y s)(z:PrZ p):bndQ p (rT p ss M) (cT p ss M)=Kc (O (zC p)+O (zk p)) λv=>M v*b v:=by unfold bndQ;rw[qu,qu];exact W.tot c z.q
def Vm(W:LO (zC p) (zk p) ss bz y M b κ)(c:ScI (zC p) (zk p) (p.obj.map zj) ss bz y s)(z:PrZ p):bndP p (rT p ss M) (cT p ss M):=by unfold bndP;rw[qu,qu];exact W.ok c z.q
theorem Vn(W:LO (zC p) (zk p) ss bz y M b κ)(c:ScI (zC p) (zk p) (p.obj.map zj) ss bz y s)(z:PrZ p){w:List Rat}(o:∀j,j<O (zC p)->∀q,w[j]?=ξ q->κ*(s*atR (p.obj.map zj) j)=q):O6 p (rT p ss M) (cT p ss M) w:=by
 unfold O6;rw[qu,qu];intro j d q a l;have i:=(CQ.1 a).1;rw[sa,yo]at i;have e:=wo (f:=λv=>M v*KU (zC p) ss v) i;rw[O8 e,Vi i,Fz]at a;injection a with a
 rw[<-a];exact((W.comb c z.q i).2).trans (o j i q l)
def Vo{E:Nat}(c:ScI (zC p) (zk p) (p.obj.map zj) ss bz y s)(z:PrZ p)(l:E<=T0*10^30)(o:WZ (O (zC p)+O (zk p)) E (T0*10^8) M):(∀t∈rT p ss M,Ko 700 t)/\(∀t∈cT p ss M,Ko 700 t)/\sumZ 1760 (zk p) (zC p) ((rT p ss M).map zj) ((cT p ss M).map zj)/\No 1760 (zk p) ((rT p ss M).map zj) ((cT p ss M).map zj):=by have⟨f,j⟩:=c.szm z.q l o;rw[qu,qu];refine⟨λt e=>?_,λt e=>?_,z.q.szs o.1 (C5 l eH) (λq d=>(f q d).1.mono zd eH) λq d=>(j q d).1.mono CG eH⟩;obtain⟨i,a,rfl⟩:=kJ e;exact Vj (f _ (CL (wo a))).2;obtain⟨i,a,rfl⟩:=kJ e;exact Vj (j _ (CL (wo a))).2
theorem Vp(e:SolI p ss bz y s st)(z:PrZ p)(K:990<=c):(∀t∈Km (O (zC p)) λv=>ratT (st.x v),Ko 822 t)/\dotZ c p ((Km (O (zC p)) λv=>ratT (st.x v)).map zj):=by have⟨D,a⟩:=e.vtx z.q;have f:=MP e.c z.q;have B:=z.q.n1;have C:=z.q.n5;have F:∀l:List Rat,(∀q∈l,NE (10^6) (10^8) q)->O l<=O (zC p)->∀i,i<=O l->Sz c (dotR (l.take i) ((Km (O (zC p)) st.x).take i)):=λl H w i G=>(U7 a f B C (λq I=>(H q I).up) w yo (λv A=>wo A) G).mono Z;refine⟨λt J=>?_,?_,λd u j L=>?_⟩;obtain⟨v,A,rfl⟩:=kJ J;exact gK a f B C Z;rw[qu];exact F _ z.o (HW z.q.lo.1);rw[qu];have h:=z.q.lr d u;grind
def Vr(a:SolI p ss bz y s st)(z:PrZ p)(e:Feas (O (zk p)) (loI p ss bz y) (hiI p ss bz y) st):feaP p (Km (O (zC p)) λv=>ratT (st.x v)):=by refine(bJ z.v z.q (by rw[yo];exact z.n)).2 (((a.c.fea z.q a.I.xL).1 λv d=>a.I.inb e d).congr λv d=>?_);rw[qu,QK d]
def Vs(z:PrZ p){x:Nat->Rat}:valQ p (Km (O (zC p)) λv=>ratT (x v))=Kc (O (zC p)) λj=>atR (p.obj.map zj) j*x j:=by rw[lF z.v (by rw[yo];exact z.n)];exact yg λj a=>by rw[qu,QK a]
theorem zzg(d:SolI p ss bz y s st)(z:PrZ p)(L:Feas (O (zk p)) (loI p ss bz y) (hiI p ss bz y) st)(P:∀c u,c<O (zC p)->¬ent (O (zk p)) (loI p ss bz y) (hiI p ss bz y) st u c){X C:List (List UInt8)}{V:List UInt8}(l:X=Km (O (zC p)) λv=>ratT (st.x v))(i:R=rT p ss (optF st (O (zk p)) s (O (zC p))))(f:C=cT p ss (optF st (O (zk p)) s (O (zC p))))(A:V=ratT (Kc (O (zC p)) λj=>atR (p.obj.map zj) j*st.x j)):PR1 p V X [] R C/\CkZ p V X [] R C:=by
 have B:=(d.c.obj z.q).pos;have W:LO (zC p) (zk p) ss bz y (optF st (O (zk p)) s (O (zC p))) st.x s⁻¹ :=(by rw[QM];exact d.I.wei P B);have⟨E,K,F⟩:=zzj d.c z.q z.o d.I;rw[<-QM]at F;have⟨T,Z4,Z3,Z0⟩:=Vo d.c z K F;have⟨x1,w⟩:=Vp (c:=1045) d z zd;have n5:=z.q.n5;have m6:=z.q.m6;have G:=z.n;have H:=jJ p;have J:=Rat.inv_mul_cancel s λe=>by rw[e]at B;exact E2 B
 have D:valQ p X=Kc (O (zC p)) λj=>atR (p.obj.map zj) j*st.x j:=by rw[l];exact Vs z
 have Z1:bndQ p R C=Kc (O (zC p)) λj=>atR (p.obj.map zj) j*st.x j:=(by rw[i,f,Vl W d.c z,W.sum st.x d.I.xL,d.c.val z.q d.I.xL,<-HC,J,IZ]);refine⟨⟨?_,?_,?_,?_,?_,?_,?_,ω,by rw[D,A],?_,by rw[Z1,A],?_⟩,⟨?_,λt h=>Ag,?_,?_,?_,λ_=>?_,λh=>?_,λ_ _=>?_⟩⟩;rw[l];exact dG;rw[l,yo];exact G;rw[l];exact Vr d z L;rw[i];exact dG;rw[i,yo];exact H;rw[f];exact dG;rw[f,yo];exact G;rw[i,f];exact Vm W d.c z;rw[i,f];exact Vn W d.c z λj hj q S=>by rw[<-HC,J,IZ,wg S]
 rw[l];exact x1;rw[i];exact T;rw[f];exact Z4;refine⟨by rw[l,yo];omega,by show 0<1000000;omega,by rw[i,yo];omega,by rw[f,yo];omega,?_⟩;have:=(w.val).1;rw[l]at D;rw[A,<-D];have hl:=O4 (a:=320) (b:=320) ⟨_,(valQ p (Km (O (zC p)) λv=>ratT (st.x v))).den,by have:=(valQ p (Km (O (zC p)) λv=>ratT (st.x v))).den_pos;omega,by rw[Ds];exact Mt _,D9 w.val.1,by rw[C4];exact D9 w.val.2⟩ eH eH zd zd;omega;rw[l];exact w;have:=z.q.n1;grind;rw[i,f];exact⟨Z3,Z0⟩
theorem zzh(a:SolI p ss bz y s st)(z:PrZ p)(hv:Vio (O (zk p)) (loI p ss bz y) (hiI p ss bz y) st r low g)(J:∀c,c<O (zC p)->¬suit (loI p ss bz y) (hiI p ss bz y) (rdOf (O (zk p)) st r 0 low) c){C:List (List UInt8)}(i:R=rT p ss (conF st r low (O (zC p))))(d:C=cT p ss (conF st r low (O (zC p)))):PR2 p [] [] [] R C/\CkZ p [] [] [] R C:=by
 obtain⟨W,H⟩:=hv.wei a.I J;obtain⟨E,B,l⟩:=zzs a.c z.q a.I hv.hr;rw[<-QL]at W l;obtain⟨K,L,Z1,P⟩:=Vo a.c z B l;have V:=z.q.n1;have Z3:=z.q.n5;have Z4:=z.q.m6;have D:=z.n;have o:=jJ p;have F:bndQ p R C=Kk low*g:=by
  have u:=W.sum st.x a.I.xL;have w:=QC (f:=st.x) (y:=conF st r low (O (zC p))) (q:=st.x (st.bs r)+g) (a.I.toPB.bv r hv.hr);have A:conF st r low (O (zC p)) (st.bs r)=Kk low:=by
   rw[QL,NY λc G=>a.I.toPB.dis c r G hv.hr,qM]
  have e:∀f:Nat->Rat,(Kc (O (zC p)+O (zk p)) λv=>conF st r low (O (zC p)) v*f v)=Kc (O (zC p)+O (zk p)) λv=>f v*conF st r low (O (zC p)) v:=λf=>yg λv _=>Fm _ _;rw[i,d,Vl W a.c z,e,w,<-e,u,A]
  grind
 refine⟨⟨?_,?_,?_,?_,rfl,rfl,rfl,?_,by rw[F];exact N1.2 H,?_⟩,⟨λt h=>Ag,λt h=>Ag,?_,?_,?_,λh=>?_,λh=>?_,λ_ _=>?_⟩⟩
 .rw[i];exact dG
 .rw[i,yo];exact o
 .rw[d];exact dG
 .rw[d,yo];exact D
 .rw[i,d];exact Vm W a.c z
 .rw[i,d];refine Vn W a.c z λj S q T=>?_
  grind
 .rw[i];exact K
 .rw[d];exact L
 .grind [yo]
 .have h:(0:Nat)=O p.obj:=h;omega
 .have h:(0:Nat)=O p.obj:=h;omega
 rw[i,d];exact⟨Z1,P⟩
theorem oQ(B:SolI p ss bz y s st)(z:PrZ p){e:Nat}(H:e<O (zC p)):0<st.d.natAbs/\st.d.natAbs<=T0/\∀v,∃w:Int,((st.d.natAbs:Nat):Rat)*rayF st e up (O (zk p)) v=w/\w.natAbs<=T0:=by
 have f:=B.I;have o:=MP B.c z.q;have S:=f.toPB.tab.dp;have C:=QJ z.q.n1 z.q.n5;have A:=C5 (f.toPB.bD o) C.2;have G:((st.d.natAbs:Nat):Rat)=(st.d:Rat):=by rw[<-Ds];congr 1;omega
 have l:∀(x:Int) (u:Bool),x.natAbs<=T0->∃w:Int,(x:Rat)*Kk u=w/\w.natAbs<=T0:=λx u F=>by
  cases u with
  |true=>exact⟨x,Fz _,F⟩
  |false=>exact⟨-x,by rw[It];show(x:Rat)* -1=_;grind,by rw[Ff];exact F⟩
 refine⟨Z,A,λv=>?_⟩;rw[Vk];refine Pa (P:=λq=>∃w:Int,((st.d.natAbs:Nat):Rat)*q=w/\w.natAbs<=T0) (λv=>?_) (λi D=>?_) _ CG v;unfold Ke;split;rw[G];exact l st.d up A;exact⟨0,FC _,CH⟩;have K:=EU (a:=(st.T i e:Rat)) f.toPB.d0;have⟨w,L,Z1⟩:=l (st.T i e) up (C5 (f.toPB.bT o (D9 D) H λj J=>o _ (f.toPB.bv i D) j J) C.1);grind
def nz(l:SolI p ss bz y s st)(z:PrZ p){e:Nat}(o:e<O (zC p)){v:Nat}:QB T0 T0 (rayF st e up (O (zk p)) v):=by have⟨u,a,f⟩:=oQ (up:=up) l z o;have⟨w,i,j⟩:=f v;exact⟨w,st.d.natAbs,Z,by rw[Ds];exact i,j,by rw[C4];exact a⟩
theorem zz4(C:SolI p ss bz y s st)(z:PrZ p){e:Nat}(F:e<O (zC p))(T:1240<=c):(∀t∈Km (O (zC p)) λv=>ratT (rayF st e up (O (zk p)) v),Ko 568 t)/\dotZ c p ((Km (O (zC p)) λv=>ratT (rayF st e up (O (zk p)) v)).map zj):=by have W:=z.q.n5;have⟨u,S,V⟩:=oQ (up:=up) C z F;have K:∀l:List Rat,(∀q∈l,NE (10^6) (10^8) q)->O l<=O (zC p)->∀i,i<=O l->Sz c (dotR (l.take i) ((Km (O (zC p)) (rayF st e up (O (zk p)))).take i)):=λl H I i G=>(by rw[UY yo (λv J=>wo J) I G];have L:∀j,j<O l->PZ st.d.natAbs (10^6) (T0*10^8) (rayF st e up (O (zk p)) j*atR l j):=λj w=>(by have f:=H _ (EX w);rw[wg (CK w)];exact PZ.mul u (V j) ⟨(l[j]).den,(l[j]).num,(l[j]).den_pos,f.den,Mt _,C5 f.num (ER _ (l[j]).den_pos)⟩);have A:=PZ.sum L i G;have Z1:Kc i (λj=>rayF st e up (O (zk p)) j*atR l j)=Kc i λj=>atR l j*rayF st e up (O (zk p)) j:=yg λj _=>Fm _ _;rw[Z1]at A;have P:=(A.mono (CW zd (show i<=5 from Z)) (CS _ (show i<=5 from Z))).qb u;have B:=CS ((10^6)^5) S;exact(P.sz (a:=1240) (Dh (CS _ B) eH) (Dh B eH)).mono T);refine⟨λt Z4=>?_,?_,λd D j w=>?_⟩;obtain⟨v,J,rfl⟩:=kJ Z4;have f:=nz (up:=up) C z F (v:=v);have H:=O4 (a:=163) (b:=163) f eH eH zd zd;exact⟨Z,by rw[yb];exact f.sz eH eH⟩;rw[qu];exact K _ z.o (HW z.q.lo.1);rw[qu];have h:=z.q.lr d D;grind
theorem Vt{v:Nat}{d:SideD}{x e:Rat}(a:ds[v]?=ξ d)(h:∀q:Rat,0<q->inBd (K0 ds) (K6 ds) v (x+q*e)):dirB e d.lo d.hi:=by have⟨f,i⟩:=zyv h;refine⟨?_,?_⟩;by_cases q:d.lo=[];exact .inl q;exact .inr (FM.2 (f _ (by rw[OV a,Cx q])));by_cases q:d.hi=[];exact .inl q;have j:=i _ (by rw[OW a,Cx q]);grind [N1,Int.not_lt.1,FK.2]
theorem zzf(f:SolI p ss bz y s st)(z:PrZ p)(G:Feas (O (zk p)) (loI p ss bz y) (hiI p ss bz y) st){e:Nat}(J:Ent (O (zC p)) (O (zk p)) (loI p ss bz y) (hiI p ss bz y) st e up)(T:∀r ρ,¬Lc (O (zk p)) (loI p ss bz y) (hiI p ss bz y) st e up r ρ){X Z3:List (List UInt8)}(l:X=Km (O (zC p)) λv=>ratT (st.x v))(a:Z3=Km (O (zC p)) λv=>ratT (rayF st e up (O (zk p)) v)):PR3 p [] X Z3 [] []/\CkZ p [] X Z3 [] []:=by
 obtain⟨Z4,V⟩:=Vp (c:=1045) f z zd;obtain⟨W,Z0⟩:=zz4 (c:=1300) f z J.he zd;have n1:=z.q.n1;have n5:=z.q.n5;have m6:=z.q.m6;have H:=z.n;have a0:=jJ p;have D:=λq (o:(0:Rat)<q)=>zlu f.c z.q f.I G J T o;have Z1:O Z3=O p.obj:=by rw[a,yo];exact H
 have L:Z3.map zj=Km (O (zC p)) (rayF st e up (O (zk p))):=by rw[a];exact qu
 refine⟨⟨?_,?_,?_,?_,Z1,rfl,rfl,rfl,?_,?_⟩,⟨?_,?_,λt h=>Ag,λt h=>Ag,?_,λ_=>?_,λ_=>?_,λ_ h=>?_⟩⟩
 .rw[l];exact dG
 .rw[l,yo];exact H
 .rw[l];exact Vr f z G
 .rw[a];exact dG
 .rw[a,Vs z,O9];have w:=(D 1 zd).2;have B:(Kc (O (zC p)) λj=>atR (p.obj.map zj) j*(st.x j+1*rayF st e up (O (zk p)) j))=(Kc (O (zC p)) λj=>atR (p.obj.map zj) j*st.x j)+Kc (O (zC p)) λj=>atR (p.obj.map zj) j*rayF st e up (O (zk p)) j:=by
   rw[<-Ub]
   grind
  rw[B]at w
  grind
 .unfold dirP;rw[L];refine⟨λv d q F u=>?_,λd S=>?_⟩
  .have K:=(CQ.1 F).1;rw[wo K]at u;injection u with u
   rw[<-u];exact Vt F λq o=>(D q o).1.v v K
  obtain⟨i,C,rfl⟩:=Hn.1 S;have w:=(z.q.lr _ (EX C)).2.2.2.1;unfold rowH;rw[CR Af,rM (by rw[yo];exact w) (O (zC p)) w];refine Vt (x:=Kc (O (zC p)) λj=>atR (zk p)[i].A j*st.x j) (CK C) λq o=>?_;have B:=(D q o).1.r i C;rw[Qy C]at B;have P:(Kc (O (zC p)) λj=>atR (zk p)[i].A j*(st.x j+q*rayF st e up (O (zk p)) j))=(Kc (O (zC p)) λj=>atR (zk p)[i].A j*st.x j)+q*Kc (O (zC p)) λj=>atR (zk p)[i].A j*atR (Km (O (zC p)) (rayF st e up (O (zk p)))) j:=by
   rw[<-wL,<-Ub]
   grind [yg,QK]
  rw[<-P];exact B
 .rw[l];exact Z4
 .rw[a];exact W
 .grind [yo]
 .rw[l];exact V
 .rw[a];exact Z0
 have h:(0:Nat)=O p.obj:=h;omega
end
end
section
variable {n:Nat}{p:LPD}{R:List (List UInt8)}
theorem zyx(k:Nat)(w:Sl h n 1 (Y ao lo co) (strs p.obj))(F:Kz h n (Y ar lr cr) p.rows)(H:Sl h n 1 (Y aw lw cw) (strs p.lower))(G:Sl h n 1 (Y au lu cu) (strs p.upper))(hp:LPB 27 p)(hv:VLP p){o:Int}{V:List UInt8}{lz cz:Nat}{am:Option Addr}{lm cm:Nat}{X Z3 C:List (List UInt8)}(ix:Sl h n 1 (Y ax lx cx) (strs X))(iy:Sl h n 1 (Y ay ly cy) (strs Z3))(iz:Sl h n 1 (Y az lz cz) (strs R))(im:Sl h n 1 (Y am lm cm) (strs C))(hz:CkZ p V X Z3 R C):VF (Ka (k+11)) 9 [.agg #[Y ao lo co,Y ar lr cr,Y aw lw cw,Y au lu cu],.agg #[CJ .i64 o,CN ⟨⟨V⟩⟩,Y ax lx cx,Y ay ly cy,Y az lz cz,Y am lm cm]] h n λv=>∃t:Bool,v=U t/\(t=φ↔prv p o V X Z3 R C):=by
 have c:=hp;have g4:=z8 w;have g5:=F.len;have g7:=z8 H;have g6:=z8 G;have⟨fn,fj,fo,aa,bd,fk,fl,fm⟩:=hp;have g8:=z8 ix;have g9:=z8 iy;have ga:=z8 iz;have g3:=z8 im;have fh:=hv.ll;have fi:=hv.lu;have⟨hX,hY,hR,hC,⟨c4,c5,c3,c2,fg⟩,zX,zY,zS⟩:=hz;have ha:27+27<=2000:=by decide
 have eh:O (Z3.map zj)=O Z3:=by rw[CU]
 refine zO R4<|zG ?_;refine sB [Y ao lo co,Y ar lr cr,Y aw lw cw,Y au lu cu] λeo i1 ij=>?_;refine sB [CJ .i64 o,CN ⟨⟨V⟩⟩,Y ax lx cx,Y ay ly cy,Y az lz cz,Y am lm cm] λep i2 il=>?_;refine zG ?_;refine sC (O3 _ ix.x (λs hs=>(hX s hs).1) c4) ?_;rintro _ eq gb⟨d9,ft,dt,ea,rfl,e⟩ jm ip;refine zG ?_;refine sC (O3 _ iy.x (λs hs=>(hY s hs).1) c5) ?_;rintro _ er gc⟨b9,bf,ba,eb,rfl,B⟩ jn iq;refine zG ?_;refine sC (O3 _ iz.x (λs hs=>(hR s hs).1) c3) ?_;rintro _ es gd⟨da,fu,du,ec,rfl,f⟩ jo it;refine zG ?_;refine sC (O3 _ im.x (λs hs=>(hC s hs).1) c2) ?_;rintro _ et ge⟨db,fv,dv,ed,rfl,g⟩ jp iv;refine zG ?_;by_cases q17:o=1;refine zG ?_;obtain⟨rfl,e⟩|⟨rfl,e,b2⟩|⟨rfl,e,b2,A⟩:=e;refine zf ?_;exact Kf λb=>have y:=(KQ q17).1 b;BO y.ax e;refine zf ?_;exact Kf λb=>have y:=(KQ q17).1 b;by have:=y.len;omega
 have b6:=A.len;rw[CU]at b6;refine zG ?_;obtain⟨rfl,f⟩|⟨rfl,f,b3⟩|⟨rfl,f,b3,m⟩:=f;refine zf ?_;exact Kf λb=>have y:=(KQ q17).1 b;BO y.ar f;refine zf ?_;exact Kf λb=>have y:=(KQ q17).1 b;by have:=y.len;omega
 have b7:=m.len;rw[CU]at b7;refine zG ?_;obtain⟨rfl,g⟩|⟨rfl,g,b4⟩|⟨rfl,g,b4,u⟩:=g;refine zf ?_;exact Kf λb=>have y:=(KQ q17).1 b;BO y.ac g;refine zf ?_;exact Kf λb=>have y:=(KQ q17).1 b;by have:=y.len;omega
 have b8:=u.len;rw[CU]at b8;refine zG ?_;by_cases q18:(ly:Int)>0;refine zf ?_;exact Kf λb=>have y:=(KQ q17).1 b;by have:=y.len;omega
 refine zG ?_;refine sC ((UT _ w.x F.x H.x G.x c ha A.x (Ko.nums hX) aD (λr hr=>HW (hv.rw r hr).2.2) eP (zX Z).2 zd zd).cx) ?_;rintro _ eu gf⟨di,rfl,bn⟩ jq j0;obtain⟨rfl,al⟩|⟨rfl,al⟩:=Kg bn;refine zf ?_;exact Kf λb=>have y:=(KQ q17).1 b;BO y.fx al;refine zG ?_;refine sC (OH _ w.x (λs hs=>(c.ob s hs).1) c.n1) ?_;rintro _ ev gg⟨dc,fw,dw,d4,rfl,cg,ck⟩ jr j1;have c6:=ck (cg.2 hv.ob);refine zG ?_;refine sC (UU _ w.x F.x H.x G.x c ha m.x u.x (Ko.nums hR) (Ko.nums hC) eP aD (zS Z Z).1 zd zd) ?_;rintro _ bb bg⟨P,N,ag,T,W,a0,a3,a5,d5,rfl,bl,cl⟩ js j2;obtain⟨rfl,ai⟩|⟨rfl,ai⟩:=Kg bl;refine Za λew i3 j3=>?_;refine sS [U P,Y N ag T,U W,Y a0 a3 a5] λex i4 gt=>?_;refine mN ?_;refine zf ?_;exact Kf λb=>have y:=(KQ q17).1 b;BO y.bo ai;have⟨ab,ae⟩:=cl rfl;have ab:UI bb bg P N ag T (bndQ p R C).num:=ab;have ae:UI bb bg W a0 a3 a5 (denZ (bndQ p R C)):=ae;refine Za λey i5 j4=>?_;refine sS [U P,Y N ag T,U W,Y a0 a3 a5] λez i6 gu=>?_;refine kh ?_;refine dC (show CX _ _ _ _ _ (NQ (valQ p X))from O2 _ w.x A.x (λs hs=>CZ (c.ob s hs).1 zd) (Ko.nums c.ob) (Ko.nums hX) eP (zX Z).1 zd bd) ?_;rintro _ f0 gh⟨dj,dd,fy,dx,e3,ee,ei,el,rfl,c7,cc⟩ jt j5;refine dC ((Tj _ c7 cc (zX Z).val zd).cx) ?_;rintro _ f1 gi rfl ju j6;by_cases q28:V=ratT (valQ p X);refine Ly φ R6 (by simp[q28]) ?_;refine zH ?_;refine dC ((Tj _ ab.t ae.t (zS Z Z).1.bnd zd).cx) ?_;rintro _ f2 gk rfl jv j7;by_cases q30:V=ratT (bndQ p R C);refine Ly φ R6 (by simp[q30]) ?_;refine zH ?_;refine dC ((Ve _ w.x F.x H.x G.x c ha hv m.x u.x c6.x (Ko.nums hR) (Ko.nums c.ob) eP eP (by rw[CU]) (zS Z Z).2 zd zd).cx) ?_;rintro _ f3 gl⟨dk,rfl,bp⟩ jw j8;obtain⟨rfl,an⟩|⟨rfl,an⟩:=Kg bp;refine zf ?_;exact Kf λb=>have y:=(KQ q17).1 b;BO y.co an;refine zf ?_;exact Kp ((KQ q17).2 ⟨e,Z,al,f,Z,g,Z,Z,q28.symm,ai,q30.symm,an⟩);refine Ly χ R6 (by simp[q30]) ?_;refine zf ?_;exact Kf λb=>have y:=(KQ q17).1 b;BO y.vb.symm q30;refine Ly χ R6 (by simp[q28]) ?_;refine zf ?_;exact Kf λb=>have y:=(KQ q17).1 b;BO y.vx.symm q28;refine zG ?_;by_cases q32:o=2;refine zG ?_;obtain⟨rfl,f⟩|⟨rfl,f,b3⟩|⟨rfl,f,b3,m⟩:=f;refine zf ?_;exact Kf λb=>have y:=(KV q32).1 b;BO y.ar f;refine zf ?_;exact Kf λb=>have y:=(KV q32).1 b;by have:=y.len;omega
 have b7:=m.len;rw[CU]at b7;refine zG ?_;obtain⟨rfl,g⟩|⟨rfl,g,b4⟩|⟨rfl,g,b4,u⟩:=g;refine zf ?_;exact Kf λb=>have y:=(KV q32).1 b;BO y.ac g;refine zf ?_;exact Kf λb=>have y:=(KV q32).1 b;by have:=y.len;omega
 have b8:=u.len;rw[CU]at b8;refine zG ?_;refine st_I (ik:=.i64) (a:=(O V:Int)) R5<|zG ?_;by_cases q33:(((lx:Int)+(ly:Int))+(O V:Int))>0;refine zf ?_;exact Kf λb=>have y:=(KV q32).1 b;by have:=y.len;omega
 refine zG ?_;refine sC (UU _ w.x F.x H.x G.x c ha m.x u (Ko.nums hR) (Ko.nums hC) eP aD (zS Z Z).1 zd zd) ?_;rintro _ bc bh⟨S,Z1,ah,Z4,Z0,a1,a4,a6,d6,rfl,bm,cn⟩ jx j9;obtain⟨rfl,aj⟩|⟨rfl,aj⟩:=Kg bm;refine Za λf4 i7 ja=>?_;refine sS [U S,Y Z1 ah Z4,U Z0,Y a1 a4 a6] λf5 i8 gv=>?_;refine mN ?_;refine zf ?_;exact Kf λb=>have y:=(KV q32).1 b;BO y.bo aj;have⟨ad,af⟩:=cn rfl;have ad:UI bc bh S Z1 ah Z4 (bndQ p R C).num:=ad;have af:UI bc bh Z0 a1 a4 a6 (denZ (bndQ p R C)):=af;refine Za λf6 i9 jb=>?_;refine sS [U S,Y Z1 ah Z4,U Z0,Y a1 a4 a6] λf7 ia gw=>?_;refine kh ?_;refine dC (LI _ ad.t af.t) ?_;rintro _ f8 bi⟨ic,rfl,I⟩ jy jc;obtain⟨rfl,I⟩|⟨rfl,I⟩|⟨rfl,I⟩:=I;refine zf ?_;exact Kf λb=>have y:=(KV q32).1 b;by have:=y.sb;omega
 refine zf ?_;exact Kf λb=>have y:=(KV q32).1 b;by have:=y.sb;omega
 refine zH ?_;refine dM (L:=lo) λbz ib jd=>?_;have c8:NS bz (bi+1) (Y (ξ ⟨3*(bi)+2,0,θ⟩) lo lo) (CO (O p.obj) 0):=by grind [NS.zeros,CO]
 refine dC ((Ve _ w.x F.x H.x G.x c ha hv m.x u.x c8 (Ko.nums hR) (λq b=>by rw[(aa5.1 b).2];exact Jt 27 Z) eP eP (by rw[Du]) (zS Z Z).2 zd zd).cx) ?_;rintro _ f9 gm⟨dl,rfl,bq⟩ jz je;obtain⟨rfl,ap⟩|⟨rfl,ap⟩:=Kg bq;refine zf ?_;exact Kf λb=>have y:=(KV q32).1 b;BO y.co ap;refine zf ?_;exact Kp ((KV q32).2 ⟨f,Z,g,Z,Z,Z,CY.1 Z,aj,I,ap⟩);refine zG ?_;by_cases q42:o=3;refine zG ?_;obtain⟨rfl,e⟩|⟨rfl,e,b2⟩|⟨rfl,e,b2,A⟩:=e;refine zf ?_;exact Kf λb=>have y:=(KR q42).1 b;BO y.ax e;refine zf ?_;exact Kf λb=>have y:=(KR q42).1 b;by have:=y.len;omega
 have b6:=A.len;rw[CU]at b6;refine zG ?_;obtain⟨rfl,B⟩|⟨rfl,B,ct⟩|⟨rfl,B,ct,M⟩:=B;refine zf ?_;exact Kf λb=>have y:=(KR q42).1 b;BO y.ay B;refine zf ?_;exact Kf λb=>have y:=(KR q42).1 b;by have:=y.len;omega
 have d2:=M.len;rw[CU]at d2;refine zG ?_;refine st_I (ik:=.i64) (a:=(O V:Int)) R5<|zG ?_;by_cases q43:(((lz:Int)+(lm:Int))+(O V:Int))>0;refine zf ?_;exact Kf λb=>have y:=(KR q42).1 b;by have:=y.len;omega
 refine zG ?_;refine sC ((UT _ w.x F.x H.x G.x c ha A.x (Ko.nums hX) aD (λr hr=>HW (hv.rw r hr).2.2) eP (zX Z).2 zd zd).cx) ?_;rintro _ fa gn⟨dm,rfl,br⟩ k0 jf;obtain⟨rfl,aq⟩|⟨rfl,aq⟩:=Kg br;refine zf ?_;exact Kf λb=>have y:=(KR q42).1 b;BO y.fx aq;refine zG ?_;refine sC (show CX _ _ _ _ _ (NQ (valQ p Z3))from O2 _ w.x M.x (λs hs=>CZ (c.ob s hs).1 zd) (Ko.nums c.ob) (Ko.nums hY) eP (zY Z).1 zd bd) ?_;rintro _ fb go⟨dn,de,fz,dz,e4,ef,ej,em,rfl,c9,cd⟩ k1 jg;refine sC (LI _ c9 cd) ?_;rintro _ c0 bj⟨id,rfl,J⟩ k2 jh;obtain⟨rfl,J⟩|⟨rfl,J⟩|⟨rfl,J⟩:=J;refine zG ?_;refine sF (α:=Nat) (λz=>[(2,ι (3*n+2)),(5,CJ .i64 (lo:Int)),(8,Y b9 bf ba),(20,CJ .i64 (z:Int))]) (λz h' n' w'=>w'=[]/\bj<=n'/\ExtB bj [] c0 h'/\z<=O p.obj/\hT (λd q=>dirB q d.lo d.hi) (zC p) (Z3.map zj) z) (λz=>O p.obj-z) 0 ⟨ω,CG,El _ _ _,CH,(hT.zero _ _)⟩ ?_;rintro j t c1 bk _⟨rfl,k3,d7,hj,K⟩;have hj:j<=O p.obj:=hj;have K:hT (λd q=>dirB q d.lo d.hi) (zC p) (Z3.map zj) j:=K;refine zG ?_;by_cases q48:(j:Int)<(lo:Int);refine kh ?_;obtain⟨e5,a7⟩:∃d,(Z3.map zj)[j]?=ξ d:=⟨_,CK Z⟩;have⟨fp,gx,dp,df,g0,e0,ie,ig,ii,ji,bv,ch,cp,cv,ca,ce⟩:=NS.at M a7;refine dI bv cp ?_;refine dL cv ch 0 ?_;refine zH ?_;obtain⟨e6,a8⟩:∃d,(p.lower)[j]?=ξ d:=⟨_,CK Z⟩;have⟨fq,gy,bw,ci,cq,d0⟩:=vM H a8;refine dI bw cq ?_;refine dL d0 ci 0 ?_;refine zH ?_;obtain⟨e7,a9⟩:∃d,(p.upper)[j]?=ξ d:=⟨_,CK Z⟩;have⟨fr,gz,bx,cj,cs,d1⟩:=vM G a9;refine dI bx cs ?_;refine dL d1 cj 0 ?_;refine dC ((Vc _ ca.x ce.x).cx) ?_;rintro _ fc gp⟨dq,rfl,bs⟩ k4 jj;obtain⟨rfl,av⟩|⟨rfl,av⟩:=Kg bs;refine zf ?_;exact Kf λb=>have y:=(KR q42).1 b;BO (y.dy.1 _ _ _ (gj a8 a9) a7) av;refine zJ ?_;exact sK (j+1) ⟨ω,Z,zy,Z,(K.step (gj a8 a9) a7 av)⟩;refine zG ?_;have bu:=K.all (.inr eP);refine zG ?_;refine sF (α:=Nat) (λz=>[(2,ι (3*n+2)),(8,Y b9 bf ba),(21,CJ .i64 (z:Int))]) (λz h' n' w'=>w'=[]/\bk<=n'/\ExtB bk [] c1 h'/\z<=O p.rows/\∀r∈p.rows.take z,rowH dirB (Z3.map zj) (rowS r)) (λz=>O p.rows-z) 0 ⟨ω,CG,El _ _ _,CH,(λr hr=>BO hr eF)⟩ ?_;rintro i t fd gq _⟨rfl,k5,d8,hi,D⟩;have hi:i<=O p.rows:=hi;have D:∀r∈p.rows.take i,rowH dirB (Z3.map zj) (rowS r):=D;refine zG ?_;by_cases q54:(i:Int)<(lr:Int);refine kh ?_;obtain⟨e8,l⟩:∃d,(p.rows)[i]?=ξ d:=⟨_,CK Z⟩;have⟨fs,i0,dg,g1,e1,a2,ak,b1,b5,be⟩:=Kz.at F l;have d3:=z8 be;refine dI a2 b1 ?_;refine zH ?_;refine dL b5 ak 0 ?_;refine zH ?_;refine dC (O2 _ be.x M.x (λs hs=>CZ ((aa _ (CL l)).2.2.2 s hs).1 zd) (Ko.nums (aa _ (CL l)).2.2.2) (Ko.nums hY) (by rw[CU,(hv.rw _ (CL l)).2.2];omega) ((zY Z).2 _ (CL (LK l))) zd (aa _ (CL l)).2.2.1) ?_;rintro _ fe gr⟨dr,dh,g2,e2,e9,eg,ek,en,rfl,cb,cf⟩ k6 jk;refine zH ?_;refine dI a2 b1 ?_;refine zH ?_;refine dL b5 ak 1 ?_;refine zH ?_;refine dI a2 b1 ?_;refine zH ?_;refine dL b5 ak 2 ?_;refine dC ((Vc _ cb cf).cx) ?_;rintro _ ff gs⟨ds,rfl,bt⟩ k7 jl;obtain⟨rfl,b0⟩|⟨rfl,b0⟩:=Kg bt;refine zf ?_;exact Kf λb=>have y:=(KR q42).1 b;BO (y.dy.2 _ (CL (LK l))) b0;refine zJ ?_;exact sK (i+1) ⟨ω,Z,zy,Z,(ot D l b0)⟩;refine zf ?_;exact Kp ((KR q42).2 ⟨e,Z,aq,B,Z,Z,Z,CY.1 Z,J,⟨bu,λd hd=>by obtain⟨r,hr,rfl⟩:=DU.1 hd;rw[CR Z]at D;exact D r hr⟩⟩);refine zf ?_;exact Kf λb=>have y:=(KR q42).1 b;by have:=y.sy;omega
 refine zf ?_;exact Kf λb=>have y:=(KR q42).1 b;by have:=y.sy;omega
 refine zf ?_;exact Kf λb=>by obtain b|b|b:=b<;>omega
end
section
variable {n:Nat}{p:LPD}{R:List (List UInt8)}
theorem zyy(k:Nat)(g:GG h n)(f:QS h n (Y ao lo co) (p.obj.map zj))(B:KC h n (Y ar lr cr) (zk p))(w:KC h n (Y ac lc cc) (zC p))(hv:VLP p)(c:LPB 27 p){o:Int}{V:List UInt8}{lz cz:Nat}{am:Option Addr}{lm cm:Nat}{X Z3 C:List (List UInt8)}(ix:Sl h n 1 (Y ax lx cx) (strs X))(iy:Sl h n 1 (Y ay ly cy) (strs Z3))(iz:Sl h n 1 (Y az lz cz) (strs R))(im:Sl h n 1 (Y am lm cm) (strs C))(hz:CkZ p V X Z3 R C):VF (Ka (k+14)) 38 [.agg #[Y ao lo co,Y ar lr cr,Y ac lc cc],.agg #[CJ .i64 o,CN ⟨⟨V⟩⟩,Y ax lx cx,Y ay ly cy,Y az lz cz,Y am lm cm]] h n λv=>∃t:Bool,v=U t/\(t=φ↔prv p o V X Z3 R C):=by
 have c4:=f.len;have c5:=B.len;have b7:=w.len;have ec:=z8 ix;have ed:=z8 iy;have ee:=z8 iz;have eb:=z8 im;rw[CU]at c4;rw[jJ]at c5;rw[hv.cols]at b7;have b6:∀d∈zk p,O d.A=O (zC p):=λd hd=>(by obtain⟨r,hr,rfl⟩:=DU.1 hd;rw[hv.cols];show(r.A.map zj).length=_;rw[CU];exact(hv.rw r hr).2.2);have b4:=c.n1;have b5:=c.n2;have⟨hX,hY,hR,hC,⟨bu,bv,bt,bs,e6⟩,zX,zY,zS⟩:=hz;refine zO R4<|zG ?_;refine sB [Y ao lo co,Y ar lr cr,Y ac lc cc] λdf ew fa=>?_;refine sB [CJ .i64 o,CN ⟨⟨V⟩⟩,Y ax lx cx,Y ay ly cy,Y az lz cz,Y am lm cm] λdg ex fb=>?_;refine zG ?_;refine sC (rC _ g.x ix.x (λs hs=>(hX s hs).1) bu) ?_;rintro _ dh ef⟨al,D,au,ci,rfl,bf,c7⟩ fz fc;refine zG ?_;refine sC (rC _ g.x iy.x (λs hs=>(hY s hs).1) bv) ?_;rintro _ di eg⟨an,l,av,cj,rfl,bg,c8⟩ g0 fd;refine zG ?_;refine sC (rC _ g.x iz.x (λs hs=>(hR s hs).1) bt) ?_;rintro _ dj eh⟨ap,F,aw,ck,rfl,bh,c9⟩ g1 fe;refine zG ?_;refine sC (rC _ g.x im.x (λs hs=>(hC s hs).1) bs) ?_;rintro _ br b8⟨aq,G,b0,cl,rfl,bi,ca⟩ g2 ff;refine zG ?_;obtain⟨rfl,H⟩|⟨rfl,H⟩:=Kg bf;refine zf ?_;exact Kf λa=>BO (O7 a).1 H;have a6:=c7 rfl;have ce:=a6.1.len;rw[CU]at ce;refine zG ?_;obtain⟨rfl,af⟩|⟨rfl,af⟩:=Kg bg;refine zf ?_;exact Kf λa=>BO (O7 a).2.1 af;have a7:=c8 rfl;have cf:=a7.1.len;rw[CU]at cf;refine zG ?_;obtain⟨rfl,I⟩|⟨rfl,I⟩:=Kg bh;refine zf ?_;exact Kf λa=>BO (O7 a).2.2.1 I;have i:=c9 rfl;have cg:=i.1.len;rw[CU]at cg;refine zG ?_;obtain⟨rfl,J⟩|⟨rfl,J⟩:=Kg bi;refine zf ?_;exact Kf λa=>BO (O7 a).2.2.2 J;have j:=ca rfl;have ch:=j.1.len;rw[CU]at ch;refine zG ?_;refine U8 (α:=Bool) (λz=>[(2,ι (3*n+2)),(3,ι (3*(n+1)+2)),(5,Y al D au),(7,Y an l av),(9,Y ap F aw),(11,Y aq G b0),(13,CJ .i64 (lc:Int)),(14,U z)]) (λz h' n' w'=>w'=[]/\b8<=n'/\J9 b8 br h'/\(z=φ↔O X=O p.obj/\feaP p X)) ?_ ?_;by_cases q17:(D:Int)=(lc:Int);refine zG ?_;refine sC ((zr3 _ g.x f.x B.x w.x a6.x.1 (LPB.rows c) (LPB.cols c) (hv.rwb c) (Ko.nums hX) pe eP ⟨AF,A6⟩ c.n1 (zX Z).2 zd zd).cx) ?_;rintro _ b1 b9⟨bq,rfl,bl⟩ be bd;refine zG ?_;exact NZ bq ⟨ω,be,bd,bl.trans ⟨λq=>⟨Z,q⟩,λq=>q.2⟩⟩;refine zG ?_;exact NZ χ ⟨ω,CG,J9.refl _ _,⟨λq=>by(cases q),λq=>BO q.1 Z⟩⟩;rintro z18 f8 b1 b9 _⟨rfl,be,bd,P⟩;refine zG ?_;refine U8 (α:=Bool) (λz=>[(2,ι (3*n+2)),(3,ι (3*(n+1)+2)),(5,Y al D au),(7,Y an l av),(9,Y ap F aw),(11,Y aq G b0),(13,CJ .i64 (lc:Int)),(14,U z18),(15,U z)]) (λz h' n' w'=>w'=[]/\b1=h'/\b9=n'/\(z=φ↔O R=O p.rows/\O C=O p.obj)) ?_ ?_;by_cases q19:(F:Int)=(lr:Int);refine zG ?_;by_cases b:(G:Int)=(lc:Int);refine zG ?_;exact NZ φ ⟨ω,ω,ω,⟨λ_=>⟨Z,Z⟩,λ_=>rfl⟩⟩;refine zG ?_;exact NZ χ ⟨ω,ω,ω,⟨λq=>by(cases q),λq=>BO q.2 Z⟩⟩;refine zG ?_;exact NZ χ ⟨ω,ω,ω,⟨λq=>by(cases q),λq=>BO q.1 Z⟩⟩;rintro z20 f9 _ _ _⟨rfl,rfl,rfl,S⟩;refine zG ?_;by_cases q21:o=1;refine kh ?_;obtain⟨rfl,e⟩|⟨rfl,e⟩:=Kg P;refine zf ?_;exact Kf λa=>have y:=(KQ q21).1 a;BO ⟨y.lx,y.fx⟩ e;refine zH ?_;obtain⟨rfl,b⟩|⟨rfl,b⟩:=Kg S;refine zf ?_;exact Kf λa=>have y:=(KQ q21).1 a;BO ⟨y.lr,y.lc⟩ b;refine zH ?_;by_cases q22:(l:Int)>0;refine zf ?_;exact Kf λa=>have y:=(KQ q21).1 a;by have:=y.len;omega
 refine zH ?_;refine dC (show CX _ _ _ _ _ (QV (valQ p X))from Nk _ g.x f.x a6.x.1 (Ko.nums c.ob) (Ko.nums hX) aD (zX e.1).1 zd eP) ?_;rintro _ dk ei⟨cv,cq,e7,d3,d7,d9,db,dd,rfl,bw,c2⟩ g3 fg;refine dC ((Qg _ g.x.1 g.x.2 bw c2 (zX e.1).val zd).cx) ?_;rintro _ dl ej rfl g4 fh;refine zH ?_;by_cases q25:ratT (valQ p X)=V;refine Np χ R6 (by simp[q25]) ?_;refine zJ ?_;refine sC (UN _ g.x f.x B.x w.x i.x.1 j.x.1 (LPB.rows c) (LPB.cols c) (Ko.nums hR) (Ko.nums hC) Au pe (zS b.1 b.2).1 zd zd (by rw[jJ,hv.cols];exact⟨b5,b4⟩)) ?_;rintro _ b2 ba⟨N,K,ad,T,W,a0,a2,a4,cn,rfl,bj,cb⟩ g5 fi;obtain⟨rfl,ag⟩|⟨rfl,ag⟩:=Kg bj;refine Za λdm ey fj=>?_;refine sS [U N,Y K ad T,U W,Y a0 a2 a4] λdn ez es=>?_;refine mN ?_;refine zf ?_;exact Kf λa=>have y:=(KQ q21).1 a;BO y.bo ag;have⟨a8,aa⟩:=cb rfl;have a8:IW b2 ba N K ad T (bndQ p R C).num:=a8;have aa:IW b2 ba W a0 a2 a4 (denZ (bndQ p R C)):=aa;refine Za λdp f0 fk=>?_;refine sS [U N,Y K ad T,U W,Y a0 a2 a4] λdq f1 et=>?_;refine kh ?_;refine dC ((Qg _ g.x.1 g.x.2 a8.t aa.t (zS b.1 b.2).1.bnd zd).cx) ?_;rintro _ dr ek rfl g6 fl;refine zH ?_;by_cases q32:ratT (bndQ p R C)=V;refine Ly φ R6 (by simp[q32]) ?_;refine zH ?_;refine dC (Vb _ g.x f.x B.x w.x i.x.1 j.x.1 (λd hd=>(hv.rwb c d hd).1) (Ko.nums hR) (Ko.nums hC) b6 Au pe ⟨AF,A6⟩ (zS b.1 b.2).2 zd) ?_;rintro _ ds el⟨cs,e8,d4,rfl,bx⟩ g7 fm;refine zH ?_;refine dC ((Va _ bx f.x (Qw (zS b.1 b.2).2 (.inr ⟨CG,ω⟩)) (Ko.nums c.ob) (by grind [sa,CU]) (by rw[sa,CU];omega) zd).cx) ?_;rintro _ dt em⟨cw,rfl,bm⟩ g8 fn;obtain⟨rfl,ai⟩|⟨rfl,ai⟩:=Kg bm;refine zf ?_;exact Kf λa=>have y:=(KQ q21).1 a;BO y.co ai;refine zf ?_;exact Kp ((KQ q21).2 ⟨H,e.1,e.2,I,Z,J,Z,Z,q25,ag,q32,ai⟩);refine Ly χ R6 (by simp[q32]) ?_;refine zf ?_;exact Kf λa=>have y:=(KQ q21).1 a;BO y.vb q32;refine Np φ R6 (by simp[q25]) ?_;refine zf ?_;exact Kf λa=>have y:=(KQ q21).1 a;BO y.vx q25;refine zG ?_;by_cases q35:o=2;refine zG ?_;obtain⟨rfl,b⟩|⟨rfl,b⟩:=Kg S;refine zf ?_;exact Kf λa=>have y:=(KV q35).1 a;BO ⟨y.lr,y.lc⟩ b;refine zG ?_;by_cases q36:(D:Int)>0;refine zf ?_;exact Kf λa=>have y:=(KV q35).1 a;by have:=y.len;omega
 refine zG ?_;by_cases q37:(l:Int)>0;refine zf ?_;exact Kf λa=>have y:=(KV q35).1 a;by have:=y.len;omega
 refine zG ?_;by_cases q38:V=[];refine OG χ R6 (by simp[q38]) ?_;refine zG ?_;refine sC (UN _ g.x f.x B.x w.x i.x.1 j.x.1 (LPB.rows c) (LPB.cols c) (Ko.nums hR) (Ko.nums hC) Au pe (zS b.1 b.2).1 zd zd (by rw[jJ,hv.cols];exact⟨b5,b4⟩)) ?_;rintro _ b3 bb⟨Z1,M,ae,Z4,Z0,a1,a3,a5,cp,rfl,bk,cd⟩ g9 fo;obtain⟨rfl,ah⟩|⟨rfl,ah⟩:=Kg bk;refine Za λdu f2 fp=>?_;refine sS [U Z1,Y M ae Z4,U Z0,Y a1 a3 a5] λdv f3 eu=>?_;refine mN ?_;refine zf ?_;exact Kf λa=>have y:=(KV q35).1 a;BO y.bo ah;have⟨a9,ab⟩:=cd rfl;have a9:IW b3 bb Z1 M ae Z4 (bndQ p R C).num:=a9;have ab:IW b3 bb Z0 a1 a3 a5 (denZ (bndQ p R C)):=ab;refine Za λdw f4 fq=>?_;refine sS [U Z1,Y M ae Z4,U Z0,Y a1 a3 a5] λdx f5 ev=>?_;refine kh ?_;refine dC (fD _ a9.t ab.t) ?_;rintro _ dz en⟨f6,rfl,m⟩ ga fr;obtain⟨rfl,m⟩|⟨rfl,m⟩|⟨rfl,m⟩:=m;refine zf ?_;exact Kf λa=>have y:=(KV q35).1 a;by have:=y.sb;omega
 refine zf ?_;exact Kf λa=>have y:=(KV q35).1 a;by have:=y.sb;omega
 refine zH ?_;refine dC (Vb _ g.x f.x B.x w.x i.x.1 j.x.1 (λd hd=>(hv.rwb c d hd).1) (Ko.nums hR) (Ko.nums hC) b6 Au pe ⟨AF,A6⟩ (zS b.1 b.2).2 zd) ?_;rintro _ e0 c6⟨ct,e9,d5,rfl,bz⟩ gb fs;refine zH ?_;refine dM (L:=lc) λe1 bc ft=>?_;rw[b7]at bc;have c0:=(OQ.zeros (n:=c6+1) Z bc).sl (len:=lc) (cap:=lc) aD CG;refine dC ((Va _ bz.x c0 (Qw (zS b.1 b.2).2 (.inr ⟨CG,ω⟩)) (λq a=>by rw[(aa5.1 a).2];exact Jt 27 Z) (by rw[sa,CU,Du];omega) (by rw[sa,CU];omega) zd).cx) ?_;rintro _ e2 eo⟨d0,rfl,bn⟩ gc fu;obtain⟨rfl,aj⟩|⟨rfl,aj⟩:=Kg bn;refine zf ?_;exact Kf λa=>have y:=(KV q35).1 a;BO y.co aj;refine zf ?_;exact Kp ((KV q35).2 ⟨I,Z,J,Z,Z,Z,q38,ah,m,aj⟩);refine OG φ R6 (by simp[q38]) ?_;refine zf ?_;exact Kf λa=>have y:=(KV q35).1 a;BO y.v0 q38;refine zG ?_;by_cases q48:o=3;refine zG ?_;obtain⟨rfl,e⟩|⟨rfl,e⟩:=Kg P;refine zf ?_;exact Kf λa=>have y:=(KR q48).1 a;BO ⟨y.lx,y.fx⟩ e;refine zG ?_;by_cases q49:(l:Int)=(lc:Int);refine zG ?_;by_cases q50:(F:Int)>0;refine zf ?_;exact Kf λa=>have y:=(KR q48).1 a;by have:=y.len;omega
 refine zG ?_;by_cases q51:(G:Int)>0;refine zf ?_;exact Kf λa=>have y:=(KR q48).1 a;by have:=y.len;omega
 refine zG ?_;by_cases q52:V=[];refine OG χ R6 (by simp[q52]) ?_;refine zG ?_;refine sC (show CX _ _ _ _ _ (QV (valQ p Z3))from Nk _ g.x f.x a7.x.1 (Ko.nums c.ob) (Ko.nums hY) aD (zY Z).1 zd eP) ?_;rintro _ e3 ep⟨d1,cu,ea,d6,d8,da,dc,de,rfl,c1,c3⟩ gd fv;refine sC (fD _ c1 c3) ?_;rintro _ e4 eq⟨f7,rfl,u⟩ ge fw;obtain⟨rfl,u⟩|⟨rfl,u⟩|⟨rfl,u⟩:=u;refine zG ?_;refine sC ((zz6 _ g.x f.x B.x w.x a7.x.1 (LPB.rows c) (LPB.cols c) (hv.rwb c) (Ko.nums hY) pe eP ⟨AF,A6⟩ c.n1 (zY Z).2 zd).cx) ?_;rintro _ e5 er⟨d2,rfl,bp⟩ gf fy;obtain⟨rfl,ak⟩|⟨rfl,ak⟩:=Kg bp;refine zf ?_;exact Kf λa=>have y:=(KR q48).1 a;BO y.dy ak;refine zf ?_;exact Kp ((KR q48).2 ⟨H,e.1,e.2,af,Z,Z,Z,q52,u,ak⟩);refine zf ?_;exact Kf λa=>have y:=(KR q48).1 a;by have:=y.sy;omega
 refine zf ?_;exact Kf λa=>have y:=(KR q48).1 a;by have:=y.sy;omega
 refine OG φ R6 (by simp[q52]) ?_;refine zf ?_;exact Kf λa=>have y:=(KR q48).1 a;BO y.v0 q52;refine zf ?_;exact Kf λa=>have y:=(KR q48).1 a;by have:=y.len;omega
 refine zf ?_;exact Kf λa=>by obtain a|a|a:=a<;>omega
end
section
variable {n:Nat}
open Classical in
def chkI(p:LPD)(o:Int)(V:List UInt8)(X Z3 R C:List (List UInt8)):Int:=if VLP p then(if prv p o V X Z3 R C then 0 else 13)else 1
section
variable {p:LPD}{o:Int}{X Z3 R C:List (List UInt8)}
def chk1(h:¬VLP p):CJ .i64 1=CJ .i64 (chkI p o V X Z3 R C):=by unfold chkI;rw[Cs h]
def zz5(h:VLP p)(a:¬prv p o V X Z3 R C):CJ .i64 13=CJ .i64 (chkI p o V X Z3 R C):=by unfold chkI;rw[Cx h,Cs a]
def chk0(h:VLP p)(a:prv p o V X Z3 R C):CJ .i64 0=CJ .i64 (chkI p o V X Z3 R C):=by unfold chkI;rw[Cx h,Cx a]
end
def zzw(k:Nat)(g:GG h n){p:LPD}(J:Sl h n 1 (Y ao lo co) (strs p.obj))(K:Kz h n (Y ar lr cr) p.rows)(M:Sl h n 1 (Y aw lw cw) (strs p.lower))(L:Sl h n 1 (Y au lu cu) (strs p.upper))(I:LPB 27 p){o:Int}{V:List UInt8}{H A:Nat}{s:Option Addr}{G y:Nat}{X Z3 R C:List (List UInt8)}(S:Sl h n 1 (Y ax lx cx) (strs X))(T:Sl h n 1 (Y ay ly cy) (strs Z3))(Z4:Sl h n 1 (Y az H A) (strs R))(P:Sl h n 1 (Y s G y) (strs C))(Z1:CkZ p V X Z3 R C):VF (Ka (k+15)) 10 [.agg #[Y ao lo co,Y ar lr cr,Y aw lw cw,Y au lu cu],.agg #[CJ .i64 o,CN ⟨⟨V⟩⟩,Y ax lx cx,Y ay ly cy,Y az H A,Y s G y]] h n λv=>v=CJ .i64 (chkI p o V X Z3 R C):=by have a8:=z8 J;have a9:=K.len;have ab:=z8 M;have aa:=z8 L;refine zO R4<|zG ?_;refine sB [Y ao lo co,Y ar lr cr,Y aw lw cw,Y au lu cu] λa0 ag an=>?_;refine sB [CJ .i64 o,CN ⟨⟨V⟩⟩,Y ax lx cx,Y ay ly cy,Y az H A,Y s G y] λa1 ah ap=>?_;refine zG ?_;refine sC (TH _ g.x J.x K.x M.x L.x I zd) ?_;rintro _ a2 ac⟨c,l,f,d,m,i,b,j,e,W,rfl,u,N⟩ b2 aq;obtain⟨rfl,a⟩|⟨rfl,a⟩:=Kg u;refine Za λa3 ai av=>?_;refine sS [Y c l f,Y d m i,Y b j e] λa4 aj ae=>?_;refine zf ?_;exact chk1 a;have⟨D,F,B⟩:=N rfl;refine Za λa5 ak b0=>?_;refine sS [Y c l f,Y d m i,Y b j e] λa6 al af=>?_;refine zG ?_;refine sC ((zyy _ g.x D.x.1 F.x.sds B.x.sds a I S.x T.x Z4.x P.x Z1).cx) ?_;rintro _ a7 ad⟨Z0,rfl,w⟩ b3 b1;obtain⟨rfl,q⟩|⟨rfl,q⟩:=Kg w;refine zf ?_;exact zz5 a q;refine zf ?_;exact chk0 a q
end
section
set_option maxRecDepth 100000
variable {p:LPD}{n:Nat}
def SolR.prv{w:ψ}(r:SolR p n0 w h n)(l:SmlP p):∃oc V aX lX aY lY aR lR aC lC X Z3 R C e,w=.tuple #[.agg #[CJ .i64 oc,CN ⟨⟨V⟩⟩,Y aX lX lX,Y aY lY lY,Y aR lR lR,Y aC lC lC],CJ .i64 e]/\(Sl h n 1 (Y aX lX lX) (strs X)/\Sl h n 1 (Y aY lY lY) (strs Z3)/\Sl h n 1 (Y aR lR lR) (strs R)/\Sl h n 1 (Y aC lC lC) (strs C))/\(¬VLP p/\e=1/\oc=0\/VLP p/\e=0/\prv p oc V X Z3 R C/\CkZ p V X Z3 R C):=by
 have b:Sl h n 1 (η) (strs []):=.nil (.inl ω);have j:VLP p->PrZ p:=λa=>⟨a,U6 a l.q,λq A=>by
  obtain⟨t,B,rfl⟩:=DU.1 A;exact MM (l.ob t B)⟩
 obtain⟨a,rfl⟩|⟨a,I,H,y,s,J,i,⟨r,F,q,m,o,rfl,c,d,f,g⟩|⟨e,K,u,G,rfl,c,d,v,f,g⟩|⟨u,m,o,rfl,c,d,f,g,D⟩⟩:=r;exact⟨_,_,_,_,_,_,_,_,_,_,[],[],[],[],_,ω,⟨b,b,b,b⟩,.inl ⟨a,ω,ω⟩⟩;have:=zzh i (j a) c d ω rfl;exact⟨_,_,_,_,_,_,_,_,_,_,[],[],_,_,_,ω,⟨b,b,f.ss yo,g.ss yo⟩,.inr ⟨a,ω,.inr (.inl ⟨ω,this.1⟩),this.2⟩⟩;have:=zzf i (j a) c d v ω rfl;exact⟨_,_,_,_,_,_,_,_,_,_,_,_,[],[],_,ω,⟨f.ss yo,g.ss yo,b,b⟩,.inr ⟨a,ω,.inr (.inr ⟨ω,this.1⟩),this.2⟩⟩;have:=zzg i (j a) c d ω ω ω rfl;exact⟨_,_,_,_,_,_,_,_,_,_,_,[],_,_,_,ω,⟨f.ss yo,b,g.ss yo,D.ss yo⟩,.inr ⟨a,ω,.inl ⟨ω,this.1⟩,this.2⟩⟩
def simplexSolve_ok(k:Nat)(g:GG h n)(io:Sl h n 1 (Y ao lo co) (strs p.obj))(ir:Kz h n (Y ar lr cr) p.rows)(iw:Sl h n 1 (Y aw lw cw) (strs p.lower))(iu:Sl h n 1 (Y au lu cu) (strs p.upper)):VF (Ka (k+17)) 3 [.agg #[Y ao lo co,Y ar lr cr,Y aw lw cw,Y au lu cu]] h n λv=>v=U φ:=by
 have bg:=z8 io;have bh:=ir.len;have bj:=z8 iw;have bi:=z8 iu;refine zO R4<|zG ?_;refine sB [Y ao lo co,Y ar lr cr,Y aw lw cw,Y au lu cu] λb4 av ay=>?_;refine zG ?_;refine sC ((zdg _ io.x ir.x iw.x iu.x).cx) ?_;rintro _ b5 bk⟨ak,rfl,l⟩ bt az;cases ak;refine zG ?_;refine sC ((wz _ g.x).cx) ?_;rintro _ b6 bl rfl bu bq;refine zf ?_;exact rfl;have l:=l rfl;have bc:=l.n1;have bd:=l.n2;have be:=l.n3;have bf:=l.n4;refine zG ?_;refine sC (zlw _ io.x ir.x iw.x iu.x l) ?_;rintro _ b7 f⟨B,a4,a0,D,a5,a1,A,a3,Z0,F,a6,a2,rfl,N,S,L,Z4⟩ b1 b0;refine sS [Y B a4 a0,Y D a5 a1,Y A a3 Z0,Y F a6 a2] λj ad w=>?_;have Z1:=N.sto w Z;have T:=S.sto w Z;have M:=L.sto w Z;have W:=Z4.sto w Z;have aj:Exo n h j:=⟨(show Tx n h f j from zx).2⟩;have b1:n+1<=f:=Z;have a7:GG j f:=g.ext aj.go Z;obtain⟨P,J⟩:∃P,P=U5 p:=⟨_,ω⟩;have hs:SmlP P:=by rw[J];exact l.tidy
 have jO:Sl j f 1 (Y B a4 a0) (strs P.obj):=by rw[J];exact Z1.ss
 have jR:Kz j f (Y D a5 a1) P.rows:=by rw[J];exact T.rws
 have jL:Sl j f 1 (Y A a3 Z0) (strs P.lower):=by rw[J];exact M.ss
 have jU:Sl j f 1 (Y F a6 a2) (strs P.upper):=by rw[J];exact W.ss
 refine zG ?_;have aa:=zo6 (k+0) a7 jO jR jL jU hs.q;refine sC aa ?_;rintro _ am a hR ah ae;obtain⟨oc,V,aX,lX,aY,lY,aR,lR,aC,lC,X,Z3,R,C,e,rfl,⟨iX,iY,iR,iC⟩,hE⟩:=hR.prv hs;refine Za λb8 ax af=>?_;refine zG ?_;refine sS [CJ .i64 oc,CN ⟨⟨V⟩⟩,Y aX lX lX,Y aY lY lY,Y aR lR lR,Y aC lC lC] λu bp ac=>?_;have ah:f<=a:=ah;have y:Exo a am u:=⟨λb hb=>(ac.1 b Z).trans (af b hb)⟩;have s:Exo f j u:=⟨λb hb=>(y.go b Z).trans (ae b hb)⟩;have b3:u (3*n+2)=_:=(s.go _ Z).trans ad;have gO:=jO.ext (n':=a+1) s.go Z;have gR:=jR.ext (n':=a+1) s.go Z;have gL:=jL.ext (n':=a+1) s.go Z;have gU:=jU.ext (n':=a+1) s.go Z;have iX:=iX.ext (n':=a+1) y.go Z;have iY:=iY.ext (n':=a+1) y.go Z;have iR:=iR.ext (n':=a+1) y.go Z;have iC:=iC.ext (n':=a+1) y.go Z;have I:GG u (a+1):=a7.ext s.go Z;have hp:=hs.lpb;refine zG ?_;have aq:=zyk (k+6) gO gR gL gU hp zd;refine sC aq.cx ?_;rintro _ b9 bm⟨G,rfl,H⟩ m i;obtain⟨K,rfl,rfl⟩|⟨K,rfl,a9,hz⟩:=hE;obtain rfl:G=χ:=(by cases G;rfl;exact BO (H.1 ω) K);refine zG ?_;refine sC ((wz _ I.x).cx) ?_;rintro _ a8 ab rfl b2 ag;refine zf ?_;exact rfl;obtain rfl:G=φ:=H.2 K;have ap:=zyx (k+5) (gO.ext i m) (gR.ext i m) (gL.ext i m) (gU.ext i m) hp K (o:=oc) (iX.ext i m) (iY.ext i m) (iR.ext i m) (iC.ext i m) hz;refine zG ?_;refine sC ap.cx ?_;rintro _ a8 ab⟨al,rfl,ai⟩ b2 ag;obtain rfl:al=φ:=ai.2 a9;have c:Exo (a+1) u a8:=⟨λb hb=>(ag b Z).trans (i b hb)⟩;have d:a+1<=ab:=Z;have an:=zzw (k+1) (I.ext c.go d) (gO.ext c.go d) (gR.ext c.go d) (gL.ext c.go d) (gU.ext c.go d) hp (o:=oc) (iX.ext c.go d) (iY.ext c.go d) (iR.ext c.go d) (iC.ext c.go d) hz;refine zG ?_;refine sC (an.cx.mono λ_ _ _ h=>h.trans (chk0 K a9).symm) ?_;rintro _ ba bn rfl bv br;refine zG ?_;refine sC ((wz _ I.x).cx) ?_;rintro _ bb bo rfl bw bs;refine zf ?_;exact rfl
end
section
variable {n:Nat}
def upFn(nm:Nat->Nat):Fn->Fn
 | .yield l=>.yield (nm l)
 |f=>f
mutual
def up(nm:Nat->Nat):ψ->ψ
 | CM (ξ a)=>CM (ξ ⟨nm a.block,a.off,a.spot⟩)
 | Y (ξ a) l c=>Y (ξ ⟨nm a.block,a.off,a.spot⟩) l c
 | .func f a b=>.func (upFn nm f) (Nr nm a) (Nr nm b)
 | .agg cs=>.agg (Nr nm cs)
 | .tuple cs=>.tuple (Nr nm cs)
 |v=>v
def Nr(nm:Nat->Nat):Array ψ->Array ψ
 |⟨l⟩=>⟨Pb nm l⟩
def Pb(nm:Nat->Nat):List ψ->List ψ
 |[]=>[]
 |v::r=>up nm v::Pb nm r
end
mutual
def dl{g:Nat->Nat}(hb:∀b,ρ.b (g b)=b)(hx:∀b,ρ.x (g b)=0)(d:∀b,gro (g b)=χ):∀v:ψ,conc ρ (up g v)=v
 | CM θ=>rfl
 | CM (ξ a)=>by simp[up,conc,ai5,hb]
 | Y θ _ _=>rfl
 | Y (ξ a) l c=>by
  simp only[up,conc];rw[ρ.adrS_old (d a.block),hx];simp[ai5,hb]
 | .func f a b=>by
  have h1:ρ.fn (upFn g f)=f:=by cases f<;>simp[upFn,Ren.fn,hb]
  simp only[up,conc,h1,pJ hb hx d a,pJ hb hx d b]
 | .agg cs=>by simp only[up,conc,pJ hb hx d cs]
 | .tuple cs=>by simp only[up,conc,pJ hb hx d cs]
 | U _=>by simp[up,conc]
 | CJ _ _=>by simp[up,conc]
 | .float _ _=>by simp[up,conc]
 | .complex _ _ _=>by simp[up,conc]
 | CN _=>by simp[up,conc]
 | .map _=>by simp[up,conc]
 | .chan _=>by simp[up,conc]
 | .nilFunc=>by simp[up,conc]
 | .nilIface=>by simp[up,conc]
 | .iface _ _=>by simp[up,conc]
def pJ{nm:Nat->Nat}(hb:∀b,ρ.b (nm b)=b)(hx:∀b,ρ.x (nm b)=0)(hg:∀b,gro (nm b)=χ):∀a:Array ψ,nw ρ (Nr nm a)=a
 |⟨l⟩=>by simp only[Nr,nw,an hb hx hg l]
def an{nm:Nat->Nat}(hb:∀b,ρ.b (nm b)=b)(hx:∀b,ρ.x (nm b)=0)(hg:∀b,gro (nm b)=χ):∀l:List ψ,mg ρ (Pb nm l)=l
 |[]=>rfl
 |v::r=>by simp only[Pb,mg,dl hb hx hg v,an hb hx hg r]
end
def bdFn:Fn->Nat
 | .yield l=>l+1
 |_=>0
mutual
def bd:ψ->Nat
 | CM (ξ a)=>a.block+1
 | Y (ξ a) _ _=>a.block+1
 | .func f a b=>bdFn f+Ns a+Ns b
 | .agg cs=>Ns cs
 | .tuple cs=>Ns cs
 |_=>0
def Ns:Array ψ->Nat
 |⟨l⟩=>L5 l
def L5:List ψ->Nat
 |[]=>0
 |v::r=>bd v+L5 r
end
def zjl(d:KA m ρ ρ'){a:Addr}(h:a.block<m):ρ'.addr a=ρ.addr a:=by unfold ai5;rw[(d _ h).1]
def zjk(d:KA m ρ ρ'){a:Addr}(h:a.block<m):ρ'.adrS a l c=ρ.adrS a l c:=by
 unfold Ren.adrS ai5;rw[(d _ h).1,(d _ h).2]
mutual
def QN:∀(v:ψ) (m:Nat),bd v<=m->Nb m v
 | CM θ,m,_=>λρ ρ' _=>by simp
 | CM (ξ a),m,h=>λρ ρ' d=>by
  simp only[bd]at h;simp only[conc,zjl d (show a.block<m from Z)]
 | Y θ _ _,m,_=>λρ ρ' _=>by simp
 | Y (ξ a) l c,m,h=>λρ ρ' d=>by
  simp only[bd]at h;simp only[conc,zjk d (show a.block<m from Z),(d _ (show a.block<m from Z)).2]
 | .func f a b,m,h=>λρ ρ' d=>by
  simp only[bd]at h;have h1:ρ'.fn f=ρ.fn f:=by
   cases f<;>simp[Ren.fn];rename_i l;exact(d l (by simp only[bdFn]at h;omega)).1
  simp only[conc,h1,cU a m Z ρ ρ' d,cU b m Z ρ ρ' d]
 | .agg cs,m,h=>λρ ρ' d=>by
  simp only[bd]at h;simp only[conc,cU cs m h ρ ρ' d]
 | .tuple cs,m,h=>λρ ρ' d=>by
  simp only[bd]at h;simp only[conc,cU cs m h ρ ρ' d]
 | U _,m,_=>λρ ρ' _=>by simp[conc]
 | CJ _ _,m,_=>λρ ρ' _=>by simp[conc]
 | .float _ _,m,_=>λρ ρ' _=>by simp[conc]
 | .complex _ _ _,m,_=>λρ ρ' _=>by simp[conc]
 | CN _,m,_=>λρ ρ' _=>by simp[conc]
 | .map _,m,_=>λρ ρ' _=>by simp[conc]
 | .chan _,m,_=>λρ ρ' _=>by simp[conc]
 | .nilFunc,m,_=>λρ ρ' _=>by simp[conc]
 | .nilIface,m,_=>λρ ρ' _=>by simp[conc]
 | .iface _ _,m,_=>λρ ρ' _=>by simp[conc]
def cU:∀(a:Array ψ) (m:Nat),Ns a<=m->∀ρ ρ':Ren,KA m ρ ρ'->nw ρ' a=nw ρ a
 |⟨l⟩,m,h=>λρ ρ' ha=>by
  simp only[Ns]at h;simp only[nw,Vu l m h ρ ρ' ha]
def Vu:∀(l:List ψ) (m:Nat),L5 l<=m->∀ρ ρ':Ren,KA m ρ ρ'->mg ρ' l=mg ρ l
 |[],m,_=>λρ ρ' _=>rfl
 |v::r,m,h=>λρ ρ' ha=>by
  simp only[L5]at h;simp only[mg,QN v m Z ρ ρ' ha,Vu r m Z ρ ρ' ha]
end
def aK:∀{l:List ψ} {v:ψ},v∈l->bd v<=L5 l:=by
 intro l;induction l with
 |nil=>intro v d;cases d
 |cons a l ih=>
  intro v d;simp only[L5];obtain rfl|d:=Dk.1 d;omega;have:=ih d;omega
def uW(W:World)(b:Nat):Option (List ψ):=match W.heap[b]? with|some (.cells c _ _)=>ξ c.toList|_=>θ
def wh(nm:Nat->Nat)(W:World):Nat->Hp
 |0=>.lf
 |k+1=>match uW W k with|some c=>Tr.put (wh nm W k) (nm k) (ξ (.ro (c.map (up nm))))|none=>wh nm W k
def N3{d:Nat->Nat}(hi:∀a b,d a=d b->a=b)(W:World):∀k x y,(wh d W k).at x=ξ y↔∃b,b<k/\x=d b/\∃c,uW W b=ξ c/\y=.ro (c.map (up d)):=by
 intro k;induction k with
 |zero=>
  intro x y;constructor;intro h;cases h;rintro⟨b,g,_⟩;omega
 |succ k ih=>
  intro x y;unfold wh;cases hc:uW W k with
  |none=>
   simp only;rw[ih];constructor;rintro⟨b,g,h⟩;exact⟨b,Z,h⟩;rintro⟨b,g,rfl,c,f,i⟩;have:b≠k:=λe=>by rw[e,hc]at f;cases f
   exact⟨b,Z,ω,c,f,i⟩
  |some c=>
   simp only;show Tr.get θ (Tr.put (wh d W k) (d k) _) x=ξ y↔_;rw[Tr.get_put θ rfl];by_cases hx:x=d k;rw[Cx hx];constructor;intro h;injection h with h;exact⟨k,Z,hx,c,hc,h.symm⟩;rintro⟨b,g,e,p,f,i⟩;have j:b=k:=hi _ _ (e.symm.trans hx);rw[j,hc]at f;injection f with f;rw[i,f];rw[Cs hx];show(wh d W k).at x=ξ y↔_;rw[ih];constructor;rintro⟨b,g,h⟩;exact⟨b,Z,h⟩;rintro⟨b,g,e,h⟩;have:b≠k:=λo=>hx (by rw[e,o]);exact⟨b,Z,e,h⟩
def nm(b:Nat):Nat:=if b=0\/b=3\/b=4 then 3*b else 3*b+2
def ij(a b:Nat)(h:nm a=nm b):a=b:=by unfold nm at h;split at h<;>split at h<;>omega
def ren0:Ren:=⟨λx=>x/3,λ_=>0,λ_ _=>rfl,λg=>by simp⟩
def oD(b:Nat):ren0.b (nm b)=b:=by unfold nm ren0;split<;>simp<;>omega
def zrr(h:b<n):nm b<3*n:=by unfold nm;split<;>omega
def Vv(b:Nat):gro (nm b)=χ:=by unfold nm gro;split;rw[Nat.mul_mod_right];rfl;rw[Nat.mul_add_mod];rfl
def wH(W:World):Hp:=wh nm W W.heap.size
def zos(W:World):Sim MW ren0 (wH W) W:=by
 refine⟨λx y h=>?_,λx o h f e=>?_⟩;obtain⟨b,j,rfl,c,a,rfl⟩:=(N3 ij W _ _ _).1 h;unfold uW at a;split at a;rename_i c' e fz hW;injection a with a;subst a;refine⟨_,by rw[oD];exact hW,e,fz,?_⟩;rw[Iw];have:(c'.toList.map (conc ren0 ∘ up nm))=c'.toList:=by
  conv=>rhs;rw[<-HI c'.toList]
  exact Ec λv _=>dl oD (λ_=>rfl) Vv v
 rw[this];cases a;have⟨y,g⟩:=Dt.1 h;have⟨p,d⟩:=Dt.1 f;obtain⟨b,_,rfl,_⟩:=(N3 ij W _ _ _).1 g;obtain⟨i,_,rfl,_⟩:=(N3 ij W _ _ _).1 d;rw[oD,oD]at e;rw[e]
structure Wn (W:World)(n:Nat):Prop where
 sz:W.heap.size<=n
 le:∀(b:Nat) (c:Array ψ) (e:TypeId) (fz:Nat×Nat),W.heap[b]?=ξ (Obj.cells c e fz)->∀v∈c.toList,bd (up nm v)<=3*n
theorem zrb(W:World)(d:List ψ):∃n,20<=n/\Wn W n/\Kv (3*n) (wH W)/\∀v∈d,bd v<=3*n:=by
 have p:∀k,∃m,∀b,b<k->∀c,uW W b=ξ c->L5 (c.map (up nm))<=m:=by
  intro k;induction k with
  |zero=>exact⟨0,λb a=>Z⟩
  |succ k ih=>
   have⟨m,g⟩:=ih;cases i:uW W k with
   |none=>exact⟨m,λb a c h=>g b (by(have:b≠k:=λe=>by rw[e,i]at h;cases h);omega) c h⟩
   |some c'=>
    refine⟨m+L5 (c'.map (up nm)),λb a c h=>?_⟩;by_cases hbk:b=k;rw[hbk,i]at h;injection h with h;subst h;omega;have:=g b Z c h;omega
 have⟨m,g⟩:=p W.heap.size;refine⟨20+W.heap.size+m+L5 d,Z,⟨Z,λb c e s q v o=>?_⟩,λx y h=>?_,λv j=>by have:=aK j;omega⟩;have a:b<W.heap.size:=by grind
 have u:=g b a c.toList (by unfold uW;rw[q]);have w:=aK (F5 (f:=up nm) o);omega;obtain⟨b,a,rfl,c,i,rfl⟩:=(N3 ij W _ _ _).1 h;exact⟨zrr Z,λv j=>QN v _ (by have:=aK j;have:=g b a c i;omega)⟩
theorem Vw{W:World}{c:Array ψ}{fz:Nat×Nat}(h:W.heap[b]?=ξ (.cells c e fz)):hv (wH W) (nm b)=ξ (.ro (c.toList.map (up nm))):=by
 have a:b<W.heap.size:=by grind
 exact Po ((N3 ij W _ _ _).2 ⟨b,a,ω,_,by unfold uW;rw[h],ω⟩)
def zb3{W:World}(f:FuncId)(a:List ψ)(k:Nat)(u:∀n,20<=n->Wn W n->(∀v∈a.map (up nm),bd v<=3*n)->VF (Ka k) f (a.map (up nm)) (hv (wH W)) n λv=>v=U φ):
  Calls Di f a.toArray W λe C=>e=.returned (U φ)/\RowKit.Below W.heap.size W C:=by
 have⟨n,J,K,B,o⟩:=zrb W (a.map (up nm));have F:∀v∈a.map (up nm),Nb (3*n) v:=λv hv=>QN v _ (o v hv);have⟨v,R,S,w,A,p,y,q,s⟩:=u n J K o;rw[p,y,q,s]at A;have⟨⟨Z1,D,N,P⟩,L,M⟩:=(Xm k).call f (a.map (up nm)) (wH W) n _ A;obtain⟨p,y,q,s⟩:Z1=U φ/\hv D=hv (wH W)/\N=n/\P=[]:=(by simpa [rv]using M);subst p q s;have⟨_,d⟩:=(Xl k).call _ _ _ _ _ _ _ _ L 0 ren0 W (zos W) B F;have i:((a.map (up nm)).map (conc ren0))=a:=by
  rw[Iw];conv=>rhs;rw[<-HI a]
  exact Ec λv _=>dl oD (λ_=>rfl) Vv v
 rw[i]at d;refine(callsIn_wide.1 d).mono λe C⟨ρ',H,g⟩=>⟨by rw[H];simp,?_⟩;exact⟨g.os,g.tape,g.out,g.size,λj I=>g.fr j I λb G=>BO G CT⟩
end
end
section
open Go Go.GL Go.ChangeShapes Go.WideShapes Go.RowKit
variable {fuel n sz c i l:Nat}{cs cells:List ψ}{held:Bool}{H α D:Type}{e t:TypeId}{v:ψ}{W:World}{h:HF}
section
set_option maxRecDepth 100000
def em{enc:TypeId×ψ->H}{P:Program}{w:World}{a:Nat}{f:Nat->Bool}{b:Bool}{k:IntKind}{c:ψ}{y:DataW H×List MemPlace}
  (d:P.underlying t=ξ (.int k))(h:Fb enc P w a f b fuel t [c]=ξ y):∃n,c=CJ k n/\y=(.lit (.int k n),[]):=by
 cases fuel with
 |zero=>simp[Fb]at h
 |succ fuel=>
  cases c<;>simp[Fb,d]at h;rename_i k' n;obtain⟨⟨rfl,_⟩,rfl⟩:=h;exact⟨n,ω,ω⟩
def jf{enc:TypeId×ψ->H}{P:Program}{w:World}{f:Nat}{F:Nat->Bool}{g:Bool}{k:IntKind}{l:List Int}{p:List MemPlace}
  (C:P.underlying t=ξ (.array n e))(B:P.underlying e=ξ (.int k))(o:P.cellsOf e=1)(s:P.cellsOf t=n)
  (h:Fb enc P w f F g fuel t cs=ξ (.agg (l.map λz=>.lit (.int k z)),p)):cs=l.map λz=>CJ k z:=by
 cases fuel with
 |zero=>simp[Fb]at h
 |succ fuel=>
  simp only[Fb,C]at h;split at h;rename_i hl;rw[s]at hl;rw[Eh]at h;have⟨v,u,a⟩:=h;simp only[Prod.mk.injEq,DataW.agg.injEq]at a;have⟨a,_⟩:=a;have m:=mapM_some_length u;rw[Fo]at m;have G:O l=n:=(by have:=congrArg O a;simp at this;omega);apply Et;intro i;by_cases hi:i<n;have j:=mapM_some_get u i i (by simp[hi]);obtain⟨y,c⟩:∃y,v[i]?=ξ y:=⟨v[i]'Z,CK Z⟩;rw[c,o,DL]at j;have A:(cs.drop i).take 1=[cs[i]'Z]:=(by rw[EL Z];rfl);rw[A]at j;obtain⟨z,D,rfl⟩:=em B j;have b:=congrArg (λq=>q[i]?) a;simp only[DC,c,ag6]at b;obtain⟨z',d⟩:∃z',l[i]?=ξ z':=⟨l[i]'Z,CK Z⟩;rw[d]at b;simp only[ag6,HP,DataW.lit.injEq,Lit.int.injEq,true_and]at b;rw[CK Z,D,DC,d,b];rfl;rw[Dl Z,Dl eU];cases h
def zcm{P:Program}{W:World}{a:String}{g:Nat}{cs:Array ψ}(b:P.globalNamed a=ξ g)(hv:W.var? P a=ξ cs):∃e fz,W.heap[g]?=ξ (.cells cs e fz):=by unfold World.var? at hv;rw[b]at hv;simp only[Option.bind_some]at hv;split at hv;rename_i cs' e fz h;injection hv with hv;subst hv;exact⟨e,fz,h⟩;cases hv
def up_u(a:Nat->Nat)(k:IntKind)(l:List Int):(GK.u k l).map (up a)=GK.u k l:=by unfold GK.u;rw[Iw];exact Ec λz _=>rfl
def Nt:List (String×DataW Unit):=Rows.simplexSolveRow.laid
def ky (i:Nat):String:=match Nt[i]? with|some x=>x.1|none=> ""
def g32:Di.globalNamed (ky 0)=ξ 4:=by kernel_rfl
def g64:Di.globalNamed (ky 1)=ξ 0:=by kernel_rfl
def g10:Di.globalNamed (ky 2)=ξ 3:=by kernel_rfl
def Pc(t:TypeId)(n:Nat)(k:IntKind):Prop:=∃e,Di.underlying t=ξ (.array n e)/\Di.underlying e=ξ (.int k)/\Di.cellsOf e=1/\Di.cellsOf t=n
def pV{W:World}{a:String}{g t:Nat}{k:IntKind}{l:List Int}{cs:Array ψ}{p:List MemPlace}(s:Di.globalNamed a=ξ g)(b:W.var? Di a=ξ cs)(j:Pc t n k)
  (q:Fb (λ_=>()) Di W 0 (λ_=>φ) χ fuel t cs.toList=ξ (.agg (l.map λz=>.lit (.int k z)),p)):hv (wH W) (nm g)=ξ (.ro (GK.u k l)):=by have⟨e,c,d,f,i⟩:=j;have o:=jf c d f i q;have⟨v,w,m⟩:=zcm s b;have:=Vw m;rw[this,o];show ξ (BF.ro ((GK.u k l).map (up nm)))=_;rw[up_u]
def ty32:(Di.globals[4]?).map (·.type)=ξ 234:=by kernel_rfl
def ty64:(Di.globals[0]?).map (·.type)=ξ 223:=by kernel_rfl
def ty10:(Di.globals[3]?).map (·.type)=ξ 228:=by kernel_rfl
def zrg:Pc 234 32 .u8:=⟨5,by kernel_rfl,by kernel_rfl,by kernel_rfl,by kernel_rfl⟩
def zrf:Pc 223 64 .u8:=⟨5,by kernel_rfl,by kernel_rfl,by kernel_rfl,by kernel_rfl⟩
def zrh:Pc 228 20 .u64:=⟨141,by kernel_rfl,by kernel_rfl,by kernel_rfl,by kernel_rfl⟩
def zgv{W:World}(h:laidMet Di Nt W):GK.G (hv (wH W)):=by have⟨K,a,_,_⟩:=h;have⟨B,Z1,s,w,F,L,b,j,o,f,a,_⟩:=a;have⟨C,P,u,y,I,M,c,l,p,g,a,_⟩:=a;have⟨D,R,v,A,J,N,d,m,q,i,_,_⟩:=a;obtain rfl:=Ej (g32.symm.trans b);obtain rfl:=Ej (g64.symm.trans c);obtain rfl:=Ej (g10.symm.trans d);obtain rfl:=Ej (ty32.symm.trans j);obtain rfl:=Ej (ty64.symm.trans l);obtain rfl:=Ej (ty10.symm.trans m);exact⟨pV c p zrf g,pV d q zrh i,pV b o zrg f⟩
end
section
set_option maxRecDepth 100000
mutual
def zje{H:Type}:∀d:DataW H,1<=Rows.uptoBulk d
 | .lit (.string b)=>by simp[Rows.uptoBulk]
 | .lit (.bool b)=>by simp[Rows.uptoBulk]
 | .lit (.int k b)=>by simp[Rows.uptoBulk]
 | .lit (.float k b)=>by simp[Rows.uptoBulk]
 | .lit .nil=>by simp[Rows.uptoBulk]
 | .nil=>by simp[Rows.uptoBulk]
 | .ptr d=>by simp[Rows.uptoBulk]
 | .slice _ _=>by simp[Rows.uptoBulk]
 | .agg _=>by simp[Rows.uptoBulk]
 | .iface _ d=>by simp[Rows.uptoBulk]
 | .map _=>by simp[Rows.uptoBulk]
 | .held _=>by simp[Rows.uptoBulk]
end
def dw{H:Type}:∀l:List (DataW H),O l<=Rows.uptoBulkAll l:=by
 intro l;induction l with
 |nil=>simp
 |cons d l ih=>have:=zje d;simp only[DN,Rows.uptoBulkAll];omega
def Vx{H:Type}{d:DataW H}:∀{l:List (DataW H)},d∈l->Rows.uptoBulk d<=Rows.uptoBulkAll l:=by
 intro l;induction l with
 |nil=>intro h;cases h
 |cons e l ih=>
  intro h;simp only[Rows.uptoBulkAll];obtain rfl|h:=Dk.1 h;omega;have:=ih h;omega
def zjg{a:Addr}(h:bd (up nm (Y (ξ a) l c))<=3*n):nm a.block<3*n:=by simp only[up,bd]at h;omega
def gD(a:Addr)(i:Nat):(a.add i).block=a.block:=by unfold FS;split<;>rfl
theorem Vy(a:Addr)(i:Nat):(a.add i).off=a.off+i:=by unfold FS;split<;>simp_all
def gA(a:Addr):a.add 0=a:=by unfold FS;simp
section
variable {enc:TypeId×ψ->H}
def mH{d:DataW H}{p:List MemPlace}(hW:Wn W n)(ht:Di.underlying t=ξ (.slice e))(a3:Di.cellsOf e=sz)(h0:0<sz)(h:Fb enc Di W 0 (λ_=>φ) held fuel t [v]=ξ (d,p))(hb:bd (up nm v)<=3*n):
  ∃(a:Option Addr) (l c:Nat) (cells:List ψ),v=Y a l c/\Sl (hv (wH W)) n sz (up nm v) (cells.map (up nm))/\O cells=l*sz/\l<=Rows.uptoBulk d/\(∀x∈cells,bd (up nm x)<=3*n)/\
   ∀i,i<l->∃C D q,Fb enc Di W 0 (λ_=>φ) held C e ((cells.drop (i*sz)).take sz)=ξ (D,q)/\Rows.uptoBulk D<=Rows.uptoBulk d:=by
 obtain⟨hv,T⟩|⟨a,f,V,m,C,D,Z1,hv,_,N,_,hm,w,M⟩:=Go.Deep.open_slice ht h;injection hv with hv;injection T with T;subst hv T;exact⟨θ,0,0,[],ω,.nil (.inl ω),eF,CH,(λx w=>by cases w),λi s=>BO s (DR i)⟩;injection hv with hv;injection w with w _;subst hv w;have a2:m=V:=by rw[hm];rfl
 subst a2;rw[a3]at M;have I:nm a.block<3*n:=zjg hb;have a1:f<=Rows.uptoBulk (ap3 ((DV f).map D) ((DV (m-f)).map λj=>D (f+j))):=(by have:=dw ((DV f).map D);rw[CU,Fo]at this;simp only[Rows.uptoBulk];omega);have Z4:∀i,i<f->Rows.uptoBulk (D i)<=Rows.uptoBulk (ap3 ((DV f).map D) ((DV (m-f)).map λj=>D (f+j))):=λi s=>(by have:=Vx (l:=(DV f).map D) (F5 (GQ.2 s));simp only[Rows.uptoBulk];omega);by_cases hc0:m=0;have a0:f=0:=Z;subst a0;refine⟨ξ a,0,m,[],ω,.nil (.inr ⟨_,_,_,ω,I⟩),eF,CH,(λx w=>by cases w),λi s=>BO s (DR i)⟩;have A:∀i,i<m->∃cs,Fb enc Di W 0 (λ_=>φ) held C e cs=ξ (D i,Z1 i)/\O cs=sz/\∀j,j<sz->W.cell? ((a.add (i*sz)).add j)=cs[j]?:=λi s=>(by have⟨cs,o,u⟩:=M i s;have⟨_,F,G⟩:=World.cells?_some o;exact⟨cs,u,F,G⟩);have S:a.spot=θ/\∃c P R,W.heap[a.block]?=ξ (.cells c P R):=(by have⟨cs,_,u,o⟩:=A 0 Z;have o:=o 0 h0;rw[D2,gA,gA,CK Z]at o;unfold IS at o;split at o;split at o;cases o;rename_i hs;exact⟨by simpa using hs,_,_,_,mo⟩;cases o);have⟨B,c,P,R,y⟩:=S;have⟨b,g,sp⟩:=a;simp only at B y I;subst B;have J:∀i,i<m->∃cs,Fb enc Di W 0 (λ_=>φ) held C e cs=ξ (D i,Z1 i)/\O cs=sz/\∀j,j<sz->c[g+i*sz+j]?=cs[j]?:=λi s=>by
  have⟨cs,u,G,F⟩:=A i s;refine⟨cs,u,G,λj K=>?_⟩;rw[<-F j K];have e1:((FS ⟨b,g,θ⟩ (i*sz)).add j).block=b:=by rw[gD,gD]
  have e2:((FS ⟨b,g,θ⟩ (i*sz)).add j).off=g+i*sz+j:=by rw[Vy,Vy]
  have e3:((FS ⟨b,g,θ⟩ (i*sz)).add j).spot=θ:=(by unfold FS;split;split<;>rfl;rfl);unfold IS;rw[e1,y];simp only[e2,e3];rfl
 have a4:g+m*sz<=c.size:=by
  have⟨cs,_,F,u⟩:=J (m-1) Z;have u:=u (sz-1) Z;rw[CK Z]at u;obtain Z3|Z3:=Nat.lt_or_ge (g+(m-1)*sz+(sz-1)) c.size;have:(m-1)*sz+sz=m*sz:=by rw[<-EM];congr 1;omega
  omega;rw[Array.getElem?_eq_none Z3]at u;cases u
 have a6:f*sz<=m*sz:=CS _ N;have L:O ((c.toList.drop g).take (f*sz))=f*sz:=(by rw[DD,Es,Array.length_toList];omega);refine⟨ξ ⟨b,g,θ⟩,f,m,(c.toList.drop g).take (f*sz),ω,.at_ I (Vw y) ω N (by show g+f*sz<=O (c.toList.map (up nm));simp;omega) (by rw[Gx,List.map_drop]),L,a1,λx w=>hW.le b c P R y x (E5 (Dx w)),λi s=>?_⟩;have⟨cs,o,F,G⟩:=J i Z;have Z0:(((c.toList.drop g).take (f*sz)).drop (i*sz)).take sz=cs:=by
  have a5:i*sz+sz<=f*sz:=by rw[<-EM];exact CS _ s
  apply Et;intro j;by_cases K:j<sz;rw[EA K,D6,EA Z,D6,Array.getElem?_toList,<-G j K,GA];rw[Dl (by rw[DD,Es,L];omega),Dl Z]
 exact⟨C,D i,Z1 i,by rw[Z0];exact o,Z4 i s⟩
def Vz{g:α->List ψ}{Q:α->Prop}:∀{l:Nat} {cells:List ψ},O cells=l*sz->(∀i,i<l->∃x,(cells.drop (i*sz)).take sz=g x/\Q x)->∃b:List α,O b=l/\cells=b.flatMap g/\∀x∈b,Q x:=by
 intro l;induction l with
 |zero=>intro cells j _;exact⟨[],ω,CY.1 (by rw[j,D2]),λx d=>by cases d⟩
 |succ l ih=>
  intro cells j h;have⟨x,d,f⟩:=h 0 Z;rw[D2,DH]at d;have⟨b,m,o,p⟩:=ih (cells:=cells.drop sz) aD (λi q=>by
   have⟨y,a,f⟩:=h (i+1) Z;exact⟨y,by rw[List.drop_drop,<-a,EM,Ee],f⟩)
  refine⟨x::b,by rw[DN,m],?_,λy a=>?_⟩;rw[HZ,<-d,<-o,List.take_append_drop];obtain rfl|a:=Dk.1 a;exact f;exact p y a
def lM{c:ψ}{y:DataW H×List MemPlace}(a:Di.underlying t=ξ .string)(h:Fb enc Di W 0 (λ_=>φ) held fuel t [c]=ξ y):∃s:List UInt8,c=CN ⟨⟨s⟩⟩:=by
 cases fuel with
 |zero=>simp[Fb]at h
 |succ fuel=>
  cases c<;>simp[Fb,a]at h;rename_i s;exact⟨s.data.toList,ω⟩
def zh0(a:O cells=l*1)(hi:i<l):∃v,(cells.drop (i*1)).take 1=[v]:=by rw[DL]at a⊢;exact⟨cells[i]'Z,by rw[EL Z];rfl⟩
theorem uL{d:DataW H}{p:List MemPlace}(B:Wn W n)(F:Di.underlying t=ξ (.slice e))(C:Di.underlying e=ξ .string)(o:Di.cellsOf e=1)(h:Fb enc Di W 0 (λ_=>φ) held fuel t [v]=ξ (d,p))(hb:bd (up nm v)<=3*n):
  ∃S:List (List UInt8),Sl (hv (wH W)) n 1 (up nm v) (strs S)/\O S<=Rows.uptoBulk d:=by
 obtain⟨a,l,c,cells,rfl,u,b,I,_,w⟩:=mH B F o zd h hb;have⟨L,y,f,A⟩:=Vz (g:=λs:List UInt8=>[CN ⟨⟨s⟩⟩]) (Q:=λ_=>True) b (λi m=>by
  have⟨v,hv⟩:=zh0 b m;have⟨G,D,q,j,_⟩:=w i m;rw[hv]at j⊢;obtain⟨z,rfl⟩:=lM C j;exact⟨z,rfl,CE⟩)
 refine⟨L,?_,Z⟩;have:cells.map (up nm)=strs L:=by
  rw[f];clear A f y;induction L with
  |nil=>rfl
  |cons z L ih=>rw[HZ,Ev,ih];rfl
 rw[<-this];exact u
def parts(t:TypeId):Option (List (TypeId×Nat)):=match Di.underlying t with|some (.struct fs)=>ξ (fs.toList.map λf=>(f.type,f.offset))|_=>θ
theorem pW{L:List (TypeId×Nat)}{d:DataW H}{p:List MemPlace}(a:parts t=ξ L)(h:Fb enc Di W 0 (λ_=>φ) held fuel t cs=ξ (d,p)):
  (O cs)=Di.cellsOf t/\∃fu b,d=.agg b/\∀(i:Nat) (f:TypeId×Nat),L[i]?=ξ f->∃D q,Fb enc Di W 0 (λ_=>φ) held fu f.1 ((cs.drop f.2).take (Di.cellsOf f.1))=ξ (D,q)/\D∈b:=by
 cases fuel with
 |zero=>simp[Fb]at h
 |succ fuel=>
  unfold parts at a;split at a;rename_i fs hfs;injection a with a;simp only[Fb,hfs]at h;split at h;rename_i hl;refine⟨hl,?_⟩;rw[Eh]at h;have⟨b,u,m⟩:=h;injection m with m _;refine⟨fuel,b.map (·.1),m.symm,λi f s=>?_⟩;subst a;rw[DC,Eh]at s;obtain⟨g,w,rfl⟩:=s;have A:=mapM_some_length u;have B:i<O fs.toList:=by grind
  have o:=mapM_some_get u i g w;obtain⟨y,j⟩:∃y,b[i]?=ξ y:=⟨b[i]'Z,CK Z⟩;rw[j]at o;exact⟨y.1,y.2,o,F5 (CL j)⟩;cases h;cases a
def zod{a:List (DataW H)}{D:DataW H}(h:D∈a):Rows.uptoBulk D<=Rows.uptoBulk (.agg a):=by have:=Vx h;simp only[Rows.uptoBulk];omega
end
end
section
set_option maxRecDepth 100000
def zrt{l:List α}(h:O l=4):∃a b c d,l=[a,b,c,d]:=by
 match l,h with
 |[a,b,c,d],_=>exact⟨a,b,c,d,ω⟩
def zru{l:List α}(h:O l=3):∃a b c,l=[a,b,c]:=by
 match l,h with
 |[a,b,c],_=>exact⟨a,b,c,ω⟩
def gV:Di.underlying 9=ξ .string:=by kernel_rfl
def Pd:Di.underlying 22=ξ (.slice 9):=by kernel_rfl
def zox:Di.underlying 23=ξ (.slice 38):=by kernel_rfl
def N4:Di.cellsOf 9=1:=by kernel_rfl
def VA:Di.cellsOf 22=1:=by kernel_rfl
def zqw:Di.cellsOf 23=1:=by kernel_rfl
def VB:Di.cellsOf 38=3:=by kernel_rfl
def c_lp:Di.cellsOf 25=4:=by kernel_rfl
def zro:parts 38=ξ [(22,0),(9,1),(9,2)]:=by kernel_rfl
def p_lp:parts 25=ξ [(22,0),(23,1),(22,2),(22,3)]:=by kernel_rfl
def Sl.sh{c:List ψ}(s:Sl h n sz v c):∃a l k,v=Y a l k:=by
 cases s with
 |nil ha=>exact⟨_,_,_,ω⟩
 |at_ hb hx hc hcap hl he=>exact⟨_,_,_,ω⟩
def Rec.flat{P:List ψ->D->Prop}{g:D->List ψ}:∀{l:List D},(∀x∈l,O (g x)=sz/\P (g x) x)->Rec sz P (l.flatMap g) l:=by
 intro l;induction l with
 |nil=>intro _;exact .nil
 |cons x l ih=>
  intro h;rw[HZ];exact .cons (h x Eb).1 (h x Eb).2 (ih λy a=>h y (E7 _ a))
def Rec.map{E:Type}{P:List ψ->D->Prop}{a:List ψ->E->Prop}{f:D->E}{l:List D}(r:Rec sz P cs l)(h:∀c d,P c d->a c (f d)):Rec sz a cs (l.map f):=by
 induction r with
 |nil=>exact .nil
 |cons hl hp hr ih=>exact .cons hl (h _ _ hp) ih
section
variable {enc:TypeId×ψ->H}
theorem zdp{d:DataW H}{p:List MemPlace}(G:Wn W n)(h:Fb enc Di W 0 (λ_=>φ) held fuel 23 [v]=ξ (d,p))(hb:bd (up nm v)<=3*n):
  ∃rs,Kz (hv (wH W)) n (up nm v) rs/\O rs<=Rows.uptoBulk d/\∀r∈rs,O r.A<=Rows.uptoBulk d:=by
 obtain⟨a,l,c,b,rfl,K,M,h3,N,Z1⟩:=mH G zox VB zd h hb;obtain⟨L,P,C,m⟩:=Vz (α:=RowD×ψ) (g:=λx=>[x.2,CN ⟨⟨x.1.lo⟩⟩,CN ⟨⟨x.1.hi⟩⟩]) (Q:=λx=>Sl (hv (wH W)) n 1 (up nm x.2) (strs x.1.A)/\O x.1.A<=Rows.uptoBulk d) M (λi T=>by
  obtain⟨fu,D,q,F,a0⟩:=Z1 i T;have j:∀x∈(b.drop (i*3)).take 3,bd (up nm x)<=3*n:=λx f=>N x (E5 (Dx f));generalize (b.drop (i*3)).take 3=cs at F j⊢;obtain⟨I,Z0,xs,rfl,f⟩:=pW zro F;rw[VB]at I;obtain⟨u,c1,c2,rfl⟩:=zru I;obtain⟨D0,_,w,V⟩:=f 0 _ rfl;obtain⟨_,_,y,_⟩:=f 1 _ rfl;obtain⟨_,_,B,_⟩:=f 2 _ rfl;simp only[VA,N4]at w y B;have b0:=zod V;obtain⟨S,Z3,s2⟩:=uL G Pd gV N4 w (j u eF);obtain⟨s,rfl⟩:=lM gV y;obtain⟨t,rfl⟩:=lM gV B;exact⟨(⟨S,s,t⟩,u),rfl,Z3,by show O S<=_;omega⟩)
 refine⟨L.map (·.1),⟨b.map (up nm),K,?_⟩,eP,λr Z4=>?_⟩
 .have e:b.map (up nm)=L.flatMap λx=>[up nm x.2,CN ⟨⟨x.1.lo⟩⟩,CN ⟨⟨x.1.hi⟩⟩]:=by
   rw[C];clear m C P;induction L with
   |nil=>rfl
   |cons z L ih=>rw[HZ,Ev,ih];rfl
  rw[e];refine(Rec.flat (sz:=3) λx f=>⟨rfl,?_⟩).map λc d R=>R;obtain⟨o,_⟩:=m x f;obtain⟨a2,l2,k2,J⟩:=o.sh;rw[J]at o⊢;exact⟨_,_,_,rfl,o⟩
 obtain⟨x,f,rfl⟩:=DU.1 Z4;exact(m x f).2
def zm6{d:DataW H}{p:List MemPlace}(s:Wn W n)(T:∃cs,v=.agg cs)(h:DataW.Trod enc Di W 0 (λ_=>φ) held 25 v d p)(hb:bd (up nm v)<=3*n):
  ∃(ao:Option Addr) (lo co:Nat) (ar:Option Addr) (lr cr:Nat) (aw:Option Addr) (lw cw:Nat) (au:Option Addr) (lu cu:Nat) (q:LPD),up nm v=.agg #[Y ao lo co,Y ar lr cr,Y aw lw cw,Y au lu cu]/\Sl (hv (wH W)) n 1 (Y ao lo co) (strs q.obj)/\Kz (hv (wH W)) n (Y ar lr cr) q.rows/\Sl (hv (wH W)) n 1 (Y aw lw cw) (strs q.lower)/\Sl (hv (wH W)) n 1 (Y au lu cu) (strs q.upper):=by obtain⟨cs,rfl⟩:=T;have⟨fuel,h⟩:=h;obtain⟨R,fu,xs,rfl,a⟩:=pW p_lp h;rw[c_lp]at R;have⟨c,g,i,j,m⟩:=zrt R;have C:cs=#[c,g,i,j]:=(by cases cs;simp[Value.cells]at m;simp[m]);subst C;have b:∀x∈[c,g,i,j],bd (up nm x)<=3*n:=λx a=>(by have:=aK (F5 (f:=up nm) a);have e:bd (up nm (.agg #[c,g,i,j]))=L5 ([c,g,i,j].map (up nm)):=rfl;omega);rw[m]at a;have⟨V,_,L,m0⟩:=a 0 _ rfl;have⟨Z3,_,M,m1⟩:=a 1 _ rfl;have⟨Z0,_,N,m2⟩:=a 2 _ rfl;have⟨D3,_,P,m3⟩:=a 3 _ rfl;simp only[VA,zqw]at L M N P;have⟨Z1,u,_⟩:=uL s Pd gV N4 L (b c eF);have⟨Z4,S,_⟩:=zdp s M (b g eF);have⟨A,w,_⟩:=uL s Pd gV N4 N (b i eF);have⟨B,y,_⟩:=uL s Pd gV N4 P (b j eF);have⟨_,_,_,G⟩:=u.sh;have⟨o,l,F⟩:=S;have⟨_,_,_,I⟩:=l.sh;have⟨_,_,_,J⟩:=w.sh;have⟨_,_,_,K⟩:=y.sh;rw[G]at u;rw[I]at l;rw[J]at w;rw[K]at y;refine⟨_,_,_,_,_,_,_,_,_,_,_,_,⟨Z1,Z4,A,B⟩,?_,u,⟨o,l,F⟩,w,y⟩;show Value.agg #[up nm c,up nm g,up nm i,up nm j]=_;rw[G,I,J,K]
end
end
section
set_option maxRecDepth 100000
def own:ownKnob Di.godebug=θ:=by kernel_rfl
def ei:laidOutB Di=φ:=by kernel_rfl
def kw(c:Array ψ):Obj->Obj
 | .cells _ t frozen=>.cells c t frozen
 |o=>o
def iH(os:Os):World:=
 {ak5 Di os ⟨#[],#[],[]⟩with heap:=(((ak5 Di os ⟨#[],#[],[]⟩).heap.modify 0 (kw GK.d64.toArray)).modify 3 (kw GK.p10.toArray)).modify 4 (kw GK.d32.toArray)}
def kx(os:Os)(a:Array ψ):laidMet Di Nt ((iH os).forCall (λ_ _=>0) ⟨#[],a,[]⟩).memory:=
 laidMet_of_run' 8 (by kernel_rfl) (by kernel_rfl)
end
end
end Go.Proofs.YtpcpimjejdegcaaGreatDoor
