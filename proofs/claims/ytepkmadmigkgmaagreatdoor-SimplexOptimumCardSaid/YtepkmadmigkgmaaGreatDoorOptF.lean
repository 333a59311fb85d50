import Derived.Below
import Derived.Test.YtepkmadmigkgmaaGreatDoorRows
import Derived.ChangeSame
import Derived.ChangeVars
import Derived.ChangeSlices
import Derived.JoinedOf
import Derived.RowKit
import Derived.RowKitTokens
import Derived.LaidLaws
import Derived.Carry
import Derived.Handed
import Derived.Deep.Slices
import Derived.Test.YtepkmadmigkgmaaGreatDoorTie
import Derived.Test.YtepkmadmigkgmaaGreatDoorCards
import Derived.Test.YtepkmadmigkgmaaGreatDoorOptE
open Array renaming getElem?_eq_none→B1
open Bool renaming false_ne_true→Ba
open Classical renaming axiomOfChoice→Ch,byContradiction→tp,not_not→DJ
open Go.Addr renaming add→Cu
open Go.DataW renaming trod→BC
open Go.Proofs.Tryz renaming prog→sP
open Go.Value renaming bool→jx,int→gZ,pointer→mo,slice→gS,string→jy
open Go.World renaming cell?→Fk
open Int renaming natAbs_mul→AF,natAbs_natCast→qe,natAbs_tdiv→ET,toNat_of_nonneg→Gh
open List renaming append_assoc→Ak,append_nil→Am,drop_eq_getElem_cons→Bw,drop_zero→Av,ext_getElem?→BU,flatMap_cons→El,getElem?_append_left→AG,getElem?_append_right→ux,getElem?_drop→BY,getElem?_eq_getElem→kF,getElem?_eq_none→Ae,getElem?_eq_some_iff→nN,getElem?_map→As,getElem?_range→Cq,getElem?_replicate→Ef,getElem?_take→CW,getElem?_take_of_lt→BA,getElem?_zipWith→CY,getElem_mem→Cx,getElem_zipWith→F7,length→gP,length_append→k0,length_cons→Ao,length_drop→sa,length_map→mu,length_range→BH,length_replicate→ru,length_set→Bb,length_take→sn,length_zipWith→B8,map_append→AP,map_congr_left→A2,map_id→Eb,map_map→EY,map_take→Dw,mem_append→AY,mem_cons→Ad,mem_cons_self→AR,mem_iff_getElem→EM,mem_iff_getElem?→Cv,mem_map→AZ,mem_map_of_mem→DZ,mem_of_getElem?→mp,mem_of_mem_drop→Bq,mem_of_mem_take→AB,mem_range→Dj,mem_singleton→qq,not_mem_nil→og,range→AI,range_succ→FM,replicate→ns,replicate_succ'→CD,take_length→xd,take_of_length_le→pq,zipWith→A0,zipWith_nil_right→Dt
open Nat renaming beq→AD,div_le_self→A3,le_mul_of_pos_left→CM,le_mul_of_pos_right→BG,le_of_ble_eq_true→tu,le_of_lt→Bh,le_refl→AL,le_succ→Al,le_trans→Aa,lt_of_le_of_lt→Aj,lt_of_lt_of_le→Af,lt_or_ge→Bi,mul_le_mul→Ar,mul_le_mul_left→s9,mul_le_mul_right→o0,mul_one→AH,not_lt_zero→AQ,pow_le_pow_right→sN,sub_self→AO,succ_mul→Bo,zero_add→sb,zero_mul→Bg
open Option renaming isSome_iff_exists→Aq,map_eq_some_iff→A7,map_some→FH
open Option.some renaming inj→Bx,injEq→Ei
open Rat renaming divInt→AK,divInt_eq_div→Bs,intCast_mul→AC,intCast_natCast→Bn,le_of_lt→Bc,le_refl→Cg,mul_comm→Cd,mul_one→DP,not_le→B7,zero_add→GT,zero_mul→B6
set_option maxHeartbeats 8000000
set_option linter.unusedVariables false
set_option linter.unusedSimpArgs false
namespace Go.Proofs.YtepkmadmigkgmaaGreatDoor
open Go Go.GL
variable {n m b co cr lr j cu cw lu lw l N n0 cx lx V cap bs len B T O D M Mo BB n' c P k lo' bt Bl N' l1 f:Nat}{h h':HF}{ao ar au aw ax a1:Option Addr}{S C:List (List UInt8)}{ops r:List Oper}{d d0:Sol}{e ty:TypeId}{a:Nat→Nat→Int}{α β:Type}{X:CtxF}{ms w:List Nat}{t:TF}{al ld:List (Nat×Nat)}{ef:List (Nat×HF×List Nat)}{Q:SV→Prop}{o:Oper}{s:List UInt8}{q g:Rat}{A:Adr}{L:(Nat→Rat)→Prop}{ds:List SideD}{ob xs:List Rat}{bz:List (Nat×List Int)}{y:Nat×List Int}{ρ' ρ:Ren}{fd:Bool}{ik:IntKind}{σ:Nat→Rat}{z:Value}
noncomputable def bL (d:SideD)(s:Rat):Bool×Rat:=(decide (d.lo≠[]),zj d.lo*s)
noncomputable def bH (d:SideD)(s:Rat):Bool×Rat:=(decide (d.hi≠[]),zj d.hi*s)
noncomputable def stV (d:SideD):Rat:=if d.lo≠[] then zj d.lo else if d.hi≠[] then zj d.hi else 0
noncomputable def solC (N:Nat)(cs:List SideD):Sol:=⟨N,ns (gP cs) 1,cs.map fun d=>bL d 1,cs.map fun d=>bH d 1,cs.map stV,[],AI (gP cs),[],1⟩
noncomputable def solR (cs rs:List SideD)(ss:List Rat)(bz:List (Nat×List Int)):Sol:=⟨gP cs,ns (gP cs) 1++ss,(cs.map fun d=>bL d 1)++A0 bL rs ss,(cs.map fun d=>bH d 1)++A0 bH rs ss,cs.map stV++A0 (fun r s=>dotR r.A (cs.map stV)*s) rs ss,(AI (gP ss)).map (gP cs+ ·),AI (gP cs),bz,1⟩
theorem zdc {N:Nat}{cs:List SideD}{d:SideD}:solC N (cs++[d])=⟨N,ns (gP cs) 1++[1],(cs.map fun d=>bL d 1)++[bL d 1],(cs.map fun d=>bH d 1)++[bH d 1],cs.map stV++[stV d],[],AI (gP cs)++[gP cs],[],1⟩:=by
 unfold solC;rw [len1,CD,FM,AP,AP,AP];rfl
theorem zda {cs rs:List SideD}:solR cs rs [] []=solC (gP cs) cs:=by
 unfold solR solC;rw [Dt,Dt,Dt,Am,Am,Am,Am];rfl
theorem s0 {α β γ:Type}{f:α→β→γ}:∀{rs:List α} {ss:List β} {r:α} {s:β},rs[gP ss]?=some r→A0 f rs (ss++[s])=A0 f rs ss++[f r s]
 |[],ss,r,s,h=>by cases h
 |x::rs,[],r,s,h=>by
  injection h with h
  subst h;show f x s::A0 f rs []=_;rw [Dt];rfl
 |x::rs,y::ss,r,s,h=>by
  show f x y::A0 f rs (ss++[s])=f x y::(A0 f rs ss++[f r s]);rw [s0 (rs:=rs) (ss:=ss) h]
theorem zdb {cs rs:List SideD}{ss:List Rat}{a:List (Nat×List Int)}{r:SideD}{s:Rat}{z:Nat×List Int}(h:rs[gP ss]?=some r):solR cs rs (ss++[s]) (a++[z])=⟨gP cs,(ns (gP cs) 1++ss)++[s],((cs.map fun d=>bL d 1)++A0 bL rs ss)++[bL r s],((cs.map fun d=>bH d 1)++A0 bH rs ss)++[bH r s],(cs.map stV++A0 (fun r s=>dotR r.A (cs.map stV)*s) rs ss)++[dotR r.A (cs.map stV)*s],(AI (gP ss)).map (gP cs+ ·)++[gP cs+gP ss],AI (gP cs),a++[z],1⟩:=by
 unfold solR;rw [len1,FM,AP,s0 h,s0 h,s0 h,Ak,Ak,Ak,Ak];rfl
theorem zi3 {x:Bool}{p:Prop}[Decidable p](v:x=true↔p):x=decide p:=by
 cases x
 ·exact (cA fun h=>by cases v.2 h).symm
 exact (eH (v.1 rfl)).symm
theorem lD {α β γ:Type}{f:α→β→γ}{rs:List α}{ss:List β}(h:gP ss≤gP rs):gP (A0 f rs ss)=gP ss:=by rw [B8];omega
theorem za7 (k:Nat){h:HF}{n:Nat}(g:GG h n){ao aR ac:Option Addr}{lo co lR cR lc cc:Nat}{ob:List Rat}{rs cs:List SideD}(io:QS h n (gS ao lo co) ob)(ir:SDS h n (gS aR lR cR) rs)(ic:SDS h n (gS ac lc cc) cs){a P:Nat}(hc:∀d∈cs,Sz a (zj d.lo)∧Sz a (zj d.hi))(hr:∀d∈rs,Sz a (zj d.lo)∧Sz a (zj d.hi)∧gP d.A=gP cs∧∀q∈d.A,Sz a q)(hz:∀q∈ob,Sz a q)(gq:gP ob=gP cs)(h0:0<gP cs)(hP:a*gP cs+a+1≤P)(jg:gP cs*(a+a+2)+a+a+3+P≤2490)(hL:gP cs≤900)(hR:gP rs≤900):
  CX (cal (k+13)) 36 [.agg #[gS ao lo co,gS aR lR cR,gS ac lc cc]] h n fun w h' n'=>∃u A p M B zlL s,w=mo (some ⟨u,0,none⟩)∧SN n h' n' u {solR cs rs p M with ta:=M++[(B,zlL)]} A∧gP p=gP rs∧gP M=gP rs∧(∀(i:Nat) r z q,rs[i]?=some r→M[i]?=some z→p[i]?=some q→ScR r.A P z.2 q)∧ScR ob P zlL s:=by
 have i3:=io.len;have i0:=ir.len;have i1:=ic.len;subst i3 i0 i1;have ha:a≤P:=zo;refine zw (fn:=Tryz.f36) R4 ?_;refine zG ?_;refine sB [gS ao (gP ob) co,gS aR (gP rs) cR,gS ac (gP cs) cc] ?_;intro h1 p1 x1;refine zG ?_;refine zl [0,1,3,0,15,31,63] rfl ?_;refine zH ?_;refine dC (zea _ _ _) ?_;rintro _ h2 n2 ⟨b2,a2,l2,c2,rfl,i2⟩ y2 x2;refine dT #[gZ .i64 (gP cs:Int),gS none 0 0,gS none 0 0,gS none 0 0,gS none 0 0,gS none 0 0,gS none 0 0,gS none 0 0,jx b2,gS a2 l2 c2] ?_;refine dB [gZ .i64 (gP cs:Int),gS none 0 0,gS none 0 0,gS none 0 0,gS none 0 0,gS none 0 0,gS none 0 0,gS none 0 0,jx b2,gS a2 l2 c2] ?_;intro h3 p3 x3;obtain ⟨u,hB⟩:∃B,B=3*n2+2:=⟨_,rfl⟩;have gb:gro u=false:=by rw [hB];exact zB _
 rw [←hB] at p3 ⊢;have nn:∀{P:Prop} b,BkOf (gS none 0 0) b→P:=fun b hb=>by
  obtain ⟨o,l,c,e⟩:=hb;cases e
 have s3:SN n h3 (n2+1) u (solC (gP cs) (cs.take 0)) ⟨none,none,none,none,none,none,none⟩:=⟨⟨⟨b2,a2,l2,c2,_,p3,i2.ext x3 zs⟩,⟨zo,gb⟩,GR.nil,GR.nil,GR.nil,GR.nil,GR.nil,GR.nil,GR.nil,fun r hr=>eN hr og,fun b hb=>nn b hb⟩,fun b hb=>nn b hb,fun b hb=>nn b hb,fun r hr=>eN hr og,List.nodup_nil,zo⟩;have X3:Exo n h h3:=⟨(show Tx n h (n2+1) h3 from zx).2⟩;have i5:h3 (3*n+2)=_:=(zp:h3 (3*n+2)=_);have y3:n+1≤n2:=y2;clear p3 x3 i2 x2 x1 p1 y2;refine zJ ?_;refine sF (α:=Nat×Adr) (fun z=>[(1,mo (some ⟨3*n+2,0,none⟩)),(3,mo (some ⟨u,0,none⟩)),(19,gS ac (gP cs) cc),(20,gZ .i64 (gP cs:Int)),(21,gZ .i64 (z.1:Int))]) (fun z h' n' w'=>w'=[]∧n2+1≤n'∧Ext n h h'∧h' (3*n+2)=some (.row [gS ao (gP ob) co,gS aR (gP rs) cR,gS ac (gP cs) cc] 71)∧SN n h' n' u (solC (gP cs) (cs.take z.1)) z.2∧z.1≤gP cs) (fun z=>gP cs-z.1) (0,⟨none,none,none,none,none,none,none⟩) ⟨rfl,eU,X3.go,i5,s3,gH⟩ ?_;rintro ⟨j,A⟩ t h4 n4 _ ⟨rfl,y4,X4,p4,s4,hj⟩;have y4:n2+1≤n4:=y4;replace X4:Exo n h h4:=⟨X4⟩;have p4:h4 (3*n+2)=some (.row [gS ao (gP ob) co,gS aR (gP rs) cR,gS ac (gP cs) cc] 71):=p4;have s4:SN n h4 n4 u (solC (gP cs) (cs.take j)) A:=s4;have hj:j≤gP cs:=hj;have g4:GG h4 n4:=g.ext X4.go zo;have b4:gP (cs.take j)=j:=by rw [sn];omega
 generalize hcj:cs.take j=cj at*
 refine zG ?_;by_cases q4:(j:Int)<(gP cs:Int)
 ·refine zG ?_;have dm:j<gP cs:=zo;obtain ⟨d,gd⟩:∃d,cs[j]?=some d:=⟨_,kF dm⟩;obtain ⟨zlo,zhi⟩:=hc d (mp gd);obtain ⟨bb,off,aA,lA,kA,bo,b6,a6,l6,c6,d6,e6,f6,u6,bp,b7,a7,l7,c7,d7,e7,f7,u7,e8,m8,r8,t8,_,v6,i6,j6,v7,i7,j7⟩:=SDS.at (ic.ext (n':=n4) X4.go zo) gd;refine sI e8 r8 ?_;refine sL t8 m8 0 ?_;refine sA ?_;intro h5 p5 x5;refine zG ?_;refine sS [gS aA lA kA,jx bo,jx b6,gS a6 l6 c6,jx d6,gS e6 f6 u6,jx bp,jx b7,gS a7 l7 c7,jx d7,gS e7 f7 u7] ?_;intro h6 p6 o6;refine zG ?_;refine zl [0,0,0,7] rfl ?_;refine zH ?_;refine dC (zj4 _ _ _) ?_;rintro _ h7 n7 ⟨b9,a9,l9,c9,d9,e9,f9,u9,rfl,i9,j9⟩ y7 x7;have T7:Tr n4 h4 n7 h7:=zt;have k7:∀c,c<3*n4→h7 c=h4 c:=fun c hc=>by
   have e0:h4 c=h4 c:=rfl;exact zp
  have X7:Exo n4 h4 h7:=⟨k7⟩;have jk:n4+1≤n7:=y7;have fi:h7 (3*n4+2)=_:=(x7 _ zo).trans p6;have l1:(solC (gP cs) cj).sc.length=j:=by show (ns (gP cj) (1:Rat)).length=j;rw [ru];exact b4
  have l2:(solC (gP cs) cj).lo.length=j:=by show gP (cj.map _)=j;rw [mu];exact b4
  have l3:(solC (gP cs) cj).hi.length=j:=by show gP (cj.map _)=j;rw [mu];exact b4
  have az:=zq5 (k+1) (g4.t T7) (s4.ext X7.go zo) (show n≤n7 by omega) l1 l2 l3 zo (aA:=aA) (lA:=lA) (kA:=kA) (x1:=bo) (x2:=bp) (i6.t T7) (j6.t T7) (i7.t T7) (j7.t T7) i9 j9 zlo zhi (b:=1) (show Sz 1 (1:Rat) from ⟨by decide,by decide⟩) zo;refine wa _ R7 az ?_;rintro _ h8 J w8 ⟨y8,⟨A8,s8⟩,T8,k8,L8,f5⟩;refine ⟨rF rfl rfl,y8,?_⟩;rw [mY,zV f5];have bn:=T7.trans T8;have fj:h8 (3*n4+2)=_:=(k8 _ zo zo (zB _)).trans fi;have fh:h8 (3*n+2)=_:=(k8 _ zo zo (zB _)).trans ((k7 _ zo).trans p4);have X8:Exo n h h8:=⟨fun c hc=>(L8 c hc).trans ((k7 c zo).trans (X4.go c hc))⟩;have jo:n4+1≤J:=zo;have fa:=i6.t bn;have fc:=j6.t bn;have fb:=i7.t bn;have fd:=j7.t bn;have jj:n<J:=zo;rw [zi3 v6,zi3 v7] at s8;obtain ⟨K,bq⟩:∃K:Sol,K={solC (gP cs) cj with sc:=(solC (gP cs) cj).sc++[1],lo:=(solC (gP cs) cj).lo++[bL d 1],hi:=(solC (gP cs) cj).hi++[bH d 1]}:=⟨_,rfl⟩;have s8:SN n h8 J u K A8:=bq▸s8;have l8:gP K.nb=j:=by rw [bq];show (AI (gP cj)).length=j;rw [BH];exact b4
  obtain ⟨b5,a5,l5,c5,ty,st,iD⟩:=s8.st;have jh:=s8.bs.1;clear k8 L8 fi x7 az x5 p5 o6 p6 T7 k7 X7 T8 i6 j6 i7 j7 i9 j9 bn X4 p4 s4 f5;refine zJ ?_;refine wE [gZ .i64 (j:Int)] (l:=1) (c:=1) R5 ?_;intro h9 p9 x9;refine sGA (n0:=n) [gZ .i64 (j:Int)] [j] (s8.nb.ext natP.kp x9 zs) natP.kp (.cons (c:=[gZ .i64 (j:Int)]) rfl rfl .nil) ⟨rfl,rfl⟩ (yp p9 R2) eU (by rw [l8];show j+1<_;omega) zo ?_;intro jr f0 c4 em g8 cz cx;obtain ⟨aN,rfl⟩:=c4.shape (L:=gP K.nb+1) (len1 _ _);have fk:=(cz u zo (s8.nb.nbk gb)).trans ((x9 u zo).trans st);refine zG ?_;refine sSn (n0:=n) [gZ .i64 (K.n:Int),gS A8.sc (gP K.sc) (gP K.sc),gS A8.lo (gP K.lo) (gP K.lo),gS A8.hi (gP K.hi) (gP K.hi),gS A8.va (gP K.va) (gP K.va),gS A8.ba (gP K.ba) (gP K.ba),gS aN (gP K.nb+1) (gP K.nb+1),gS A8.ta (gP K.ta) (gP K.ta),jx b5,gS a5 l5 c5] ?_ (hb:=fk);intro G b8 ab;have bd:Tr J h8 (J+1+1) G:=Tr.s ab (Tr.trans ⟨Al _,fun c hc=>.inl (x9 c hc)⟩ em);have O:∀c,c<3*J→c≠u→¬BkOf (gS A8.nb (gP K.nb) (gP K.nb)) c→G c=h8 c:=fun c hc h1 h2=>(ab.1 c h1).trans ((cz c zo h2).trans (x9 c hc));have C:=s8.aNb bd O (c4.go natP.kp (Tr.s ab (Tr.refl _ _)) fun b hb=>ab.1 b (by have:=cx b hb;omega)) (fun b hb=>by have:=cx b hb;omega) b8 (iD.t bd);have iw:G (3*n4+2)=_:=(O _ zo zo (s8.nb.nbk (zB _))).trans fj;have ce:G (3*n+2)=_:=(O _ zo zo (s8.nb.nbk (zB _))).trans fh;have T:Exo n h G:=⟨fun c hc=>(O c zo zo (fun hv=>by have:=(s8.nb.bk c hv).1;omega)).trans (X8.go c hc)⟩;have fv:=fa.t bd;have fz:=fc.t bd;have fw:=fb.t bd;have g0:=fd.t bd;obtain ⟨f,bh⟩:∃f:Sol,f={K with nb:=K.nb++[j]}:=⟨_,rfl⟩;obtain ⟨D,dg⟩:∃D:Adr,D={A8 with nb:=aN}:=⟨_,rfl⟩;rw [←bh,←dg] at C;have l11:gP f.va=j:=by rw [bh,bq];show (gP (cj.map _))=j;rw [mu];exact b4
  have b1:{f with va:=f.va++[stV d]}=solC (gP cs) (cs.take (j+1)):=by
   rw [xa gd,hcj,zdc,bh,bq,b4];unfold solC;rw [b4]
  obtain ⟨d4,d2,dw,db,iz,cf,cb⟩:=C.st;clear bh dg O cz x9 p9 em g8 cx c4 ab b8 fk st iD s8 bq X8 fj fh fa fc fb fd;have jm:J+1≤J+1+1:=Al _;generalize hm:J+1+1=m at*
  have iq:=C.bs.1;refine zG ?_;rcases bvs v6 with ⟨rfl,cm⟩|⟨rfl,cm⟩
  ·refine zG ?_;rcases bvs v7 with ⟨rfl,dd⟩|⟨rfl,dd⟩
   ·have ev:stV d=0:=(eP cm).trans (eP dd);refine zG ?_;refine sT #[jx false,gS none 0 0,jx false,gS none 0 0] ?_;refine wE [jx false,gS none 0 0,jx false,gS none 0 0] (l:=1) (c:=1) R5 ?_;intro ae bu I;refine sGA (n0:=n) [jx false,gS none 0 0,jx false,gS none 0 0] [(0:Rat)] (C.va.ext ratP.kp I zs) ratP.kp (.cons (c:=[jx false,gS none 0 0,jx false,gS none 0 0]) rfl ⟨_,_,_,_,_,_,_,_,rfl,IW.zero _ _,IW.zero _ _⟩ .nil) ⟨rfl,rfl⟩ (yp bu R2) eU (by rw [l11];show j+1<_;omega) zo ?_;intro fp f1 a3 bl eh aq ap;obtain ⟨aV,rfl⟩:=a3.shape (L:=gP f.va+1) (len1 _ _);have bw:=(aq u zo (C.va.nbk gb)).trans ((I u zo).trans cf);refine zG ?_;refine sSn (n0:=n) [gZ .i64 (f.n:Int),gS D.sc (gP f.sc) (gP f.sc),gS D.lo (gP f.lo) (gP f.lo),gS D.hi (gP f.hi) (gP f.hi),gS aV (gP f.va+1) (gP f.va+1),gS D.ba (gP f.ba) (gP f.ba),gS D.nb (gP f.nb) (gP f.nb),gS D.ta (gP f.ta) (gP f.ta),jx d4,gS d2 dw db] ?_ (hb:=bw);intro ak ax R;have ar:Tr m G (m+1+1) ak:=Tr.s R (Tr.trans ⟨Al _,fun c hc=>.inl (I c hc)⟩ bl);have a8:∀c,c<3*m→c≠u→¬BkOf (gS D.va (gP f.va) (gP f.va)) c→ak c=G c:=fun c hc h1 h2=>(R.1 c h1).trans ((aq c zo h2).trans (I c hc));refine zG ?_;have ay:=C.aVa ar a8 (a3.go ratP.kp (Tr.s R (Tr.refl _ _)) fun b hb=>R.1 b (by have:=ap b hb;omega)) (fun b hb=>by have:=ap b hb;omega) ax (cb.t ar);rw [←ev,b1] at ay;exact sK (j+1,{D with va:=aV}) ⟨rfl,zo,fun c hc=>(a8 c zo zo (fun hv=>by have:=(C.va.bk c hv).1;omega)).trans (T.go c hc),(a8 _ zo zo (C.va.nbk (zB _))).trans ce,ay,by show j+1≤_;omega⟩
   have ev:stV d=zj d.hi:=(eP cm).trans (eS dd);refine zG ?_;refine zl [0,0,2,6,14,0,32,96,224,510,1023,2047,4095] rfl ?_;refine zH ?_;refine dMs [jx b7,gS a7 l7 c7,jx d7,gS e7 f7 u7] ?_;intro ae bu I;refine dGA (n0:=n) (q:=zj d.hi) [jx b7,gS a7 l7 c7,jx d7,gS e7 f7 u7] (C.va.ext ratP.kp I zs) ratP.kp ⟨_,_,_,_,_,_,_,_,rfl,fw.ext I zs,g0.ext I zs⟩ (yp bu R2) (by rw [l11];omega) zo (fun W hW=>by (repeat (first|rfl|(refine rF rfl ?_)))) ?_;intro fp f1 d1 c8 a3 bl eh aq ap;obtain ⟨aV,rfl⟩:=a3.shape (L:=gP f.va+1) (len1 _ _);have bw:=(aq u zo (C.va.nbk gb)).trans ((I u zo).trans cf);refine zH ?_;refine dSx (n0:=n) [gZ .i64 (f.n:Int),gS D.sc (gP f.sc) (gP f.sc),gS D.lo (gP f.lo) (gP f.lo),gS D.hi (gP f.hi) (gP f.hi),gS aV (gP f.va+1) (gP f.va+1),gS D.ba (gP f.ba) (gP f.ba),gS D.nb (gP f.nb) (gP f.nb),gS D.ta (gP f.ta) (gP f.ta),jx d4,gS d2 dw db] bw ?_;intro ak ax R;have ar:Tr m G (m+1+1) ak:=Tr.s R (Tr.trans ⟨Al _,fun c hc=>.inl (I c hc)⟩ bl);have a8:∀c,c<3*m→c≠u→¬BkOf (gS D.va (gP f.va) (gP f.va)) c→ak c=G c:=fun c hc h1 h2=>(R.1 c h1).trans ((aq c zo h2).trans (I c hc));refine zG ?_;have au:addW n [u] (addW n d1 [])=[]:=by rw [wD zo,zV (fun c hc=>by have:=c8 c hc;omega)]
   have ay:=C.aVa ar a8 (a3.go ratP.kp (Tr.s R (Tr.refl _ _)) fun b hb=>R.1 b (by have:=ap b hb;omega)) (fun b hb=>by have:=ap b hb;omega) ax (cb.t ar);rw [←ev,b1] at ay;exact sK (j+1,{D with va:=aV}) ⟨au,zo,fun c hc=>(a8 c zo zo (fun hv=>by have:=(C.va.bk c hv).1;omega)).trans (T.go c hc),(a8 _ zo zo (C.va.nbk (zB _))).trans ce,ay,by show j+1≤_;omega⟩
  have ev:stV d=zj d.lo:=eS cm;refine zG ?_;refine zl [0,0,2,6,14,0,32,96,224,510,1023,2047,4095] rfl ?_;refine zH ?_;refine dMs [jx b6,gS a6 l6 c6,jx d6,gS e6 f6 u6] ?_;intro ae bu I;refine dGA (n0:=n) (q:=zj d.lo) [jx b6,gS a6 l6 c6,jx d6,gS e6 f6 u6] (C.va.ext ratP.kp I zs) ratP.kp ⟨_,_,_,_,_,_,_,_,rfl,fv.ext I zs,fz.ext I zs⟩ (yp bu R2) (by rw [l11];omega) zo (fun W hW=>by (repeat (first|rfl|(refine rF rfl ?_)))) ?_;intro fp f1 d1 c8 a3 bl eh aq ap;obtain ⟨aV,rfl⟩:=a3.shape (L:=gP f.va+1) (len1 _ _);have bw:=(aq u zo (C.va.nbk gb)).trans ((I u zo).trans cf);refine zH ?_;refine dSx (n0:=n) [gZ .i64 (f.n:Int),gS D.sc (gP f.sc) (gP f.sc),gS D.lo (gP f.lo) (gP f.lo),gS D.hi (gP f.hi) (gP f.hi),gS aV (gP f.va+1) (gP f.va+1),gS D.ba (gP f.ba) (gP f.ba),gS D.nb (gP f.nb) (gP f.nb),gS D.ta (gP f.ta) (gP f.ta),jx d4,gS d2 dw db] bw ?_;intro ak ax R;have ar:Tr m G (m+1+1) ak:=Tr.s R (Tr.trans ⟨Al _,fun c hc=>.inl (I c hc)⟩ bl);have a8:∀c,c<3*m→c≠u→¬BkOf (gS D.va (gP f.va) (gP f.va)) c→ak c=G c:=fun c hc h1 h2=>(R.1 c h1).trans ((aq c zo h2).trans (I c hc));refine zG ?_;have au:addW n [u] (addW n d1 [])=[]:=by rw [wD zo,zV (fun c hc=>by have:=c8 c hc;omega)]
  have ay:=C.aVa ar a8 (a3.go ratP.kp (Tr.s R (Tr.refl _ _)) fun b hb=>R.1 b (by have:=ap b hb;omega)) (fun b hb=>by have:=ap b hb;omega) ax (cb.t ar);rw [←ev,b1] at ay;exact sK (j+1,{D with va:=aV}) ⟨au,zo,fun c hc=>(a8 c zo zo (fun hv=>by have:=(C.va.bk c hv).1;omega)).trans (T.go c hc),(a8 _ zo zo (C.va.nbk (zB _))).trans ce,ay,by show j+1≤_;omega⟩
 have dm:j=gP cs:=zo;have s4:SN n h4 n4 u (solR cs rs [] []) A:=by
  rw [zda];rw [←hcj,dm,xd] at s4;exact s4
 refine zG ?_;refine sF (α:=Nat×List Rat×List (Nat×List Int)×Adr) (fun z=>[(1,mo (some ⟨3*n+2,0,none⟩)),(3,mo (some ⟨u,0,none⟩)),(84,gS aR (gP rs) cR),(85,gZ .i64 (gP rs:Int)),(86,gZ .i64 (z.1:Int))]) (fun z h' n' w'=>w'=[]∧n2+1≤n'∧Ext n h h'∧h' (3*n+2)=some (.row [gS ao (gP ob) co,gS aR (gP rs) cR,gS ac (gP cs) cc] 71)∧SN n h' n' u (solR cs rs z.2.1 z.2.2.1) z.2.2.2∧gP z.2.1=z.1∧z.1≤gP rs∧gP z.2.2.1=z.1∧∀(i:Nat) r y q,rs[i]?=some r→z.2.2.1[i]?=some y→z.2.1[i]?=some q→ScR r.A P y.2 q) (fun z=>gP rs-z.1) (0,[],[],A) ⟨rfl,y4,X4.go,p4,s4,rfl,gH,rfl,fun i r y q _ h=>by simp at h⟩ ?_;rintro ⟨ii,p,M,A5⟩ t h5 V _ ⟨rfl,y5,X5,p5,s5,gp,hi,b0,cq⟩;obtain rfl:gP p=ii:=gp;have y5:n2+1≤V:=y5;replace X5:Exo n h h5:=⟨X5⟩;have p5:h5 (3*n+2)=some (.row [gS ao (gP ob) co,gS aR (gP rs) cR,gS ac (gP cs) cc] 71):=p5;have s5:SN n h5 V u (solR cs rs p M) A5:=s5;have hi:gP p≤gP rs:=hi;have b0:gP M=gP p:=b0;have cq:∀(i:Nat) r y q,rs[i]?=some r→M[i]?=some y→p[i]?=some q→ScR r.A P y.2 q:=cq;have g5:GG h5 V:=g.ext X5.go zo;have it:=s5.bs.1;clear s4 X4 p4 g4;refine zG ?_;by_cases q5:(gP p:Int)<(gP rs:Int)
 ·refine zG ?_;have cp:gP p<gP rs:=zo;obtain ⟨r,gr⟩:∃r,rs[gP p]?=some r:=⟨_,kF cp⟩;obtain ⟨zlo,zhi,f3,hA⟩:=hr r (mp gr);obtain ⟨bb,off,aA,lA,kA,bo,b6,a6,l6,c6,d6,e6,f6,u6,bp,b7,a7,l7,c7,d7,e7,f7,u7,e8,m8,r8,t8,qA,v6,i6,j6,v7,i7,j7⟩:=SDS.at ir gr;have gz:=qA.len;subst gz;refine sI e8 r8 ?_;refine sL (t8.ext X5.go m8) (show bb<3*V by omega) 0 ?_;refine sA ?_;intro h6 p6 y6;refine zG ?_;refine sS [gS aA (gP r.A) kA,jx bo,jx b6,gS a6 l6 c6,jx d6,gS e6 f6 u6,jx bp,jx b7,gS a7 l7 c7,jx d7,gS e7 f7 u7] ?_;intro h7 p7 o7;have k7:Exo V h5 h7:=⟨(show Tx V h5 (V+1) h7 from zx).2⟩;have X7:Exo n h h7:=⟨fun c hc=>(k7.go c zo).trans (X5.go c hc)⟩;refine zG ?_;refine sC (qa _ (g.ext (n':=V+1) X7.go zo) (qA.ext X7.go zo) hA (P:=P) (by rw [f3];exact hP) zo zo) ?_;rintro _ h8 J ⟨B,zlL,s,b9,a9,l9,c9,d9,e9,f9,u9,rfl,hB,gB,oz,tz,hs,i9,j9⟩ y8 x8;refine Zi ?_;intro f0 e1 bx;refine zG ?_;refine sS [jx b9,gS a9 l9 c9,jx d9,gS e9 f9 u9] ?_;intro G b8 ab;have y8:V+1≤J:=y8;have O:Exo V h5 G:=⟨(show Tx V h5 (J+1) G from zx).2⟩;have T:Exo n h G:=⟨fun c hc=>(O.go c zo).trans (X5.go c hc)⟩;have e5:G (3*V+2)=_:=(zp:G (3*V+2)=_);have ah:Tr J h8 (J+1) G:=zt;have bj:=oz.go intP.kp ah ((ab.1 B (by have:=oz.1;omega)).trans (bx B oz.1));have ca:=i9.t ah;have cd:=j9.t ah;have dp:=hs.len;have l1:(solR cs rs p M).sc.length=gP cs+gP p:=by show (ns (gP cs) (1:Rat)++p).length=_;rw [k0,ru]
  have l2:(solR cs rs p M).lo.length=gP cs+gP p:=by show gP ((cs.map _)++A0 bL rs p)=_;rw [k0,mu,lD hi]
  have l3:(solR cs rs p M).hi.length=gP cs+gP p:=by show gP ((cs.map _)++A0 bH rs p)=_;rw [k0,mu,lD hi]
  have fr:=oz.1;clear p6 y6 o7 p7 k7 x8 bx e1 ab oz i9 j9 tz ah;refine zG ?_;have bg:n≤J+1:=zo;have az:=zq5 (k+1) (g.ext T.go bg) (s5.ext (n':=J+1) O.go zo) bg l1 l2 l3 zo (aA:=aA) (lA:=gP r.A) (kA:=kA) (x1:=bo) (x2:=bp) (i6.ext T.go bg) (j6.ext T.go bg) (i7.ext T.go bg) (j7.ext T.go bg) ca cd zlo zhi hs.sz zo;refine zF _ R5 az ?_;rintro _ ae aw ju ⟨fq,⟨ai,S⟩,ci,br,el,dn⟩;rw [mY,zV dn];have ea:ae (3*V+2)=_:=(br _ zo zo (zB _)).trans e5;have e3:ae (3*n+2)=_:=(br _ zo zo (zB _)).trans ((O.go _ zo).trans p5);have ec:ae (3*J+2)=_:=(br _ zo zo (zB _)).trans b8;have ep:Exo n h ae:=⟨fun c hc=>(el c hc).trans (T.go c hc)⟩;have dy:=bj.go intP.kp ci (br B zo zo gB);have dq:=ca.t ci;have dt:=cd.t ci;rw [zi3 v6,zi3 v7] at S;obtain ⟨F,Z⟩:∃F:Sol,F={solR cs rs p M with sc:=(solR cs rs p M).sc++[s],lo:=(solR cs rs p M).lo++[bL r s],hi:=(solR cs rs p M).hi++[bH r s]}:=⟨_,rfl⟩;have S:SN n ae aw u F ai:=Z▸S;have g2:gP F.ba=gP p:=by rw [Z];show ((AI (gP p)).map _).length=_;rw [mu,BH]
  have c1:F.n=gP cs:=by rw [Z];rfl
  obtain ⟨gh,gf,gx,gj,j0,cg,ds⟩:=S.st;rw [c1] at cg;have ij:=S.bs.1;have iv:J+1≤aw:=fq;have am:∀r∈F.ta,r.1<B:=fun r hr=>by
   rw [Z] at hr;have:=(s5.rw r hr).1.1;omega
  clear br el e5 p5 b8 az T bj ca cd fq ci O s5 dn;refine zG ?_;refine zl [0,0,2,6,14,0,32,96,224,0,992,2016,4094,8191,16383,32767] rfl ?_;refine zH ?_;refine dMs [gZ .i64 ((gP cs+gP p:Nat):Int)] ?_;intro ak ax c0;refine dGA (n0:=n) (q:=gP cs+gP p) [gZ .i64 ((gP cs+gP p:Nat):Int)] (S.ba.ext natP.kp c0 zs) natP.kp rfl (yp ax R2) (by rw [g2];omega) zo (fun W hW=>by (repeat (first|rfl|(refine rF rfl ?_)))) ?_;intro js jc gc dj df en g9 d0 cy;obtain ⟨aB,rfl⟩:=df.shape (L:=gP F.ba+1) (len1 _ _);have fl:=(d0 u zo (S.ba.nbk gb)).trans ((c0 u zo).trans cg);refine zH ?_;refine dSx (n0:=n) [gZ .i64 (gP cs:Int),gS ai.sc (gP F.sc) (gP F.sc),gS ai.lo (gP F.lo) (gP F.lo),gS ai.hi (gP F.hi) (gP F.hi),gS ai.va (gP F.va) (gP F.va),gS aB (gP F.ba+1) (gP F.ba+1),gS ai.nb (gP F.nb) (gP F.nb),gS ai.ta (gP F.ta) (gP F.ta),jx gh,gS gf gx gj] fl ?_;intro av fg bt;have bm:Tr aw ae (aw+1+1) av:=Tr.s bt (Tr.trans ⟨Al _,fun c hc=>.inl (c0 c hc)⟩ en);have b3:∀c,c<3*aw→c≠u→¬BkOf (gS ai.ba (gP F.ba) (gP F.ba)) c→av c=ae c:=fun c hc h1 h2=>(bt.1 c h1).trans ((d0 c zo h2).trans (c0 c hc));have au:addW n [u] (addW n gc [])=[]:=by rw [wD zo,zV (fun c hc=>by have:=dj c hc;omega)]
  rw [au];have a0:=S.aBa bm b3 (df.go natP.kp (Tr.s bt (Tr.refl _ _)) fun b hb=>bt.1 b (by have:=cy b hb;omega)) (fun b hb=>by have:=cy b hb;omega) (by rw [c1];exact fg) (ds.t bm);have eb:av (3*V+2)=_:=(b3 _ zo zo (S.ba.nbk (zB _))).trans ea;have e4:av (3*n+2)=_:=(b3 _ zo zo (S.ba.nbk (zB _))).trans e3;have ed:av (3*J+2)=_:=(b3 _ zo zo (S.ba.nbk (zB _))).trans ec;have eq:Exo n h av:=⟨fun c hc=>(b3 c zo zo (fun hv=>by have:=(S.ba.bk c hv).1;omega)).trans (ep.go c hc)⟩;have dz:=dy.go intP.kp bm (b3 B zo zo (S.ba.nbk gB));have dr:=dq.t bm;have du:=dt.t bm;obtain ⟨H,a4⟩:∃H:Sol,H={F with ba:=F.ba++[gP cs+gP p]}:=⟨_,rfl⟩;obtain ⟨ad,dh⟩:∃ad:Adr,ad={ai with ba:=aB}:=⟨_,rfl⟩;rw [←a4,←dh] at a0;have c3:H.n=gP cs:=by rw [a4];exact c1
  have g3:gP H.ta=gP p:=by rw [a4,Z];exact b0
  have am:∀r∈H.ta,r.1<B:=by rw [a4];exact am
  obtain ⟨da,d3,dx,dc,g7,an,bi⟩:=a0.st;rw [c3] at an;have ik:=a0.bs.1;have im:aw≤aw+1+1:=zo;generalize hm16:aw+1+1=m16 at*
  clear dh b3 d0 c0 ax en g9 cy df bt fg fl cg ds S ea e3 ec dq dt dy ep dj au;refine zJ ?_;refine wE [gS (some ⟨B,0,none⟩) (gP r.A) (gP r.A)] (l:=1) (c:=1) R5 ?_;intro gl ct ag;refine sGA (n0:=n) [gS (some ⟨B,0,none⟩) (gP r.A) (gP r.A)] [(B,zlL)] (a0.ta.ext rwP.kp ag zs) rwP.kp (.cons (c:=[gS (some ⟨B,0,none⟩) (gP r.A) (gP r.A)]) rfl (by show _=_;rw [dp]) .nil) ⟨rfl,rfl⟩ (yp ct R2) eU (by rw [g3];show (gP p)+1<_;omega) zo ?_;intro id gm bf ck ei bc ch;obtain ⟨aT,rfl⟩:=bf.shape (L:=gP H.ta+1) (len1 _ _);have cv:=(bc u zo (a0.ta.nbk gb)).trans ((ag u zo).trans an);refine zG ?_;refine sSn (n0:=n) [gZ .i64 (gP cs:Int),gS ad.sc (gP H.sc) (gP H.sc),gS ad.lo (gP H.lo) (gP H.lo),gS ad.hi (gP H.hi) (gP H.hi),gS ad.va (gP H.va) (gP H.va),gS ad.ba (gP H.ba) (gP H.ba),gS ad.nb (gP H.nb) (gP H.nb),gS aT (gP H.ta+1) (gP H.ta+1),jx da,gS d3 dx dc] ?_ (hb:=cv);intro N cu af;have aj:Tr m16 av (m16+1+1) N:=Tr.s af (Tr.trans ⟨Al _,fun c hc=>.inl (ag c hc)⟩ ck);have aa:∀c,c<3*m16→c≠u→¬BkOf (gS ad.ta (gP H.ta) (gP H.ta)) c→N c=av c:=fun c hc h1 h2=>(af.1 c h1).trans ((bc c zo h2).trans (ag c hc));have Y:=a0.aTa aj aa (bf.go rwP.kp (Tr.s af (Tr.refl _ _)) fun b hb=>af.1 b (by have:=ch b hb;omega)) (dz.go intP.kp aj (aa B zo zo (a0.ta.nbk gB))) gB ⟨zo,zo,am⟩ (by rw [c3];exact cu) (bi.t aj);have ix:N (3*V+2)=_:=(aa _ zo zo (a0.ta.nbk (zB _))).trans eb;have g6:N (3*n+2)=_:=(aa _ zo zo (a0.ta.nbk (zB _))).trans e4;have iy:N (3*J+2)=_:=(aa _ zo zo (a0.ta.nbk (zB _))).trans ed;have be:Exo n h N:=⟨fun c hc=>(aa c zo zo (fun hv=>by have:=(a0.ta.bk c hv).1;omega)).trans (eq.go c hc)⟩;have fx:=dr.t aj;have g1:=du.t aj;obtain ⟨v,al⟩:∃v:Sol,v={H with ta:=H.ta++[(B,zlL)]}:=⟨_,rfl⟩;obtain ⟨a1,di⟩:∃a1:Adr,a1={ad with ta:=aT}:=⟨_,rfl⟩;rw [←al,←di] at Y;have de:v.n=gP cs:=by rw [al];exact c3
  have iu:gP v.va=gP cs+gP p:=by rw [al,a4,Z];show (gP ((cs.map stV)++A0 _ rs p))=_;rw [k0,mu,lD hi]
  have fu:(v.va.drop 0).take (gP cs)=cs.map stV:=by
   rw [Av,al,a4,Z];show ((cs.map stV)++A0 _ rs p).take (gP cs)=_;rw [List.take_append_of_le_length (by rw [mu];exact AL _),pq (by rw [mu];exact AL _)]
  have b1:{v with va:=v.va++[dotR r.A (cs.map stV)*s]}=solR cs rs (p++[s]) (M++[(B,zlL)]):=by
   rw [zdb gr,al,a4,Z];rfl
  obtain ⟨gi,gg,gy,gk,j1,ee,fy⟩:=Y.st;rw [de] at ee;have il:=Y.bs.1;have ip:m16≤m16+1+1:=zo;generalize hm20:m16+1+1=m20 at*
  clear di aa bc ag ct ck ei ch bf af cu cv an bi a0 eb e4 ed dr du dz eq al a4 Z;have f8:∀q∈cs.map stV,Sz (a+1) q:=fun q hq=>by
   obtain ⟨d,hd,rfl⟩:=AZ.1 hq;unfold stV;split
   ·exact (hc d hd).1.mono zs
   split
   ·exact (hc d hd).2.mono zs
   exact Sz.zero _ zo
  have ji:gP cs*(a+(a+1)+1)=gP cs*(a+a+2):=by rw [show a+(a+1)+1=a+a+2 by omega]
  have f4:=nf hA f8 (gP cs) zo (by rw [mu];exact AL _);rw [pq zo,pq (by rw [mu];exact AL _)] at f4;obtain ⟨bv,cn,gv,lv,ov,jp⟩:=Y.va.or rfl zo;injection cn with cn
  have qv:=Y.va.rs;rw [cn] at qv;have qv:=RS.sub zd qv (m:=0) (c:=gP cs) (cap':=gP v.va) zo zo;rw [fu] at qv;have qv:QS N m20 (gS (some ⟨bv,0,none⟩) (gP cs) (gP v.va)) (cs.map stV):=qv;refine zG ?_;refine zl [0,0,2,6,14,0,32,0,128,384,896,0,2048,6144,14336,32640,65504,0,262112,524256,1048574,2097151,4194303,8388607] rfl ?_;refine zH ?_;refine tC (b:=bv) (off:=0) (gP cs) R6 (by show gS a1.va (gP v.va) (gP v.va)=_;rw [cn]) rfl rfl zo ?_;have dl:=dotQ (k+1) (g.ext (n':=m20) be.go zo) (qA.ext be.go zo) qv hA f8 (by rw [mu];omega) (by rw [f3];omega);rw [pq (show gP (cs.map stV)≤gP r.A by rw [mu];omega)] at dl;refine dC dl ?_;rintro _ jd jn ⟨j4,j3,jl,j5,j8,ja,jb,jq,rfl,gs,gu⟩ eg cw;refine zH ?_;refine dC (mulQ _ ((g.ext (n':=m20) be.go zo).ext cw eg) gs gu (fx.ext cw eg) (g1.ext cw eg) f4 hs.sz zo) ?_;rintro _ je i4 ⟨es,er,fe,et,eu,ex,ey,fo,rfl,gt,gw⟩ jv ie;refine zH ?_;refine dMs [jx es,gS er fe et,jx eu,gS ex ey fo] ?_;intro gn i8 ef;have cl:Exo m20 N gn:=⟨fun c hc=>(ef c zo).trans ((ie c zo).trans (cw c hc))⟩;refine dGA (n0:=n) (q:=dotR r.A (cs.map stV)*s) [jx es,gS er fe et,jx eu,gS ex ey fo] (Y.va.ext ratP.kp cl.go zo) ratP.kp ⟨_,_,_,_,_,_,_,_,rfl,gt.ext ef zs,gw.ext ef zs⟩ (yp i8 R2) zo zo (fun W hW=>by (repeat (first|rfl|(refine rF rfl ?_)))) ?_;intro jt jf ge fs ez ga j2 ek ej;obtain ⟨aV,rfl⟩:=ez.shape (L:=gP v.va+1) (len1 _ _);have ib:=(ek u zo (Y.va.nbk gb)).trans ((cl.go u zo).trans ee);refine zH ?_;refine dSx (n0:=n) [gZ .i64 (gP cs:Int),gS a1.sc (gP v.sc) (gP v.sc),gS a1.lo (gP v.lo) (gP v.lo),gS a1.hi (gP v.hi) (gP v.hi),gS aV (gP v.va+1) (gP v.va+1),gS a1.ba (gP v.ba) (gP v.ba),gS a1.nb (gP v.nb) (gP v.nb),gS a1.ta (gP v.ta) (gP v.ta),jx gi,gS gg gy gk] ib ?_;intro f2 ia cr;have eo:Tr m20 N (i4+1+1) f2:=Tr.s cr (Tr.trans ⟨zo,fun c hc=>.inl (cl.go c hc)⟩ ga);have dv:∀c,c<3*m20→c≠u→¬BkOf (gS a1.va (gP v.va) (gP v.va)) c→f2 c=N c:=fun c hc h1 h2=>(cr.1 c h1).trans ((ek c zo h2).trans (cl.go c hc));have au:addW n [u] (addW n ge [])=[]:=by rw [wD zo,zV (fun c hc=>by have:=fs c hc;omega)]
  have fm:=Y.aVa eo dv (ez.go ratP.kp (Tr.s cr (Tr.refl _ _)) fun b hb=>cr.1 b (by have:=ej b hb;omega)) (fun b hb=>by have:=ej b hb;omega) (by rw [de];exact ia) (fy.t eo);rw [b1] at fm;refine zJ ?_;refine sK (gP p+1,p++[s],M++[(B,zlL)],{a1 with va:=aV}) ⟨au,zo,fun c hc=>(dv c zo zo (fun hv=>by have:=(Y.va.bk c hv).1;omega)).trans (be.go c hc),(dv _ zo zo (Y.va.nbk (zB _))).trans g6,fm,len1 _ _,(by show gP p+1≤_;omega),(len1 _ _).trans (congrArg (· +1) b0),fun i r' y q h1 h2 h3=>?_⟩;by_cases e:i=gP p
  ·subst e;rw [gr] at h1;cases h1;have h2:(M++[(B,zlL)])[gP p]?=some y:=h2;have h3:(p++[s])[gP p]?=some q:=h3;rw [←b0,ux eU,AO] at h2;rw [ux eU,AO] at h3;cases h2;cases h3;exact hs
  have ft:i<gP p:=by
   have:=(nN.1 h3).1;have e2:gP (p++[s])=gP p+1:=len1 _ _;have this:i<gP (p++[s]):=this;omega
  exact cq i r' y q h1 ((AG zo).symm.trans h2) ((AG ft).symm.trans h3)
 have cp:gP p=gP rs:=zo;have zob:=hz;refine zG ?_;refine sC (qa _ g5 (io.ext (n':=V) X5.go zo) hz (P:=P) (by rw [gq];exact hP) zo zo) ?_;rintro _ h8 J ⟨B,zlL,s,b9,a9,l9,c9,d9,e9,f9,u9,rfl,hB,gB,oz,tz,hs,i9,j9⟩ y8 x8;refine Zi ?_;intro f0 e1 bx;refine zG ?_;refine sS [jx b9,gS a9 l9 c9,jx d9,gS e9 f9 u9] ?_;intro G b8 ab;have y8:V≤J:=y8;have O:Exo V h5 G:=⟨(show Tx V h5 (J+1) G from zx).2⟩;have ah:Tr J h8 (J+1) G:=zt;have bj:=oz.go intP.kp ah ((ab.1 B (by have:=oz.1;omega)).trans (bx B oz.1));have dp:=hs.len;have fr:=oz.1;have C:=s5.ext (n':=J+1) O.go zo;have ff:(solR cs rs p M).ta.length=gP p:=b0;have am:∀r∈(solR cs rs p M).ta,r.1<B:=fun r hr=>by
  have:=(s5.rw r hr).1.1;omega
 obtain ⟨U,dk⟩:∃U:Sol,U=solR cs rs p M:=⟨_,rfl⟩;have ew:U.n=gP cs:=by rw [dk];rfl
 rw [←dk] at C ff am;obtain ⟨da,d3,dx,dc,g7,an,bi⟩:=C.st;rw [ew] at an;have ig:=C.bs.1;have T:Exo n h G:=⟨fun c hc=>(O.go c zo).trans (X5.go c hc)⟩;generalize hm8:J+1=m8 at*
 clear x8 bx e1 ab oz i9 j9 tz ah b8 O p5;refine zG ?_;refine wE [gS (some ⟨B,0,none⟩) (gP ob) (gP ob)] (l:=1) (c:=1) R5 ?_;intro gl ct ag;refine sGA (n0:=n) [gS (some ⟨B,0,none⟩) (gP ob) (gP ob)] [(B,zlL)] (C.ta.ext rwP.kp ag zs) rwP.kp (.cons (c:=[gS (some ⟨B,0,none⟩) (gP ob) (gP ob)]) rfl (by show _=_;rw [dp]) .nil) ⟨rfl,rfl⟩ (yp ct R2) eU (by rw [ff];show (gP p)+1<_;omega) zo ?_;intro id gm bf ck ei bc ch;obtain ⟨aT,rfl⟩:=bf.shape (L:=gP U.ta+1) (len1 _ _);have cv:=(bc u zo (C.ta.nbk gb)).trans ((ag u zo).trans an);refine zG ?_;refine sSn (n0:=n) [gZ .i64 (gP cs:Int),gS A5.sc (gP U.sc) (gP U.sc),gS A5.lo (gP U.lo) (gP U.lo),gS A5.hi (gP U.hi) (gP U.hi),gS A5.va (gP U.va) (gP U.va),gS A5.ba (gP U.ba) (gP U.ba),gS A5.nb (gP U.nb) (gP U.nb),gS aT (gP U.ta+1) (gP U.ta+1),jx da,gS d3 dx dc] ?_ (hb:=cv);intro N cu af;have aj:Tr m8 G (m8+1+1) N:=Tr.s af (Tr.trans ⟨Al _,fun c hc=>.inl (ag c hc)⟩ ck);have aa:∀c,c<3*m8→c≠u→¬BkOf (gS A5.ta (gP U.ta) (gP U.ta)) c→N c=G c:=fun c hc h1 h2=>(af.1 c h1).trans ((bc c zo h2).trans (ag c hc));have Y:=C.aTa aj aa (bf.go rwP.kp (Tr.s af (Tr.refl _ _)) fun b hb=>af.1 b (by have:=ch b hb;omega)) (bj.go intP.kp aj (aa B zo zo (C.ta.nbk gB))) gB ⟨zo,zo,am⟩ (by rw [ew];exact cu) (bi.t aj);have be:Exo n h N:=⟨fun c hc=>(aa c zo zo (fun hv=>by have:=(C.ta.bk c hv).1;omega)).trans (T.go c hc)⟩;refine zG ?_;refine zq ?_ (hx:=⟨zo,be.go⟩);rw [dk] at Y;exact ⟨u,_,p,M,B,zlL,s,rfl,Y,cp,b0.trans cp,cq,hs⟩
noncomputable def loO (ds:List SideD)(v:Nat):Option Rat:=match ds[v]? with|some d=>if d.lo≠[] then some (zj d.lo) else none|none=>none
noncomputable def hiO (ds:List SideD)(v:Nat):Option Rat:=match ds[v]? with|some d=>if d.hi≠[] then some (zj d.hi) else none|none=>none
def tzI (ta:List (Nat×List Int))(i:Nat):Nat×List Int:=(ta[i]?).getD (0,[])
def zI (ta:List (Nat×List Int))(i j:Nat):Int:=atZ (tzI ta i).2 j
structure PrO (cs rs:List SideD)(ob:List Rat):Prop where
 n1:1≤gP cs
 n5:gP cs≤5
 m6:gP rs≤6
 lc:∀d∈cs,NE (10^6) (10^8) (zj d.lo)∧NE (10^6) (10^8) (zj d.hi)∧(d.lo≠[]→d.hi≠[]→zj d.lo≤zj d.hi)
 lr:∀d∈rs,NE (10^6) (10^8) (zj d.lo)∧NE (10^6) (10^8) (zj d.hi)∧(d.lo≠[]→d.hi≠[]→zj d.lo≤zj d.hi)∧gP d.A=gP cs∧∀q∈d.A,NE (10^6) (10^8) q
 lo:gP ob=gP cs∧∀q∈ob,NE (10^6) (10^8) q
noncomputable def solI (cs rs:List SideD)(ss:List Rat)(bz:List (Nat×List Int))(y:Nat×List Int):Sol:={solR cs rs ss bz with ta:=bz++[y]}
structure ScI (cs rs:List SideD)(ob:List Rat)(ss:List Rat)(bz:List (Nat×List Int))(y:Nat×List Int)(s:Rat):Prop where
 ls:gP ss=gP rs
 lb:gP bz=gP rs
 sc:∃P,P≤170∧(∀(i:Nat) r z q,rs[i]?=some r→bz[i]?=some z→ss[i]?=some q→ScR r.A P z.2 q)∧ScR ob P y.2 s
theorem rM:∀{a b:List Rat},gP a=gP b→∀n,gP a=n→dotR a b=smr n fun j=>atR a j*atR b j:=by
 have e:∀(a b:List Rat),gP a=gP b→∀j,j≤gP a→dotR (a.take j) (b.take j)=smr j fun j=>atR a j*atR b j:=by
  intro a b h j;induction j with
  |zero=>intro _;rw [List.take_zero];rfl
  |succ j ih=>
   intro f;have c:=kF (l:=a) (i:=j) zo;have d:=kF (l:=b) (i:=j) zo;rw [wK c d,ih zo];show _=smr j _+atR a j*atR b j;rw [wg c,wg d]
 intro a b h n g;have:=e a b h n zo;rw [pq zo,pq zo] at this;exact this
section
variable {cs rs:List SideD}{ss:List Rat}{s:Rat}{i v:Nat}
theorem zco (h:i<gP bz):tzI (bz++[y]) i=bz[i]:=by
 unfold tzI;rw [AG h,kF h];rfl
theorem zcp:tzI (bz++[y]) (gP bz)=y:=by
 unfold tzI;rw [ux eU,AO];rfl
theorem zq1:bdF ((cs.map fun d=>bL d 1)++A0 bL rs ss)=bF (gP cs) (loO cs) (loO (rs.take (gP ss))) (atR ss):=by
 funext v;unfold bdF bF loO;by_cases h:v<gP cs
 ·rw [eS h,AG (by rw [mu];exact h),As,kF h];show (match some (decide (cs[v].lo≠[]),zj cs[v].lo*1) with|some (true,q)=>some q|_=>none)=if cs[v].lo≠[] then some (zj cs[v].lo) else none
  by_cases q:cs[v].lo≠[]
  ·rw [eS q,eH q,DP]
  rw [eP q,cA q]
 rw [eP h,ux (by rw [mu];omega),mu,CY];generalize v-gP cs=i;rw [CW];by_cases h1:i<gP ss
 ·rw [eS h1];have a:=kF h1;rw [wg a,a];cases rs[i]? with
  |none=>rfl
  |some r=>
   show (match some (decide (r.lo≠[]),zj r.lo*ss[i]) with|some (true,q)=>some q|_=>none)=(if r.lo≠[] then some (zj r.lo) else none).map _;by_cases q:r.lo≠[]
   ·rw [eS q,eH q];rfl
   rw [eP q,cA q];rfl
 rw [eP h1,Ae (l:=ss) zo];cases rs[i]?<;>rfl
theorem zq2:bdF ((cs.map fun d=>bH d 1)++A0 bH rs ss)=bF (gP cs) (hiO cs) (hiO (rs.take (gP ss))) (atR ss):=by
 funext v;unfold bdF bF hiO;by_cases h:v<gP cs
 ·rw [eS h,AG (by rw [mu];exact h),As,kF h];show (match some (decide (cs[v].hi≠[]),zj cs[v].hi*1) with|some (true,q)=>some q|_=>none)=if cs[v].hi≠[] then some (zj cs[v].hi) else none
  by_cases q:cs[v].hi≠[]
  ·rw [eS q,eH q,DP]
  rw [eP q,cA q]
 rw [eP h,ux (by rw [mu];omega),mu,CY];generalize v-gP cs=i;rw [CW];by_cases h1:i<gP ss
 ·rw [eS h1];have a:=kF h1;rw [wg a,a];cases rs[i]? with
  |none=>rfl
  |some r=>
   show (match some (decide (r.hi≠[]),zj r.hi*ss[i]) with|some (true,q)=>some q|_=>none)=(if r.hi≠[] then some (zj r.hi) else none).map _;by_cases q:r.hi≠[]
   ·rw [eS q,eH q];rfl
   rw [eP q,cA q];rfl
 rw [eP h1,Ae (l:=ss) zo];cases rs[i]?<;>rfl
theorem zko {d:SideD}(h:ds[v]?=some d):loO ds v=if d.lo≠[] then some (zj d.lo) else none:=by unfold loO;rw [h]
theorem zkr {d:SideD}(h:ds[v]?=some d):hiO ds v=if d.hi≠[] then some (zj d.hi) else none:=by unfold hiO;rw [h]
theorem kr (h:loO ds v=some q):∃d,ds[v]?=some d∧d.lo≠[]∧q=zj d.lo:=by
 unfold loO at h;split at h
 ·next d e=>
  split at h
  ·next hd=>cases h;exact ⟨d,e,hd,rfl⟩
  cases h
 cases h
theorem kH (h:hiO ds v=some q):∃d,ds[v]?=some d∧d.hi≠[]∧q=zj d.hi:=by
 unfold hiO at h;split at h
 ·next d e=>
  split at h
  ·next hd=>cases h;exact ⟨d,e,hd,rfl⟩
  cases h
 cases h
theorem ScI.row (c:ScI cs rs ob ss bz y s)(p:PrO cs rs ob)(hi:i<gP rs):ScF (gP cs) (10^30) (10^32) (atR (rs[i]).A) (zI (bz++[y]) i) (atR ss i):=by
 obtain ⟨P,_,f,_⟩:=c.sc;have u:=c.ls;have o:=c.lb;have a:=kF (l:=ss) (i:=i) zo;have g:=f i _ _ _ (kF hi) (kF (l:=bz) (i:=i) zo) a;have d:=p.lr _ (Cx hi);have m:=g.scF d.2.2.2.2 zd zd d.2.2.2.1;have b:=jW p.n1 p.n5;have e:zI (bz++[y]) i=atZ (bz[i]'zo).2:=by
  funext j;unfold zI;rw [zco zo]
 rw [e,wg a];exact m.mono b.2 b.1
theorem ScI.obj (c:ScI cs rs ob ss bz y s)(p:PrO cs rs ob):ScF (gP cs) (10^30) (10^32) (atR ob) (zI (bz++[y]) (gP rs)) s:=by
 obtain ⟨P,_,_,b⟩:=c.sc;have d:=b.scF p.lo.2 zd zd p.lo.1;have a:=jW p.n1 p.n5;have e:zI (bz++[y]) (gP rs)=atZ y.2:=by
  funext j;unfold zI;rw [←c.lb,zcp]
 rw [e];exact d.mono a.2 a.1
noncomputable def yI (cs:List SideD):Nat→Rat:=atR (cs.map stV)
theorem zoo (h:v<gP cs):yI cs v=stV cs[v]:=by
 unfold yI;rw [wg (q:=stV cs[v]) (by rw [As,kF h];rfl)]
theorem zdo (c:ScI cs rs ob ss bz y s):rs.take (gP ss)=rs:=pq (by rw [c.ls];exact AL _)
theorem ScI.lo (c:ScI cs rs ob ss bz y s):bdF (solI cs rs ss bz y).lo=bF (gP cs) (loO cs) (loO rs) (atR ss):=by
 have h:=zq1 (cs:=cs) (rs:=rs) (ss:=ss);rw [zdo c] at h;exact h
theorem ScI.hi (c:ScI cs rs ob ss bz y s):bdF (solI cs rs ss bz y).hi=bF (gP cs) (hiO cs) (hiO rs) (atR ss):=by
 have h:=zq2 (cs:=cs) (rs:=rs) (ss:=ss);rw [zdo c] at h;exact h
theorem zo4 (p:PrO cs rs ob)(h:v<gP cs):inBd (loO cs) (hiO cs) v (yI cs v)∧atB (loO cs) (hiO cs) v (yI cs v):=by
 have e:=kF h;have a:=(p.lc _ (Cx h)).2.2;rw [zoo h];unfold inBd atB;rw [zko e,zkr e];unfold stV;generalize cs[v]=d at a;by_cases h1:d.lo≠[]
 ·rw [eS h1,eS h1];refine ⟨⟨fun l q=>?_,fun u q=>?_⟩,.inl rfl⟩
  ·cases q;exact Cg
  split at q
  ·next h2=>cases q;exact a h1 h2
  cases q
 rw [eP h1,eP h1];by_cases h2:d.hi≠[]
 ·rw [eS h2,eS h2];exact ⟨⟨fun l q=>(by cases q),fun u q=>(by cases q;exact Cg)⟩,.inr (.inl rfl)⟩
 rw [eP h2,eP h2];exact ⟨⟨fun l q=>(by cases q),fun u q=>(by cases q)⟩,.inr (.inr ⟨rfl,rfl,rfl⟩)⟩
theorem fw (c:ScI cs rs ob ss bz y s)(p:PrO cs rs ob):SolP (gP cs) (gP rs) (solI cs rs ss bz y) (iniS (gP cs) (zI (bz++[y])) (yI cs)):=by
 have g:=c.ls;have D:=c.lb;have H:=p.n5;have G:=p.m6;have b:∀{γ:Type} (f:SideD→Rat→γ),gP (A0 f rs ss)=gP rs:=fun f=>by rw [B8];omega
 refine ⟨BH,fun v u=>Cq u,?_,fun i a=>?_,?_,fun v u=>?_,?_,fun i a=>?_,rfl,?_,?_,zo,?_,rfl⟩
 ·show ((AI (gP ss)).map _).length=_;rw [mu,BH];exact g
 ·show ((AI (gP ss)).map (gP cs+ ·))[i]?=some (gP cs+i);rw [As,Cq zo];rfl
 ·show (gP (cs.map stV++A0 (fun r s=>dotR r.A (cs.map stV)*s) rs ss))=_;rw [k0,mu,b]
 ·show (cs.map stV++A0 (fun r s=>dotR r.A (cs.map stV)*s) rs ss)[v]?=some (xF (gP cs) (zI (bz++[y])) (yI cs) v);by_cases h:v<gP cs
  ·rw [jo h,zoo h,AG (by rw [mu];exact h),As,kF h];rfl
  obtain ⟨i,rfl⟩:∃i,v=gP cs+i:=⟨v-gP cs,zo⟩;have a:i<gP rs:=zo;have m:=p.lr _ (Cx a);rw [zjt,ux (by rw [mu];omega),mu,Nat.add_sub_cancel_left,CY,kF a,kF (l:=ss) (i:=i) zo];show some (dotR (rs[i]).A (cs.map stV)*ss[i])=_;rw [zdr (c.row p a).eq,rM (by rw [mu];exact m.2.2.2.1) (gP cs) m.2.2.2.1,wg (kF (l:=ss) (i:=i) zo),Cd];rfl
 ·show (gP (bz++[y]))=_;rw [len1,D]
 ·have o:∀i,i≤gP rs→(bz++[y])[i]?=some (tzI (bz++[y]) i):=fun i a=>by
   unfold tzI;rw [kF (by rw [len1];omega)];rfl
  refine ⟨_,o i a,?_⟩;obtain ⟨P,_,w,C⟩:=c.sc;have d:(tzI (bz++[y]) i).2.length=gP cs:=by
   by_cases q:i<gP rs
   ·rw [zco zo];have:=(w i _ _ _ (kF q) (kF (l:=bz) (i:=i) zo) (kF (l:=ss) (i:=i) zo)).len;rw [this];exact (p.lr _ (Cx q)).2.2.2.1
   obtain rfl:i=gP bz:=zo;rw [zcp,C.len];exact p.lo.1
  refine ⟨d,fun j F=>?_⟩;show _=some (zI (bz++[y]) i j);unfold zI;have e:=kF (l:=(tzI (bz++[y]) i).2) (i:=j) zo;rw [aW e,e]
 ·show (gP ((cs.map _)++A0 bL rs ss))=_;rw [k0,mu,b]
 ·show (gP ((cs.map _)++A0 bH rs ss))=_;rw [k0,mu,b]
 show (ns (gP cs) (1:Rat)++ss).length=_;rw [k0,ru,g]
theorem zo2 {l:List (Bool×Rat)}{p:Bool×Rat}(o:p∈l)(h0:p.1=false→p.2=0)(a:N<2^B)(m:1≤B)(hb:∀v,v<gP l→∀q,bdF l v=some q→∃k z:Int,0<k∧(k:Rat)*q=z∧k.natAbs≤N∧z.natAbs≤N):Sz B p.2:=by
 obtain ⟨v,b⟩:=Cv.1 o;obtain ⟨f,q⟩:=p;cases f
 ·rw [h0 rfl];exact Sz.zero _ m
 obtain ⟨k,z,c,d,e,g⟩:=hb v (nN.1 b).1 q (xI b);exact QB.sz ⟨z,k,c,d,g,e⟩ a a
theorem fixI (c:ScI cs rs ob ss bz y s)(p:PrO cs rs ob):Fix (gP cs) (gP rs) (10^32) (10^32) (10^38) 750 540 540 880 127 (aF (gP cs) (zI (bz++[y]))) (solI cs rs ss bz y):=by
 have Z:=c.ls;have M:Bnd (gP cs) (gP rs) (aF (gP cs) (zI (bz++[y]))) (bdF (solI cs rs ss bz y).lo) (bdF (solI cs rs ss bz y).hi) (10^32) (10^38):=by
  rw [c.lo,c.hi];refine zn8 (E:=10^6) (P:=10^8) (DB:=10^30) (f:=fun i=>atR ((rs[i]?).getD ⟨[],[],[]⟩).A) (fun i C=>?_) zd zd (by decide+kernel) (by decide+kernel) (by decide+kernel) (by decide+kernel) (fun v O q m=>?_) fun i C q m=>?_
  ·rw [kF C];exact c.row p C
  ·rcases m with m|m
   ·obtain ⟨d,o,_,rfl⟩:=kr m;exact (p.lc d (mp o)).1
   obtain ⟨d,o,_,rfl⟩:=kH m;exact (p.lc d (mp o)).2.1
  rcases m with m|m
  ·obtain ⟨d,o,_,rfl⟩:=kr m;exact (p.lr d (mp o)).1
  obtain ⟨d,o,_,rfl⟩:=kH m;exact (p.lr d (mp o)).2.1
 have I:zj []=0:=xX so;have V:(solI cs rs ss bz y).lo.length=gP cs+gP rs∧(solI cs rs ss bz y).hi.length=gP cs+gP rs:=⟨(fw c p).ll,(fw c p).lh⟩;refine ⟨M,fun j U=>?_,cap8 p.n1 p.n5,lim8,fun q m=>?_,fun q m=>?_,fun v l u o w=>?_⟩
 ·obtain ⟨D,g,_,T,_,_,_,S⟩:=(c.obj p).ex;rw [nQ];exact Aa (CM _ T) (S j U)
 ·refine zo2 m (fun e=>?_) (N:=10^38) (by decide+kernel) zd fun v O q m=>?_
  ·have m:q∈(cs.map fun d=>bL d 1)++A0 bL rs ss:=m;rcases AY.1 m with m|m
   ·obtain ⟨d,_,rfl⟩:=AZ.1 m;have e:d.lo=[]:=DJ.1 (of_decide_eq_false e);show zj d.lo*1=0;rw [e,I,B6]
   obtain ⟨i,C,rfl⟩:=EM.1 m;rw [F7] at e ⊢;have e:(rs[i]'(by rw [B8] at C;omega)).lo=[]:=DJ.1 (of_decide_eq_false e);show zj (rs[i]'(by rw [B8] at C;omega)).lo*_=0;rw [e,I,B6]
  obtain ⟨k,z,o,w,H,L,_⟩:=M.bq v zo q (.inl m);exact ⟨k,z,o,w,H,L⟩
 ·refine zo2 m (fun e=>?_) (N:=10^38) (by decide+kernel) zd fun v O q m=>?_
  ·have m:q∈(cs.map fun d=>bH d 1)++A0 bH rs ss:=m;rcases AY.1 m with m|m
   ·obtain ⟨d,_,rfl⟩:=AZ.1 m;have e:d.hi=[]:=DJ.1 (of_decide_eq_false e);show zj d.hi*1=0;rw [e,I,B6]
   obtain ⟨i,C,rfl⟩:=EM.1 m;rw [F7] at e ⊢;have e:(rs[i]'(by rw [B8] at C;omega)).hi=[]:=DJ.1 (of_decide_eq_false e);show zj (rs[i]'(by rw [B8] at C;omega)).hi*_=0;rw [e,I,B6]
  obtain ⟨k,z,o,w,H,L,_⟩:=M.bq v zo q (.inr (.inl m));exact ⟨k,z,o,w,H,L⟩
 rw [c.lo] at o;rw [c.hi] at w;by_cases h:v<gP cs
 ·rw [nD h] at o w;obtain ⟨d,F,J,rfl⟩:=kr o;obtain ⟨R,G,K,rfl⟩:=kH w;rw [F] at G;cases G;exact (p.lc d (mp F)).2.2 J K
 obtain ⟨i,rfl⟩:∃i,v=gP cs+i:=⟨v-gP cs,zo⟩;rw [gn] at o w;obtain ⟨a,W,rfl⟩:=A7.1 o;obtain ⟨b,Y,rfl⟩:=A7.1 w;obtain ⟨d,F,J,rfl⟩:=kr W;obtain ⟨R,G,K,rfl⟩:=kH Y;rw [F] at G;cases G;have H:=(p.lr d (mp F)).2.2.1 J K;exact Rat.mul_le_mul_of_nonneg_right H (Bc (c.row p (nN.1 F).1).pos)
theorem steI {g:Nat}{A:Adr}(c:ScI cs rs ob ss bz y s)(p:PrO cs rs ob)(S:SN l h n g (solI cs rs ss bz y) A):Ste l (gP cs) (gP rs) g (aF (gP cs) (zI (bz++[y]))) (L0 (gP cs) (gP rs) (aF (gP cs) (zI (bz++[y])))) A (fun i=>(tzI (bz++[y]) i).1) (solI cs rs ss bz y) h n (solI cs rs ss bz y) (iniS (gP cs) (zI (bz++[y])) (yI cs)):=by
 have H:=c.lb;have b:∀i,i≤gP rs→(bz++[y])[i]?=some (tzI (bz++[y]) i):=fun i a=>by
  unfold tzI;rw [kF (by rw [len1];omega)];rfl
 refine ⟨S.toSM,fw c p,zih fun v f=>?_,⟨S.lb,fun i a=>(S.rl _ (mp (b i a))).1,fun i j a d e=>?_,fun i a=>⟨_,b i a⟩,S.db⟩,Same.refl _⟩
 ·have:=zo4 p f;unfold inBd atB at*
  rw [c.lo,c.hi,nD f,nD f];exact this
 have o:∀i,i≤gP rs→((bz++[y]).map (·.1))[i]?=some (tzI (bz++[y]) i).1:=fun i a=>by
  rw [As,b i a];rfl
 have w:=List.pairwise_iff_getElem.1 S.rj;have m:∀i j,i<j→j≤gP rs→(tzI (bz++[y]) i).1=(tzI (bz++[y]) j).1→False:=fun i j u d e=>by
  obtain ⟨C,D⟩:=nN.1 (o i zo);obtain ⟨F,G⟩:=nN.1 (o j d);exact w i j C F u (D.trans (e.trans G.symm))
 rcases Nat.lt_trichotomy i j with h|h|h
 ·exact (m i j h d e).elim
 ·exact h
 exact (m j i h a e.symm).elim
noncomputable def sgV (cs:List SideD)(ss:List Rat)(v:Nat):Rat:=if v<gP cs then 1 else atR ss (v-gP cs)
theorem ScI.sg (c:ScI cs rs ob ss bz y s)(h:v<gP cs+gP rs):(solI cs rs ss bz y).sc[v]?=some (sgV cs ss v)∧Sz 170 (sgV cs ss v):=by
 have d:=c.ls;show (ns (gP cs) (1:Rat)++ss)[v]?=_∧_;unfold sgV;by_cases q:v<gP cs
 ·rw [eS q,AG (by rw [ru];exact q),Ef,eS q];exact ⟨rfl,by decide,by decide+kernel⟩
 rw [eP q,ux (by rw [ru];omega),ru];have e:=kF (l:=ss) (i:=v-gP cs) zo;rw [wg e];refine ⟨e,?_⟩;obtain ⟨P,b,a,_⟩:=c.sc;exact (a _ _ _ _ (kF (l:=rs) (i:=v-gP cs) zo) (kF (l:=bz) (i:=v-gP cs) (by have:=c.lb;omega)) e).sz.mono b
end
theorem zrs (k:Nat)(h:HF)(n:Nat):CX (cal (k+2)) 81 [gZ .i64 (-1)] h n (IV (-1)):=by
 refine zw (fn:=Tryz.f81) R4 ?_;refine Zi ?_;intro o y F;refine zG ?_;refine wm R6 (ik:=.u64) (a:=18446744073709551615) rfl ?_;refine zG ?_;refine sC (zkw _ _ _) ?_;rintro _ p u ⟨e,i,g,rfl,j⟩ H G;refine sT #[jx true,gS e i g] ?_;refine sS [jx true,gS e i g] ?_;intro q C v;refine zq ?_;exact ⟨_,_,_,_,rfl,rfl,(j.t zt)⟩
theorem newS (k:Nat)(h:HF)(n:Nat)(up:Bool):CX (cal (k+2)) 81 [gZ .i64 (sgI up)] h n (IV (sgI up)):=by
 cases up
 ·exact zrs k h n
 exact zea k h n
theorem jE (k:Nat)(h:HF)(n:Nat)(up:Bool):CX (cal (k+3)) 83 [gZ .i64 (sgI up)] h n (QV (sgD up)):=by
 refine zw (fn:=Tryz.f83) R4 ?_;refine Zi ?_;intro h1 y F;refine zG ?_;refine sC (newS _ _ _ _) ?_;rintro _ p u ⟨g,e,j,i,rfl,o⟩ H G;refine sT #[jx g,gS e j i,jx false,gS none 0 0] ?_;refine sS [jx g,gS e j i,jx false,gS none 0 0] ?_;intro q C v;refine zq ?_;exact ⟨_,_,_,_,_,_,_,_,rfl,(o.t zt).as (by cases up<;>rfl),(IW.zero _ _).as (by cases up<;>rfl)⟩
theorem jH (up:Bool):Sz 1 (sgD up):=by cases up<;>exact ⟨by decide,by decide⟩
theorem Sz.sg {a:Nat}{x:Rat}(h:Sz a x)(up:Bool):Sz a (x*sgD up):=by
 unfold sgD;cases up
 ·rw [eP Ba,show x*(-1:Rat)= -x by grind];exact h.neg
 rw [eS rfl,DP];exact h
theorem zpe {x:Rat}{up:Bool}(h:x*sgD up=0):x=0:=by
 unfold sgD at h;cases up
 ·rw [eP Ba] at h;grind
 rw [eS rfl] at h;grind
section
variable {s:PS}{w:Value}
theorem SolP.entI (j:SolP n m d s)(i:∀c,c<n→s.nb c<n+m)(g:c<n):impC d (rowL n (s.T m)) c (s.nb c)↔∃u,ent m (bdF d.lo) (bdF d.hi) s u c:=by
 have q:=j.va _ (i c g);obtain ⟨F,p⟩:∃x,d.lo[s.nb c]?=some x:=⟨_,kF (by have:=j.ll;have:=i c g;omega)⟩;obtain ⟨C,o⟩:∃x,d.hi[s.nb c]?=some x:=⟨_,kF (by have:=j.lh;have:=i c g;omega)⟩;have v:=(du q o).trans (zqz (x:=s.x (s.nb c)) o).symm;have y:=(dt q p).trans (zqy (x:=s.x (s.nb c)) p).symm;unfold impC;rw [vu g,v,y];constructor
 ·rintro ⟨z,e,h⟩;cases e;rcases h with h|h
  ·exact ⟨true,h⟩
  exact ⟨false,h⟩
 rintro ⟨u,h⟩;cases u
 ·exact ⟨_,rfl,.inr h⟩
 exact ⟨_,rfl,.inl h⟩
theorem EntV.get (i:SolP n m d s)(q:∀c,c<n→s.nb c<n+m)(h:EntV d (rowL n (s.T m)) w):(∃c up,w=.tuple #[gZ .i64 ((c:Nat):Int),gZ .i64 (sgI up),jx true]∧Ent n m (bdF d.lo) (bdF d.hi) s c up)∨((∀c u,c<n→¬ent m (bdF d.lo) (bdF d.hi) s u c)∧w=.tuple #[gZ .i64 0,gZ .i64 0,jx false]):=by
 rcases h with ⟨c,v,z,o,y,G,H,rfl⟩|⟨o,rfl⟩
 ·have e:c<n:=by have:=(nN.1 o).1;have:=i.nl;omega
  rw [i.nb c e] at o;cases o;rw [vu e] at y;cases y;have C:∀j,j<n→s.nb j<s.nb c→∀u,¬ent m (bdF d.lo) (bdF d.hi) s u j:=fun j p I u g=>by have:=H j _ (i.nb j p) ((i.entI q p).2 ⟨u,g⟩);omega
  obtain ⟨u,g⟩:=(i.entI q e).1 G;refine .inl ⟨c,u,?_,e,g,C⟩;cases u
  ·have F:0<s.T m c:=g.1;rw [eP zo];rfl
  have F:s.T m c<0:=g.1;rw [eS F];rfl
 exact .inr ⟨fun c u e g=>o c _ (i.nb c e) ((i.entI q e).2 ⟨u,g⟩),rfl⟩
theorem SolP.sz (g:SolP n m d s)(p:∀c,c<n→s.nb c<n+m)(z:SzP n m V T O B d s)(u:Lim V T O D B):SZ d D:=by
 have:=u.l1;have:=g.vl;have:=g.ll;have:=g.lh;have:=g.ls;have:=g.nl;have:=g.nm;have:=g.tl;refine ⟨fun q i=>?_,fun q i=>(z.lo q i).mono zo,fun q i=>(z.hi q i).mono zo,zo,zo,zo,fun v j=>?_,zo,zo⟩
 ·obtain ⟨v,e⟩:=Cv.1 i;have o:=(nN.1 e).1;rw [g.va v zo] at e;cases e;exact (z.va v zo).mono zo
 obtain ⟨c,e⟩:=Cv.1 j;have o:=(nN.1 e).1;rw [g.nb c zo] at e;cases e;have:=p c zo;omega
end
section
variable {lo hi:Nat→Option Rat}{s:PS}{up:Bool}{b:Int}{ρ:Rat}
theorem LvP.opt (h:LvP m lo hi s c up m b f fd ρ)(C:Ent n m lo hi s c up):fd=false∧(∀r g,¬cnd m lo hi s c up r g)∨fd=true∧∃r,OptS n m lo hi s c up r ρ∧(r=none∧b= -1∨∃i:Nat,r=some i∧b=(i:Int)):=by
 have p:∀{r g},cnd m lo hi s c up r g→cndK m m lo hi s c up r g:=fun {r g} q=>⟨q,fun i e=>by subst e;exact q.1⟩;rcases h with ⟨j,o⟩|⟨j,r,o,u,v,y⟩
 ·exact .inl ⟨j,fun r g q=>o r g (p q)⟩
 exact .inr ⟨j,r,⟨C,o.1,fun F g q=>by rw [←v];exact y F g (p q)⟩,u⟩
end
section
variable {s:PS}{B:Nat→Nat}
theorem zd4 (k:Nat)(g:GG h n0)(S:Ste l n m bs a L A B d0 h n0 d s)(hF:Feas m (bdF d0.lo) (bdF d0.hi) s)(x:Fix n m M Mo N V T O D BB a d0)(hn:0<n)(b1:n+m≤11):
  CF (cal (k+15)) 39 [mo (some ⟨bs,0,none⟩)] h n0 fun w P Y W=>∃d' s',n0≤Y∧Ste l n m bs a L A B d0 P Y d' s'∧Feas m (bdF d0.lo) (bdF d0.hi) s'∧Tr n0 h Y P∧(∀b,b<3*l→P b=h b)∧(∀c∈W,3*l≤c)∧(w=.tuple #[gZ .i64 0,gZ .i64 0,jx true]∧(∀c u,c<n→¬ent m (bdF d0.lo) (bdF d0.hi) s' u c)∨∃(c:Nat) (up:Bool),w=.tuple #[gZ .i64 (c:Int),gZ .i64 (sgI up),jx false]∧Ent n m (bdF d0.lo) (bdF d0.hi) s' c up∧∀r ρ,¬cnd m (bdF d0.lo) (bdF d0.hi) s' c up r ρ):=by
 obtain ⟨bw,ew,gw,lw,ow,be⟩:=S.sm.nb.or rfl (show gP d.nb≠0 by have:=S.sp.nl;omega);obtain ⟨bv,ev,gv,lv,ov,bd⟩:=S.sm.va.or rfl (show gP d.va≠0 by have:=S.sp.vl;omega);injection ew with ew
 injection ev with ev
 have hl:3*l≤3*n0:=by have:=S.ap.bs;have:=S.sm.bs.1;omega
 have h4:4^(n+m)≤4^11:=sN zd b1;refine rT (fn:=Tryz.f39) R4 ?_;refine zG ?_;refine sF (α:=Nat×Sol×PS) (fun _=>[(0,mo (some ⟨bs,0,none⟩))]) (fun z P Y w'=>n0≤Y∧Ste l n m bs a L A B d0 P Y z.2.1 z.2.2∧Feas m (bdF d0.lo) (bdF d0.hi) z.2.2∧Tr n0 h Y P∧(∀b,b<3*l→P b=h b)∧(∀c∈w',3*l≤c)∧(z=(0,d,s)∨w'≠[])∧nT (zgu n m a (bdF d0.lo) (bdF d0.hi) L) (fun s=>kap m (bdF d0.lo) (bdF d0.hi) s (n+m)) z.1 z.2.2∧gP z.2.1.va=gP d.va∧gP z.2.1.nb=gP d.nb) (fun z=>4^(n+m)-z.1) (0,d,s) ⟨eU,S,hF,Tr.refl _ _,fun _ _=>rfl,fun c hc=>eN hc og,.inl rfl,nT.start,rfl,rfl⟩ ?_ (hm:=by show _<LL;unfold LL;(try dsimp only);omega);rintro ⟨q,o,y⟩ t h1 n1 w1 ⟨y1,j,F1,T1,K1,a1,a4,ad,U,G⟩;have y1:n0≤n1:=y1;have j:Ste l n m bs a L A B d0 h1 n1 o y:=j;have F1:Feas m (bdF d0.lo) (bdF d0.hi) y:=F1;have T1:Tr n0 h n1 h1:=T1;have U:gP o.va=gP d.va:=U;have G:gP o.nb=gP d.nb:=G;have hq:q<4^(n+m):=ad.lt fun s=>iI _;have x1:=x.same j.eq;have el:=j.eq.lo;have eh:=j.eq.hi;have I1:PInv n m a (bdF o.lo) (bdF o.hi) L y:=by rw [el,eh];exact j.iv
 have C:=x1.szp I1;have ay:=zfb (k+6) j.sm (j.sp.sz j.iv.nv C x.l) (by have:=x.l.l3;omega) (r:=(B m,rowL n (y.T m))) (by rw [j.sp.tl];exact j.ap.at j.sp eU) (by rw [j.sp.nl];exact yv);refine zG ?_;refine sC (ay.mono fun w _ _ he=>EntV.get j.sp j.iv.nv he) ?_;rintro _ h2 n2 he y2 x2;rw [el,eh] at he;have S2:Ste l n m bs a L A B d0 h2 n2 o y:=⟨j.sm.ext x2 y2,j.sp,j.iv,j.ap,j.eq⟩;have T2:Tr n0 h n2 h2:=T1.trans ⟨y2,fun c hc=>.inl (x2 c hc)⟩;have K2:∀b,b<3*l→h2 b=h b:=fun b hb=>(x2 b zo).trans (K1 b hb);have y2:n1≤n2:=y2;clear x2;rcases he with ⟨c,up,rfl,hE⟩|⟨J,rfl⟩
 ·have hc:=hE.he;have af:=zia (k+1) (g.t T2) S2.sm j.sp j.iv.toPB C x.l (up:=up) hc (fun i hi hT q hq=>x1.stp I1 hc hi hT hq);rw [el,eh] at af;refine zG ?_;refine sC af ?_;rintro _ h3 F ⟨b,f,ρ,b3,a3,l3,c3,d3,e3,f3,u3,fd,rfl,i3,j3,hL,hS⟩ y3 x3;have hP:=hL.opt hE;refine Zi ?_;intro h4 p4 x4;refine zG ?_;refine sS [jx b3,gS a3 l3 c3,jx d3,gS e3 f3 u3] ?_;intro H p5 o5;have y3:n2≤F:=y3;have k5:Exo n2 h2 H:=⟨(show Tx n2 h2 (F+1) H from zx).2⟩;have i5:=i3.t (zt:Tr F h3 (F+1) H);have j5:=j3.t (zt:Tr F h3 (F+1) H);have S5:Ste l n m bs a L A B d0 H (F+1) o y:=⟨S2.sm.ext k5.go zo,j.sp,j.iv,j.ap,j.eq⟩;have T5:Tr n0 h (F+1) H:=T2.trans ⟨zo,fun c hc=>.inl (k5.go c hc)⟩;have K5:∀b,b<3*l→H b=h b:=fun b hb=>(k5.go b zo).trans (K2 b hb);clear x3 x4 p4 o5 k5 i3 j3;rcases hP with ⟨rfl,J⟩|⟨rfl,r,hO,hr⟩
  ·refine zG ?_;refine ⟨rfl,[_,_,_],rfl,⟨o,y,zo,S5,F1,T5,K5,a1,.inr ⟨c,up,rfl,hE,J⟩⟩,fun R=>?_⟩;have R:w1=[]:=R;rcases a4 with e|a2
   ·cases e;exact ⟨_,_,eU,S,hF,Tr.refl _ _,(by intros;trivial),fun c hc=>eN hc og,.inr ⟨c,up,rfl,hE,J⟩⟩
   exact eN R a2
  have b5:=x.l.l1;have b8:=x.l.l2;have b9:=x.l.l3;have IN:=hO.inv j.iv F1;have ae:=ad.next (fun p τ hp hs hk=>zmy p τ hp hs hk) ⟨j.iv,F1,c,up,r,ρ,hO,rfl⟩
  refine zG ?_;refine zl [0,0,0,0,8,28,63] rfl ?_;refine zH ?_;refine dC (jE _ _ _ up) ?_;rintro _ h6 n6 ⟨b6,a6,l6,c6,d6,e6,f6,u6,rfl,i6,j6⟩ y6 x6;refine dC (mulQ _ ((g.t T5).x zx) (i5.x zx) (j5.x zx) i6 j6 hS (jH up) zo) ?_;rintro _ h7 n7 ⟨b7,a7,l7,c7,d7,e7,f7,u7,rfl,i7,j7⟩ y7 x7;have k7:Exo (F+1) H h7:=⟨(show Tx (F+1) H n7 h7 from zx).2⟩;have ag:F+1≤n7:=(show Tx (F+1) H n7 h7 from zx).1;have S7:Ste l n m bs a L A B d0 h7 n7 o y:=⟨S5.sm.ext k7.go ag,j.sp,j.iv,j.ap,j.eq⟩;have T7:Tr n0 h n7 h7:=T5.trans ⟨ag,fun c hc=>.inl (k7.go c hc)⟩;have K7:∀b,b<3*l→h7 b=h b:=fun b hb=>(k7.go b zo).trans (K5 b hb);have b0:=zp6 (k+2) (g.t T7) S7.sm j.sp j.iv.toPB C x.l hc i7 j7 (hS.sg up);refine wa _ R7 b0 ?_;rintro _ ar bb K ⟨b4,va,an,al,I,ac,a0,a8,aa⟩;refine ⟨rF rfl rfl,b4,?_⟩;have am:∀v,v<n+m→va[v]?=some (mvx y c (ρ*sgD up) (m+1) v):=fun v hv=>(al v hv).trans (congrArg some (vi (by rw [j.iv.bm];omega)).symm);have Z:=j.sp.mv an am;have a5:∀{v:Value},(∀b,BkOf v b→3*l≤b)→∀b,b<3*l→¬BkOf v b:=fun hv b hb av=>by have:=hv b av;omega
  have a0:∀b,b<3*l→ar b=h b:=fun b hb=>(a0 b zo (a5 (fun b hb=>(S7.sm.va.bk b hb).1) b hb)).trans (K7 b hb);rcases hr with ⟨rfl,rfl⟩|⟨i,rfl,rfl⟩
  ·have hρ:ρ*sgD up≠0:=fun e=>by rw [zpe e] at hO;exact hO.own0
   have aw:bv∈K:=(aa.resolve_left hρ) bv ⟨0,gP o.va,gP o.va,by rw [ev,U]⟩;refine zJ ?_;exact sK (q+1,{o with va:=va},optN m y c up none ρ) ⟨zo,⟨I,Z,IN.1,j.ap.mv,⟨j.eq.n,j.eq.sc,j.eq.lo,j.eq.hi⟩⟩,IN.2,T7.trans ac,a0,yL a8 a1,.inr (fun e=>by have h:=wQ (n0:=n0) (l:=K) (w:=w1) ov.1 aw;have e:addW n0 K w1=[]:=e;rw [e] at h;cases h),ae,(by show gP va=_;have:=S.sp.vl;omega),G⟩
  obtain ⟨az,ah,_⟩:=hO.ch;have ak:SzP n m V T O BB {o with va:=va} ⟨y.toPT,mvx y c (ρ*sgD up) (m+1)⟩:=by
   have b2:=x.szp (s:=optN m y c up (some i) ρ) IN.1;exact ⟨b2.va,C.lo,C.hi,C.tT,C.tO,C.dd⟩
  refine zJ ?_;refine zF _ R5 (zkc _ I Z j.iv.toPB ak x.l j.ap.mv az hc ah) ?_;rintro _ au bc a9 ⟨bf,aj,aq,ao,ai,ab⟩;have KF:∀b,b<3*l→au b=h b:=fun b hb=>(ao b zo (fun e=>by have:=j.ap.bs;omega) (fun a ha e=>by have:=j.ap.lo a ha;omega) (a5 (fun b hb=>(I.ba.bk b hb).1) b hb) (a5 (fun b hb=>(I.nb.bk b hb).1) b hb)).trans (a0 b hb);have ax:bw∈a9:=ab bw ⟨0,gP o.nb,gP o.nb,by rw [ew,G]⟩;refine zG ?_;exact sK (q+1,_,optN m y c up (some i) ρ) ⟨zo,⟨aj,Z.piv,IN.1,j.ap.mv.piv,⟨j.eq.n,j.eq.sc,j.eq.lo,j.eq.hi⟩⟩,IN.2,(T7.trans ac).trans aq,KF,yL ai (yL a8 a1),.inr (fun e=>by have h:=wQ (n0:=n0) (l:=a9) (w:=addW n0 K w1) ow.1 ax;have e:addW n0 a9 (addW n0 K w1)=[]:=e;rw [e] at h;cases h),ae,(by show gP va=_;have:=S.sp.vl;omega),(by show gP (o.nb.set _ _)=_;rw [Bb];exact G)⟩
 refine zG ?_;refine ⟨rfl,[_,_,_],rfl,⟨o,y,zo,S2,F1,T2,K2,a1,.inl ⟨rfl,J⟩⟩,fun R=>?_⟩;have R:w1=[]:=R;rcases a4 with e|a2
 ·cases e;exact ⟨_,_,eU,S,hF,Tr.refl _ _,(by intros;trivial),fun c hc=>eN hc og,.inl ⟨rfl,J⟩⟩
 exact eN R a2
end
section
variable {sz:Nat}{ss:List (List UInt8)}{up:Bool}
def fnL {α:Type}(N:Nat)(f:Nat→α):List α:=(AI N).map f
section
variable {f g:Nat→α}{x:α}
theorem yo:gP (fnL N f)=N:=by unfold fnL;rw [mu,BH]
theorem wo (h:j<N):(fnL N f)[j]?=some (f j):=by unfold fnL;rw [As,Cq h];rfl
theorem mU {l:List α}(c:gP l=N)(h:∀j,j<N→l[j]?=some (f j)):l=fnL N f:=by
 refine BU fun j=>?_;by_cases hj:j<N
 ·rw [h j hj,wo hj]
 rw [Ae zo,Ae (by rw [yo];omega)]
theorem oV:(fnL N f).set j x=fnL N (swp f j x):=by
 refine mU (by rw [Bb,yo]) fun i c=>?_;rw [List.getElem?_set,yo];unfold swp;by_cases e:j=i
 ·subst e;rw [eS rfl,eS c,eS rfl]
 rw [eP e,eP fun q=>e q.symm,wo c]
theorem oW (h:∀j,j<N→f j=g j):fnL N f=fnL N g:=mU yo fun j c=>by rw [wo c,h j c]
theorem eE:ns N x=fnL N fun _=>x:=mU ru fun j c=>by rw [Ef,eS c]
theorem kJ (h:x∈fnL N f):∃j,j<N∧f j=x:=by
 obtain ⟨j,c,e⟩:=AZ.1 h;exact ⟨j,Dj.1 c,e⟩
theorem bG {m:Nat}(h:m≤N):(fnL N f).take m=fnL m f:=mU (by rw [sn,yo];omega) fun j c=>by rw [CW,eS c,wo zo]
theorem zio {m:Nat}:(fnL N f).drop m=fnL (N-m) fun j=>f (m+j):=mU (by rw [sa,yo]) fun j c=>by rw [BY,wo zo]
end
structure OTN (n0:Nat)(h:HF)(n b:Nat)(ss:List (List UInt8)):Prop where
 o:OT h n b ss
 lo:3*n0≤b
 g:gro b=false
theorem OTN.go {n0 n:Nat}{h:HF}(o:OTN n0 h n b ss)(T:Tr n h n' h')(e:h' b=h b):OTN n0 h' n' b ss:=⟨o.o.go strP.kp T e,o.lo,o.g⟩
theorem OTN.ext {n0 n:Nat}{h:HF}(o:OTN n0 h n b ss)(x:Ext n h h')(c:n≤n'):OTN n0 h' n' b ss:=⟨o.o.ext strP.kp x c,o.lo,o.g⟩
theorem OTN.low {n0 c n:Nat}{h:HF}(o:OTN n0 h n b ss)(p:c≤n0):OTN c h n b ss:=⟨o.o,by have:=o.lo;omega,o.g⟩
theorem pw (k:Nat){h:HF}{n:Nat}(g:GG h n){a:Option Addr}{L:Nat}{f:Nat→Rat}(iq:QS h n (gS a L cap) (fnL L f))(hL:L≤1000){m:Nat}(hz:∀j,j<L→Sz m (f j))(hm:m≤1920):
  CX (cal (k+11)) 40 [gS a L cap] h n fun v h' n'=>∃b,v=gS (some ⟨b,0,none⟩) L L∧OTN n h' n' b (fnL L fun j=>ratT (f j)):=by
 refine zw (fn:=Tryz.f40) R4 ?_;refine zG ?_;refine sMk (L:=L) [jy ⟨⟨[]⟩⟩] ?_ hL;intro h1 K x1;refine zG ?_;have y:OT h1 (n+1) (3*n+2) (ns L []):=OR.fill zo K strP.kp rfl;rw [iA (f:=fun j=>ratT (f j))] at y;obtain ⟨B,H⟩:∃B,B=3*n+2:=⟨_,rfl⟩;have gB:gro B=false:=by rw [H];exact zB _
 rw [←H] at y ⊢;clear K;refine sF (α:=Nat) (fun z=>[(2,gS none 0 0),(3,gS (some ⟨B,0,none⟩) L L),(9,gS a L cap),(10,gZ .i64 (L:Int)),(11,gZ .i64 (z:Int))])
  (fun z h' n' w'=>w'=[]∧n+1≤n'∧Ext n h h'∧OT h' n' B (mixF (fun j=>ratT (f j)) (fun _=>[]) z L)∧z≤L) (fun z=>L-z) 0 ⟨rfl,eU,x1,y,gH⟩ ?_
 rintro j t h2 I _ ⟨rfl,P,R,u,hj⟩;have P:n+1≤I:=P;have u:OT h2 I B (mixF (fun j=>ratT (f j)) (fun _=>[]) j L):=u;have hj:j≤L:=hj;refine zG ?_;by_cases q2:(j:Int)<(L:Int)
 ·refine zG ?_;have p:j<L:=zo;obtain ⟨k3,u3,U,S,l3,W,C,Y,Z,w3,F,m3,r3,t3,i3,j3⟩:=QS.at iq (wo p);refine sI F r3 ?_;refine sL t3 m3 0 ?_;refine sA ?_;intro h4 p4 x4;refine zG ?_;refine sS [jx U,gS S l3 W,jx C,gS Y Z w3] ?_;intro h5 p5 o5;refine zG ?_;refine sC (zcx _ (g.x zx) (i3.x zx) (j3.x zx) (hz j p) hm) ?_;rintro _ G n6 rfl y6 x6;refine sI (j:=j) rfl p ?_;have o6:OT G n6 B (mixF (fun j=>ratT (f j)) (fun _=>[]) j L):=u.xx strP.kp zx;refine sZn (n0:=n) (j:=j) (q:=ratT (f j)) [jy ⟨⟨ratT (f j)⟩⟩] o6 strP.kp (by rw [xE];exact p) (show (0:Nat)+j*1=j*1 by omega) rfl zo ?_;intro h7 J s7;rw [pE (f:=fun j=>ratT (f j)) p] at J;refine zG ?_;exact sK (j+1) ⟨rfl,zo,fun c hc=>(s7.1 c zo).trans ((show G c=h2 c by
   have e0:h2 c=h2 c:=rfl;exact zp).trans (R c hc)),J,by show j+1≤L;omega⟩
 obtain rfl:j=L:=zo;refine zG ?_;refine zq ?_;refine ⟨_,rfl,u.as ?_,zo,gB⟩;exact oW fun i hi=>eS hi
section
variable {i:Nat}{d:Tmp}
theorem zbn {x lo:Operand}{N:Nat}{j:Int}(mm:Nat)(c:Za X ops t o d (o.op=.slice ty x (some lo) none none∧X.E.und ty=some (.slice e)∧X.E.inf e=some (sz,bt,z)∧evF t x=gS (some ⟨b,0,none⟩) N N∧evF t lo=gZ ik j∧j=(mm:Int)))(P:mm≤N)(F:gro b=false)(k:ED X ops r ms (i+1) ⟨⟨upd t d (gS (some ⟨b,if N=mm then 0 else 0+mm*sz,none⟩) (N-mm) (N-mm)),h,n,w⟩,al,ld,ef⟩ Q):ED X ops (o::r) (m::ms) i ⟨⟨t,h,n,w⟩,al,ld,ef⟩ Q:=by
 obtain ⟨c,C,I,u,J,p,K,G,H⟩:=c;refine yQ c C I (by rw [u];rfl) ?_ k;rw [u];subst H;show xc X.E ty (evF t x) (some (evF t lo)) none=_;rw [K,G];have v:(0:Int)≤(mm:Int)∧(mm:Int)≤N:=zo;have y:offA N mm sz ⟨b,0,none⟩=⟨b,if N=mm then 0 else 0+mm*sz,none⟩:=by
  unfold offA;by_cases hc:N=mm
  ·subst hc;rw [Nat.beq_refl];simp
  have:AD N mm=false:=by
   cases hb:AD N mm with
   |false=>rfl
   |true=>exact eN (Nat.eq_of_beq_eq_true hb) hc
  rw [this,eP hc,wO]
 simp only [xc,J,p,bnd,eS v,Int.toNat_natCast,F,Bool.false_and,y]
end
theorem OR.lo {h:HF}{n N m:Nat}{p:List Rat}(o:OR 4 ratP h n b p)(u:gP p=N)(hm:m≤N):QS h n (gS (some ⟨b,if N=m then 0 else 0+m*4,none⟩) (N-m) (N-m)) (p.drop m):=by
 by_cases e:N=m
 ·rw [eS e,show N-m=0 by omega,List.drop_eq_nil_of_le zo];exact ⟨[],.nil (.inr ⟨b,0,none,rfl,o.1⟩),.nil⟩
 rw [eP e];have:=RS.sub zd (o.sl (len:=N) (cap:=N) u.symm eU) (m:=m) (c:=N-m) (cap':=N-m) zo eU;rw [pq (by rw [sa];omega)] at this;exact this
def MulV (n m n0:Nat)(f:Nat→Rat)(w:Value)(h':HF)(n':Nat):Prop:=∃b1 b2,w=.tuple #[gS (some ⟨b1,0,none⟩) m m,gS (some ⟨b2,0,none⟩) n n]∧OTN n0 h' n' b1 (fnL m fun i=>ratT (f (n+i)))∧OTN n0 h' n' b2 (fnL n fun v=>ratT (f v))
theorem zba {α:Type}{f g:Nat→α}{N:Nat}:fnL N g=mixF f g 0 N:=oW (g:=fun i=>if i<0 then f i else g i) fun _ _=>(eP (AQ _)).symm
theorem zh5 {α:Type}{f g:Nat→α}{N:Nat}:mixF f g N N=fnL N f:=oW (f:=fun i=>if i<N then f i else g i) fun _ h=>eS h
theorem qV (k:Nat)(g:GG h n0)(s:SM l h n0 bs d A){f σ:Nat→Rat}{N:Nat}(aa:N=n+m)(ol:OR 4 ratP h n0 Bl (fnL N f))(gB:gro Bl=false)(a7:Bl≠bs)(hs:gP d.sc=N)(hσ:∀v,v<N→d.sc[v]?=some (σ v))(hN:d.n=n)(h0:0<n)(a9:N≤900){a:Nat}(R:∀v,v<N→Sz a (f v))(S:∀v,v<N→Sz b (σ v))(ab:a+b≤1900):
  CF (cal (k+13)) 45 [mo (some ⟨bs,0,none⟩),gS (some ⟨Bl,0,none⟩) N N] h n0 fun w h' n' W=>MulV n m n0 (fun v=>f v*σ v) w h' n'∧n0≤n'∧ExtB n0 [Bl] h h'∧Tr n0 h n' h'∧∀c∈W,c=Bl:=by
 obtain ⟨b0,a0,u0,c0,ty,st,i0⟩:=s.st;have a4:=s.bs.1;have a3:=ol.1;rw [hs,hN] at st;have I:=s.sc;rw [hs] at I;refine rT (fn:=Tryz.f45) R4 ?_;refine zG ?_;refine sF (α:=Nat) (fun z=>[(0,mo (some ⟨bs,0,none⟩)),(1,gS (some ⟨Bl,0,none⟩) N N),(11,gS A.sc N N),(12,gZ .i64 (N:Int)),(13,gZ .i64 (z:Int))]) (fun z h' n' w'=>n0≤n'∧ExtB n0 [Bl] h h'∧Tr n0 h n' h'∧OR 4 ratP h' n' Bl (mixF (fun v=>f v*σ v) f z N)∧(∀c∈w',c=Bl)∧(z=0∨Bl∈w')∧z≤N) (fun z=>N-z) 0 ⟨eU,ExtB.refl _ _ _,Tr.refl _ _,ol.as zba,fun c hc=>eN hc og,.inl rfl,gH⟩ ?_;rintro j t h1 F w1 ⟨y1,Y1,C,u,P,Z,hj⟩;have y1:n0≤F:=y1;have C:Tr n0 h F h1:=C;have u:OR 4 ratP h1 F Bl (mixF (fun v=>f v*σ v) f j N):=u;have hj:j≤N:=hj;have J:∀c,c<3*n0→c≠Bl→h1 c=h c:=fun c hc hn=>Y1 c hc (by simpa using hn);have a1:=I.go ratP.kp C fun b hb=>J b (I.bk b hb).2.1 fun e=>by have:=(I.bk b hb).2.2.1;rw [e,gB] at this;cases this
 have ac:h1 bs=_:=(J bs a4 (Ne.symm a7)).trans st;have U:=g.t C;clear Y1;refine zG ?_;by_cases q1:(j:Int)<(N:Int)
 ·refine zG ?_;have p:j<N:=zo;obtain ⟨k2,o2,b2,a2,l2,c2,d2,e2,f2,u2,ev,mv,rv,tv,iv,jv⟩:=QS.at a1.rs (hσ j p);refine sI ev rv ?_;refine sL tv mv 0 ?_;refine sA ?_;intro h3 p3 G;refine zG ?_;refine sSn (n0:=n0) [jx b2,gS a2 l2 c2,jx d2,gS e2 f2 u2] ?_;intro Y p4 o4;refine zG ?_;have k4:∀c,c<3*F→Y c=h1 c:=fun c hc=>(o4.1 c zo).trans (G c hc);have H:Tr F h1 (F+1) Y:=zt;have ob:=u.go ratP.kp H (k4 Bl u.1);refine zl [0,0,0,0,12,28,0,124,255,511] rfl ?_;refine zH ?_;obtain ⟨c5,⟨b5,a5,l5,c5,d5,e5,f5,u5,rfl,i5,j5⟩,_,t5⟩:=ob.get (xG p) (off:=0+j*4) (sb _);rw [eP (Nat.lt_irrefl _)] at i5 j5;refine dI rfl p ?_;refine dL t5 ob.1 0 ?_;refine zH ?_;refine dC (mulQ _ (U.t H) i5 j5 (iv.t H) (jv.t H) (R j p) (S j p) zo) ?_;rintro _ h6 n6 ⟨b6,a6,l6,c6,d6,e6,f6,u6,rfl,i6,j6⟩ y6 x6;refine dI rfl p ?_;have a8:=ob.ext (n':=n6) ratP.kp x6 y6;refine dZ (n0:=n0) (j:=j) (q:=f j*σ j) [jx b6,gS a6 l6 c6,jx d6,gS e6 f6 u6] a8 ratP.kp (by rw [xE];exact p) (sb _) ⟨_,_,_,_,_,_,_,_,rfl,i6,j6⟩ ?_ (h3:=by first|exact rfl|exact rF rfl rfl|exact rF rfl (rF rfl rfl));intro h7 o7 S7 _;refine zG ?_;rw [pE (f:=fun v=>f v*σ v) p] at o7;exact sK (j+1) ⟨zo,fun c hc hn=>(by
   have y:c≠Bl:=fun e=>hn (qq.2 e);exact (S7.1 c y).trans ((x6 c zo).trans ((k4 c zo).trans (J c hc y)))),C.trans (H.trans (Tr.s S7 (Tr.e x6 y6 (Tr.refl _ _)))),o7,yL (fun c hc=>qq.1 hc) P,.inr (wQ a3 gN),by show j+1≤N;omega⟩
 obtain rfl:j=N:=zo;rw [zh5] at u;refine zG ?_;refine zl [0,0,2,6,14,31,63,0,0,256,768,1792,3968,8191,16383,32767] rfl ?_;refine zH ?_;refine zbn n R9 zo gB ?_;have hz:∀v,v<j→Sz (a+b) (f v*σ v):=fun v hv=>(R v hv).mul (S v hv);have q2:=u.lo (m:=n) yo zo;rw [zio] at q2;have hm:j-n=m:=zo;rw [hm] at q2 ⊢;refine dC (pw _ U q2 zo (m:=a+b) (fun i hi=>hz _ zo) zo) ?_;rintro _ h3 n3 ⟨b3,rfl,o3⟩ y3 G;refine zH ?_;refine tC n R6 rfl rfl rfl zo ?_;have K:=RS.sub zd ((u.ext (n':=n3) ratP.kp G y3).sl (len:=j) (cap:=j) yo.symm eU) (m:=0) (c:=n) (cap':=j) zo zo;rw [Av,bG zo] at K;have K:QS h3 n3 (gS (some ⟨Bl,0,none⟩) n j) (fnL n fun v=>f v*σ v):=K;refine dC (pw _ (U.ext G y3) K zo (m:=a+b) (fun i hi=>hz _ zo) zo) ?_;rintro _ Y n4 ⟨b4,rfl,o4⟩ y4 x4;refine zJ ?_;refine ⟨rfl,[_,_],rfl,⟨⟨_,_,rfl,(o3.ext x4 y4).low zo,o4.low zo⟩,zo,fun c hc hn=>?_,C.trans (Tr.trans ⟨y3,fun c hc=>.inl (G c hc)⟩ ⟨y4,fun c hc=>.inl (x4 c hc)⟩),P⟩,fun hw=>?_⟩
 ·have y:c≠Bl:=fun e=>hn (qq.2 e);exact (x4 c zo).trans ((G c zo).trans (J c hc y))
 have hw:w1=[]:=hw;rcases Z with e|e
 ·omega
 rw [hw] at e;cases e
section
variable {s:PS}{B:Nat→Nat}
def conF (s:PS)(r:Nat)(low:Bool)(k:Nat):Nat→Rat:=match k with
 |0=>swp (fun _=>0) (s.bs r) (sgD low)
 |k+1=>swp (conF s r low k) (s.nb k) ((s.T r k:Rat)/s.d*sgD (!low))
def rayF (s:PS)(c:Nat)(up:Bool)(k:Nat):Nat→Rat:=match k with
 |0=>swp (fun _=>0) (s.nb c) (sgD up)
 |k+1=>swp (rayF s c up k) (s.bs k) ((s.T k c:Rat)/s.d*sgD up)
theorem jt {e:Nat}{f:Nat→Rat}{w:Nat}(c:∀v,Sz e (f v))(p:Sz e q)(v:Nat):Sz e (swp f w q v):=by
 unfold swp;split
 ·exact p
 exact c v
theorem zjz {i c:Nat}(v:0<s.d)(p:(s.T i c).natAbs<2^T)(u:s.d.natAbs<2^T):Sz (T+1) ((s.T i c:Rat)/s.d*sgD up):=by
 have:=xz v p u;rw [Bs] at this;exact (this.sg up).mono zs
theorem zdx {c:Nat}(p:c<n)(u:0<s.d)(sz:SzP n m V T O BB d s):∀k,k≤m→∀v,Sz (T+1) (rayF s c up k v):=by
 intro k;induction k with
 |zero=>exact fun _ v=>jt (fun _=>Sz.zero _ zo) ((jH up).mono zo) v
 |succ k ih=>exact fun y v=>jt (ih zo) (zjz u (sz.tT k zo c p) sz.dd) v
theorem zn2 {r:Nat}{low:Bool}(p:r<m)(c:0<s.d)(sz:SzP n m V T O BB d s):∀k,k≤n→∀v,Sz (T+1) (conF s r low k v):=by
 intro k;induction k with
 |zero=>exact fun _ v=>jt (fun _=>Sz.zero _ zo) ((jH low).mono zo) v
 |succ k ih=>exact fun u v=>jt (ih zo) (zjz c (sz.tT r p k zo) sz.dd) v
theorem rayP (k:Nat)(g:GG h n0)(S:Ste l n m bs a L A B d0 h n0 d s)(x:Fix n m M Mo N V T O D BB a d0)(hT:T≤1900){c:Nat}(hc:c<n):
  CX (cal (k+13)) 41 [mo (some ⟨bs,0,none⟩),gZ .i64 (c:Int),gZ .i64 (sgI up)] h n0 fun w h' n'=>∃b,w=gS (some ⟨b,0,none⟩) n n∧OTN n0 h' n' b (fnL n fun v=>ratT (rayF s c up m v)):=by
 obtain ⟨b0,a0,u0,c0,ty,Z,i0⟩:=S.sm.st;have H:=S.sm.bs.1;have ap:=S.sp.nm;have I:PInv n m a (bdF d.lo) (bdF d.hi) L s:=by rw [S.eq.lo,S.eq.hi];exact S.iv
 have sz:=(x.same S.eq).szp I;have an:=x.l.l1;have ao:=x.l.l2;have a2:=S.iv.toPB.tab.dp;have J:=S.sp.de;obtain ⟨K,hK⟩:∃K,K=n+m:=⟨_,rfl⟩;rw [S.sp.ls,←hK,S.sp.dn,S.sp.bl] at Z;have aq:=S.iv.nv c hc;refine zw (fn:=Tryz.f41) R4 ?_;refine zG ?_;refine sMk (L:=K) [jx false,gS none 0 0,jx false,gS none 0 0] ?_ zo;intro h1 p1 F;obtain ⟨Bl,G⟩:∃B,B=3*n0+2:=⟨_,rfl⟩;have gl:gro Bl=false:=by rw [G];exact zB _
 have o1:OR 4 ratP h1 (n0+1) Bl (fnL K fun _=>0):=by
  rw [G,←eE];exact OR.fill zo p1 ratP.kp ⟨_,_,_,_,_,_,_,_,rfl,IW.zero _ _,IW.zero _ _⟩
 rw [←G];have F:Exo n0 h h1:=⟨F⟩;have ai:h1 bs=_:=(F.go bs H).trans Z;have S1:=S.sm.ext (n':=n0+1) F.go zs;clear p1;refine zG ?_;refine zl [0,0,2,6,14,0,62,126,0,256,1023,2047] rfl ?_;refine zH ?_;obtain ⟨k4,o4,e4,m4,r4,t4⟩:=natS.at S1.nb.rs (S.sp.nb c hc);refine dI e4 r4 ?_;refine dL t4 m4 0 ?_;refine zH ?_;refine dC (jE _ _ _ up) ?_;rintro _ h3 n3 ⟨b3,a3,l3,c3,d3,e3,f3,u3,rfl,i3,j3⟩ y3 x3;refine dI rfl (show s.nb c<K by omega) ?_;refine dZn (n0:=n0) (j:=s.nb c) (q:=sgD up) [jx b3,gS a3 l3 c3,jx d3,gS e3 f3 u3] (o1.ext ratP.kp x3 y3) ratP.kp (by rw [yo];omega) (sb _) ⟨_,_,_,_,_,_,_,_,rfl,i3,j3⟩ zo ?_;rw [oV];intro h5 U S5;have y3:n0+1≤n3:=y3;have x5:Exo n0 h h5:=⟨fun b hb=>(S5.1 b zo).trans ((x3 b zo).trans (F.go b hb))⟩;have aj:h5 bs=_:=(x5.go bs H).trans Z;have U:OR 4 ratP h5 n3 Bl (fnL K (rayF s c up 0)):=U;clear S1 ai F x3 S5 o1;refine zG ?_;refine sF (α:=Nat) (fun z=>[(0,mo (some ⟨bs,0,none⟩)),(1,gZ .i64 (c:Int)),(2,gZ .i64 (sgI up)),(7,gS (some ⟨Bl,0,none⟩) K K),(30,gS A.ba m m),(31,gZ .i64 (m:Int)),(32,gZ .i64 (z:Int))]) (fun z h' n' w'=>w'=[]∧n0+1≤n'∧Ext n0 h h'∧OR 4 ratP h' n' Bl (fnL K (rayF s c up z))∧z≤m) (fun z=>m-z) 0 ⟨rfl,y3,x5.go,U,gH⟩ ?_;rintro j t y u _ ⟨rfl,y6,C,W,hj⟩;have y6:n0+1≤u:=y6;have C:Exo n0 h y:=⟨C⟩;have W:OR 4 ratP y u Bl (fnL K (rayF s c up j)):=W;have hj:j≤m:=hj;have S6:=S.sm.ext (n':=u) C.go zo;have ar:y bs=_:=(C.go bs H).trans Z;have g6:GG y u:=g.ext C.go zo;clear aj x5 U;refine zG ?_;by_cases q6:(j:Int)<(m:Int)
 ·refine zG ?_;have p:j<m:=zo;have hw:=S.iv.bv j p;obtain ⟨k7,o7,e7,m7,r7,t7⟩:=natS.at S6.ba.rs (S.sp.ba j p);rw [S.sp.bl] at r7;refine sI e7 r7 ?_;refine sL t7 m7 0 ?_;refine zG ?_;obtain ⟨r0,g0,_,ae⟩:=S.sp.ta j zo;refine sC (zbz _ g6 S6 g0 (ae c hc) (yU (sz.tT j p c hc) zo) (by rw [J];exact yU sz.dd zo) (by rw [J];omega)) ?_;rintro _ h8 n8 ⟨b8,a8,l8,c8,d8,e8,f8,u8,rfl,i8,j8⟩ y8 x8;have sc:Sz T (AK (s.T j c) s.d):=xz a2 (sz.tT j p c hc) sz.dd;rw [J] at i8 j8;rw [Bs] at i8 j8 sc;refine zG ?_;refine sC (jE _ _ _ up) ?_;rintro _ h9 n9 ⟨b9,a9,l9,c9,d9,e9,f9,u9,rfl,i9,j9⟩ y9 x9;refine sC (mulQ _ (g6.x zx) (i8.x zx) (j8.x zx) i9 j9 sc (jH up) zo) ?_;rintro _ a1 P ⟨a7,a6,l10,aa,ab,ac,ad,ak,rfl,af,ag⟩ au R;have R:Exo u y a1:=⟨(show Tx u y P a1 from zx).2⟩;have a4:u≤P:=zo;refine sI rfl (show s.bs j<K by omega) ?_;refine sZt (n0:=n0) (j:=s.bs j) (q:=(s.T j c:Rat)/s.d*sgD up) [jx a7,gS a6 l10 aa,jx ab,gS ac ad ak] (W.ext (n':=P) ratP.kp R.go a4) ratP.kp (by rw [yo];omega) (sb _) ⟨_,_,_,_,_,_,_,_,rfl,af,ag⟩ zo ?_;rw [oV];intro am ah a5 _;refine zG ?_;exact sK (j+1) ⟨rfl,zo,fun b hb=>(a5.1 b zo).trans ((R.go b zo).trans (C.go b hb)),ah,p⟩
 obtain rfl:j=m:=zo;refine zG ?_;refine td n R8 rfl zo ?_;have Y:=RS.sub zd (W.sl (len:=K) (cap:=K) yo.symm eU) (m:=0) (c:=n) (cap':=K) zo zo;rw [Av,bG zo] at Y;have Y:QS y u (gS (some ⟨Bl,0,none⟩) n K) (fnL n (rayF s c up j)):=Y;refine sC (pw _ g6 Y zo (m:=T+1) (fun v _=>zdx hc a2 sz j eU v) zo) ?_;rintro _ h7 n7 ⟨b7,rfl,o7⟩ y7 x7;refine zG ?_;refine zq ?_ (hx:=⟨zo,fun b hb=>(x7 b zo).trans (C.go b hb)⟩);exact ⟨_,rfl,o7.low zo⟩
theorem zf2 (k:Nat)(g:GG h n0)(S:Ste l n m bs a L A B d0 h n0 d s)(x:Fix n m M Mo N V T O D BB a d0)(hσ:∀v,v<n+m→d.sc[v]?=some (σ v))(a4:∀v,v<n+m→Sz b (σ v))(hb:T+1+b≤1900)(hn:0<n){r:Nat}(hr:r<m){low:Bool}:
  CX (cal (k+14)) 38 [mo (some ⟨bs,0,none⟩),gZ .i64 (r:Int),gZ .i64 (sgI low)] h n0 fun w h' n'=>MulV n m n0 (fun v=>conF s r low n v*σ v) w h' n':=by
 obtain ⟨b0,a0,u0,c0,ty,Z,i0⟩:=S.sm.st;have H:=S.sm.bs.1;have aw:=S.sp.nm;have I:PInv n m a (bdF d.lo) (bdF d.hi) L s:=by rw [S.eq.lo,S.eq.hi];exact S.iv
 have sz:=(x.same S.eq).szp I;have au:=x.l.l1;have av:=x.l.l2;have a2:=S.iv.toPB.tab.dp;have J:=S.sp.de;obtain ⟨K,U⟩:∃K,K=n+m:=⟨_,rfl⟩;rw [S.sp.ls,←U,S.sp.nl] at Z;rw [←U] at hσ a4;have ax:=S.iv.bv r hr;obtain ⟨r0,g0,_,af⟩:=S.sp.ta r zo;refine zw (fn:=Tryz.f38) R4 ?_;refine zG ?_;refine sMk (L:=K) [jx false,gS none 0 0,jx false,gS none 0 0] ?_ zo;intro h1 p1 F;obtain ⟨Bl,G⟩:∃B,B=3*n0+2:=⟨_,rfl⟩;have gl:gro Bl=false:=by rw [G];exact zB _
 have o1:OR 4 ratP h1 (n0+1) Bl (fnL K fun _=>0):=by
  rw [G,←eE];exact OR.fill zo p1 ratP.kp ⟨_,_,_,_,_,_,_,_,rfl,IW.zero _ _,IW.zero _ _⟩
 rw [←G];have F:Exo n0 h h1:=⟨F⟩;have ao:h1 bs=_:=(F.go bs H).trans Z;have S1:=S.sm.ext (n':=n0+1) F.go zs;clear p1;refine zG ?_;refine zl [0,0,2,6,14,0,62,126,0,256,1023,2047] rfl ?_;refine zH ?_;obtain ⟨k4,o4,e4,m4,r4,t4⟩:=natS.at S1.ba.rs (S.sp.ba r hr);refine dI e4 r4 ?_;refine dL t4 m4 0 ?_;refine zH ?_;refine dC (jE _ _ _ low) ?_;rintro _ h3 n3 ⟨b3,a3,l3,c3,d3,e3,f3,u3,rfl,i3,j3⟩ y3 x3;refine dI rfl (show s.bs r<K by omega) ?_;refine dZn (n0:=n0) (j:=s.bs r) (q:=sgD low) [jx b3,gS a3 l3 c3,jx d3,gS e3 f3 u3] (o1.ext ratP.kp x3 y3) ratP.kp (by rw [yo];omega) (sb _) ⟨_,_,_,_,_,_,_,_,rfl,i3,j3⟩ zo ?_;rw [oV];intro h5 W S5;have y3:n0+1≤n3:=y3;have x5:Exo n0 h h5:=⟨fun b hb=>(S5.1 b zo).trans ((x3 b zo).trans (F.go b hb))⟩;have ap:h5 bs=_:=(x5.go bs H).trans Z;have W:OR 4 ratP h5 n3 Bl (fnL K (conF s r low 0)):=W;clear S1 ao F x3 S5 o1;refine zG ?_;refine sF (α:=Nat) (fun z=>[(0,mo (some ⟨bs,0,none⟩)),(1,gZ .i64 (r:Int)),(2,gZ .i64 (sgI low)),(8,gS (some ⟨Bl,0,none⟩) K K),(31,gS A.nb n n),(32,gZ .i64 (n:Int)),(33,gZ .i64 (z:Int))]) (fun z h' n' w'=>w'=[]∧n0+1≤n'∧Ext n0 h h'∧OR 4 ratP h' n' Bl (fnL K (conF s r low z))∧z≤n) (fun z=>n-z) 0 ⟨rfl,y3,x5.go,W,gH⟩ ?_;rintro j t C u _ ⟨rfl,y6,y,Y,hj⟩;have y6:n0+1≤u:=y6;have y:Exo n0 h C:=⟨y⟩;have Y:OR 4 ratP C u Bl (fnL K (conF s r low j)):=Y;have hj:j≤n:=hj;have S6:=S.sm.ext (n':=u) y.go zo;have ay:C bs=_:=(y.go bs H).trans Z;have g6:GG C u:=g.ext y.go zo;clear ap x5 W;refine zG ?_;by_cases q6:(j:Int)<(n:Int)
 ·refine zG ?_;have p:j<n:=zo;have hw:=S.iv.nv j p;obtain ⟨k7,o7,e7,m7,r7,t7⟩:=natS.at S6.nb.rs (S.sp.nb j p);rw [S.sp.nl] at r7;refine sI e7 r7 ?_;refine sL t7 m7 0 ?_;refine zG ?_;refine sC (zbz _ g6 S6 g0 (af j p) (yU (sz.tT r hr j p) zo) (by rw [J];exact yU sz.dd zo) (by rw [J];omega)) ?_;rintro _ h8 n8 ⟨b8,a8,l8,c8,d8,e8,f8,u8,rfl,i8,j8⟩ y8 x8;have sc:Sz T (AK (s.T r j) s.d):=xz a2 (sz.tT r hr j p) sz.dd;rw [J] at i8 j8;rw [Bs] at i8 j8 sc;refine zM ?_;refine zS R4 (v:=gZ .i64 (sgI (!low))) (by cases low<;>rfl) ?_;refine zG ?_;refine sC (jE _ _ _ (!low)) ?_;rintro _ h9 n9 ⟨b9,a9,l9,c9,d9,e9,f9,u9,rfl,i9,j9⟩ y9 x9;refine sC (mulQ _ (g6.x zx) (i8.x zx) (j8.x zx) i9 j9 sc (jH _) zo) ?_;rintro _ a1 P ⟨aa,a7,l10,ab,ac,ad,ae,aq,rfl,ai,aj⟩ az R;have R:Exo u C a1:=⟨(show Tx u C P a1 from zx).2⟩;have a5:u≤P:=zo;refine sI rfl (show s.nb j<K by omega) ?_;refine sZt (n0:=n0) (j:=s.nb j) (q:=(s.T r j:Rat)/s.d*sgD (!low)) [jx aa,gS a7 l10 ab,jx ac,gS ad ae aq] (Y.ext (n':=P) ratP.kp R.go a5) ratP.kp (by rw [yo];omega) (sb _) ⟨_,_,_,_,_,_,_,_,rfl,ai,aj⟩ zo ?_;rw [oV];intro ar ak a6 _;refine zG ?_;exact sK (j+1) ⟨rfl,zo,fun b hb=>(a6.1 b zo).trans ((R.go b zo).trans (y.go b hb)),ak,p⟩
 obtain rfl:j=n:=zo;refine zG ?_;have ag:=qV (k+0) (f:=conF s r low j) (σ:=σ) (a:=T+1) (b:=b) g6 S6 U Y gl zo (S.sp.ls.trans U.symm) hσ S.sp.dn hn zo (fun v _=>zn2 hr a2 sz j eU v) a4 zo;refine zF _ R5 ag ?_;rintro _ h7 n7 w7 ⟨⟨b1,b2,rfl,am,an⟩,y7,Y7,T7,ah⟩;rw [mY,zV (show ∀c∈w7,3*n0≤c from fun c hc=>by have:=ah c hc;omega)];refine zG ?_;refine zq ?_ (hx:=⟨zo,fun b hb=>(Y7 b zo (fun e=>by have:=qq.1 e;omega)).trans (y.go b hb)⟩);exact ⟨b1,b2,rfl,am.low zo,an.low zo⟩
end
end
def inB (x:Rat)(lo hi:List UInt8):Prop:=(lo=[]∨zj lo≤x)∧(hi=[]∨x≤zj hi)
theorem za6 (v:false=true↔s≠[]):s=[]:=tp fun h=>by cases v.2 h
theorem neOf (v:true=true↔s≠[]):s≠[]:=v.1 rfl
def zdj (m:Rat)(lo hi:List UInt8):Prop:=(0<m.num→lo≠[])∧(m.num<0→hi≠[])
def SdB (a:Nat)(ds:List SideD):Prop:=∀d∈ds,Sz a (zj d.lo)∧Sz a (zj d.hi)
def hS {α β:Type}(R:α→β→Prop)(ds:List α)(xs:List β):Prop:=∀(j:Nat) d q,ds[j]?=some d→xs[j]?=some q→R d q
def hT {α β:Type}(R:α→β→Prop)(ds:List α)(xs:List β)(j:Nat):Prop:=∀i,i<j→∀d q,ds[i]?=some d→xs[i]?=some q→R d q
section
variable {R:α→β→Prop}{ds:List α}{ms:List β}{d:α}{m:β}
theorem hT.zero (ds:List α)(ms:List β):hT R ds ms 0:=fun i a=>eN a (AQ _)
theorem hT.step (h:hT R ds ms j)(f:ds[j]?=some d)(g:ms[j]?=some m)(l:R d m):hT R ds ms (j+1):=by
 intro i q c p a b;by_cases e:i=j
 ·subst e;rw [f] at a;rw [g] at b;injection a with a
  injection b with b
  subst a b;exact l
 exact h i zo c p a b
theorem hT.all (h:hT R ds ms j)(hj:gP ds≤j∨gP ms≤j):hS R ds ms:=fun i d m a b=>h i (by have:=(nN.1 a).1;have:=(nN.1 b).1;omega) d m a b
end
abbrev okS (ds:List SideD)(ms:List Rat):Prop:=hS (fun d m=>zdj m d.lo d.hi) ds ms
abbrev okT (ds:List SideD)(ms:List Rat)(j:Nat):Prop:=hT (fun d m=>zdj m d.lo d.hi) ds ms j
abbrev inS (ds:List SideD)(xs:List Rat):Prop:=hS (fun d q=>inB q d.lo d.hi) ds xs
abbrev inT (ds:List SideD)(xs:List Rat)(j:Nat):Prop:=hT (fun d q=>inB q d.lo d.hi) ds xs j
def rowH (P:Rat→List UInt8→List UInt8→Prop)(xs:List Rat)(d:SideD):Prop:=P (dotR d.A (xs.take (gP d.A))) d.lo d.hi
abbrev zrn (xs:List Rat)(d:SideD):Prop:=rowH inB xs d
noncomputable def colQ (rs:List SideD)(ms:List Rat)(c:Rat)(j:Nat):Nat→Rat
 |0=>c
 |i+1=>colQ rs ms c j i+((rs[i]?.bind fun d=>d.A[j]?).getD 0)*ms[i]?.getD 0
noncomputable def zr2 (rs:List SideD)(ms cs:List Rat)(i j:Nat):List Rat:=cs.mapIdx fun k c=>colQ rs ms c k (if k<j then i+1 else i)
section
variable {rs:List SideD}{ms cs:List Rat}{i:Nat}
end
section
variable {i:Nat}{d:Tmp}
end
theorem mZ (k:Nat){h:HF}{n:Nat}{aA:Option Addr}{lA kA:Nat}{x1 s B x2 u C:Bool}{o F p G:Option Addr}{R w I L S y J M:Nat}{lo hi:List UInt8}(v1:x1=true↔lo≠[])(W:IW h n s o R w (zj lo).num)(Y:IW h n B F I L (denZ (zj lo)))(v2:x2=true↔hi≠[])(O:IW h n u p S y (zj hi).num)(P:IW h n C G J M (denZ (zj hi))){U D:Bool}{aq H:Option Addr}{T A K N:Nat}{q:Rat}(l:IW h n U aq T A q.num)(m:IW h n D H K N (denZ q)){a b:Nat}(V:Sz a (zj lo))(j:Sz a (zj hi))(i:Sz b q)(a7:a+b≤2000):VF (cal (k+7)) 67 [.agg #[gS aA lA kA,jx x1,jx s,gS o R w,jx B,gS F I L,jx x2,jx u,gS p S y,jx C,gS G J M],.agg #[jx U,gS aq T A,jx D,gS H K N]] h n fun v=>∃b:Bool,v=jx b∧(b=true↔inB q lo hi):=by
 refine zO (fn:=Tryz.f67) R4 ?_;refine zG ?_;refine sB [gS aA lA kA,jx x1,jx s,gS o R w,jx B,gS F I L,jx x2,jx u,gS p S y,jx C,gS G J M] ?_;intro Z ac ai;refine sB [jx U,gS aq T A,jx D,gS H K N] ?_;intro a0 ad aj;refine zG ?_;cases x1
 ·refine zG ?_;cases x2
  ·refine zf ?_;exact zye (⟨.inl (za6 v1),.inl (za6 v2)⟩)
  refine zG ?_;refine sC ((xp _ (l.x zx) (m.x zx) (O.x zx) (P.x zx) i j zo).cx) ?_;rintro _ a3 a8 ⟨ae,rfl,e⟩ ao ak;rcases e with ⟨rfl,e⟩|⟨rfl,e⟩|⟨rfl,e⟩
  ·refine zf ?_;exact zye (⟨.inl (za6 v1),.inr (Bc e)⟩)
  ·refine zf ?_;exact zye (⟨.inl (za6 v1),.inr (by rw [e];exact Cg)⟩)
  refine zf ?_;exact zno fun c=>eN c.2 (fun c=>by rcases c with c|c;exact neOf v2 c;exact eN c (B7.2 e))
 refine zG ?_;refine sC ((xp _ (l.x zx) (m.x zx) (W.x zx) (Y.x zx) i V zo).cx) ?_;rintro _ a4 a9 ⟨af,rfl,d⟩ ap al;rcases d with ⟨rfl,d⟩|⟨rfl,d⟩|⟨rfl,d⟩
 ·refine zf ?_;exact zno fun c=>eN c.1 (fun c=>by rcases c with c|c;exact neOf v1 c;exact eN c (B7.2 d))
 ·refine zG ?_;cases x2
  ·refine zf ?_;exact zye (⟨.inr (by rw [d];exact Cg),.inl (za6 v2)⟩)
  refine zG ?_;refine sC ((xp _ (l.x zx) (m.x zx) (O.x zx) (P.x zx) i j zo).cx) ?_;rintro _ a5 aa ⟨ag,rfl,f⟩ ar am;rcases f with ⟨rfl,f⟩|⟨rfl,f⟩|⟨rfl,f⟩
  ·refine zf ?_;exact zye (⟨.inr (by rw [d];exact Cg),.inr (Bc f)⟩)
  ·refine zf ?_;exact zye (⟨.inr (by rw [d];exact Cg),.inr (by rw [f];exact Cg)⟩)
  refine zf ?_;exact zno fun c=>eN c.2 (fun c=>by rcases c with c|c;exact neOf v2 c;exact eN c (B7.2 f))
 refine zG ?_;cases x2
 ·refine zf ?_;exact zye (⟨.inr (Bc d),.inl (za6 v2)⟩)
 refine zG ?_;refine sC ((xp _ (l.x zx) (m.x zx) (O.x zx) (P.x zx) i j zo).cx) ?_;rintro _ a6 ab ⟨ah,rfl,g⟩ au an;rcases g with ⟨rfl,g⟩|⟨rfl,g⟩|⟨rfl,g⟩
 ·refine zf ?_;exact zye (⟨.inr (Bc d),.inr (Bc g)⟩)
 ·refine zf ?_;exact zye (⟨.inr (Bc d),.inr (by rw [g];exact Cg)⟩)
 refine zf ?_;exact zno fun c=>eN c.2 (fun c=>by rcases c with c|c;exact neOf v2 c;exact eN c (B7.2 g))
section
variable {L a lo:Nat}{rs:List SideD}
def RwB (a L:Nat)(rs:List SideD):Prop:=∀d∈rs,(∀q∈d.A,Sz a q)∧gP d.A≤L
theorem zr3 (k:Nat)(g:GG h n){J:Option Addr}{s P:Nat}{ob:List Rat}{cs:List SideD}(io:QS h n (gS ao lo co) ob)(ir:SDS h n (gS ar lr cr) rs)(ic:SDS h n (gS J s P) cs)(ix:QS h n (gS ax lx cx) xs)(a9:SdB a rs)(a8:SdB a cs)(D:RwB a L rs)(aa:∀q∈xs,Sz b q)(cv:gP cs≤gP xs)(hL:L≤gP xs)(cu:gP cs<1000000∧gP rs<1000000)(b6:L<1000000){c:Nat}(hc:∀d∈rs,∀j,j≤gP d.A→Sz c (dotR (d.A.take j) (xs.take j)))(ct:c+b+a≤1900)(ha:a≤90):VF (cal (k+13)) 66 [.agg #[gS ao lo co,gS ar lr cr,gS J s P],gS ax lx cx,.func (.func 67) #[] #[]] h n fun v=>∃b:Bool,v=jx b∧(b=true↔hS (fun d q=>inB q d.lo d.hi) cs xs∧∀d∈rs,rowH inB xs d):=by
 have d3:=ir.len;have d2:=ic.len;have d4:=ix.len;refine zO (fn:=Tryz.f66) R4 ?_;refine zG ?_;refine sB [gS ao lo co,gS ar lr cr,gS J s P] ?_;intro b4 de dm;refine zG ?_;refine sF (α:=Nat) (fun z=>[(1,gS ax lx cx),(2,.func (.func 67) #[] #[]),(3,mo (some ⟨3*n+2,0,none⟩)),(12,gS J s P),(13,gZ .i64 (s:Int)),(14,gZ .i64 (z:Int))]) (fun z h' n' w'=>w'=[]∧n+1≤n'∧ExtB (n+1) [] b4 h'∧z≤gP cs∧hT (fun d q=>inB q d.lo d.hi) cs xs z) (fun z=>gP cs-z) 0 ⟨rfl,eU,ExtB.refl _ _ _,gH,(hT.zero _ _)⟩ ?_;rintro j t b5 a7 _ ⟨rfl,du,c0,hj,m⟩;have hj:j≤gP cs:=hj;have m:hT (fun d q=>inB q d.lo d.hi) cs xs j:=m;refine zG ?_;by_cases q13:(j:Int)<(s:Int)
 ·refine zG ?_;obtain ⟨ca,f⟩:∃d,(cs)[j]?=some d:=⟨_,kF zo⟩;obtain ⟨cw,d9,ab,am,ak,ag,aw,au,bf,az,bq,bs,bu,bw,u,K,H,V,N,Y,a0,a2,a4,b1,bh,bk,bn,bz,ap,b7,bb,F,R,T⟩:=SDS.at ic f;refine sI b1 bk ?_;refine sL bn bh 0 ?_;refine sA ?_;intro ci df dn;refine zG ?_;refine sS [gS ab am ak,jx ag,jx aw,gS au bf az,jx bq,gS bs bu bw,jx u,jx K,gS H V N,jx Y,gS a0 a2 a4] ?_;intro cj dg da;refine zG ?_;refine zl [0,0,0,0,12,28,63,127] rfl ?_;refine yQ (v:=.func (.func 67) #[] #[]) rfl rfl rfl rfl rfl ?_;refine zH ?_;obtain ⟨cb,l⟩:∃d,(xs)[j]?=some d:=⟨_,kF zo⟩;obtain ⟨cy,db,c4,c2,d0,c8,dj,dk,dl,dp,b2,bi,bl,bo,b8,bc⟩:=QS.at ix l;refine dI b2 bl ?_;refine dL bo bi 0 ?_;refine dC ((mZ _ ap (b7.x zx) (bb.x zx) F (R.x zx) (T.x zx) (b8.x zx) (bc.x zx) (a8 _ (mp f)).1 (a8 _ (mp f)).2 (aa _ (mp l)) zo).cx) ?_;rintro _ ck d5 ⟨c5,rfl,ae⟩ dv dq;rcases bvs ae with ⟨rfl,B⟩|⟨rfl,B⟩
  ·refine zf ?_;exact zno fun p=>eN (p.1 _ _ _ f l) B
  refine zJ ?_;exact sK (j+1) ⟨rfl,zo,zy,(by show j+1≤gP cs;omega),(m.step f l B)⟩
 refine zG ?_;have ai:=m.all (.inl zo);refine zG ?_;refine sF (α:=Nat) (fun z=>[(1,gS ax lx cx),(2,.func (.func 67) #[] #[]),(29,gS ar lr cr),(30,gZ .i64 (lr:Int)),(31,gZ .i64 (z:Int))]) (fun z h' n' w'=>w'=[]∧a7≤n'∧ExtB a7 [] b5 h'∧z≤gP rs∧∀d∈rs.take z,rowH inB xs d) (fun z=>gP rs-z) 0 ⟨rfl,eU,ExtB.refl _ _ _,gH,(fun r hr=>eN hr gN)⟩ ?_;rintro i t cl d6 _ ⟨rfl,dw,c1,a6,o⟩;have a6:i≤gP rs:=a6;have o:∀d∈rs.take i,rowH inB xs d:=o;refine zG ?_;by_cases q20:(i:Int)<(lr:Int)
 ·refine zG ?_;obtain ⟨cd,e⟩:∃d,(rs)[i]?=some d:=⟨_,kF zo⟩;obtain ⟨cz,dc,ad,an,al,ah,ay,av,bg,b0,br,bt,bv,bx,w,M,I,W,O,Z,a1,a3,a5,b3,bj,bm,bp,aj,aq,b9,bd,G,S,U⟩:=SDS.at ir e;refine sI b3 bm ?_;refine sL bp bj 0 ?_;refine sA ?_;intro cm dh dr;refine sS [gS ad an al,jx ah,jx ay,gS av bg b0,jx br,gS bt bv bx,jx w,jx M,gS I W O,jx Z,gS a1 a3 a5] ?_;intro cn di dd;refine zG ?_;refine zl [0,0,0,4,0,28,63,127] rfl ?_;refine yQ (v:=.func (.func 67) #[] #[]) rfl rfl rfl rfl rfl ?_;refine zH ?_;have y:=hc _ (mp e);refine dC (ziz _ (g.x zx) (aj.x zx) (ix.x zx) (D _ (mp e)).1 aa (by have:=(D _ (mp e)).2;omega) y zo (by have:=(D _ (mp e)).2;have:=b6;omega)) ?_;rintro _ cp d7 ⟨c6,c3,d1,c9,ce,cf,cg,ch,rfl,ba,be⟩ dx ds;refine dC ((mZ _ aq (b9.x zx) (bd.x zx) G (S.x zx) (U.x zx) ba be (a9 _ (mp e)).1 (a9 _ (mp e)).2 (by have:=y _ eU;rw [xd] at this;exact this) zo).cx) ?_;rintro _ cq d8 ⟨c7,rfl,af⟩ dy dt;rcases bvs af with ⟨rfl,C⟩|⟨rfl,C⟩
  ·refine zf ?_;exact zno fun p=>eN (p.2 _ (mp e)) C
  refine zJ ?_;exact sK (i+1) ⟨rfl,zo,zy,(by show i+1≤gP rs;omega),(ot o e C)⟩
 refine zf ?_;exact zye (⟨ai,by have p:=o;rw [pq zo] at p;exact p⟩)
end
section
variable {p:LPD}{a:Nat}
theorem jJ (p:LPD):gP (zU p)=gP p.rows:=by unfold zU;rw [mu]
theorem zf4 (h:gP p.lower=gP p.upper):gP (zC p)=gP p.lower:=by unfold zC;rw [B8,h,Nat.min_self]
theorem LPB.rows (h:LPB a p):SdB a (zU p):=by
 intro d c;obtain ⟨r,b,rfl⟩:=AZ.1 c;exact ⟨(h.rl r b).1.2,(h.rl r b).2.1.2⟩
theorem LPB.cols (h:LPB a p):SdB a (zC p):=by
 intro d c;unfold zC at c;rw [Cv] at c;obtain ⟨j,b⟩:=c;rw [CY] at b;split at b
 ·rename_i lo hi h1 h2;injection b with b
  subst b;exact ⟨(h.lw _ (mp h1)).2,(h.up _ (mp h2)).2⟩
 cases b
end
def allN (S:List (List UInt8)):Prop:=∀s∈S,vF s
noncomputable def valQ (p:LPD)(S:List (List UInt8)):Rat:=dotR (p.obj.map zj) ((S.map zj).take (gP (p.obj.map zj)))
def feaP (p:LPD)(S:List (List UInt8)):Prop:=inS (zC p) (S.map zj)∧∀d∈zU p,zrn (S.map zj) d
open Classical in
noncomputable def valV (p:LPD)(S:List (List UInt8)):Value:=
 if VLP p∧allN S then (if gP S=gP p.obj then .tuple #[jy ⟨⟨ratT (valQ p S)⟩⟩,gZ .i64 0] else .tuple #[jy ⟨⟨[]⟩⟩,gZ .i64 4]) else .tuple #[jy ⟨⟨[]⟩⟩,gZ .i64 1]
open Classical in
noncomputable def feaV (p:LPD)(S:List (List UInt8)):Value:=
 if VLP p∧allN S then (if gP S=gP p.obj then .tuple #[jx (decide (feaP p S)),gZ .i64 0] else .tuple #[jx false,gZ .i64 4]) else .tuple #[jx false,gZ .i64 1]
open Classical in
section
variable {p:LPD}{R:List (List UInt8)}
theorem zrd (h:¬(VLP p∧allN S)): .tuple #[jy ⟨⟨[]⟩⟩,gZ .i64 1]=valV p S:=by unfold valV;rw [eP h]
theorem zrc (h:VLP p∧allN S)(a:gP S≠gP p.obj): .tuple #[jy ⟨⟨[]⟩⟩,gZ .i64 4]=valV p S:=by unfold valV;rw [eS h,eP a]
theorem zlk (h:VLP p∧allN S)(a:gP S=gP p.obj): .tuple #[jy ⟨⟨ratT (valQ p S)⟩⟩,gZ .i64 0]=valV p S:=by unfold valV;rw [eS h,eS a]
theorem zr1 (h:¬(VLP p∧allN S)): .tuple #[jx false,gZ .i64 1]=feaV p S:=by unfold feaV;rw [eP h]
theorem zr0 (h:VLP p∧allN S)(a:gP S≠gP p.obj): .tuple #[jx false,gZ .i64 4]=feaV p S:=by unfold feaV;rw [eS h,eP a]
open Classical in
theorem zqh (h:VLP p∧allN S)(a:gP S=gP p.obj)(h3:feaP p S): .tuple #[jx true,gZ .i64 0]=feaV p S:=by unfold feaV;rw [eS h,eS a,eH h3]
open Classical in
theorem zrz (h:VLP p∧allN S)(a:gP S=gP p.obj)(h3:¬feaP p S): .tuple #[jx false,gZ .i64 0]=feaV p S:=by unfold feaV;rw [eS h,eS a,cA h3]
end
theorem Txt.nums {b:Nat}{S:List (List UInt8)}(h:∀s∈S,Txt b s):∀q∈S.map zj,Sz b q:=by
 intro q a;obtain ⟨s,c,rfl⟩:=AZ.1 a;exact (h s c).2
theorem VLP.rwb {a:Nat}{p:LPD}(h:VLP p)(e:LPB a p):RwB a (gP p.obj) (zU p):=by
 intro d c;obtain ⟨r,b,rfl⟩:=AZ.1 c;exact ⟨Txt.nums (e.rl r b).2.2.2,by show gP (r.A.map zj)≤_;rw [mu,(h.rw r b).2.2];exact AL _⟩
theorem VLP.cols {p:LPD}(h:VLP p):gP (zC p)=gP p.obj:=by rw [zf4 (h.ll.trans h.lu.symm),h.ll]
section
variable {a lo:Nat}{p:LPD}
theorem mM (k:Nat)(g:GG h n)(Y:Sl h n 1 (gS ao lo co) (strs p.obj))(Z:RWS h n (gS ar lr cr) p.rows)(iw:Sl h n 1 (gS aw lw cw) (strs p.lower))(iu:Sl h n 1 (gS au lu cu) (strs p.upper))(hp:LPB a p)(ha:a+a≤2000)(P:Sl h n 1 (gS ax lx cx) (strs S))(R:∀s∈S,Txt b s)(K:gP S<1000000):CX (cal (k+13)) 65 [.agg #[gS ao lo co,gS ar lr cr,gS aw lw cw,gS au lu cu],gS ax lx cx] h n fun v I J=>∃aO lO kO aR lR kR aC lC kC aX lX kX e,v=.tuple #[.agg #[gS aO lO kO,gS aR lR kR,gS aC lC kC],gS aX lX kX,gZ .i64 e]∧(e=1∧¬(VLP p∧allN S)∨e=4∧(VLP p∧allN S)∧gP S≠gP p.obj∨e=0∧(VLP p∧allN S)∧gP S=gP p.obj∧QS I J (gS aO lO kO) (p.obj.map zj)∧SDS I J (gS aR lR kR) (zU p)∧SDS I J (gS aC lC kC) (zC p)∧QS I J (gS aX lX kX) (S.map zj)):=by
 have b9:=z8 Y;have ba:=Z.len;have bc:=z8 iw;have bb:=z8 iu;have bd:=z8 P;refine zw (fn:=Tryz.f65) R4 ?_;refine zG ?_;refine sB [gS ao lo co,gS ar lr cr,gS aw lw cw,gS au lu cu] ?_;intro ae bk bv;refine sA ?_;intro af bl bw;refine zG ?_;refine sC (zpl _ (g.x zx) (Y.x zx) (Z.x zx) (iw.x zx) (iu.x zx) hp ha) ?_;rintro _ ag be ⟨f,y,q,i,A,u,d,w,o,a7,rfl,M,a2⟩ c3 bx;rcases bvs M with ⟨rfl,c⟩|⟨rfl,c⟩
 ·refine Zi ?_;intro ah bm bz;refine sS [gS f y q,gS i A u,gS d w o] ?_;intro ai bn bh;refine zG ?_;refine sC (rC _ (g.x zx) (P.x zx) (fun s hs=>(R s hs).1) K) ?_;rintro _ aj bf ⟨aa,b7,ac,a8,rfl,N,a3⟩ c4 c0;rcases bvs N with ⟨rfl,a0⟩|⟨rfl,a0⟩
  ·refine zG ?_;refine sT #[gS none 0 0,gS none 0 0,gS none 0 0] ?_;refine sS [gS none 0 0,gS none 0 0,gS none 0 0] ?_;intro ak bo bi;refine zq ?_;exact ⟨_,_,_,_,_,_,_,_,_,_,_,_,_,rfl,.inl ⟨rfl,fun F=>eN F.1 c⟩⟩
  have L:=a3 rfl;have a5:=L.1.len;rw [mu] at a5;refine zG ?_;refine sT #[gS none 0 0,gS none 0 0,gS none 0 0] ?_;refine sS [gS none 0 0,gS none 0 0,gS none 0 0] ?_;intro al bp a1;have az:=L.sto a1 zo;refine zq ?_;exact ⟨_,_,_,_,_,_,_,_,_,_,_,_,_,rfl,.inl ⟨rfl,fun F=>eN F.1 c⟩⟩
 obtain ⟨l,m,j⟩:=a2 rfl;refine Zi ?_;intro am bq c1;refine sS [gS f y q,gS i A u,gS d w o] ?_;intro an br bj;refine zG ?_;refine sC (rC _ (g.x zx) (P.x zx) (fun s hs=>(R s hs).1) K) ?_;rintro _ ap bg ⟨ab,b8,ad,a9,rfl,O,a4⟩ c5 c2;rcases bvs O with ⟨rfl,B⟩|⟨rfl,B⟩
 ·refine zG ?_;refine sT #[gS none 0 0,gS none 0 0,gS none 0 0] ?_;refine sS [gS none 0 0,gS none 0 0,gS none 0 0] ?_;intro aq bs H;have b0:=(l.x zx).sto H zo;have b1:=(m.x zx).sto H zo;have b2:=(j.x zx).sto H zo;refine zq ?_;exact ⟨_,_,_,_,_,_,_,_,_,_,_,_,_,rfl,.inl ⟨rfl,fun F=>eN F.2 B⟩⟩
 have G:=a4 rfl;have a6:=G.1.len;rw [mu] at a6;refine zG ?_;by_cases q27:(lx:Int)=(lo:Int)
 ·refine zG ?_;refine sS [gS f y q,gS i A u,gS d w o] ?_;intro av bt C;have T:=(l.x zx).sto C zo;have U:=(m.x zx).sto C zo;have V:=(j.x zx).sto C zo;have W:=G.sto C zo;refine zq ?_;exact ⟨_,_,_,_,_,_,_,_,_,_,_,_,_,rfl,.inr (.inr ⟨rfl,⟨c,B⟩,zo,T.1,U.sds,V.sds,W.1⟩)⟩
 refine zG ?_;refine sT #[gS none 0 0,gS none 0 0,gS none 0 0] ?_;refine sS [gS none 0 0,gS none 0 0,gS none 0 0] ?_;intro ay bu D;have b3:=(l.x zx).sto D zo;have b4:=(m.x zx).sto D zo;have b5:=(j.x zx).sto D zo;have b6:=G.sto D zo;refine zq ?_;exact ⟨_,_,_,_,_,_,_,_,_,_,_,_,_,rfl,.inr (.inl ⟨rfl,⟨c,B⟩,zo⟩)⟩
end
section
variable {a lo:Nat}{p:LPD}
theorem zll (e:∀s∈p.obj,Txt a s)(c:∀s∈S,Txt b s)(d:gP p.obj≤gP S):Sz (1+gP p.obj*(a+b+1)) (valQ p S):=by
 have h:=nf (Txt.nums e) (Txt.nums c) (gP (p.obj.map zj)) eU (by rw [mu,mu];exact d);rw [xd,mu] at h;unfold valQ;rw [mu];exact h.mono zo
theorem gQ (k:Nat)(g:GG h n)(K:Sl h n 1 (gS ao lo co) (strs p.obj))(L:RWS h n (gS ar lr cr) p.rows)(N:Sl h n 1 (gS aw lw cw) (strs p.lower))(M:Sl h n 1 (gS au lu cu) (strs p.upper))(B:LPB a p)(ha:a+a≤2000)(O:Sl h n 1 (gS ax lx cx) (strs S))(F:∀s∈S,Txt b s)(G:gP S<1000000){c:Nat}(hc:gP S=gP p.obj→∀j,j≤gP p.obj→Sz c (dotR ((p.obj.map zj).take j) ((S.map zj).take j)))(hL:c+a+b+1≤1900):VF (cal (k+14)) 24 [.agg #[gS ao lo co,gS ar lr cr,gS aw lw cw,gS au lu cu],gS ax lx cx] h n fun v=>v=valV p S:=by
 have ah:=z8 K;have ai:=L.len;have ak:=z8 N;have aj:=z8 M;have al:=z8 O;refine zO (fn:=Tryz.f24) R4 ?_;refine zG ?_;refine sB [gS ao lo co,gS ar lr cr,gS aw lw cw,gS au lu cu] ?_;intro a6 az b6;refine zG ?_;refine sC (mM _ (g.x zx) (K.x zx) (L.x zx) (N.x zx) (M.x zx) B ha (O.x zx) F G) ?_;rintro _ a7 am ⟨f,u,m,i,w,o,e,q,l,R,W,V,a2,rfl,d⟩ bd b7;rcases d with ⟨rfl,d⟩|⟨rfl,d,y⟩|⟨rfl,d,y,C,U,T,D⟩
 ·refine Zi ?_;intro a8 b0 b8;refine sS [gS f u m,gS i w o,gS e q l] ?_;intro a9 b1 aq;refine zf ?_;exact zrd d
 ·refine Zi ?_;intro aa b2 b9;refine sS [gS f u m,gS i w o,gS e q l] ?_;intro ab b3 av;refine zf ?_;exact zrc d y
 refine Zi ?_;intro ac b4 ba;refine sS [gS f u m,gS i w o,gS e q l] ?_;intro ad b5 ay;refine zG ?_;have A:=hc zo;have I:Sz c (dotR (p.obj.map zj) ((S.map zj).take (gP (p.obj.map zj)))):=by
  have:=A _ eU;rw [pq (by rw [mu];exact AL _)] at this;rw [mu];exact this
 refine sC (ziz _ (g.x zx) (C.x zx) (D.x zx) (Txt.nums B.ob) (Txt.nums F) (by rw [mu,mu];omega) (fun j H=>A j (by rw [mu] at H;exact H)) zo (by rw [mu];exact B.n1)) ?_;rintro _ ae an ⟨Z,Y,ag,a0,a1,a3,a4,a5,rfl,J,P⟩ be bb;refine sC ((vx _ (g.x zx).1 (g.x zx).2 J P I zo).cx) ?_;rintro _ af ap rfl bf bc;refine zf ?_;exact zlk d y
theorem zou (k:Nat)(g:GG h n)(m:Sl h n 1 (gS ao lo co) (strs p.obj))(o:RWS h n (gS ar lr cr) p.rows)(u:Sl h n 1 (gS aw lw cw) (strs p.lower))(q:Sl h n 1 (gS au lu cu) (strs p.upper))(i:LPB a p)(l:a+a≤2000)(w:Sl h n 1 (gS ax lx cx) (strs S))(d:∀s∈S,Txt b s)(e:gP S<1000000)(A:gP p.obj*(a+b+1)+a+b+2≤1900):VF (cal (k+14)) 24 [.agg #[gS ao lo co,gS ar lr cr,gS aw lw cw,gS au lu cu],gS ax lx cx] h n fun v=>v=valV p S:=by
 have y:=BG (gP p.obj) (show 0<a+b+1 by omega);exact gQ k g m o u q i l w d e (c:=1+gP p.obj*(a+b+1)) (fun B j f=>(nf (Txt.nums i.ob) (Txt.nums d) j (by rw [mu];exact f) (by rw [mu];omega)).mono (by have:=o0 (a+b+1) f;omega)) zo
theorem zkx (k:Nat)(g:GG h n)(M:Sl h n 1 (gS ao lo co) (strs p.obj))(N:RWS h n (gS ar lr cr) p.rows)(P:Sl h n 1 (gS aw lw cw) (strs p.lower))(O:Sl h n 1 (gS au lu cu) (strs p.upper))(m:LPB a p)(ha:a+a≤2000)(R:Sl h n 1 (gS ax lx cx) (strs S))(K:∀s∈S,Txt b s)(L:gP S<1000000){c:Nat}(hc:gP S=gP p.obj→VLP p→∀d∈zU p,∀j,j≤gP d.A→Sz c (dotR (d.A.take j) ((S.map zj).take j)))(hL:c+a+b+1≤1900)(a8:a≤90):VF (cal (k+14)) 23 [.agg #[gS ao lo co,gS ar lr cr,gS aw lw cw,gS au lu cu],gS ax lx cx] h n fun v=>v=feaV p S:=by
 have a9:=z8 M;have aa:=N.len;have ac:=z8 P;have ab:=z8 O;have ad:=z8 R;refine zO (fn:=Tryz.f23) R4 ?_;refine zG ?_;refine sB [gS ao lo co,gS ar lr cr,gS aw lw cw,gS au lu cu] ?_;intro Z aj av;refine zG ?_;refine sC (mM _ (g.x zx) (M.x zx) (N.x zx) (P.x zx) (O.x zx) m ha (R.x zx) K L) ?_;rintro _ a0 ae ⟨i,y,q,l,B,u,f,w,o,T,V,U,Y,rfl,e⟩ b3 ay;rcases e with ⟨rfl,e⟩|⟨rfl,e,C⟩|⟨rfl,e,C,H,I,G,J⟩
 ·refine Zi ?_;intro a1 ak az;refine sS [gS i y q,gS l B u,gS f w o] ?_;intro a2 al ag;refine zf ?_;exact zr1 e
 ·refine Zi ?_;intro a3 am b0;refine sS [gS i y q,gS l B u,gS f w o] ?_;intro a4 an ah;refine zf ?_;exact zr0 e C
 refine Zi ?_;intro a5 ap b1;refine sS [gS i y q,gS l B u,gS f w o] ?_;intro a6 aq ai;refine zG ?_;refine sC ((zr3 _ (g.x zx) (H.x zx) (I.x zx) (G.x zx) (J.x zx) (LPB.rows m) (LPB.cols m) (e.1.rwb m) (Txt.nums K) (by rw [mu,e.1.cols];omega) (by rw [mu];omega) ⟨by rw [e.1.cols];exact m.n1,by rw [jJ];exact m.n2⟩ m.n1 (hc zo e.1) zo zo).cx) ?_;rintro _ a7 af ⟨W,rfl,F⟩ b4 b2;rcases bvs F with ⟨rfl,D⟩|⟨rfl,D⟩
 ·refine zf ?_;exact zrz e C D
 refine zf ?_;exact zqh e C D
theorem zry (k:Nat)(g:GG h n)(y:Sl h n 1 (gS ao lo co) (strs p.obj))(A:RWS h n (gS ar lr cr) p.rows)(C:Sl h n 1 (gS aw lw cw) (strs p.lower))(B:Sl h n 1 (gS au lu cu) (strs p.upper))(l:LPB a p)(o:a+a≤2000)(D:Sl h n 1 (gS ax lx cx) (strs S))(e:∀s∈S,Txt b s)(f:gP S<1000000)(G:gP p.obj*(a+b+1)+a+b+2≤1900)(i:a≤90):VF (cal (k+14)) 23 [.agg #[gS ao lo co,gS ar lr cr,gS aw lw cw,gS au lu cu],gS ax lx cx] h n fun v=>v=feaV p S:=by
 have F:=BG (gP p.obj) (show 0<a+b+1 by omega);refine zkx k g y A C B l o D e f (c:=1+gP p.obj*(a+b+1)) (fun H w d q j u=>?_) zo i;have m:=w.rwb l d q;exact (nf m.1 (Txt.nums e) j u (by rw [mu];omega)).mono (by have:=o0 (a+b+1) (show j≤gP p.obj by omega);omega)
end
section
variable {i r:Nat}{low up:Bool}
def rA (rs:List SideD)(i:Nat):List Rat:=((rs[i]?).getD ⟨[],[],[]⟩).A
theorem zpn {rs:List SideD}(h:i<gP rs):rA rs i=(rs[i]).A:=by unfold rA;rw [kF h];rfl
structure Fea (cs rs:List SideD)(x:Nat→Rat):Prop where
 v:∀v,v<gP cs→inBd (loO cs) (hiO cs) v (x v)
 r:∀i,i<gP rs→inBd (loO rs) (hiO rs) i (smr (gP cs) fun j=>atR (rA rs i) j*x j)
theorem Fea.congr {cs rs:List SideD}{x y:Nat→Rat}(h:Fea cs rs x)(e:∀v,v<gP cs→x v=y v):Fea cs rs y:=
 ⟨fun v c=>e v c▸h.v v c,fun i hi=>by
  have d:(smr (gP cs) fun j=>atR (rA rs i) j*y j)=smr (gP cs) fun j=>atR (rA rs i) j*x j:=yg fun j f=>by rw [e j f]
  rw [d];exact h.r i hi⟩
theorem zdy {n m:Nat}{a:Nat→Nat→Int}{L:(Nat→Rat)→Prop}{s:PS}{e:Nat}(h:PB n m a L s.toPT)(f:e<n):∀k,k≤m→rayF s e up k=rayV s.toPT e up k:=by
 intro k;induction k with
 |zero=>
  intro _;show swp (fun _=>0) (s.nb e) (sgD up)=swp (fun _=>0) (s.nb e) (0+sgD up);rw [GT]
 |succ k ih=>
  intro l;have c:rayV s.toPT e up k (s.bs k)=0:=oI (s:=⟨s.toPT,fun _=>0⟩) (fun q=>h.dis e k f zo q.symm) fun i hi q=>by have:=h.jnj k i zo zo q;omega
  show swp (rayF s e up k) (s.bs k) ((s.T k e:Rat)/s.d*sgD up)=swp (rayV s.toPT e up k) (s.bs k) (rayV s.toPT e up k (s.bs k)+(s.T k e:Rat)/s.d*sgD up);rw [ih zo,c,GT]
section
variable {cs rs:List SideD}{ss:List Rat}{s:Rat}{st:PS}{x:Nat→Rat}
theorem ScI.fea (c:ScI cs rs ob ss bz y s)(p:PrO cs rs ob)(d:L0 (gP cs) (gP rs) (aF (gP cs) (zI (bz++[y]))) x):(∀v,v<gP cs+gP rs→inBd (bdF (solI cs rs ss bz y).lo) (bdF (solI cs rs ss bz y).hi) v (x v))↔Fea cs rs x:=by
 rw [c.lo,c.hi];have h:=zqa (cl:=loO cs) (ch:=hiO cs) (rl:=loO rs) (rh:=hiO rs) (f:=fun i=>atR (rA rs i)) d (fun i hi=>(c.row p hi).pos) fun i hi j e=>by rw [zpn hi];exact (c.row p hi).eq j e
 exact h.trans ⟨fun h=>⟨h.1,h.2⟩,fun h=>⟨h.v,h.r⟩⟩
theorem ScI.val (c:ScI cs rs ob ss bz y s)(p:PrO cs rs ob)(d:L0 (gP cs) (gP rs) (aF (gP cs) (zI (bz++[y]))) x):x (gP cs+gP rs)=s*smr (gP cs) fun j=>atR ob j*x j:=
 zp0 d (c.obj p).eq
theorem ScI.xF (c:ScI cs rs ob ss bz y s)(p:PrO cs rs ob)(h:Fea cs rs x):∀v,v<gP cs+gP rs→inBd (bdF (solI cs rs ss bz y).lo) (bdF (solI cs rs ss bz y).hi) v (Go.Proofs.YtepkmadmigkgmaaGreatDoor.xF (gP cs) (zI (bz++[y])) x v):=
 (c.fea p xF_L).2 (h.congr fun v d=>(jo d).symm)
abbrev PIs (cs rs:List SideD)(ss:List Rat)(bz:List (Nat×List Int))(y:Nat×List Int)(st:PS):Prop:=PInv (gP cs) (gP rs) (aF (gP cs) (zI (bz++[y]))) (bdF (solI cs rs ss bz y).lo) (bdF (solI cs rs ss bz y).hi) (L0 (gP cs) (gP rs) (aF (gP cs) (zI (bz++[y])))) st
theorem zpv {s a b:Rat}(c:0<s)(h:s*a≤s*b):a≤b:=Rat.not_lt.1 fun d=>by
 have e:=Rat.mul_pos c (show 0<a-b by grind)
 grind
theorem zpu {s a b:Rat}(c:0<s)(h:s*a<s*b):a<b:=B7.1 fun d=>by
 have e:=Rat.mul_nonneg (Bc c) (show 0≤a-b by grind)
 grind
theorem zpy (c:ScI cs rs ob ss bz y s)(p:PrO cs rs ob)(d:PIs cs rs ss bz y st)(l:∀c u,c<gP cs→¬ent (gP rs) (bdF (solI cs rs ss bz y).lo) (bdF (solI cs rs ss bz y).hi) st u c)(hx:Fea cs rs x):(smr (gP cs) fun j=>atR ob j*st.x j)≤smr (gP cs) fun j=>atR ob j*x j:=by
 have h:=d.opt l (y:=Go.Proofs.YtepkmadmigkgmaaGreatDoor.xF (gP cs) (zI (bz++[y])) x) xF_L (c.xF p hx);rw [c.val p d.xL,c.val p xF_L] at h;have h:=zpv (c.obj p).pos h;have e:(smr (gP cs) fun j=>atR ob j*Go.Proofs.YtepkmadmigkgmaaGreatDoor.xF (gP cs) (zI (bz++[y])) x j)=smr (gP cs) fun j=>atR ob j*x j:=yg fun j f=>by rw [jo f]
 rw [e] at h;exact h
theorem zp9 (c:ScI cs rs ob ss bz y s)(p:PrO cs rs ob)(d:PIs cs rs ss bz y st)(l:Vio (gP rs) (bdF (solI cs rs ss bz y).lo) (bdF (solI cs rs ss bz y).hi) st r low g)(f:∀c,c<gP cs→¬suit (bdF (solI cs rs ss bz y).lo) (bdF (solI cs rs ss bz y).hi) (rdOf (gP rs) st r 0 low) c)(hx:Fea cs rs x):False:=
 l.inf d (e:=0) f (y:=Go.Proofs.YtepkmadmigkgmaaGreatDoor.xF (gP cs) (zI (bz++[y])) x) xF_L (c.xF p hx)
theorem zlu (c:ScI cs rs ob ss bz y s)(p:PrO cs rs ob)(f:PIs cs rs ss bz y st)(G:Feas (gP rs) (bdF (solI cs rs ss bz y).lo) (bdF (solI cs rs ss bz y).hi) st){e:Nat}(u:Ent (gP cs) (gP rs) (bdF (solI cs rs ss bz y).lo) (bdF (solI cs rs ss bz y).hi) st e up)(I:∀r ρ,¬cnd (gP rs) (bdF (solI cs rs ss bz y).lo) (bdF (solI cs rs ss bz y).hi) st e up r ρ)(J:0<q):Fea cs rs (fun v=>st.x v+q*rayF st e up (gP rs) v)∧(smr (gP cs) fun j=>atR ob j*(st.x j+q*rayF st e up (gP rs) j))<smr (gP cs) fun j=>atR ob j*st.x j:=by
 obtain ⟨o,C,d⟩:=Ent.unb f G u I J;have l:∀v,v<gP cs→rayV st.toPT e up (gP rs+1) v=rayF st e up (gP rs) v:=fun v w=>by
  rw [zdy f.toPB u.he _ eU];exact vi (by show v≠st.bs (gP rs);rw [f.bm];omega)
 have F:=(c.fea p o).1 C;rw [c.val p o,c.val p f.xL] at d;have d:=zpu (c.obj p).pos d;have A:(smr (gP cs) fun j=>atR ob j*(st.x j+q*rayV st.toPT e up (gP rs+1) j))=smr (gP cs) fun j=>atR ob j*(st.x j+q*rayF st e up (gP rs) j):=yg fun j H=>by rw [l j H]
 rw [A] at d;exact ⟨F.congr fun v w=>by rw [l v w],d⟩
end
theorem QB.nd {A:Nat}(h:QB A B q):q.num.natAbs≤A∧q.den≤B:=by
 obtain ⟨x,y,l,o,p,u⟩:=h;have e:q=AK x y:=by
  rw [Bs,←o];have:(y:Rat)≠0:=fun e=>by have:=Rat.intCast_eq_zero_iff.1 e;omega
  rw [Cd];exact (Rat.mul_div_cancel this).symm
 obtain ⟨d,f⟩:=pt (x:=x) l;rw [←e] at d f;constructor
 ·rw [d,ET];exact Aa (A3 _ _) p
 have c:=congrArg Int.natAbs f;rw [ET,qe] at c;rw [c];exact Aa (A3 _ _) u
theorem zfu (h:V<10^k)(c:1≤k):gP (decT V)≤k:=by
 unfold decT;split
 ·exact c
 rw [mu,kY];exact ws k V h
theorem zmq {A a:Nat}(h:QB A B q)(o:A<10^a)(p:B<10^b)(c:1≤a)(hb:1≤b):gP (ratT q)≤a+b+2:=by
 obtain ⟨d,e⟩:=h.nd;have f:=zfu (V:=q.num.natAbs) zo c;have l:=zfu (V:=q.den) zo hb;unfold Go.Proofs.YtepkmadmigkgmaaGreatDoor.ratT;simp only [k0];split<;>split<;>simp<;>omega
section
variable {lo hi:Nat→Option Rat}{st:PS}{x:Nat→Rat}{D:Int}
theorem zmp (h:PInv n m a lo hi L st)(b:Bnd n m a lo hi M N){e:Nat}(w:e<n){q:Nat}(G:(q+1)*N≤N'):∃D,Vtx n m a (mvx st e ((q:Rat)*sgD up) (m+1)) N' D:=by
 have o:N≤N':=Aa (CM N (Nat.succ_pos q)) G;have f:∀c,∃kz:Int×Int,c<n→0<kz.1∧(kz.1:Rat)*mvx st e ((q:Rat)*sgD up) (m+1) (st.nb c)=kz.2∧kz.2.natAbs≤N'∧∀j,j<n→(kz.1*a (st.nb c) j).natAbs≤N':=fun c=>by
  by_cases d:c<n
  ·obtain ⟨k,z,f,u,C,I,v⟩:=b.bq _ (h.nv c d) _ ((h.bd c d).2.b);by_cases hce:c=e
   ·subst hce;obtain ⟨σ,H,A⟩:∃σ:Int,(σ:Rat)=sgD up∧σ.natAbs=1:=by cases up;exact ⟨-1,rfl,rfl⟩;exact ⟨1,rfl,rfl⟩
    refine ⟨(k,z+k*q*σ),fun _=>⟨f,?_,?_,fun j p=>Aa (v j p) o⟩⟩
    ·rw [qU h.toPB d eU,Rat.intCast_add,AC,AC,←u,H,Bn]
     grind
    have J:(k*q*σ).natAbs≤q*N:=by
     rw [AF,AF,A,qe,AH,Nat.mul_comm];exact s9 _ C
    have K:=Int.natAbs_add_le z (k*q*σ);have O:(q+1)*N=q*N+N:=Bo q N;show (z+k*q*σ).natAbs≤N';omega
   refine ⟨(k,z),fun _=>⟨f,?_,by show z.natAbs≤N';omega,fun j p=>Aa (v j p) o⟩⟩;rw [qT h.toPB w d hce eU];exact u
  exact ⟨(1,0),fun q=>eN q d⟩
 obtain ⟨F,l⟩:=Ch f;exact h.toPB.vtx (h.mvL w) (k:=fun c=>(F c).1) (z:=fun c=>(F c).2) (fun c d=>(l c d).1) (fun c d=>(l c d).2.1) (fun c d=>(l c d).2.2.2) fun c d=>(l c d).2.2.1
theorem Vtx.dot {E:Nat}(h:Vtx n m a x N D)(G:∀v,v<n+m→∀j,j<n→(a v j).natAbs≤M){l:List Rat}(o:∀q∈l,NE E P q)(I:gP l≤n)(H:k≤n):QB (k*(P*E^(gP l-1)*vN n M N)) (E^gP l*vD n N) (smr k fun j=>atR l j*x j):=by
 have f:=zel o;have d:∀j,∃w:Int,((lcmD l 1:Int):Rat)*atR l j=w∧w.natAbs≤P*E^(gP l-1):=fun j=>by
  by_cases hj:j<gP l
  ·have e:=kF hj;rw [wg e,Bn];exact zek o (mp e)
  refine ⟨0,?_,gH⟩;unfold atR;rw [Ae zo];exact Rat.mul_zero _
 obtain ⟨w,d⟩:=Ch d;have p:=h.sum (c:=atR l) (K:=(lcmD l 1:Int)) (by have:=f.1;omega) (w:=w) (fun j=>(d j).1) (fun j=>(d j).2) G k H;obtain ⟨X,Y,u,A,C,F⟩:=p;refine ⟨X,Y,u,A,C,Aa F (o0 _ ?_)⟩;rw [qe];exact f.2
end
theorem zhg {l c:List Rat}{f:Nat→Rat}{n:Nat}(v:gP c=n)(p:∀j,j<n→c[j]?=some (f j))(u:gP l≤n)(hj:j≤gP l):dotR (l.take j) (c.take j)=smr j fun j=>atR l j*f j:=by
 have d:gP (l.take j)=j:=by rw [sn];omega
 have o:gP (c.take j)=j:=by rw [sn];omega
 rw [rM (by rw [d,o]) j d];refine yg fun i hi=>?_;have e:=kF (l:=l) (i:=i) zo;rw [wg e,wg (q:=l[i]'zo) (by rw [CW,eS hi];exact e),wg (q:=f i) (by rw [CW,eS hi];exact p i zo)]
def nV:Nat:=10^38*1001
theorem num8 {n:Nat}(c:1≤n)(d:n≤5):vN n (10^32) nV<2^800∧vD n nV<2^700∧vN n (10^32) nV<10^241∧vD n nV<10^208∧vN n (10^32) (10^38)≤vN n (10^32) nV∧vD n (10^38)≤vD n nV:=by
 have h:n=1∨n=2∨n=3∨n=4∨n=5:=zo;rcases h with rfl|rfl|rfl|rfl|rfl<;>exact ⟨by decide+kernel,by decide+kernel,by decide+kernel,by decide+kernel,by decide+kernel,by decide+kernel⟩
theorem zp2 {n:Nat}(c:1≤n)(d:n≤5)(p:k≤n)(u:r≤n):k*(10^8*(10^6)^(r-1)*vN n (10^32) nV)<2^915∧(10^6)^r*vD n nV<2^915:=by
 obtain ⟨e,f,_⟩:=num8 c d;have l:10^8*(10^6)^(r-1)≤10^8*(10^6)^4:=s9 _ (sN zd zo);have o:(10^6)^r≤(10^6)^5:=sN zd zo;constructor
 ·refine Aj (Ar (show k≤5 by omega) (Ar l (Bh e))) ?_;decide+kernel
 refine Aj (Ar o (Bh f)) ?_;decide+kernel
end
section
variable {sz:Nat}{v:Value}{c cs:List Value}
theorem zcv (l:List (List UInt8)):gP (strs l)=gP l*1:=by simp [strs]
theorem zd5 (l:List (List UInt8)):ones (strs l)=true:=by
 induction l with
 |nil=>rfl
 |cons e l ih=>exact ih
theorem zkd (k:Nat){a:Option Addr}(g:Sl h n 1 (gS a len cap) (strs S))(hb:gP S<1000000):
  CX (cal (k+1)) 15 [gS a len cap] h n fun v h' n'=>Gr0 h' n n' 9 1 v (gP S) (strs S):=by
 refine zw (fn:=Tryz.f15) R4 ?_;have o:=z8 g;subst o;refine Zd ?_;refine pZ (cs:=[]) R5 ?_;generalize hh:upd h (3*n+2) _=h1;have d:Ext n h h1:=by rw [←hh];exact Ext.upd zo
 clear hh;refine zM ?_;refine zc7 (lo:=n) R8 zd (.emp eU (Nat.lt_succ_self _)) (uX (g.ext d zs)) zo (zcv _) (zd5 _) (by show n≤n∧_;omega) ?_;intro v u p q f i _ _;rw [sb,List.nil_append] at f;obtain ⟨j,rfl,_⟩:=f.shape;refine Zk ?_;exact retX [gS j (gP S) (gP S)] R3 (show n≤p by omega) (d.trans i eU) f
def fitL (l:List (List UInt8))(n:Nat)(s:List UInt8):List (List UInt8):=(l++ns (n-gP l) s).take n
theorem pF (l:List (List UInt8))(n:Nat)(s:List UInt8):gP (fitL l n s)=n:=by
 unfold fitL;rw [sn,k0,ru];omega
theorem ziq {l:List (List UInt8)}{x:List UInt8}(h:x∈fitL l n s):x∈l∨x=s:=by
 rcases AY.1 (AB h) with h|h
 ·exact .inl h
 exact .inr (List.eq_of_mem_replicate h)
def SSE (lo:Nat)(h:HF)(n:Nat)(v:Value)(L:List (List UInt8)):Prop:=Sl h n 1 v (strs L)∧∀ad len cap,v=gS (some ad) len cap→3*lo≤ad.block∧(len≠0→∃cs,h ad.block=some (.row cs 9))
theorem SSE.of_gr0 {lo:Nat}(g:Gr0 h lo n 9 1 v len c){T:List (List UInt8)}(j:c=strs T)(hm:m≤len){a:Option Addr}(f:v=gS a l k):SSE lo h n (gS a m k) (T.take m):=by
 have o:∀(x:List Value),x=strs T→x.take m=strs (T.take m):=fun x e=>by rw [e];unfold strs;rw [Dw]
 cases g with
 |gro g=>
  cases g with
  |nil=>
   cases f;have d:m=0:=zo;subst d;exact ⟨.nil (.inl rfl),fun i l c e=>by cases e⟩
  |at_ hg hlo hb hr hl ho=>
   cases f;refine ⟨.at_ hb hr rfl hm zo (by rw [Av,AH];exact o _ j),fun i l c e=>?_⟩;cases e;exact ⟨hlo,fun _=>⟨_,hr⟩⟩
 | @emp m2 hlo hm2=>
  cases f;have d:m=0:=zo;subst d;refine ⟨.nil (.inr ⟨_,_,_,rfl,zo⟩),fun i l c e=>?_⟩;cases e;exact ⟨by show 3*lo≤3*m2+2;omega,fun h=>eN rfl h⟩
theorem SSE.go {lo:Nat}{L:List (List UInt8)}(s:SSE lo h n v L)(p:∀b cs,3*lo≤b→b<3*n→h b=some (.row cs 9)→h' b=h b)(q:n≤n'):SSE lo h' n' v L:=by
 obtain ⟨s,f⟩:=s;generalize hcl:strs L=cl at s;cases s with
 |nil ha=>exact ⟨by rw [hcl];exact .nil (uw ha q),fun a len cap e=>by cases e;exact ⟨(f _ _ _ rfl).1,fun h=>eN rfl h⟩⟩
 | @at_ b off len cap x cs cells hb hx hc hcap hl he=>
  by_cases h0:len=0
  ·subst h0;have o:cl=[]:=by rw [←he];simp
   subst o;exact ⟨by rw [hcl];exact .nil (.inr ⟨_,_,_,rfl,zo⟩),fun a len cap e=>by cases e;exact ⟨(f _ _ _ rfl).1,fun h=>eN rfl h⟩⟩
  obtain ⟨d,j⟩:=f _ _ _ rfl;obtain ⟨u,g⟩:=j h0;have i:=p _ _ d hb g;exact ⟨by rw [hcl];exact .at_ zo (i.trans hx) hc hcap hl he,fun a len cap e=>by cases e;exact ⟨d,fun _=>⟨_,i.trans g⟩⟩⟩
theorem SSE.ext {lo:Nat}{L:List (List UInt8)}(s:SSE lo h n v L)(x:Ext n h h')(d:n≤n'):SSE lo h' n' v L:=s.go (fun b _ _ a _=>x b a) d
theorem SSE.x {lo:Nat}{L:List (List UInt8)}(g:SSE lo h n v L)(t:Tx n h n' h'):SSE lo h' n' v L:=g.ext t.2 t.1
theorem SSE.st {lo:Nat}{L:List (List UInt8)}(s:SSE lo h n v L)(_:h b=some (.row cs e))(_:cs.all nu=true)(a:Only b h h')(hb:b<3*lo):SSE lo h' n v L:=s.go (fun k _ d _ _=>a k zo) eU
theorem SSE.sto {lo:Nat}{L:List (List UInt8)}(g:SSE lo h n v L)(o:Sto b h h')(hb:b<3*lo):SSE lo h' n v L:=by
 obtain ⟨o,_,_,a,d⟩:=o;exact g.st a d o hb
theorem SSE.ss {lo:Nat}{L:List (List UInt8)}(s:SSE lo h n v L):Sl h n 1 v (strs L):=s.1
theorem SSE.lo {lo:Nat}{L:List (List UInt8)}(s:SSE lo h n v L)(d:lo'≤lo):SSE lo' h n v L:=⟨s.1,fun a len cap e=>⟨by have:=(s.2 a len cap e).1;omega,(s.2 a len cap e).2⟩⟩
def zax (lo:Nat)(c:List Value)(d:RowD)(h:HF)(n:Nat):Prop:=∃a l k,c=[gS a l k,jy ⟨⟨d.lo⟩⟩,jy ⟨⟨d.hi⟩⟩]∧SSE lo h n (gS a l k) d.A
structure GRW (lo:Nat)(h:HF)(n:Nat)(v:Value)(ds:List RowD):Prop where
 ex:∃C,Gro h lo n 39 3 v (gP ds) C∧Rec 3 (fun c d=>zax lo c d h n) C ds
theorem GRW.nil (lo:Nat)(h:HF)(n:Nat):GRW lo h n (gS none 0 0) []:=⟨[],.nil,.nil⟩
theorem GRW.ext {lo:Nat}{f:List RowD}(g:GRW lo h n v f)(x:Ext n h h')(i:n≤n'):GRW lo h' n' v f:=by
 obtain ⟨C,j,o⟩:=g.ex;exact ⟨C,j.ext x i,o.mono fun c d ⟨a,l,k,e,s⟩=>⟨a,l,k,e,s.ext x i⟩⟩
theorem GRW.x {lo:Nat}{a:List RowD}(g:GRW lo h n v a)(t:Tx n h n' h'):GRW lo h' n' v a:=g.ext t.2 t.1
theorem GRW.st {lo:Nat}{f:List RowD}(g:GRW lo h n v f)(p:h b=some (.row cs e))(q:cs.all nu=true)(i:Only b h h')(hb:b<3*lo):GRW lo h' n v f:=by
 obtain ⟨C,j,o⟩:=g.ex;exact ⟨C,j.same fun k u _ _=>i k zo,o.mono fun c d ⟨a,l,k,e,s⟩=>⟨a,l,k,e,s.st p q i hb⟩⟩
theorem GRW.sto {lo:Nat}{a:List RowD}(g:GRW lo h n v a)(o:Sto b h h')(hb:b<3*lo):GRW lo h' n v a:=by
 obtain ⟨o,_,_,d,f⟩:=o;exact g.st d f o hb
theorem GRW.lo {lo:Nat}{f:List RowD}(g:GRW lo h n v f)(o:lo'≤lo):GRW lo' h n v f:=by
 obtain ⟨C,i,j⟩:=g.ex;refine ⟨C,?_,j.mono fun c d ⟨a,l,k,e,s⟩=>⟨a,l,k,e,s.lo o⟩⟩;generalize (gP f)=m at i ⊢;cases i with
 |nil=>exact .nil
 |at_ hg hlo hb hr hl2 ho=>exact .at_ hg zo hb hr hl2 ho
theorem GRW.rws {lo:Nat}{f:List RowD}(g:GRW lo h n v f):RWS h n v f:=by
 obtain ⟨C,i,j⟩:=g.ex;exact ⟨C,i.sl,j.mono fun c d ⟨a,l,k,e,s⟩=>⟨a,l,k,e,s.1⟩⟩
theorem SSE.keep {lo d:Nat}{u:Value}{L:List (List UInt8)}{C:List Value}(s:SSE lo h n v L)(g:Gro h d n 39 3 u len C)(k:Keep u n h h')(f:n≤n'):SSE lo h' n' v L:=
 s.go (fun b cs j a i=>by
  refine k b a fun o l c e=>?_;cases g with
  |nil=>cases e
  |at_ hg hlo hb3 hr2 hl2 ho=>
   cases e;rw [i] at hr2;injection hr2 with hr2
   injection hr2 with _ hr2
   exact eN hr2 zd) f
theorem GRW.app {lo:Nat}{v':Value}{f:List RowD}{d:RowD}{C:List Value}(j:Gro h lo n 39 3 v (gP f) C)(o:Rec 3 (fun c d=>zax lo c d h n) C f)(s:zax lo c d h n)(k:Keep v n h h')(g:Gro h' lo (n+1) 39 3 v' (gP f+1) (C++c)):GRW lo h' (n+1) v' (f++[d]):=by
 have i:∀c d,zax lo c d h n→zax lo c d h' (n+1):=fun c d ⟨a,l,m,e,s⟩=>⟨a,l,m,e,s.keep j k zs⟩;refine ⟨C++c,by rw [k0];exact g,(o.mono i).snoc ?_ (i _ _ s)⟩;obtain ⟨a,l,m,rfl,_⟩:=s;rfl
theorem Gr0.slice {lo:Nat}{a:Option Addr}(g:Gr0 h lo n e sz (gS a l k) len c):l=len∧k=len∧(a=none∨∃b,a=some ⟨b,0,none⟩):=by
 cases g with
 |gro g=>
  cases g with
  |nil=>exact ⟨rfl,rfl,.inl rfl⟩
  |at_ hg hlo hb hr hl ho=>exact ⟨rfl,rfl,.inr ⟨_,rfl⟩⟩
 |emp hlo hm=>exact ⟨rfl,rfl,.inr ⟨_,rfl⟩⟩
theorem bI (k:Nat){a:Option Addr}(y:Sl h n 1 (gS a len cap) (strs S))(hb:gP S<1000000)(hm:m<1000000)(s:List UInt8):
  CX (cal (k+2)) 22 [gS a len cap,gZ .i64 (m:Int),jy ⟨⟨s⟩⟩] h n fun v h' n'=>∃a c,v=gS a m c∧SSE n h' n' (gS a m c) (fitL S m s):=by
 refine zw (fn:=Tryz.f22) R4 ?_;have F:=z8 y;subst F;refine Zd ?_;refine zM ?_;refine gJ R5 (zkd k y hb) ?_;intro v N T p u K;obtain ⟨C,rfl,_⟩:=p.shape;refine Zk ?_;refine ye (α:=Option Addr×Nat) (fun z=>[(1,gZ .i64 (m:Int)),(2,jy ⟨⟨s⟩⟩),(7,gS z.1 (gP S+z.2) (gP S+z.2))]) (fun z h' n' J=>J=[]∧n≤n'∧Ext n h h'∧Gr0 h' n n' 9 1 (gS z.1 (gP S+z.2) (gP S+z.2)) (gP S+z.2) (strs (S++ns z.2 s))∧(z.2=0∨gP S+z.2≤m)) (fun z=>m-(gP S+z.2))
  (C,0) ⟨rfl,rfl,rfl,eT⟩ ⟨rfl,u,K,by rw [List.replicate_zero,Am];exact p,.inl rfl⟩ (by show m-(gP S+0)<LL;unfold LL;omega) ?_
 rintro ⟨M,j⟩ t O H _ ⟨rfl,f,o,g,d⟩;simp only at g d;refine zN ?_;by_cases hc:gP S+j<m
 ·refine Zx ?_;refine wE [jy ⟨⟨s⟩⟩] (l:=1) (c:=1) R5 ?_;intro P I B;refine zc7 (lo:=n) (m:=1) R8 zd (g.ext B zs) (yp I R2) zo rfl rfl (by show n≤n∧_;omega) ?_;intro v R A w q L _ _;obtain ⟨D,rfl,_⟩:=q.shape;refine Zk ?_;refine goOn (D,j+1) (by show m-(gP S+(j+1))<m-(gP S+j);omega) ⟨rfl,rfl,rfl,eT⟩ ⟨rfl,(by show n≤A;have:H+1≤A:=w;omega),(o.trans (B.mono f) eU).trans L eU,?_,.inr (by show gP S+(j+1)≤m;omega)⟩;rw [CD,←Ak,fg];exact q
 refine Zl ?_;refine Zc ?_;have G:(S++ns j s).take m=fitL S m s:=by
  unfold fitL;rcases d with d|d
  ·subst d;rw [show m-gP S=0 by omega]
  rw [show m-gP S=j by omega]
 have i:=SSE.of_gr0 g rfl (m:=m) zo rfl;rw [G] at i;rcases g.slice.2.2 with e|⟨b,e⟩
 ·subst e;refine fh m R9 zo ?_;refine Zk ?_;exact retX [gS none m (gP S+j)] R3 f o ⟨_,_,rfl,i⟩
 subst e;refine td m R8 rfl zo ?_;refine Zk ?_;exact retX [gS (some ⟨b,0,none⟩) m (gP S+j)] R3 f o ⟨_,_,rfl,i⟩
end
section
variable {p:LPD}
def zml (r:RowD):Prop:=gP r.A≤7∧(∀s∈r.A,(gP s:Int)≤8)∧∀s∈[r.lo,r.hi],(gP s:Int)≤8
structure SmlP (p:LPD):Prop where
 n1:gP p.obj≤5
 n2:gP p.rows≤6
 n3:gP p.lower≤7
 n4:gP p.upper≤7
 ob:∀s∈p.obj,(gP s:Int)≤8
 lw:∀s∈p.lower,(gP s:Int)≤8
 up:∀s∈p.upper,(gP s:Int)≤8
 rw:∀r∈p.rows,zml r
theorem SmlP.lpb (h:SmlP p):LPB 27 p:=
 ⟨fun s a=>txt8 (h.ob s a),fun s a=>txt8 (h.lw s a),fun s a=>txt8 (h.up s a),fun r b=>⟨txt8 ((h.rw r b).2.2 _ gN),txt8 ((h.rw r b).2.2 _ gN),by have:=(h.rw r b).1;omega,fun s a=>txt8 ((h.rw r b).2.1 s a)⟩,by have:=h.n1;omega,by have:=h.n2;omega,by have:=h.n3;omega,by have:=h.n4;omega⟩
def zlx (n:Nat)(r:RowD):RowD:=⟨fitL r.A n [48],r.lo,r.hi⟩
def vo (p:LPD):List RowD:=p.rows.map (zlx (gP p.obj))
def zoz (p:LPD):LPD:=⟨p.obj,vo p,fitL p.lower (gP p.obj) [],fitL p.upper (gP p.obj) []⟩
theorem zal {i:Nat}{r:RowD}(h:p.rows[i]?=some r):(vo p)[i]?=some (zlx (gP p.obj) r):=by unfold vo;rw [As,h];rfl
theorem rW (p:LPD):gP (vo p)=gP p.rows:=by unfold vo;rw [mu]
theorem tr {l:List (List UInt8)}{n:Nat}{m:Int}(h:∀x∈l,(gP x:Int)≤m)(b:(gP s:Int)≤m):∀x∈fitL l n s,(gP x:Int)≤m:=fun x c=>by
 rcases ziq c with a|a
 ·exact h x a
 rw [a];exact b
theorem SmlP.tidy (h:SmlP p):SmlP (zoz p):=
 ⟨h.n1,by show gP (vo p)≤6;rw [rW];exact h.n2,by show gP (fitL _ _ _)≤7;rw [pF];have:=h.n1;omega,by show gP (fitL _ _ _)≤7;rw [pF];have:=h.n1;omega,h.ob,tr h.lw zd,tr h.up zd,fun r c=>by
  obtain ⟨b,a,rfl⟩:=AZ.1 c;exact ⟨by show gP (fitL _ _ _)≤7;rw [pF];have:=h.n1;omega,tr (h.rw b a).2.1 zd,(h.rw b a).2.2⟩⟩
theorem zmu (k:Nat){h:HF}{n:Nat}{a:Option Addr}(f:Sl h n 1 (gS a len cap) (strs S))(hb:gP S<1000000):
  CX (cal (k+1)) 15 [gS a len cap] h n fun v b e=>∃a l c,v=gS a l c∧SSE n b e (gS a l c) S:=
 (zkd k f hb).mono fun v b e g=>by
  obtain ⟨j,rfl,_⟩:=g.shape;have:=SSE.of_gr0 g rfl eU rfl;rw [xd] at this;exact ⟨_,_,_,rfl,this⟩
section
variable {d:Tmp}
end
section
variable {i:Nat}{d:Tmp}
end
end
section
variable {p:LPD}
theorem zkb (g:VLP p)(f:SmlP p):PrO (zC p) (zU p) (p.obj.map zj):=by
 have u:=g.cols;have D:∀d∈zC p,∃j c b,p.lower[j]?=some c∧p.upper[j]?=some b∧d.lo=c∧d.hi=b:=fun d o=>by
  obtain ⟨j,w⟩:=Cv.1 o;have J:=(nN.1 w).1;have a:=kF (l:=p.lower) (i:=j) (by have:=g.ll;omega);have e:=kF (l:=p.upper) (i:=j) (by have:=g.lu;omega);rw [gj a e] at w;cases w;exact ⟨j,_,_,a,e,rfl,rfl⟩
 have v:∀{c b:List UInt8},(c=[]∨b=[]∨zj c≤zj b)→c≠[]→b≠[]→zj c≤zj b:=fun h a e=>(h.resolve_left a).resolve_left e;refine ⟨by rw [u];exact g.n1,by rw [u];exact f.n1,by rw [jJ];exact f.n2,fun d o=>?_,fun d o=>?_,by rw [mu,u],fun q y=>?_⟩
 ·obtain ⟨j,c,b,a,e,F,G⟩:=D d o;rw [F,G];exact ⟨ne8 (f.lw _ (mp a)),ne8 (f.up _ (mp e)),v (g.bd j c b a e).2.2⟩
 ·obtain ⟨r,C,rfl⟩:=AZ.1 o;obtain ⟨a,e,I⟩:=g.rw r C;obtain ⟨K,H,B⟩:=f.rw r C;refine ⟨ne8 (B r.lo gN),ne8 (B r.hi gN),v a.2.2,?_,fun q y=>?_⟩
  ·show (gP (r.A.map zj))=_;rw [mu,u];exact I
  obtain ⟨s,f,rfl⟩:=AZ.1 y;exact ne8 (H s f)
 obtain ⟨s,a,rfl⟩:=AZ.1 y;exact ne8 (f.ob s a)
def optF (st:PS)(m:Nat)(s:Rat)(k:Nat):Nat→Rat:=match k with
 |0=>fun _=>0
 |k+1=>swp (optF st m s k) (st.nb k) ((st.T m k:Rat)/st.d/s)
theorem zmv {T O c:Nat}{d:Sol}{a:PS}{s:Rat}(f:0<a.d)(sz:SzP n m V T O c d a)(e:T≤O)(g:Sz P s):∀k,k≤n→∀v,Sz (O+P+1) (optF a m s k v):=by
 intro k;induction k with
 |zero=>exact fun _ v=>Sz.zero _ zo
 |succ k ih=>
  intro i v;have b:=xz f (sz.tO k zo) (Af sz.dd (sN zd e));rw [Bs] at b;exact jt (ih zo) ((b.div g).mono zo) v
structure SolI (p:LPD)(ss:List Rat)(bz:List (Nat×List Int))(y:Nat×List Int)(s:Rat)(st:PS):Prop where
 c:ScI (zC p) (zU p) (p.obj.map zj) ss bz y s
 I:PIs (zC p) (zU p) ss bz y st
noncomputable abbrev loI (p:LPD) (ss:List Rat) (bz:List (Nat×List Int)) (y:Nat×List Int):Nat→Option Rat:=bdF (solI (zC p) (zU p) ss bz y).lo
noncomputable abbrev hiI (p:LPD) (ss:List Rat) (bz:List (Nat×List Int)) (y:Nat×List Int):Nat→Option Rat:=bdF (solI (zC p) (zU p) ss bz y).hi
def SolA (p:LPD)(ss:List Rat)(bz:List (Nat×List Int))(y:Nat×List Int)(st:PS)(n0:Nat)(w:Value)(h:HF)(n:Nat):Prop:=∃r low q b1 b2,w=.tuple #[.agg #[gZ .i64 2,jy ⟨⟨[]⟩⟩,gS none 0 0,gS none 0 0,gS (some ⟨b1,0,none⟩) (gP (zU p)) (gP (zU p)),gS (some ⟨b2,0,none⟩) (gP (zC p)) (gP (zC p))],gZ .i64 0]∧Vio (gP (zU p)) (loI p ss bz y) (hiI p ss bz y) st r low q∧(∀c,c<gP (zC p)→¬suit (loI p ss bz y) (hiI p ss bz y) (rdOf (gP (zU p)) st r 0 low) c)∧OTN n0 h n b1 (fnL (gP (zU p)) fun i=>ratT (conF st r low (gP (zC p)) (gP (zC p)+i)*sgV (zC p) ss (gP (zC p)+i)))∧OTN n0 h n b2 (fnL (gP (zC p)) fun v=>ratT (conF st r low (gP (zC p)) v*sgV (zC p) ss v))
def SolB (p:LPD)(ss:List Rat)(bz:List (Nat×List Int))(y:Nat×List Int)(st:PS)(n0:Nat)(w:Value)(h:HF)(n:Nat):Prop:=∃e up bX bR,w=.tuple #[.agg #[gZ .i64 3,jy ⟨⟨[]⟩⟩,gS (some ⟨bX,0,none⟩) (gP (zC p)) (gP (zC p)),gS (some ⟨bR,0,none⟩) (gP (zC p)) (gP (zC p)),gS none 0 0,gS none 0 0],gZ .i64 0]∧Feas (gP (zU p)) (loI p ss bz y) (hiI p ss bz y) st∧Ent (gP (zC p)) (gP (zU p)) (loI p ss bz y) (hiI p ss bz y) st e up∧(∀r ρ,¬cnd (gP (zU p)) (loI p ss bz y) (hiI p ss bz y) st e up r ρ)∧OTN n0 h n bX (fnL (gP (zC p)) fun v=>ratT (st.x v))∧OTN n0 h n bR (fnL (gP (zC p)) fun v=>ratT (rayF st e up (gP (zU p)) v))
def SolC (p:LPD)(ss:List Rat)(bz:List (Nat×List Int))(y:Nat×List Int)(s:Rat)(st:PS)(n0:Nat)(w:Value)(h:HF)(n:Nat):Prop:=∃bX b1 b2,w=.tuple #[.agg #[gZ .i64 1,jy ⟨⟨ratT (smr (gP (zC p)) fun j=>atR (p.obj.map zj) j*st.x j)⟩⟩,gS (some ⟨bX,0,none⟩) (gP (zC p)) (gP (zC p)),gS none 0 0,gS (some ⟨b1,0,none⟩) (gP (zU p)) (gP (zU p)),gS (some ⟨b2,0,none⟩) (gP (zC p)) (gP (zC p))],gZ .i64 0]∧Feas (gP (zU p)) (loI p ss bz y) (hiI p ss bz y) st∧(∀c u,c<gP (zC p)→¬ent (gP (zU p)) (loI p ss bz y) (hiI p ss bz y) st u c)∧OTN n0 h n bX (fnL (gP (zC p)) fun v=>ratT (st.x v))∧OTN n0 h n b1 (fnL (gP (zU p)) fun i=>ratT (optF st (gP (zU p)) s (gP (zC p)) (gP (zC p)+i)*sgV (zC p) ss (gP (zC p)+i)))∧OTN n0 h n b2 (fnL (gP (zC p)) fun v=>ratT (optF st (gP (zU p)) s (gP (zC p)) v*sgV (zC p) ss v))
def SolR (p:LPD)(n0:Nat)(w:Value)(h:HF)(n:Nat):Prop:=
 (¬VLP p∧w=.tuple #[.agg #[gZ .i64 0,jy ⟨⟨[]⟩⟩,gS none 0 0,gS none 0 0,gS none 0 0,gS none 0 0],gZ .i64 1])∨
 VLP p∧∃ss bz y s st,SolI p ss bz y s st∧(SolA p ss bz y st n0 w h n∨SolB p ss bz y st n0 w h n∨SolC p ss bz y s st n0 w h n)
theorem SolI.vtx {ss:List Rat}{e:List (Nat×List Int)}{y:Nat×List Int}{s:Rat}{f:PS}(h:SolI p ss e y s f)(d:PrO (zC p) (zU p) (p.obj.map zj)):∃D,Vtx (gP (zC p)) (gP (zU p)) (aF (gP (zC p)) (zI (e++[y]))) f.x nV D:=by
 obtain ⟨D,a⟩:=h.I.vtx (fixI h.c d).b;have q:=num8 d.n1 d.n5;refine ⟨D,a.pos,Aa a.le (show vD _ _≤vD _ _ from q.2.2.2.2.2),fun v u P o=>?_⟩;obtain ⟨z,g,i⟩:=a.val v u P o;refine ⟨z,g,Aa i ?_⟩;have l:(10^38)^(gP (zC p)-1)≤nV^(gP (zC p)-1):=Nat.pow_le_pow_left (by decide+kernel) _;exact s9 _ (Ar (s9 _ (o0 _ l)) (by decide+kernel))
theorem dc {a:Nat→Nat→Int}{x:Nat→Rat}{D:Int}(h:Vtx n m a x nV D)(g:∀v,v<n+m→∀j,j<n→(a v j).natAbs≤10^32)(e:1≤n)(f:n≤5){l c:List Rat}(o:∀q∈l,NE (10^6) (10^8) q)(b:gP l≤n)(s:gP c=n)(i:∀j,j<n→c[j]?=some (x j))(hj:j≤gP l):Sz 915 (dotR (l.take j) (c.take j)):=by
 rw [zhg s i b hj];have d:=zp2 e f (k:=j) (r:=gP l) zo b;exact (h.dot g o b zo).sz d.1 d.2
end
section
variable {st:PS}
theorem SolP.va_fn (a:SolP n m d st):d.va.take n=fnL n st.x:=by
 have:=a.vl;exact mU (by rw [sn];omega) fun j b=>by rw [CW,eS b];exact a.va j zo
end
theorem SM.vaN {l n0 g n m:Nat}{h:HF}{d:Sol}{A:Adr}{st:PS}(s:SM l h n0 g d A)(f:SolP n m d st)(p:0<n):∃e,A.va=some ⟨e,0,none⟩∧QS h n0 (gS (some ⟨e,0,none⟩) n (n+m)) (fnL n st.x):=by
 have i:=f.vl;obtain ⟨e,a,o,q,u,j⟩:=s.va.or rfl zo;injection a with a
 have b:=s.va.rs;rw [a] at b;have b:=RS.sub zd b (m:=0) (c:=n) (cap':=n+m) zo zo;rw [Av,f.va_fn] at b;exact ⟨e,a,b⟩
theorem zo6 (k:Nat){h:HF}{n:Nat}(g:GG h n){ao ar aw au:Option Addr}{lo co lr cr lw cw lu cu:Nat}{p:LPD}(io:Sl h n 1 (gS ao lo co) (strs p.obj))(ir:RWS h n (gS ar lr cr) p.rows)(iw:Sl h n 1 (gS aw lw cw) (strs p.lower))(iu:Sl h n 1 (gS au lu cu) (strs p.upper))(hs:SmlP p):
  CX (cal (k+16)) 12 [.agg #[gS ao lo co,gS ar lr cr,gS aw lw cw,gS au lu cu]] h n (SolR p n):=by
 refine zw (fn:=Tryz.f12) R4 ?_;refine zG ?_;refine sB [gS ao lo co,gS ar lr cr,gS aw lw cw,gS au lu cu] ?_;intro h1 p1 x1;refine sA ?_;intro h2 p2 x2;refine zG ?_;refine sC (zpl _ (g.x zx) (io.x zx) (ir.x zx) (iw.x zx) (iu.x zx) hs.lpb zo) ?_;rintro _ h3 y ⟨aO,lO,kO,aR,lR,kR,aC,lC,kC,ok,rfl,eg,hq⟩ y3 x3;refine Zi ?_;intro h4 p4 x4;refine zG ?_;refine sS [gS aO lO kO,gS aR lR kR,gS aC lC kC] ?_;intro O p5 o5;have y3:n+1+1≤y:=y3;rcases bvs eg with ⟨rfl,hv⟩|⟨rfl,hv⟩
 ·refine zG ?_;refine sT #[gZ .i64 0,jy ⟨⟨[]⟩⟩,gS none 0 0,gS none 0 0,gS none 0 0,gS none 0 0] ?_;refine sS [gZ .i64 0,jy ⟨⟨[]⟩⟩,gS none 0 0,gS none 0 0,gS none 0 0,gS none 0 0] ?_;intro h6 p6 o6;refine zG ?_;refine zq ?_;exact .inl ⟨hv,rfl⟩
 obtain ⟨iO,iR,iC⟩:=hq rfl;have pr:=zkb hv hs;have ez:=iO.1.len;subst ez;have n1:=pr.n1;have n5:=pr.n5;have m6:=pr.m6;have bg:=pr.lo.1;have ca:27*gP (zC p)+27+1≤163:=zo;have X5:Exo n h O:=⟨(show Tx n h (y+1) O from zx).2⟩;have bf:=iO.x (h':=O) (n':=y+1) zx;have et:=iR.x (h':=O) (n':=y+1) zx;have er:=iC.x (h':=O) (n':=y+1) zx;have fo:O (3*n+2)=_:=(zp:O (3*n+2)=_);have cz:O (3*(n+1)+2)=_:=(zp:O (3*(n+1)+2)=_);have g5:GG O (y+1):=g.ext X5.go zo;have fj:n≤y+1:=zo;clear x1 x2 x3 x4 o5 p1 p2 p4 iO iR iC;have be:∀q∈p.obj.map zj,Sz 27 q:=Txt.nums hs.lpb.ob;have cd:=za7 (k+2) g5 bf.1 et.sds er.sds (a:=27) (P:=163) (LPB.cols hs.lpb) (fun d hd=>⟨(LPB.rows hs.lpb d hd).1,(LPB.rows hs.lpb d hd).2,(pr.lr d hd).2.2.2.1,(hv.rwb hs.lpb d hd).1⟩) be bg n1 ca zo zo zo;refine zG ?_;refine sC cd ?_;rintro _ h6 n6 ⟨bs,A,M,N,B,zlL,s,rfl,S6,el,ed,ej,cg⟩ y6 x6;have y6:y+1≤n6:=y6;have x6:Exo (y+1) O h6:=⟨x6⟩;have c:ScI (zC p) (zU p) (p.obj.map zj) M N (B,zlL) s:=⟨el,ed,163,by decide,ej,cg⟩;have S6:=steI c pr S6;have F:=fixI c pr;have g6:GG h6 n6:=g5.ext x6.go y6;have cf:=zmn (k+0) g6 S6 F n1 zo;refine zG ?_;refine zF _ R5 cf ?_;rintro _ h8 n8 w8 ⟨d8,s8,y8,S8,T8,K8,ch,af⟩;rw [mY,zV (show ∀c∈w8,3*n≤c from fun c hc=>by have:=ch c hc;omega)];have X8:Exo (y+1) O h8:=⟨fun b hb=>(K8 b hb).trans (x6.go b hb)⟩;have f2:y+1≤n8:=zo;have g8:GG h8 n8:=g5.ext X8.go f2;have cl:∀v,v<gP (zC p)+gP (zU p)→d8.sc[v]?=some (sgV (zC p) M v):=fun v hv=>by rw [S8.eq.sc];exact (c.sg hv).1
 have ck:∀v,v<gP (zC p)+gP (zU p)→Sz 170 (sgV (zC p) M v):=fun v hv=>(c.sg hv).2;have d0:h8 (3*(n+1)+2)=_:=(X8.go _ zo).trans cz;have f6:h8 (3*y+2)=_:=(X8.go _ zo).trans p5;clear x6 K8 ch T8 S6 cf cd;rcases af with ⟨rfl,hF⟩|⟨r,bh,q,rfl,hV,R⟩
 rotate_left
 ·refine zG ?_;have ba:=zf2 (k+1) g8 S8 F cl ck zd n1 hV.hr (low:=bh);refine sC ba ?_;rintro _ h9 n9 ⟨b1,b2,rfl,o1,o2⟩ y9 x9;have bn:h9 (3*(n+1)+2)=_:=(x9 _ zo).trans d0;have X9:Exo n h h9:=⟨fun b hb=>(x9 b zo).trans ((X8.go b zo).trans (X5.go b hb))⟩;refine zG ?_;refine sT #[gZ .i64 2,jy ⟨⟨[]⟩⟩,gS none 0 0,gS none 0 0,gS (some ⟨b1,0,none⟩) (gP (zU p)) (gP (zU p)),gS (some ⟨b2,0,none⟩) (gP (zC p)) (gP (zC p))] ?_;refine sS (hb:=bn) [gZ .i64 2,jy ⟨⟨[]⟩⟩,gS none 0 0,gS none 0 0,gS (some ⟨b1,0,none⟩) (gP (zU p)) (gP (zU p)),gS (some ⟨b2,0,none⟩) (gP (zC p)) (gP (zC p))] ?_;intro G fm aq;have bx:Tr n9 h9 n9 G:=Tr.s aq (Tr.refl _ _);refine zG ?_;refine zq ?_ (hx:=⟨zo,fun b hb=>(aq.1 b zo).trans (X9.go b hb)⟩);exact .inr ⟨hv,M,N,(B,zlL),s,s8,⟨c,S8.iv⟩,.inl ⟨r,bh,q,b1,b2,rfl,hV,R,(o1.go bx (aq.1 _ (by have:=o1.lo;omega))).low zo,(o2.go bx (aq.1 _ (by have:=o2.lo;omega))).low zo⟩⟩
 have ce:=zd4 (k+0) g8 S8 hF F n1 zo;refine zG ?_;refine zF _ R5 ce ?_;rintro v9 h9 n9 w9 ⟨d9,C,y9,w,F9,T9,K9,ci,af⟩;rw [mY,zV (show ∀c∈w9,3*n≤c from fun c hc=>by have:=ci c hc;omega)];have X9:Exo (y+1) O h9:=⟨fun b hb=>(K9 b hb).trans (X8.go b hb)⟩;have f3:y+1≤n9:=zo;have g9:GG h9 n9:=g5.ext X9.go f3;have I9:PIs (zC p) (zU p) M N (B,zlL) C:=w.iv;have a6:=F.szp I9;have em:∀v,v<gP (zC p)+gP (zU p)→d9.sc[v]?=some (sgV (zC p) M v):=fun v hv=>by rw [w.eq.sc];exact (c.sg hv).1
 have bn:h9 (3*(n+1)+2)=_:=(X9.go _ zo).trans cz;have f7:h9 (3*y+2)=_:=(X9.go _ zo).trans p5;clear K9 ci T9 ce X8 d0 f6 cl g8;obtain ⟨b0,a0,u0,c0,ty,d2,i0⟩:=w.sm.st;have ec:=w.sm.bs.1;obtain ⟨bv,c6,qv⟩:=w.sm.vaN w.sp n1;rw [w.sp.dn,w.sp.vl,w.sp.nl,w.sp.bl,w.sp.ls] at d2;obtain ⟨c1,c2,ok,rfl,eh⟩:∃(c1 c2:Int) (ok:Bool),v9=Value.tuple #[gZ .i64 c1,gZ .i64 c2,jx ok]∧(ok=true∧(∀c u,c<gP (zC p)→¬ent (gP (zU p)) (loI p M N (B,zlL)) (hiI p M N (B,zlL)) C u c)∨ok=false∧∃(e:Nat) (up:Bool),c1=(e:Int)∧c2=sgI up∧Ent (gP (zC p)) (gP (zU p)) (loI p M N (B,zlL)) (hiI p M N (B,zlL)) C e up∧∀r ρ,¬cnd (gP (zU p)) (loI p M N (B,zlL)) (hiI p M N (B,zlL)) C e up r ρ):=by
  rcases af with ⟨rfl,R⟩|⟨e,up,rfl,hE,R⟩
  ·exact ⟨0,0,true,rfl,.inl ⟨rfl,R⟩⟩
  exact ⟨(e:Int),sgI up,false,rfl,.inr ⟨rfl,e,up,rfl,rfl,hE,R⟩⟩
 refine zG ?_;refine zl [0,1,3,7,0,16,48,112,255,511,1023] rfl ?_;refine zH ?_;refine tC (b:=bv) (off:=0) (gP (zC p)) R6 (by show gS A.va _ _=_;rw [c6]) rfl rfl zo ?_;refine dC (pw _ g9 qv zo (m:=750) (fun j hj=>a6.va j zo) zd) ?_;rintro _ G U ⟨bX,rfl,oX⟩ ay V;have V:Exo n9 h9 G:=⟨V⟩;have b5:Exo (y+1) O G:=⟨fun b hb=>(V.go b zo).trans (X9.go b hb)⟩;have bj:G (3*(n+1)+2)=_:=(V.go _ zo).trans bn;have dh:G (3*y+2)=_:=(V.go _ zo).trans f7;have dj:G bs=_:=(V.go _ ec).trans d2;have aj:GG G U:=g9.ext V.go ay;have a8:Ste (y+1) (gP (zC p)) (gP (zU p)) bs (aF (gP (zC p)) (zI (N++[(B,zlL)]))) (L0 (gP (zC p)) (gP (zU p)) (aF (gP (zC p)) (zI (N++[(B,zlL)])))) A (fun i=>(tzI (N++[(B,zlL)]) i).1) (solI (zC p) (zU p) M N (B,zlL)) G U d9 C:=⟨w.sm.ext V.go ay,w.sp,w.iv,w.ap,w.eq⟩;have ay:n9≤U:=ay;refine zJ ?_;rcases eh with ⟨rfl,R⟩|⟨rfl,e,up,rfl,rfl,hE,R⟩
 rotate_left
 ·refine zG ?_;have ei:=rayP (k+2) aj a8 F zd hE.he (up:=up);refine sC ei ?_;rintro _ a4 l ⟨bR,rfl,oR⟩ az a7;have d7:=oX.ext a7 az;have da:a4 (3*(n+1)+2)=_:=(a7 _ zo).trans bj;have dl:Exo n h a4:=⟨fun b hb=>(a7 b zo).trans ((b5.go b zo).trans (X5.go b hb))⟩;refine zG ?_;refine sT #[gZ .i64 3,jy ⟨⟨[]⟩⟩,gS (some ⟨bX,0,none⟩) (gP (zC p)) (gP (zC p)),gS (some ⟨bR,0,none⟩) (gP (zC p)) (gP (zC p)),gS none 0 0,gS none 0 0] ?_;refine sS (hb:=da) [gZ .i64 3,jy ⟨⟨[]⟩⟩,gS (some ⟨bX,0,none⟩) (gP (zC p)) (gP (zC p)),gS (some ⟨bR,0,none⟩) (gP (zC p)) (gP (zC p)),gS none 0 0,gS none 0 0] ?_;intro c8 cv av;have c3:Tr l a4 l c8:=Tr.s av (Tr.refl _ _);refine zG ?_;refine zq ?_ (hx:=⟨zo,fun b hb=>(av.1 b zo).trans (dl.go b hb)⟩);exact .inr ⟨hv,M,N,(B,zlL),s,C,⟨c,w.iv⟩,.inr (.inl ⟨e,up,bX,bR,rfl,F9,hE,R,(d7.go c3 (av.1 _ (by have:=oX.lo;omega))).low zo,(oR.go c3 (av.1 _ (by have:=oR.lo;omega))).low zo⟩)⟩
 refine zG ?_;have ek:=qa (k+3) aj (bf.1.ext (n':=U) b5.go zo) be (P:=163) (by rw [bg];exact ca) zd zo;refine sC ek ?_;rintro _ a4 l ⟨B2,zs2,s2,du,dq,l11,dx,e0,e3,e7,f9,rfl,_,_,_,_,ag,cm,cp⟩ az a7;have es:s2=s:=ag.ds.trans cg.ds.symm;subst es;refine Zi ?_;intro c8 cv d3;refine zG ?_;refine sS [jx du,gS dq l11 dx,jx e0,gS e3 e7 f9] ?_;intro a1 cx cs;have cn:=cm.t (show Tr l a4 (l+1) a1 from zt);have cq:=cp.t (show Tr l a4 (l+1) a1 from zt);have ad:Exo U G a1:=⟨fun b hb=>(cs.1 b zo).trans ((d3 b zo).trans (a7 b hb))⟩;have az:U≤l:=az;clear a7 d3 cv cs cm cp;have ah:a1 bs=_:=(ad.go bs zo).trans dj;have bk:a1 (3*(n+1)+2)=_:=(ad.go _ zo).trans bj;have bo:a1 (3*y+2)=_:=(ad.go _ zo).trans dh;obtain ⟨K,hK⟩:∃K,K=gP (zC p)+gP (zU p):=⟨_,rfl⟩;rw [←hK] at ah;refine zG ?_;refine sMk (L:=K) [jx false,gS none 0 0,jx false,gS none 0 0] ?_ zo;intro H cy W;obtain ⟨Bl,b9⟩:∃B,B=3*(l+1)+2:=⟨_,rfl⟩;have gl:gro Bl=false:=by rw [b9];exact zB _
 have f4:OR 4 ratP H (l+1+1) Bl (fnL K fun _=>0):=by
  rw [b9,←eE];exact OR.fill zo cy ratP.kp ⟨_,_,_,_,_,_,_,_,rfl,IW.zero _ _,IW.zero _ _⟩
 rw [←b9];have W:Exo (l+1) a1 H:=⟨W⟩;have dm:Exo U G H:=⟨fun b hb=>(W.go b zo).trans (ad.go b hb)⟩;have dk:H bs=_:=(W.go bs zo).trans ah;have db:H (3*(n+1)+2)=_:=(W.go _ zo).trans bk;have di:H (3*y+2)=_:=(W.go _ zo).trans bo;have bu:H (3*l+2)=_:=(W.go _ zo).trans cx;have en:=cn.ext (n':=l+1+1) W.go zs;have eu:=cq.ext (n':=l+1+1) W.go zs;have cb:=a8.iv.toPB.tab.dp;have bc:=a8.sp.de;obtain ⟨r0,g0,_,ea⟩:=a8.sp.ta (gP (zU p)) eU;clear cx cy ad ah bk bo cn cq;refine zG ?_;refine sF (α:=Nat) (fun z=>[(2,mo (some ⟨3*(n+1)+2,0,none⟩)),(4,mo (some ⟨3*y+2,0,none⟩)),(6,mo (some ⟨bs,0,none⟩)),(14,gS (some ⟨bX,0,none⟩) (gP (zC p)) (gP (zC p))),(16,mo (some ⟨3*l+2,0,none⟩)),(17,gS (some ⟨Bl,0,none⟩) K K),(90,gS A.nb (gP (zC p)) (gP (zC p))),(91,gZ .i64 (gP (zC p):Int)),(92,gZ .i64 (z:Int))]) (fun z h' S w'=>w'=[]∧l+1+1≤S∧ExtB (l+1+1) [Bl] H h'∧Tr (l+1+1) H S h'∧OR 4 ratP h' S Bl (fnL K (optF C (gP (zU p)) s2 z))∧z≤gP (zC p)) (fun z=>gP (zC p)-z) 0 ⟨rfl,eU,ExtB.refl _ _ _,Tr.refl _ _,f4,gH⟩ ?_;rintro j t I Y _ ⟨rfl,d4,c4,a9,ax,hj⟩;have d4:l+1+1≤Y:=d4;have a9:Tr (l+1+1) H Y I:=a9;have ax:OR 4 ratP I Y Bl (fnL K (optF C (gP (zU p)) s2 j)):=ax;have hj:j≤gP (zC p):=hj;have a5:∀b,b<3*(l+1+1)→b≠Bl→I b=H b:=fun b hb hn=>c4 b hb (by simpa using hn);have b6:Exo U G I:=⟨fun b hb=>(a5 b zo zo).trans (dm.go b hb)⟩;have b3:=a8.sm.ext (n':=Y) b6.go zo;have br:I bs=_:=(a5 bs zo zo).trans dk;have bm:I (3*(n+1)+2)=_:=(a5 _ zo zo).trans db;have bp:I (3*y+2)=_:=(a5 _ zo zo).trans di;have fe:I (3*l+2)=_:=(a5 _ zo zo).trans bu;have eo:=en.t a9;have ev:=eu.t a9;have b8:GG I Y:=aj.ext b6.go zo;clear c4;refine zG ?_;by_cases q15:(j:Int)<(gP (zC p):Int)
 ·refine zG ?_;have al:j<gP (zC p):=zo;have fk:=w.iv.nv j al;obtain ⟨ac,fl,e4,f0,d1,f8⟩:=natS.at b3.nb.rs (w.sp.nb j al);rw [w.sp.nl] at d1;refine sI e4 d1 ?_;refine sL f8 f0 0 ?_;refine zG ?_;refine zl [0,0,0,0,8,24,56,120,0,508,0,2044,4095,8191] rfl ?_;refine zH ?_;have cj:=a6.tO j al;have ba:=zbz (k+4) b8 b3 (i:=gP (zU p)) (j:=j) g0 (ea j al) (yU cj zd) (by rw [bc];exact yU a6.dd zd) (by rw [bc];omega);refine dC ba ?_;rintro _ eb f1 ⟨dv,dr,ex,dy,e1,e5,e8,fa,rfl,aa,ab⟩ ae a3;have sc:Sz 540 (AK (C.T (gP (zU p)) j) C.d):=xz cb cj a6.dd;rw [bc] at aa ab;rw [Bs] at aa ab sc;refine zH ?_;refine dC (divQ _ (b8.ext a3 ae) aa ab (eo.ext a3 ae) (ev.ext a3 ae) sc ag.sz zd) ?_;rintro _ ak an ⟨dw,dt,ey,dz,e2,e6,e9,fb,rfl,ep,ew⟩ fd bt;refine dI rfl (show C.nb j<K by omega) ?_;have Z:Exo Y I ak:=⟨fun b hb=>(bt b zo).trans (a3 b hb)⟩;refine dZn (n0:=n) (j:=C.nb j) (q:=(C.T (gP (zU p)) j:Rat)/C.d/s2) [jx dw,gS dt ey dz,jx e2,gS e6 e9 fb] (ax.ext (n':=an) ratP.kp Z.go zo) ratP.kp (by rw [yo];omega) (sb _) ⟨_,_,_,_,_,_,_,_,rfl,ep,ew⟩ zo ?_;rw [oV];intro fi f5 bw;refine zG ?_;exact sK (j+1) ⟨rfl,zo,fun b hb hn=>(bw.1 b (fun e=>hn (qq.2 e))).trans ((Z.go b zo).trans (a5 b hb (fun e=>hn (qq.2 e)))),a9.trans (Tr.trans ⟨show Y≤an by omega,fun b hb=>.inl (Z.go b hb)⟩ (Tr.s bw (Tr.refl _ _))),f5,by show j+1≤_;omega⟩
 have ee:j=gP (zC p):=zo;subst ee;refine zG ?_;have ef:=qV (k+2) (f:=optF C (gP (zU p)) s2 (gP (zC p))) (σ:=sgV (zC p) M) (a:=704) (b:=170) b8 b3 hK ax gl zo (w.sp.ls.trans hK.symm) (fun v hv=>em v zo) w.sp.dn n1 zo (fun v _=>zmv cb a6 zd ag.sz _ eU v) (fun v hv=>ck v zo) zd;refine zF _ R5 ef ?_;rintro _ J a2 fc ⟨⟨b1,b2,rfl,o1,o2⟩,fq,c5,fh,d6⟩;rw [mY,zV (show ∀c∈fc,3*n≤c from fun c hc=>by have:=d6 c hc;omega)];have ac:∀b,b<3*Y→b≠Bl→J b=I b:=fun b hb hn=>c5 b hb (by simpa using hn);have ai:Exo U G J:=⟨fun b hb=>(ac b zo zo).trans (b6.go b hb)⟩;have b7:Exo (y+1) O J:=⟨fun b hb=>(ai.go b zo).trans (b5.go b hb)⟩;have fg:J bs=_:=(ac bs zo zo).trans br;have df:J (3*(n+1)+2)=_:=(ac _ zo zo).trans bm;have ff:J (3*y+2)=_:=(ac _ zo zo).trans bp;have c7:GG J a2:=aj.ext ai.go zo;have bi:=oX.ext (n':=a2) ai.go zo;have bq:=qv.ext (n':=a2) (show Ext n9 h9 J from fun b hb=>(ai.go b zo).trans (V.go b hb)) zo;rw [←hK] at bq;clear c5 bp bm br;refine zG ?_;refine zl [0,1,0,4,12,28,0,64,192,448,1020,2047,4095,8191] rfl ?_;refine zH ?_;refine tC (b:=bv) (off:=0) (gP (zC p)) R6 (by show gS A.va _ _=_;rw [c6]) rfl rfl zo ?_;obtain ⟨D,hD⟩:=SolI.vtx (p:=p) ⟨c,w.iv⟩ pr;have cc:∀j,j≤gP (p.obj.map zj)→Sz 915 (dotR ((p.obj.map zj).take j) ((fnL (gP (zC p)) C.x).take j)):=fun j hj=>dc hD F.b.aM n1 n5 pr.lo.2 zo yo (fun j hj=>wo hj) hj;have bd:=ziz (k+4) c7 (bf.1.ext (n':=a2) b7.go zo) bq be (b:=750) (fun q hq=>by obtain ⟨j,hj,rfl⟩:=kJ hq;exact a6.va j zo) (by rw [yo];omega) cc zd zo;rw [pq (show (fnL (gP (zC p)) C.x).length≤gP (p.obj.map zj) by rw [yo];omega)] at bd;have bb:=cc _ eU;rw [pq eU,pq (show (fnL (gP (zC p)) C.x).length≤gP (p.obj.map zj) by rw [yo];omega)] at bb;have d5:dotR (p.obj.map zj) (fnL (gP (zC p)) C.x)=smr (gP (zC p)) fun j=>atR (p.obj.map zj) j*C.x j:=by
  rw [rM (by rw [yo];omega) (gP (zC p)) bg];exact yg fun j hj=>by rw [wg (wo hj)]
 rw [d5] at bd bb;refine dC bd ?_;rintro _ eb f1 ⟨dv,dr,ex,dy,e1,e5,e8,fa,rfl,aa,ab⟩ ae a3;refine dC (zcx _ (c7.ext a3 ae) aa ab bb zd) ?_;rintro _ ak an rfl fd bt;have Z:Exo a2 J ak:=⟨fun b hb=>(bt b zo).trans (a3 b hb)⟩;have dg:ak (3*(n+1)+2)=_:=(Z.go _ zo).trans df;refine zJ ?_;refine sT #[gZ .i64 1,jy ⟨⟨ratT (smr (gP (zC p)) fun j=>atR (p.obj.map zj) j*C.x j)⟩⟩,gS (some ⟨bX,0,none⟩) (gP (zC p)) (gP (zC p)),gS none 0 0,gS (some ⟨b1,0,none⟩) (gP (zU p)) (gP (zU p)),gS (some ⟨b2,0,none⟩) (gP (zC p)) (gP (zC p))] ?_;refine sS (hb:=dg) [gZ .i64 1,jy ⟨⟨ratT (smr (gP (zC p)) fun j=>atR (p.obj.map zj) j*C.x j)⟩⟩,gS (some ⟨bX,0,none⟩) (gP (zC p)) (gP (zC p)),gS none 0 0,gS (some ⟨b1,0,none⟩) (gP (zU p)) (gP (zU p)),gS (some ⟨b2,0,none⟩) (gP (zC p)) (gP (zC p))] ?_;intro c9 fp ct;have b4:Tr a2 J an c9:=Tr.s ct ⟨zo,fun b hb=>.inl (Z.go b hb)⟩;have am:∀b,b<3*a2→b≠3*(n+1)+2→c9 b=J b:=fun b hb hn=>(ct.1 b hn).trans (Z.go b hb);refine zG ?_;refine zq ?_ (hx:=⟨zo,fun b hb=>(am b zo zo).trans ((b7.go b zo).trans (X5.go b hb))⟩);exact .inr ⟨hv,M,N,(B,zlL),s2,C,⟨c,w.iv⟩,.inr (.inr ⟨bX,b1,b2,rfl,F9,R,(bi.go b4 (am _ bi.o.1 (by have:=oX.lo;omega))).low zo,(o1.go b4 (am _ o1.o.1 (by have:=o1.lo;omega))).low zo,(o2.go b4 (am _ o2.o.1 (by have:=o2.lo;omega))).low zo⟩)⟩
noncomputable def cq (p:LPD)(R C:List (List UInt8))(j i:Nat):Rat:=colQ (zU p) (R.map zj) (((C.map zj)[j]?).getD 0) j i
noncomputable def sq (p:LPD)(R C X:List (List UInt8))(j:Nat):Rat:=dotR ((zr2 (zU p) (R.map zj) (C.map zj) (gP (zU p)) 0).take j) ((X.map zj).take j)
section
variable {p:LPD}{R X:List (List UInt8)}{i:Nat}
theorem feaC {v:Value}(h:v=feaV p X):∃(b:Bool) (E:Int),v=.tuple #[jx b,gZ .i64 E]∧(b=true→E=0→VLP p∧allN X∧gP X=gP p.obj∧feaP p X):=by
 subst h;unfold feaV;split
 ·rename_i h1;split
  ·rename_i h2;exact ⟨_,_,rfl,fun a _=>⟨h1.1,h1.2,h2,by simpa using a⟩⟩
  exact ⟨_,_,rfl,fun a _=>by cases a⟩
 exact ⟨_,_,rfl,fun a _=>by cases a⟩
end
section
variable {lo:Nat}{p:LPD}
theorem zdg (k:Nat)(L:Sl h n 1 (gS ao lo co) (strs p.obj))(M:RWS h n (gS ar lr cr) p.rows)(O:Sl h n 1 (gS aw lw cw) (strs p.lower))(N:Sl h n 1 (gS au lu cu) (strs p.upper)):VF (cal (k+2)) 7 [.agg #[gS ao lo co,gS ar lr cr,gS aw lw cw,gS au lu cu]] h n fun v=>∃b:Bool,v=jx b∧(b=true→SmlP p):=by
 have ae:=z8 L;have af:=M.len;have ah:=z8 O;have ag:=z8 N;refine zO (fn:=Tryz.f7) R4 ?_;refine zG ?_;refine sB [gS ao lo co,gS ar lr cr,gS aw lw cw,gS au lu cu] ?_;intro a6 ap aq;refine zG ?_;by_cases q12:(lo:Int)>5
 ·refine zf ?_;exact ⟨_,rfl,fun a=>(by cases a)⟩
 refine zG ?_;by_cases q13:(lr:Int)>6
 ·refine zf ?_;exact ⟨_,rfl,fun a=>(by cases a)⟩
 refine zG ?_;by_cases q14:(lw:Int)>7
 ·refine zf ?_;exact ⟨_,rfl,fun a=>(by cases a)⟩
 refine zG ?_;by_cases q15:(lu:Int)>7
 ·refine zf ?_;exact ⟨_,rfl,fun a=>(by cases a)⟩
 refine zG ?_;refine sC ((mI _ (8) (L.x zx) zo).cx) ?_;rintro _ a7 ai ⟨a0,rfl,F⟩ b2 av;rcases bvs F with ⟨rfl,y⟩|⟨rfl,y⟩
 ·refine zf ?_;exact ⟨_,rfl,fun a=>(by cases a)⟩
 refine zG ?_;refine sC ((mI _ (8) (O.x zx) zo).cx) ?_;rintro _ a8 aj ⟨a1,rfl,G⟩ b3 ax;rcases bvs G with ⟨rfl,A⟩|⟨rfl,A⟩
 ·refine zf ?_;exact ⟨_,rfl,fun a=>(by cases a)⟩
 refine zG ?_;refine sC ((mI _ (8) (N.x zx) zo).cx) ?_;rintro _ K w ⟨a2,rfl,H⟩ b4 ay;rcases bvs H with ⟨rfl,B⟩|⟨rfl,B⟩
 ·refine zf ?_;exact ⟨_,rfl,fun a=>(by cases a)⟩
 refine zG ?_;refine sF (α:=Nat) (fun z=>[(1,mo (some ⟨3*n+2,0,none⟩)),(3,gZ .i64 (z:Int))]) (fun z S V W=>W=[]∧w≤V∧ExtB w [] K S∧z≤gP p.rows∧∀r∈p.rows.take z,zml r) (fun z=>gP p.rows-z) 0 ⟨rfl,eU,ExtB.refl _ _ _,gH,(fun s T=>eN T gN)⟩ ?_;rintro i t a9 ak _ ⟨rfl,b5,Y,hi,f⟩;have hi:i≤gP p.rows:=hi;have f:∀r∈p.rows.take i,zml r:=f;refine zG ?_;by_cases q20:(i:Int)<(lr:Int)
 ·refine zG ?_;refine zl [0,1,0,7,15,31,63,127,255,511,1023,511,4095,8191,16383,32767,65535,131071,262143,524287,1048575,524287,4194303,8388607,16777215,524287,34078719,524287,235405311,503840767,1040711679,2147483647,4294967295,8589934591,17179869183] rfl ?_;refine zH ?_;obtain ⟨o,q⟩:∃d,(p.rows)[i]?=some d:=⟨_,kF zo⟩;obtain ⟨ad,an,Z,P,a5,e,g,j,m,u⟩:=RWS.at M q;have U:=z8 u;refine dI e j ?_;refine zH ?_;refine dL m g 0 ?_;refine zH ?_;by_cases q22:(P:Int)>7
  ·refine zf ?_;exact ⟨_,rfl,fun a=>(by cases a)⟩
  refine zH ?_;refine dI e j ?_;refine zH ?_;refine dL m g 0 ?_;refine dC ((mI _ (8) (u.x zx) zo).cx) ?_;rintro _ aa al ⟨a3,rfl,I⟩ b6 az;rcases bvs I with ⟨rfl,C⟩|⟨rfl,C⟩
  ·refine zf ?_;exact ⟨_,rfl,fun a=>(by cases a)⟩
  refine zH ?_;refine dI e j ?_;refine zH ?_;refine dL m g 1 ?_;refine zH ?_;refine dI e j ?_;refine zH ?_;refine dL m g 2 ?_;refine zjw [jy ⟨⟨o.lo⟩⟩,jy ⟨⟨o.hi⟩⟩] (l:=2) (c:=2) R5 ?_;intro ab R b0;refine dC ((mI _ (8) (zo8 R zo) (by show 2<100000000;omega)).cx) ?_;rintro _ ac am ⟨a4,rfl,J⟩ b7 b1;rcases bvs J with ⟨rfl,D⟩|⟨rfl,D⟩
  ·refine zf ?_;exact ⟨_,rfl,fun a=>(by cases a)⟩
  refine zJ ?_;exact sK (i+1) ⟨rfl,zo,zy,(by show i+1≤gP p.rows;omega),(ot f q ⟨zo,C,D⟩)⟩
 refine zf ?_;exact ⟨_,rfl,fun _=>⟨zo,zo,zo,zo,y,A,B,by have a:=f;rw [pq zo] at a;exact a⟩⟩
end
section
variable {lo:Nat}{p:LPD}
theorem zlw (k:Nat)(io:Sl h n 1 (gS ao lo co) (strs p.obj))(ir:RWS h n (gS ar lr cr) p.rows)(iw:Sl h n 1 (gS aw lw cw) (strs p.lower))(iu:Sl h n 1 (gS au lu cu) (strs p.upper))(hp:SmlP p):CX (cal (k+3)) 10 [.agg #[gS ao lo co,gS ar lr cr,gS aw lw cw,gS au lu cu]] h n fun v C F=>∃aO lO kO aR lR kR aL lL kL aU lU kU,v=.agg #[gS aO lO kO,gS aR lR kR,gS aL lL kL,gS aU lU kU]∧SSE n C F (gS aO lO kO) p.obj∧GRW n C F (gS aR lR kR) (vo p)∧SSE n C F (gS aL lL kL) (fitL p.lower (gP p.obj) [])∧SSE n C F (gS aU lU kU) (fitL p.upper (gP p.obj) []):=by
 have W:=z8 io;have bl:=ir.len;have bn:=z8 iw;have bm:=z8 iu;obtain ⟨bb,bc,bd,be,bf,bg,bh,ae⟩:=hp;refine zw (fn:=Tryz.f10) R4 ?_;refine zG ?_;refine sB [gS ao lo co,gS ar lr cr,gS aw lw cw,gS au lu cu] ?_;intro b4 bq c0;refine sA ?_;intro b5 br c1;refine zG ?_;refine zl [0,1,3,0,8,0,63,0,128,0,1023,2047,0,8191] rfl ?_;refine zH ?_;refine dC (zmu _ (io.x zx) zo) ?_;rintro _ b6 al ⟨w,B,y,rfl,af⟩ c8 c2;refine zH ?_;refine dC (bI _ (iw.x zx) zo (m:=lo) zo []) ?_;rintro _ aa a4 ⟨o,s,rfl,T⟩ c9 c3;have T:SSE al aa a4 (gS o lo s) (fitL p.lower (gP p.obj) []):=by have e:fitL p.lower lo []=fitL p.lower (gP p.obj) []:=(by rw [W]);rw [←e];exact T
 refine zH ?_;refine dC (bI _ (iu.x zx) zo (m:=lo) zo []) ?_;rintro _ ab a ⟨q,u,rfl,U⟩ ca c4;have U:SSE a4 ab a (gS q lo u) (fitL p.upper (gP p.obj) []):=by have e:fitL p.upper lo []=fitL p.upper (gP p.obj) []:=(by rw [W]);rw [←e];exact U
 refine dT #[gS w B y,gS none 0 0,gS o lo s,gS q lo u] ?_;refine dB [gS none 0 0,gS none 0 0,gS none 0 0,gS none 0 0] ?_;intro b7 bs c5;refine dS [gS w B y,gS none 0 0,gS o lo s,gS q lo u] ?_;intro ac an bo;refine zG ?_;refine sF (α:=Nat×Option Addr×Nat×Nat) (fun z=>[(1,mo (some ⟨3*n+2,0,none⟩)),(2,mo (some ⟨3*(n+1)+2,0,none⟩)),(3,gZ .i64 (lo:Int)),(4,mo (some ⟨3*a+2,0,none⟩)),(5,gZ .i64 (z.1:Int))]) (fun z C F w'=>w'=[]∧a+1≤F∧ExtB (a+1) [3*a+2] ac C∧C (3*a+2)=some (.row [gS w B y,gS z.2.1 z.2.2.1 z.2.2.2,gS o lo s,gS q lo u] 25)∧GRW (a+1) C F (gS z.2.1 z.2.2.1 z.2.2.2) ((vo p).take z.1)∧z.1≤gP p.rows) (fun z=>gP p.rows-z.1) (0,none,0,0) ⟨rfl,eU,ExtB.refl _ _ _,an,GRW.nil _ _ _,gH⟩ ?_;rintro ⟨i,aT,lT,kT⟩ t R L _ ⟨rfl,cb,b0,M,f,hi⟩;have M:R (3*a+2)=some (.row [gS w B y,gS aT lT kT,gS o lo s,gS q lo u] 25):=M;have f:GRW (a+1) R L (gS aT lT kT) ((vo p).take i):=f;have hi:i≤gP p.rows:=hi;refine zG ?_;by_cases q19:(i:Int)<(lr:Int)
 ·refine zG ?_;refine zl [0,1,0,4,0,28,60,124,0,508,0,1024,0,7168,15360,31744,0,65536,0,458752,983040,2031616,4194300,8388604,16777215,33554431,67108863] rfl ?_;refine zH ?_;obtain ⟨g,O⟩:∃d,(p.rows)[i]?=some d:=⟨_,kF zo⟩;obtain ⟨bj,bp,b1,bk,b2,N,Y,Z,a0,a3⟩:=RWS.at ir O;have ax:=z8 a3;refine dI N Z ?_;refine zH ?_;refine dL a0 Y 0 ?_;refine zH ?_;refine dC (bI _ (a3.x zx) (by have:=(ae _ (mp O)).1;omega) (m:=lo) zo [48]) ?_;rintro _ ad G ⟨I,J,rfl,V⟩ cc c6;have V:SSE L ad G (gS I lo J) (fitL g.A (gP p.obj) [48]):=by have e:fitL g.A lo [48]=fitL g.A (gP p.obj) [48]:=(by rw [W]);rw [←e];exact V
  refine zH ?_;refine dI N Z ?_;refine zH ?_;refine dL a0 Y 1 ?_;refine zH ?_;refine dI N Z ?_;refine zH ?_;refine dL a0 Y 2 ?_;refine dT #[gS I lo J,jy ⟨⟨g.lo⟩⟩,jy ⟨⟨g.hi⟩⟩] ?_;refine zjw [gS I lo J,jy ⟨⟨g.lo⟩⟩,jy ⟨⟨g.hi⟩⟩] (l:=1) (c:=1) R5 ?_;intro S ap c7;have av:zax (a+1) [gS I lo J,jy ⟨⟨g.lo⟩⟩,jy ⟨⟨g.hi⟩⟩] (zlx (gP p.obj) g) S (G+1):=⟨_,_,_,rfl,((V.x zx)).lo (show a+1≤L by omega)⟩;obtain ⟨ay,j,a8⟩:=((f.x (h':=S) (n':=G+1) zx)).ex;have a7:S (3*G+2)=_:=ap;refine zqm (lo:=(a+1)) (mm:=1) rfl rfl rfl rfl rfl rfl rfl rfl ⟨tu rfl,tu rfl⟩ rfl rfl rfl j (yp a7 R2) eU (by rw [sn,rW];omega) rfl rfl ⟨by show n≤_;omega,zo⟩ ?_;intro bz K az P a5 D b3;have a9:=GRW.app j a8 av D P;obtain ⟨a2,a6,_⟩:=P.shape;subst a6;replace a5:Exa (a+1) _ _:=⟨a5⟩;have bt:K (3*n+2)=_:=(D.blk j (zB _) zo).trans zp;have bu:K (3*(n+1)+2)=_:=(D.blk j (zB _) zo).trans zp;have bv:K (3*a+2)=_:=(D.blk j (zB _) zo).trans zp;have bw:K (3*G+2)=_:=(D.blk j (zB _) zo).trans zp;refine zH ?_;refine dS (b:=3*a+2) (off:=1) [gS w B y,gS a2 (gP ((vo p).take i)+1) (gP ((vo p).take i)+1),gS o lo s,gS q lo u] ?_;intro b8 aq am;have ag:=a9.sto am zo;refine zG ?_;exact sK (i+1,a2,(gP ((vo p).take i)+1),(gP ((vo p).take i)+1)) ⟨rfl,zo,zy,aq,((xa (zal O)).symm▸ag),(by show i+1≤gP p.rows;omega)⟩
 refine zG ?_;have ba:i=gP p.rows:=zo;have a1:GRW (a+1) R L (gS aT lT kT) (vo p):=by have hq:=f;rw [pq (by rw [rW];omega)] at hq;exact hq
 refine zG ?_;refine sS [gS w B y,gS aT lT kT,gS o lo s,gS q lo u] ?_;intro b9 bx H;have ah:=(af.x zx).sto H zo;have ai:=(T.x zx).sto H zo;have aj:=(U.x zx).sto H zo;have bi:=f.sto H zo;have ak:=a1.sto H zo;refine zq ?_;exact ⟨_,_,_,_,_,_,_,_,_,_,_,_,rfl,(ah).lo zo,(ak).lo zo,(ai).lo zo,(aj).lo zo⟩
end
section
variable {v:Value}{L lo:Nat}
section
variable {p:LPD}{X:List (List UInt8)}
theorem kG {v:Nat}{d:SideD}{x:Rat}(h:ds[v]?=some d):inBd (loO ds) (hiO ds) v x↔inB x d.lo d.hi:=by
 unfold inBd inB;rw [zko h,zkr h];constructor
 ·rintro ⟨c,f⟩;constructor
  ·by_cases q:d.lo=[]
   ·exact .inl q
   exact .inr (c _ (eS q))
  by_cases q:d.hi=[]
  ·exact .inl q
  exact .inr (f _ (eS q))
 rintro ⟨c,f⟩;constructor
 ·intro l a;split at a
  ·next q=>cases a;exact c.resolve_left q
  cases a
 intro l a;split at a
 ·next q=>cases a;exact f.resolve_left q
 cases a
theorem bJ (m:VLP p)(B:PrO (zC p) (zU p) (p.obj.map zj))(w:gP X=gP p.obj):feaP p X↔Fea (zC p) (zU p) (atR (X.map zj)):=by
 have u:=m.cols;have C:gP (X.map zj)=gP (zC p):=by rw [mu,u];exact w
 have g:∀i (h:i<gP (zU p)),dotR ((zU p)[i]).A ((X.map zj).take ((zU p)[i]).A.length)=smr (gP (zC p)) fun j=>atR (rA (zU p) i) j*atR (X.map zj) j:=fun i h=>by
  have f:=(B.lr _ (Cx h)).2.2.2.1;rw [pq zo,rM zo (gP (zC p)) f,zpn h]
 constructor
 ·rintro ⟨f,s⟩;refine ⟨fun v m=>?_,fun i a=>?_⟩
  ·have c:=kF m;have o:=kF (l:=X.map zj) (i:=v) zo;rw [kG c,wg o];exact f v _ _ c o
  rw [kG (kF a),←g i a];exact s _ (Cx a)
 rintro ⟨f,s⟩;refine ⟨fun v d q c o=>?_,fun d y=>?_⟩
 ·have m:=(nN.1 c).1;have:=f v m;rw [kG c,wg o] at this;exact this
 obtain ⟨i,a,rfl⟩:=EM.1 y;have:=s i a;rw [kG (kF a),←g i a] at this;exact this
theorem lF (c:VLP p)(d:gP X=gP p.obj):valQ p X=smr (gP (zC p)) fun j=>atR (p.obj.map zj) j*atR (X.map zj) j:=by
 have a:=c.cols;unfold valQ;rw [pq (by rw [mu,mu];omega)];exact rM (by rw [mu,mu];omega) _ (by rw [mu,a])
theorem valC (h:v=valV p X):∃(s:List UInt8) (E:Int),v=.tuple #[jy ⟨⟨s⟩⟩,gZ .i64 E]∧(E=0→VLP p∧allN X∧gP X=gP p.obj∧s=ratT (valQ p X)):=by
 subst h;unfold valV;split
 ·next h1=>
  split
  ·next h2=>exact ⟨_,_,rfl,fun _=>⟨h1.1,h1.2,h2,rfl⟩⟩
  exact ⟨_,_,rfl,fun a=>by cases a⟩
 exact ⟨_,_,rfl,fun a=>by cases a⟩
end
def SolO (p:LPD)(n0:Nat)(h:HF)(n:Nat)(oc:Int)(t:List UInt8)(aX:Option Addr)(lX:Nat)(aR:Option Addr)(lR:Nat):Prop:=∃ss bz y s st,SolI p ss bz y s st∧(oc=2∧(∃r low q,Vio (gP (zU p)) (loI p ss bz y) (hiI p ss bz y) st r low q∧∀c,c<gP (zC p)→¬suit (loI p ss bz y) (hiI p ss bz y) (rdOf (gP (zU p)) st r 0 low) c)∨
 oc=3∧lX=gP (zC p)∧lR=gP (zC p)∧(∃e up bX bR,aX=some ⟨bX,0,none⟩∧aR=some ⟨bR,0,none⟩∧Feas (gP (zU p)) (loI p ss bz y) (hiI p ss bz y) st∧Ent (gP (zC p)) (gP (zU p)) (loI p ss bz y) (hiI p ss bz y) st e up∧(∀r ρ,¬cnd (gP (zU p)) (loI p ss bz y) (hiI p ss bz y) st e up r ρ)∧OTN n0 h n bX (fnL (gP (zC p)) fun v=>ratT (st.x v))∧OTN n0 h n bR (fnL (gP (zC p)) fun v=>ratT (rayF st e up (gP (zU p)) v)))∨
 oc=1∧t=ratT (smr (gP (zC p)) fun j=>atR (p.obj.map zj) j*st.x j)∧∀c u,c<gP (zC p)→¬ent (gP (zU p)) (loI p ss bz y) (hiI p ss bz y) st u c)
theorem SolR.sh {p:LPD}{w:Value}(r:SolR p n0 w h n):∃oc t aX lX aR lR a1 l1 a2 l2 e,w=.tuple #[.agg #[gZ .i64 oc,jy ⟨⟨t⟩⟩,gS aX lX lX,gS aR lR lR,gS a1 l1 l1,gS a2 l2 l2],gZ .i64 e]∧(e=1∧¬VLP p∨e=0∧VLP p∧SolO p n0 h n oc t aX lX aR lR):=by
 rcases r with ⟨c,rfl⟩|⟨c,i,f,y,s,j,g,⟨r,m,q,o,u,rfl,d,a,_⟩|⟨e,F,l,A,rfl,d,a,B,C,D⟩|⟨l,o,u,rfl,d,a,_⟩⟩
 ·exact ⟨_,_,_,_,_,_,_,_,_,_,_,rfl,.inl ⟨rfl,c⟩⟩
 ·exact ⟨_,_,_,_,_,_,_,_,_,_,_,rfl,.inr ⟨rfl,c,i,f,y,s,j,g,.inl ⟨rfl,r,m,q,d,a⟩⟩⟩
 ·exact ⟨_,_,_,_,_,_,_,_,_,_,_,rfl,.inr ⟨rfl,c,i,f,y,s,j,g,.inr (.inl ⟨rfl,rfl,rfl,e,F,l,A,rfl,rfl,d,a,B,C,D⟩)⟩⟩
 exact ⟨_,_,_,_,_,_,_,_,_,_,_,rfl,.inr ⟨rfl,c,i,f,y,s,j,g,.inr (.inr ⟨rfl,rfl,a⟩)⟩⟩
theorem OTN.ss {ss:List (List UInt8)}(o:OTN n0 h n b ss)(a:gP ss=L):Sl h n 1 (gS (some ⟨b,0,none⟩) L L) (strs ss):=o.o.sl a.symm eU
theorem GR.txt {a:Option Addr}{ss:List (List UInt8)}(g:GR 1 strP lo h n e (gS a L L) ss):Sl h n 1 (gS a L L) (strs ss):=by
 obtain ⟨C,s,r⟩:=g.rs;exact r.strsE▸s
theorem SLS.one {a:Nat}(f:h b=some (.row [gS a1 l1 a] e))(hb:b<3*n)(d:Sl h n 1 (gS a1 l1 a) (strs S)):SLS h n (gS (some ⟨b,0,none⟩) 1 1) [S]:=
 ⟨_,.at_ hb f rfl eU eU rfl,.cons (c:=[_]) (cs:=[]) rfl ⟨_,_,_,rfl,d⟩ .nil⟩
theorem modX (k:Nat)(h:HF)(n:Nat){x:Int}(hx: -9223372036854775808≤x∧x<9223372036854775808):VF (cal (k+1)) 13 [gZ .i64 x,gZ .i64 1000] h n fun v=>∃r:Nat,r<1000∧v=gZ .i64 (r:Int):=by
 refine zO (fn:=Tryz.f13) R4 ?_;have c:(x.tmod 1000).natAbs<1000:=by rw [Int.natAbs_tmod];exact Nat.mod_lt _ zd
 refine zG ?_;refine st_I (ik:=.i64) (a:=x.tmod 1000) R5 ?_;generalize x.tmod 1000=r at c ⊢;refine zG ?_;by_cases q:r<0
 ·refine zG ?_;refine zf ?_;exact ⟨(r+1000).toNat,zo,by rw [Gh zo];rfl⟩
 refine zG ?_;refine zf ?_;exact ⟨r.toNat,zo,by rw [Gh zo];rfl⟩
theorem zrw (k:Nat)(g:GG h n){x:Nat}(hx:x<100000):VF (cal (k+5)) 26 [gZ .i64 (x:Int)] h n fun v=>v=jy ⟨⟨ratT (x:Rat)⟩⟩:=by
 have a:=oT k g.1 g.2 (x:=(x:Int)) zo;have e:ratT ((x:Nat):Rat)=intT (x:Int):=by
  rw [tj (q:=((x:Nat):Rat)) (by unfold denZ;rfl)];rfl
 rw [←e] at a;exact a
end
section
set_option maxRecDepth 100000
variable {lo:Nat}{p:LPD}{up:Bool}
theorem zin {f:Nat→α}:fnL N f++[f N]=fnL (N+1) f:=by
 unfold fnL;rw [FM,AP];rfl
theorem qu {q:Nat→Rat}:(fnL N fun v=>ratT (q v)).map zj=fnL N q:=by
 unfold fnL;rw [EY];exact A2 fun v _=>yb _
theorem dG {q:Nat→Rat}:allN (fnL N fun v=>ratT (q v)):=fun s b=>by
 obtain ⟨v,_,rfl⟩:=kJ b;exact ⟨_,rfl⟩
theorem zgf {v:Nat}{q:Nat→Rat}(h:v<N):atR (fnL N q) v=q v:=wg (wo h)
section
variable {x:Nat→Rat}{D:Int}
theorem gK (h:Vtx n m a x nV D)(o:∀v,v<n+m→∀j,j<n→(a v j).natAbs≤10^32)(i:1≤n)(l:n≤5){v:Nat}(q:v<n+m):Txt 800 (ratT (x v))∧Sz 800 (x v):=by
 obtain ⟨d,e,f,g,_⟩:=num8 i l;have b:=h.qb (v:=v) zo (o v q);have c:=b.sz d (Af e (by decide +kernel));have s:=zmq b f g zd zd;exact ⟨⟨zo,by rw [yb];exact c⟩,c⟩
end
theorem zpm {ss:List Rat}{g:List (Nat×List Int)}{y:Nat×List Int}{s:Rat}{d:PS}(f:SolI p ss g y s d)(o:PrO (zC p) (zU p) (p.obj.map zj)){e:Nat}(i:e<gP (zC p)){q:Nat}(u:q≤1000):∃x D,Vtx (gP (zC p)) (gP (zU p)) (aF (gP (zC p)) (zI (g++[y]))) x nV D∧∀v,v<gP (zC p)→x v=d.x v+(q:Rat)*rayF d e up (gP (zU p)) v:=by
 obtain ⟨D,l⟩:=zmp f.I (fixI f.c o).b i (up:=up) (q:=q) (N':=nV) (by
  refine Aa (o0 _ (show q+1≤1001 by omega)) ?_;decide+kernel)
 refine ⟨_,D,l,fun v w=>?_⟩;rw [qt,zdy f.I.toPB i _ eU];have j:rayV d.toPT e up (gP (zU p)+1) v=rayV d.toPT e up (gP (zU p)) v:=vi (by show v≠d.bs (gP (zU p));rw [f.I.bm];omega);rw [j]
theorem simplexOptimum_ok (k:Nat){n:Nat}(g:GG h n)(io:Sl h n 1 (gS ao lo co) (strs p.obj))(ir:RWS h n (gS ar lr cr) p.rows)(iw:Sl h n 1 (gS aw lw cw) (strs p.lower))(iu:Sl h n 1 (gS au lu cu) (strs p.upper))(ix:Sl h n 1 (gS ax lx cx) (strs S)){t0:Int}(ht: -9223372036854775808≤t0∧t0<9223372036854775808):VF (cal (k+17)) 5 [.agg #[gS ao lo co,gS ar lr cr,gS aw lw cw,gS au lu cu],gS ax lx cx,gZ .i64 t0] h n fun v=>v=jx true:=by
 have fh:=z8 io;have fk:=ir.len;have fm:=z8 iw;have fl:=z8 iu;have fo:=z8 ix;refine zO (fn:=Tryz.f5) R4 ?_;refine zG ?_;refine sB [gS ao lo co,gS ar lr cr,gS aw lw cw,gS au lu cu] ?_;intro ew e6 ef;refine zG ?_;refine sC ((zdg _ (io.x zx) (ir.x zx) (iw.x zx) (iu.x zx)).cx) ?_;rintro _ ey fp ⟨dn,rfl,Z⟩ g3 eg;cases dn
 ·refine zG ?_;refine sC ((wz _ (g.x zx)).cx) ?_;rintro _ ez fq rfl g4 g1;refine zf ?_;exact rfl
 have Z:=Z rfl;have fb:=Z.n1;have fc:=Z.n2;have fd:=Z.n3;have fe:=Z.n4;refine zG ?_;refine wE [gS ax lx cx] (l:=1) (c:=1) R5 ?_;intro f0 d8 eh;refine sC ((zhm _ (SLS.one d8 zo (ix.x zx)) (by show 1<100000000;omega)).cx) ?_;rintro _ f1 fr ⟨dq,rfl,c6⟩ g5 ei;cases dq
 ·refine zG ?_;refine sC ((wz _ (g.x zx)).cx) ?_;rintro _ f2 fs rfl g6 g2;refine zf ?_;exact rfl
 have c6:=c6 rfl;obtain ⟨f8,dt⟩:=c6 S gN;refine zG ?_;refine sC (zlw _ (io.x zx) (ir.x zx) (iw.x zx) (iu.x zx) Z) ?_;rintro _ f3 d5 ⟨ba,o,c0,bb,c4,c1,b9,c3,bx,bc,c5,c2,rfl,al,bt,bq,bv⟩ el ej;have av:=z8 al.1;refine sS [gS ba o c0,gS bb c4 c1,gS b9 c3 bx,gS bc c5 c2] ?_;intro f4 e7 ah;have bs:=al.sto ah zo;have bu:=bt.sto ah zo;have br:=bq.sto ah zo;have bw:=bv.sto ah zo;refine zG ?_;refine sC (bI _ (ix.x zx) zo (m:=o) zo [48]) ?_;rintro _ C G ⟨eu,ev,rfl,bp⟩ em ek;obtain ⟨X,hX⟩:∃X,X=fitL S o [48]:=⟨_,rfl⟩;rw [←hX] at bp;have e0:gP X=gP p.obj:=by rw [hX,pF];exact av
 have tX:∀s∈X,Txt 40 s:=by rw [hX];exact fun s hs=>zre (tr dt zd s hs)
 have cj:Exo n h C:=⟨(show Tx n h G C from zx).2⟩;have el:n+1+1≤d5:=zo;have en:d5≤G:=em;have e8:C (3*n+2)=_:=(zp:C (3*n+2)=_);have jO:=bs.x (h':=C) (n':=G) zx;have jR:=bu.x (h':=C) (n':=G) zx;have jL:=br.x (h':=C) (n':=G) zx;have jU:=bw.x (h':=C) (n':=G) zx;have cm:GG C G:=g.ext cj.go zo;obtain ⟨P,hP⟩:∃P,P=zoz p:=⟨_,rfl⟩;have hs:SmlP P:=by rw [hP];exact Z.tidy
 have jO:Sl C G 1 (gS ba o c0) (strs P.obj):=by rw [hP];exact jO.ss
 have jR:RWS C G (gS bb c4 c1) P.rows:=by rw [hP];exact jR.rws
 have jL:Sl C G 1 (gS b9 c3 bx) (strs P.lower):=by rw [hP];exact jL.ss
 have jU:Sl C G 1 (gS bc c5 c2) (strs P.upper):=by rw [hP];exact jU.ss
 have dz:gP P.obj=o:=by rw [hP];exact av.symm
 have d2:gP X=gP P.obj:=by rw [e0,dz,av]
 have jX:=bp.ss;clear ef eg eh ei ej ek ah e6 d8 e7 al bt bq bv bs bu br bw bp;refine zG ?_;have d0:=zo6 (k+0) cm jO jR jL jU hs;refine sC d0 ?_;rintro _ az u hR dd b4;obtain ⟨oc,tt,aX,lX,aR,lR,a1,l1,a2,l2,e,rfl,hE⟩:=hR.sh;have b4:Exo G C az:=⟨b4⟩;refine Zi ?_;intro f6 e9 da;refine zG ?_;refine sS [gZ .i64 oc,jy ⟨⟨tt⟩⟩,gS aX lX lX,gS aR lR lR,gS a1 l1 l1,gS a2 l2 l2] ?_;intro a7 c8 d7;have dd:G≤u:=dd;have b5:Exo u az a7:=⟨fun b hb=>(d7.1 b zo).trans (da b hb)⟩;have T:Exo G C a7:=⟨fun b hb=>(b5.go b zo).trans (b4.go b hb)⟩;have ad:a7 (3*n+2)=_:=(T.go _ zo).trans e8;have gX:=jX.ext (n':=u+1) T.go zo;have gO:=jO.ext (n':=u+1) T.go zo;have gR:=jR.ext (n':=u+1) T.go zo;have gL:=jL.ext (n':=u+1) T.go zo;have gU:=jU.ext (n':=u+1) T.go zo;have be:GG a7 (u+1):=cm.ext T.go zo;clear da e9 d7;refine zG ?_;have a3:=zry (k+2) be gO gR gL gU hs.lpb zd gX tX zo zo zd;refine sC (a3.cx.mono fun _ _ _ h=>feaC h) ?_;rintro _ bf ft ⟨bd,dh,rfl,d3⟩ a5 K;have K:Exo (u+1) a7 bf:=⟨K⟩;have cc:bf (3*n+2)=_:=(K.go _ zo).trans ad;have cg:bf (3*u+2)=_:=(K.go _ zo).trans c8;have bo:=zou (k+2) (be.ext K.go a5) (gO.ext K.go a5) (gR.ext K.go a5) (gL.ext K.go a5) (gU.ext K.go a5) hs.lpb zd (gX.ext K.go a5) tX zo zo;refine zG ?_;refine sC (bo.cx.mono fun _ _ _ h=>valC h) ?_;rintro _ J B ⟨fx,di,rfl,d4⟩ ac M;have M:Exo (u+1) a7 J:=⟨fun b hb=>(M b zo).trans (K.go b hb)⟩;have cd:J (3*n+2)=_:=(M.go _ zo).trans ad;have b3:J (3*u+2)=_:=(M.go _ zo).trans c8;have ac:u+1≤B:=zo;have et:Exo n h J:=⟨fun b hb=>(M.go b zo).trans ((T.go b zo).trans (cj.go b hb))⟩;have O:GG J B:=be.ext M.go ac;clear cc cg K a5;rcases hE with ⟨rfl,hv⟩|⟨rfl,hv,hO⟩
 ·refine zG ?_;refine sC ((wz _ O).cx) ?_;rintro _ a8 a9 rfl U R;refine zf ?_;exact rfl
 refine zG ?_;by_cases q23:dh=0
 rotate_left
 ·refine zG ?_;refine sC ((wz _ O).cx) ?_;rintro _ a8 a9 rfl U R;refine zf ?_;exact rfl
 refine zG ?_;by_cases q24:di=0
 rotate_left
 ·refine zG ?_;refine sC ((wz _ O).cx) ?_;rintro _ a8 a9 rfl U R;refine zf ?_;exact rfl
 have F:=zkb hv hs;have n1:=F.n1;have n5:=F.n5;obtain ⟨_,_,_,rfl⟩:=d4 q24;have a3:bd=true→Fea (zC P) (zU P) (atR (X.map zj)):=fun hb=>(bJ hv F d2).1 (d3 hb q23).2.2.2;obtain ⟨ss,bz,y,s,st,Y,⟨rfl,r,fj,q,hV,ag⟩|⟨rfl,fa,f9,e,up,bX,bR,rfl,rfl,hF,bi,ag,oX,oR⟩|⟨rfl,rfl,ag⟩⟩:=hO
 ·cases bd
  ·refine zG ?_;refine sC ((wz _ O).cx) ?_;rintro _ a8 a9 rfl U R;refine zf ?_;exact rfl
  exact (zp9 Y.c F Y.I hV ag (a3 rfl)).elim
 ·have hN:=hv.cols;have eX:lX=o:=zo;have eR:lR=o:=zo;rw [eX,eR] at b3;have b1:=Y.vtx F;obtain ⟨D0,b1⟩:=b1;have af:=(fixI Y.c F).b.aM;have o1:=(oX.ext (n':=B) (show Ext u az J from fun b hb=>(M.go b zo).trans (b5.go b hb)) zo).ss (L:=o) (by rw [yo];omega);have o2:=(oR.ext (n':=B) (show Ext u az J from fun b hb=>(M.go b zo).trans (b5.go b hb)) zo).ss (L:=o) (by rw [yo];omega);have an:=gO.ext (n':=B) M.go ac;have ap:=gR.ext (n':=B) M.go ac;have am:=gL.ext (n':=B) M.go ac;have aq:=gU.ext (n':=B) M.go ac;have cv:=Y.I;have d9:=(fixI Y.c F).szp cv;clear c8 ad b5 T b4 d3 d4 gX gO gR gL gU jO jR jL jU jX a3 d0 hR oX oR;refine zG ?_;refine sC ((modX _ _ _ ht).cx) ?_;rintro _ a8 a9 ⟨r,hr,rfl⟩ U R;refine zG ?_;refine sC ((zrw _ (O.ext R U) (x:=r+1) zo).cx) ?_;rintro _ bg c7 rfl b8 b6;obtain ⟨x,D,hD,hx⟩:=zpm Y F bi.he (up:=up) (q:=r+1) zo;have ck:Exo B J bg:=⟨fun b hb=>(b6 b zo).trans (R b hb)⟩;have b8:B≤c7:=zo;clear R b6;refine zG ?_;refine sF (α:=Nat×Option Addr) (fun z=>[(3,mo (some ⟨3*n+2,0,none⟩)),(7,mo (some ⟨3*u+2,0,none⟩)),(13,gS z.2 z.1 z.1),(14,jy ⟨⟨ratT ((r+1:Nat):Rat)⟩⟩),(15,gZ .i64 (z.1:Int))]) (fun z h' w w'=>w'=[]∧B≤w∧Ext B J h'∧GR 1 strP B h' w 9 (gS z.2 z.1 z.1) (fnL z.1 fun v=>ratT (x v))∧z.1≤o) (fun z=>o-z.1) (0,none) ⟨rfl,b8,ck.go,GR.nil,gH⟩ ?_;rintro ⟨j,aY⟩ t a0 a4 _ ⟨rfl,V,H,gY,hj⟩;have V:B≤a4:=V;replace H:Exo B J a0:=⟨H⟩;have gY:GR 1 strP B a0 a4 9 (gS aY j j) (fnL j fun v=>ratT (x v)):=gY;have hj:j≤o:=hj;have ay:GG a0 a4:=O.ext H.go V;have ce:a0 (3*n+2)=_:=(H.go _ zo).trans cd;have ch:a0 (3*u+2)=_:=(H.go _ zo).trans b3;clear ck;refine zG ?_;by_cases q27:(j:Int)<(o:Int)
  ·refine zG ?_;have bl:j<gP (zC P):=zo;obtain ⟨ff,fv,dr,e3,eb,ed⟩:=vM (o1.ext (n':=a4) H.go V) (wo (f:=fun v=>ratT (st.x v)) bl);obtain ⟨fg,fw,ds,e4,ec,ee⟩:=vM (o2.ext (n':=a4) H.go V) (wo (f:=fun v=>ratT (rayF st e up (gP (zU P)) v)) bl);refine zl [0,0,2,0,14,30,0,0,128,0,896,1920,4032,8190,16382,32767,65535] rfl ?_;refine zH ?_;refine dI dr eb ?_;refine dL ed e3 0 ?_;refine zH ?_;refine dI ds ec ?_;refine dL ee e4 0 ?_;have zk:Sz 10 ((r+1:Nat):Rat):=⟨by show r+1<2^10;omega,by show 1<2^10;decide⟩;have zr:=zdx (m:=gP (zU P)) (c:=e) (up:=up) bi.he cv.toPB.tab.dp d9 (gP (zU P)) eU j;have zx0:=d9.va j zo;have ex:=hx j bl;refine zH ?_;refine dC ((mulR _ ay zk zr zd zd zd).cx) ?_;rintro _ cq d6 rfl cb b7;refine dC ((addR _ (ay.ext b7 cb) zx0 (zk.mul zr) zd zd zd ex.symm (gK hD af n1 n5 zo).2 zd).cx) ?_;rintro _ cs e5 rfl df ca;have dl:Exo a4 a0 cs:=⟨fun b hb=>(ca b zo).trans (b7 b hb)⟩;refine zH ?_;refine dMs [jy ⟨⟨ratT (x j)⟩⟩] ?_;intro ct ea db;have cl:Exo a4 a0 ct:=⟨fun b hb=>(db b zo).trans (dl.go b hb)⟩;refine dGA (n0:=n) (q:=ratT (x j)) [jy ⟨⟨ratT (x j)⟩⟩] (gY.ext strP.kp cl.go zo) strP.kp rfl (yp ea R2) (by rw [yo];omega) zo (fun W hW=>by (repeat (first|rfl|(refine rF rfl ?_)))) ?_;intro g0 f7 dk dg ak es eq dj er;rw [zin (f:=fun v=>ratT (x v))] at ak;obtain ⟨dm,rfl⟩:=ak.shape (L:=j+1) yo;rw [zV (show ∀c∈dk,3*n≤c from fun c hc=>by have:=dg c hc;omega)];refine zJ ?_;exact sK (j+1,dm) ⟨rfl,zo,fun b hb=>(dj b zo (fun hv=>by have:=(gY.bk b hv).1;omega)).trans ((cl.go b zo).trans (H.go b hb)),ak,by show j+1≤_;omega⟩
  obtain rfl:j=o:=zo;have hY:gP (fnL j fun v=>ratT (x v))=gP P.obj:=by rw [yo];omega
  have tY:∀s∈(fnL j fun v=>ratT (x v)),Txt 800 s:=fun s hs=>by
   obtain ⟨v,hv,rfl⟩:=kJ hs;exact (gK hD af n1 n5 zo).1
  have tZ:∀s∈(fnL (gP (zC P)) fun v=>ratT (st.x v)),Txt 800 s:=fun s hs=>by
   obtain ⟨v,hv,rfl⟩:=kJ hs;exact (gK b1 af n1 n5 zo).1
  have d1:=zlu Y.c F Y.I hF bi ag (q:=((r+1:Nat):Rat)) (Rat.natCast_pos.2 zo);have dv:Fea (zC P) (zU P) (atR ((fnL j fun v=>ratT (x v)).map zj)):=d1.1.congr fun v hv=>by
   rw [qu,zgf zo];exact (hx v hv).symm
  have du:=(bJ hv F hY).2 dv;have lj:j=gP (zC P):=zo;have bj:∀l:List Rat,(∀q∈l,NE (10^6) (10^8) q)→gP l≤gP (zC P)→∀i,i≤gP l→Sz 915 (dotR (l.take i) (((fnL j fun v=>ratT (x v)).map zj).take i)):=fun l hl bm i hi=>dc hD af n1 n5 hl bm (by rw [qu,yo];exact lj) (fun v hv=>by rw [qu];exact wo zo) hi;have cy:∀l:List Rat,(∀q∈l,NE (10^6) (10^8) q)→gP l≤gP (zC P)→∀i,i≤gP l→Sz 915 (dotR (l.take i) (((fnL (gP (zC P)) fun v=>ratT (st.x v)).map zj).take i)):=fun l hl bm i hi=>dc b1 af n1 n5 hl bm (by rw [qu,yo]) (fun v hv=>by rw [qu];exact wo hv) hi;have fi:=F.lo.1;refine zG ?_;have a3:=zkx (k+2) ay (an.ext H.go V) (ap.ext H.go V) (am.ext H.go V) (aq.ext H.go V) hs.lpb zd gY.txt tY zo (c:=915) (fun _ hv d hd i hi=>by
   have h1:=F.lr d hd;exact bj d.A h1.2.2.2.2 zo i hi) zd zd
  refine sC (a3.cx.mono fun _ _ _ h=>h.trans (zqh ⟨hv,dG⟩ hY du).symm) ?_;rintro _ bh b2 rfl de aj;have ae:Exo B J bh:=⟨fun b hb=>(aj b zo).trans (H.go b hb)⟩;have cf:bh (3*n+2)=_:=(aj _ zo).trans ce;have ci:bh (3*u+2)=_:=(aj _ zo).trans ch;refine zG ?_;have bo:=gQ (k+2) (ay.ext aj de) (an.ext (n':=b2) ae.go zo) (ap.ext (n':=b2) ae.go zo) (am.ext (n':=b2) ae.go zo) (aq.ext (n':=b2) ae.go zo) hs.lpb zd (gY.txt.ext aj de) tY zo (c:=915) (fun _ i hi=>bj _ F.lo.2 zo i zo) zd;refine sC (bo.cx.mono fun _ _ _ h=>h.trans (zlk ⟨hv,dG⟩ hY).symm) ?_;rintro _ b0 aa rfl g7 c9;have a6:Exo B J b0:=⟨fun b hb=>(c9 b zo).trans (ae.go b hb)⟩;have eo:b0 (3*n+2)=_:=(c9 _ zo).trans cf;have ep:b0 (3*u+2)=_:=(c9 _ zo).trans ci;have cn:GG b0 aa:=O.ext a6.go zo;have hZ:(fnL (gP (zC P)) fun v=>ratT (st.x v)).length=gP P.obj:=by rw [yo];omega
  refine zG ?_;have dw:=gQ (k+2) cn (an.ext (n':=aa) a6.go zo) (ap.ext (n':=aa) a6.go zo) (am.ext (n':=aa) a6.go zo) (aq.ext (n':=aa) a6.go zo) hs.lpb zd (o1.ext (n':=aa) a6.go zo) tZ zo (c:=915) (fun _ i hi=>cy _ F.lo.2 zo i zo) zd;refine sC (dw.cx.mono fun _ _ _ h=>h.trans (zlk ⟨hv,dG⟩ hZ).symm) ?_;rintro _ cq d6 rfl cb b7;have cp:GG cq d6:=cn.ext b7 cb;have vY:=lF hv hY;have vZ:=lF hv hZ;rw [qu] at vY vZ;have bn:valQ P (fnL j fun v=>ratT (x v))<valQ P (fnL (gP (zC P)) fun v=>ratT (st.x v)):=by
   rw [vY,vZ];have e1:(smr (gP (zC P)) fun i=>atR (P.obj.map zj) i*atR (fnL j x) i)=smr (gP (zC P)) fun i=>atR (P.obj.map zj) i*(st.x i+((r+1:Nat):Rat)*rayF st e up (gP (zU P)) i):=yg fun i hi=>by rw [zgf zo,hx i hi]
   have e2:(smr (gP (zC P)) fun i=>atR (P.obj.map zj) i*atR (fnL (gP (zC P)) st.x) i)=smr (gP (zC P)) fun i=>atR (P.obj.map zj) i*st.x i:=yg fun i hi=>by rw [zgf hi]
   rw [e1,e2];exact d1.2
  have zY:Sz 915 (valQ P (fnL j fun v=>ratT (x v))):=by
   have:=bj (P.obj.map zj) F.lo.2 zo _ eU;unfold valQ;rw [xd] at this;exact this
  have zZ:Sz 915 (valQ P (fnL (gP (zC P)) fun v=>ratT (st.x v))):=by
   have:=cy (P.obj.map zj) F.lo.2 zo _ eU;unfold valQ;rw [xd] at this;exact this
  refine zG ?_;refine sC ((cmpR _ cp zY zZ zd zd zd).cx) ?_;rintro _ cs e5 ⟨fz,rfl,ab⟩ df ca;rcases ab with ⟨rfl,ab⟩|⟨rfl,ab⟩|⟨rfl,ab⟩
  ·refine zG ?_;refine sC ((wz _ (cp.ext ca df)).cx) ?_;rintro _ ct fu rfl g8 db;refine zf ?_;exact rfl
  ·rw [ab] at bn;exact eN bn Rat.lt_irrefl
  exact eN (Bc ab) (B7.2 bn)
 cases bd
 ·refine zG ?_;refine sC ((wz _ O).cx) ?_;rintro _ a8 a9 rfl U R;refine zf ?_;exact rfl
 have cz:=zpy Y.c F Y.I ag (a3 rfl);rw [←lF hv d2] at cz;obtain ⟨D,hD⟩:=Y.vtx F;have dx:Sz 915 (smr (gP (zC P)) fun j=>atR (P.obj.map zj) j*st.x j):=by
  have:=zp2 n1 n5 (k:=gP (zC P)) (r:=gP (P.obj.map zj)) eU (by rw [F.lo.1];exact AL _);exact (hD.dot (fixI Y.c F).b.aM F.lo.2 (by rw [F.lo.1];exact AL _) eU).sz this.1 this.2
 have dy:=zll hs.lpb.ob tX zo;refine zG ?_;refine sC ((cmpR _ O dx dy zo zo zo).cx) ?_;rintro _ a8 a9 ⟨fy,rfl,ai⟩ U R;rcases ai with ⟨rfl,ai⟩|⟨rfl,ai⟩|⟨rfl,ai⟩
 ·refine zG ?_;refine sC ((wz _ (O.ext R U)).cx) ?_;rintro _ bg c7 rfl b8 b6;refine zf ?_;exact rfl
 ·refine zG ?_;refine sC ((wz _ (O.ext R U)).cx) ?_;rintro _ bg c7 rfl b8 b6;refine zf ?_;exact rfl
 exact eN cz (B7.2 ai)
end
def upFn (nm:Nat→Nat):Fn→Fn
 | .yield l=>.yield (nm l)
 |f=>f
mutual
def up (nm:Nat→Nat):Value→Value
 | mo (some a)=>mo (some ⟨nm a.block,a.off,a.spot⟩)
 | gS (some a) l c=>gS (some ⟨nm a.block,a.off,a.spot⟩) l c
 | .func f a b=>.func (upFn nm f) (upA nm a) (upA nm b)
 | .agg cs=>.agg (upA nm cs)
 | .tuple cs=>.tuple (upA nm cs)
 |v=>v
def upA (nm:Nat→Nat):Array Value→Array Value
 |⟨l⟩=>⟨upL nm l⟩
def upL (nm:Nat→Nat):List Value→List Value
 |[]=>[]
 |v::r=>up nm v::upL nm r
end
mutual
theorem dl {g:Nat→Nat}(hb:∀b,ρ.b (g b)=b)(hx:∀b,ρ.x (g b)=0)(d:∀b,gro (g b)=false):∀v:Value,conc ρ (up g v)=v
 | mo none=>rfl
 | mo (some a)=>by simp [up,conc,Ren.addr,hb]
 | gS none _ _=>rfl
 | gS (some a) l c=>by
  simp only [up,conc];rw [ρ.adrS_old (d a.block),hx];simp [Ren.addr,hb]
 | .func f a b=>by
  have h1:ρ.fn (upFn g f)=f:=by cases f<;>simp [upFn,Ren.fn,hb]
  simp only [up,conc,h1,pJ hb hx d a,pJ hb hx d b]
 | .agg cs=>by simp only [up,conc,pJ hb hx d cs]
 | .tuple cs=>by simp only [up,conc,pJ hb hx d cs]
 | jx _=>by simp [up,conc]
 | gZ _ _=>by simp [up,conc]
 | .float _ _=>by simp [up,conc]
 | .complex _ _ _=>by simp [up,conc]
 | jy _=>by simp [up,conc]
 | .map _=>by simp [up,conc]
 | .chan _=>by simp [up,conc]
 | .nilFunc=>by simp [up,conc]
 | .nilIface=>by simp [up,conc]
 | .iface _ _=>by simp [up,conc]
theorem pJ {nm:Nat→Nat}(hb:∀b,ρ.b (nm b)=b)(hx:∀b,ρ.x (nm b)=0)(hg:∀b,gro (nm b)=false):∀a:Array Value,nw ρ (upA nm a)=a
 |⟨l⟩=>by simp only [upA,nw,an hb hx hg l]
theorem an {nm:Nat→Nat}(hb:∀b,ρ.b (nm b)=b)(hx:∀b,ρ.x (nm b)=0)(hg:∀b,gro (nm b)=false):∀l:List Value,mg ρ (upL nm l)=l
 |[]=>rfl
 |v::r=>by simp only [upL,mg,dl hb hx hg v,an hb hx hg r]
end
def bdFn:Fn→Nat
 | .yield l=>l+1
 |_=>0
mutual
def bd:Value→Nat
 | mo (some a)=>a.block+1
 | gS (some a) _ _=>a.block+1
 | .func f a b=>bdFn f+bdA a+bdA b
 | .agg cs=>bdA cs
 | .tuple cs=>bdA cs
 |_=>0
def bdA:Array Value→Nat
 |⟨l⟩=>bdL l
def bdL:List Value→Nat
 |[]=>0
 |v::r=>bd v+bdL r
end
theorem zjl (c:Agr m ρ ρ'){a:Addr}(h:a.block<m):ρ'.addr a=ρ.addr a:=by
 unfold Ren.addr;rw [(c _ h).1]
theorem zjk (d:Agr m ρ ρ'){a:Addr}(h:a.block<m){c:Nat}:ρ'.adrS a l c=ρ.adrS a l c:=by
 unfold Ren.adrS Ren.addr;rw [(d _ h).1,(d _ h).2]
mutual
theorem zm0:∀(v:Value) (m:Nat),bd v≤m→Nb m v
 | mo none,m,_=>fun ρ ρ' _=>by simp
 | mo (some a),m,h=>fun ρ ρ' d=>by
  simp only [bd] at h;simp only [conc,zjl d (show a.block<m by omega)]
 | gS none _ _,m,_=>fun ρ ρ' _=>by simp
 | gS (some a) l c,m,h=>fun ρ ρ' d=>by
  simp only [bd] at h;simp only [conc,zjk d (show a.block<m by omega),(d _ (show a.block<m by omega)).2]
 | .func f a b,m,h=>fun ρ ρ' d=>by
  simp only [bd] at h;have h1:ρ'.fn f=ρ.fn f:=by
   cases f<;>simp [Ren.fn];rename_i l;exact (d l (by simp only [bdFn] at h;omega)).1
  simp only [conc,h1,cU a m zo ρ ρ' d,cU b m zo ρ ρ' d]
 | .agg cs,m,h=>fun ρ ρ' d=>by
  simp only [bd] at h;simp only [conc,cU cs m h ρ ρ' d]
 | .tuple cs,m,h=>fun ρ ρ' d=>by
  simp only [bd] at h;simp only [conc,cU cs m h ρ ρ' d]
 | jx _,m,_=>fun ρ ρ' _=>by simp [conc]
 | gZ _ _,m,_=>fun ρ ρ' _=>by simp [conc]
 | .float _ _,m,_=>fun ρ ρ' _=>by simp [conc]
 | .complex _ _ _,m,_=>fun ρ ρ' _=>by simp [conc]
 | jy _,m,_=>fun ρ ρ' _=>by simp [conc]
 | .map _,m,_=>fun ρ ρ' _=>by simp [conc]
 | .chan _,m,_=>fun ρ ρ' _=>by simp [conc]
 | .nilFunc,m,_=>fun ρ ρ' _=>by simp [conc]
 | .nilIface,m,_=>fun ρ ρ' _=>by simp [conc]
 | .iface _ _,m,_=>fun ρ ρ' _=>by simp [conc]
theorem cU:∀(a:Array Value) (m:Nat),bdA a≤m→∀ρ ρ':Ren,Agr m ρ ρ'→nw ρ' a=nw ρ a
 |⟨l⟩,m,h=>fun ρ ρ' ha=>by
  simp only [bdA] at h;simp only [nw,zkh l m h ρ ρ' ha]
theorem zkh:∀(l:List Value) (m:Nat),bdL l≤m→∀ρ ρ':Ren,Agr m ρ ρ'→mg ρ' l=mg ρ l
 |[],m,_=>fun ρ ρ' _=>rfl
 |v::r,m,h=>fun ρ ρ' ha=>by
  simp only [bdL] at h;simp only [mg,zm0 v m zo ρ ρ' ha,zkh r m zo ρ ρ' ha]
end
theorem aK:∀{l:List Value} {v:Value},v∈l→bd v≤bdL l:=by
 intro l;induction l with
 |nil=>intro v c;cases c
 |cons a l ih=>
  intro v c;simp only [bdL];rcases Ad.1 c with rfl|c
  ·omega
  have:=ih c;omega
def uW (W:World)(b:Nat):Option (List Value):=match W.heap[b]? with|some (.cells c _ _)=>some c.toList|_=>none
noncomputable def wh (nm:Nat→Nat)(W:World):Nat→Hp
 |0=>.lf
 |k+1=>match uW W k with|some c=>Tr.put (wh nm W k) (nm k) (some (.ro (c.map (up nm))))|none=>wh nm W k
theorem zcj {d:Nat→Nat}(hi:∀a b,d a=d b→a=b)(W:World):∀k x y,(wh d W k).at x=some y↔∃b,b<k∧x=d b∧∃c,uW W b=some c∧y=.ro (c.map (up d)):=by
 intro k;induction k with
 |zero=>
  intro x y;constructor
  ·intro h;cases h
  rintro ⟨b,g,_⟩;omega
 |succ k ih=>
  intro x y;unfold wh;cases hc:uW W k with
  |none=>
   simp only;rw [ih];constructor
   ·rintro ⟨b,g,h⟩;exact ⟨b,zo,h⟩
   rintro ⟨b,g,rfl,c,f,i⟩;have:b≠k:=fun e=>by rw [e,hc] at f;cases f
   exact ⟨b,zo,rfl,c,f,i⟩
  |some c=>
   simp only;show Tr.get none (Tr.put (wh d W k) (d k) _) x=some y↔_;rw [Tr.get_put none rfl];by_cases hx:x=d k
   ·rw [eS hx];constructor
    ·intro h;injection h with h;exact ⟨k,zo,hx,c,hc,h.symm⟩
    rintro ⟨b,g,e,p,f,i⟩;have j:b=k:=hi _ _ (e.symm.trans hx);rw [j,hc] at f;injection f with f
    rw [i,f]
   rw [eP hx];show (wh d W k).at x=some y↔_;rw [ih];constructor
   ·rintro ⟨b,g,h⟩;exact ⟨b,zo,h⟩
   rintro ⟨b,g,e,h⟩;have:b≠k:=fun o=>hx (by rw [e,o]);exact ⟨b,zo,e,h⟩
def nm (b:Nat):Nat:=if b=1∨b=0∨b=4 then 3*b else 3*b+2
theorem ij (a b:Nat)(h:nm a=nm b):a=b:=by
 unfold nm at h;split at h<;>split at h<;>omega
def ren0:Ren:=⟨fun x=>x/3,fun _=>0,fun _ _=>rfl,fun g=>by simp⟩
theorem oD (b:Nat):ren0.b (nm b)=b:=by
 unfold nm ren0;split<;>simp<;>omega
theorem zrr (h:b<n):nm b<3*n:=by
 unfold nm;split<;>omega
theorem zkf (b:Nat):gro (nm b)=false:=by
 unfold nm gro;split
 ·rw [Nat.mul_mod_right];rfl
 rw [Nat.mul_add_mod];rfl
noncomputable def wH (W:World):Hp:=wh nm W W.heap.size
theorem zos (W:World):Sim rel ren0 (wH W) W:=by
 refine ⟨fun x y h=>?_,fun x o h f e=>?_⟩
 ·obtain ⟨b,j,rfl,c,a,rfl⟩:=(zcj ij W _ _ _).1 h;unfold uW at a;split at a
  ·rename_i c' e fz hW;injection a with a
   subst a;refine ⟨_,by rw [oD];exact hW,e,fz,?_⟩;rw [EY];have:(c'.toList.map (conc ren0 ∘ up nm))=c'.toList:=by
    conv=>rhs;rw [←Eb c'.toList]
    exact A2 fun v _=>dl oD (fun _=>rfl) zkf v
   rw [this]
  cases a
 obtain ⟨y,g⟩:=Aq.1 h;obtain ⟨p,d⟩:=Aq.1 f;obtain ⟨b,_,rfl,_⟩:=(zcj ij W _ _ _).1 g;obtain ⟨i,_,rfl,_⟩:=(zcj ij W _ _ _).1 d;rw [oD,oD] at e;rw [e]
structure Wn (W:World)(n:Nat):Prop where
 sz:W.heap.size≤n
 le:∀(b:Nat) (c:Array Value) (e:TypeId) (fz:Nat×Nat),W.heap[b]?=some (Obj.cells c e fz)→∀v∈c.toList,bd (up nm v)≤3*n
theorem zrb (W:World)(d:List Value):∃n,20≤n∧Wn W n∧HNb (3*n) (wH W)∧∀v∈d,bd v≤3*n:=by
 have s:∀k,∃m,∀b,b<k→∀c,uW W b=some c→bdL (c.map (up nm))≤m:=by
  intro k;induction k with
  |zero=>exact ⟨0,fun b a=>zo⟩
  |succ k ih=>
   obtain ⟨m,g⟩:=ih;cases i:uW W k with
   |none=>exact ⟨m,fun b a c h=>g b (by (have:b≠k:=fun e=>by rw [e,i] at h;cases h);omega) c h⟩
   |some c'=>
    refine ⟨m+bdL (c'.map (up nm)),fun b a c h=>?_⟩;by_cases hbk:b=k
    ·rw [hbk,i] at h;injection h with h;subst h;omega
    have:=g b zo c h;omega
 obtain ⟨m,g⟩:=s W.heap.size;refine ⟨20+W.heap.size+m+bdL d,zo,⟨zo,fun b c e u o v q=>?_⟩,fun x y h=>?_,fun v p=>by have:=aK p;omega⟩
 ·have a:b<W.heap.size:=by
   rcases Bi b W.heap.size with j|j
   ·exact j
   rw [B1 j] at o;cases o
  have w:=g b a c.toList (by unfold uW;rw [o]);have A:=aK (DZ (f:=up nm) q);omega
 obtain ⟨b,a,rfl,c,i,rfl⟩:=(zcj ij W _ _ _).1 h;exact ⟨zrr zo,fun v p=>zm0 v _ (by have:=aK p;have:=g b a c i;omega)⟩
theorem dQ {W:World}{c:Array Value}{fz:Nat×Nat}(h:W.heap[b]?=some (.cells c e fz)):hv (wH W) (nm b)=some (.ro (c.toList.map (up nm))):=by
 have d:b<W.heap.size:=by
  rcases Bi b W.heap.size with a|a
  ·exact a
  rw [B1 a] at h;cases h
 exact znh ((zcj ij W _ _ _).2 ⟨b,d,rfl,_,by unfold uW;rw [h],rfl⟩)
theorem zb3 {W:World}(f:FuncId)(a:List Value)(k:Nat)(s:∀n,20≤n→Wn W n→(∀v∈a.map (up nm),bd v≤3*n)→VF (cal k) f (a.map (up nm)) (hv (wH W)) n fun v=>v=jx true):
  Calls sP f a.toArray W fun e B=>e=.returned (jx true)∧RowKit.Below W.heap.size W B:=by
 obtain ⟨n,I,J,A,i⟩:=zrb W (a.map (up nm));have D:∀v∈a.map (up nm),Nb (3*n) v:=fun v hv=>zm0 v _ (i v hv);obtain ⟨v,P,R,w,y,o,u,p,q⟩:=s n I J i;rw [o,u,p,q] at y;obtain ⟨⟨N,C,M,O⟩,K,L⟩:=(zn7 k).call f (a.map (up nm)) (wH W) n _ y;obtain ⟨o,u,p,q⟩:N=jx true∧hv C=hv (wH W)∧M=n∧O=[]:=by
  simpa [rv] using L
 subst o p q;obtain ⟨_,c⟩:=(zqv k).call _ _ _ _ _ _ _ _ K 0 ren0 W (zos W) A D;have g:((a.map (up nm)).map (conc ren0))=a:=by
  rw [EY]
  conv=>rhs;rw [←Eb a]
  exact A2 fun v _=>dl oD (fun _=>rfl) zkf v
 rw [g] at c;refine (callsIn_wide.1 c).mono fun e B ⟨ρ',G,d⟩=>⟨by rw [G];simp,?_⟩;exact ⟨d.os,d.tape,d.out,d.size,fun j H=>d.fr j H fun b F=>eN F og⟩
end Go.Proofs.YtepkmadmigkgmaaGreatDoor
namespace Go.Proofs.YtepkmadmigkgmaaGreatDoor
open Go Go.GL Go.ChangeShapes Go.WideShapes Go.RowKit
variable {fuel n sz i l:Nat}{cs cells c:List Value}{held:Bool}{H α D:Type}{e t:TypeId}{v:Value}{W:World}{h:HF}
section
set_option maxRecDepth 100000
theorem em {enc:TypeId×Value→H}{P:Program}{w:World}{a:Nat}{f:Nat→Bool}{b:Bool}{k:IntKind}{c:Value}{y:DataW H×List MemPlace}
  (d:P.underlying t=some (.int k))(h:BC enc P w a f b fuel t [c]=some y):∃n,c=gZ k n∧y=(.lit (.int k n),[]):=by
 cases fuel with
 |zero=>simp [BC] at h
 |succ fuel=>
  cases c<;>simp [BC,d] at h;rename_i k' n;obtain ⟨⟨rfl,_⟩,rfl⟩:=h;exact ⟨n,rfl,rfl⟩
theorem jf {enc:TypeId×Value→H}{P:Program}{w:World}{f:Nat}{F:Nat→Bool}{g:Bool}{k:IntKind}{l:List Int}{p:List MemPlace}
  (C:P.underlying t=some (.array n e))(B:P.underlying e=some (.int k))(o:P.cellsOf e=1)(s:P.cellsOf t=n)
  (h:BC enc P w f F g fuel t cs=some (.agg (l.map fun z=>.lit (.int k z)),p)):cs=l.map fun z=>gZ k z:=by
 cases fuel with
 |zero=>simp [BC] at h
 |succ fuel=>
  simp only [BC,C] at h;split at h
  ·rename_i hl;rw [s] at hl;rw [A7] at h;obtain ⟨v,u,a⟩:=h;simp only [Prod.mk.injEq,DataW.agg.injEq] at a;obtain ⟨a,_⟩:=a;have m:=mapM_some_length u;rw [BH] at m;have G:gP l=n:=by
    have:=congrArg gP a;simp at this;omega
   apply BU;intro i;by_cases hi:i<n
   ·have j:=mapM_some_get u i i (by simp [hi]);obtain ⟨y,c⟩:∃y,v[i]?=some y:=⟨v[i]'zo,kF zo⟩;rw [c,o,AH] at j;have A:(cs.drop i).take 1=[cs[i]'zo]:=by
     rw [Bw zo];rfl
    rw [A] at j;obtain ⟨z,D,rfl⟩:=em B j;have b:=congrArg (fun q=>q[i]?) a;simp only [As,c,FH] at b;obtain ⟨z',d⟩:∃z',l[i]?=some z':=⟨l[i]'zo,kF zo⟩;rw [d] at b;simp only [FH,Ei,DataW.lit.injEq,Lit.int.injEq,true_and] at b;rw [kF zo,D,As,d,b];rfl
   rw [Ae zo,Ae (by simp;omega)]
  cases h
theorem zcm {P:Program}{W:World}{b:String}{g:Nat}{cs:Array Value}(c:P.globalNamed b=some g)(a:W.var? P b=some cs):∃e fz,W.heap[g]?=some (.cells cs e fz):=by
 unfold World.var? at a;rw [c] at a;simp only [Option.bind_some] at a;split at a
 ·rename_i cs' e fz h;injection a with a
  subst a;exact ⟨e,fz,h⟩
 cases a
theorem up_u (a:Nat→Nat)(k:IntKind)(l:List Int):(GK.u k l).map (up a)=GK.u k l:=by
 unfold GK.u;rw [EY];exact A2 fun z _=>rfl
def zbd:List (String×DataW Unit):=Rows.simplexScalingRow.laid
def ky (i:Nat):String:=match zbd[i]? with|some x=>x.1|none=> ""
theorem g32:sP.globalNamed (ky 0)=some 4:=by kernel_rfl
theorem g64:sP.globalNamed (ky 1)=some 1:=by kernel_rfl
theorem g10:sP.globalNamed (ky 2)=some 0:=by kernel_rfl
def zid (t:TypeId)(n:Nat)(k:IntKind):Prop:=∃e,sP.underlying t=some (.array n e)∧sP.underlying e=some (.int k)∧sP.cellsOf e=1∧sP.cellsOf t=n
theorem pV {W:World}{a:String}{g t:Nat}{k:IntKind}{l:List Int}{cs:Array Value}{p:List MemPlace}(s:sP.globalNamed a=some g)(b:W.var? sP a=some cs)(j:zid t n k)
  (q:BC (fun _=>()) sP W 0 (fun _=>true) false fuel t cs.toList=some (.agg (l.map fun z=>.lit (.int k z)),p)):hv (wH W) (nm g)=some (.ro (GK.u k l)):=by
 obtain ⟨e,c,d,f,i⟩:=j;have o:=jf c d f i q;obtain ⟨v,w,m⟩:=zcm s b;have:=dQ m;rw [this,o];show some (BF.ro ((GK.u k l).map (up nm)))=_;rw [up_u]
theorem ty32:(sP.globals[4]?).map (·.type)=some 262:=by kernel_rfl
theorem ty64:(sP.globals[1]?).map (·.type)=some 258:=by kernel_rfl
theorem ty10:(sP.globals[0]?).map (·.type)=some 243:=by kernel_rfl
theorem zrg:zid 262 32 .u8:=⟨5,by kernel_rfl,by kernel_rfl,by kernel_rfl,by kernel_rfl⟩
theorem zrf:zid 258 64 .u8:=⟨5,by kernel_rfl,by kernel_rfl,by kernel_rfl,by kernel_rfl⟩
theorem zrh:zid 243 20 .u64:=⟨196,by kernel_rfl,by kernel_rfl,by kernel_rfl,by kernel_rfl⟩
theorem zgv {W:World}(h:laidMet sP zbd W):GK.G (hv (wH W)):=by
 obtain ⟨K,a,_,_⟩:=h;obtain ⟨B,O,s,w,F,L,b,j,o,f,a,_⟩:=a;obtain ⟨C,P,u,y,I,M,c,l,p,g,a,_⟩:=a;obtain ⟨D,R,v,A,J,N,d,m,q,i,_,_⟩:=a;obtain rfl:=Bx (g32.symm.trans b);obtain rfl:=Bx (g64.symm.trans c);obtain rfl:=Bx (g10.symm.trans d);obtain rfl:=Bx (ty32.symm.trans j);obtain rfl:=Bx (ty64.symm.trans l);obtain rfl:=Bx (ty10.symm.trans m);exact ⟨pV c p zrf g,pV d q zrh i,pV b o zrg f⟩
end
section
set_option maxRecDepth 100000
mutual
theorem zje {H:Type}:∀d:DataW H,1≤Rows.uptoBulk d
 | .lit (.string b)=>by simp [Rows.uptoBulk]
 | .lit (.bool b)=>by simp [Rows.uptoBulk]
 | .lit (.int k b)=>by simp [Rows.uptoBulk]
 | .lit (.float k b)=>by simp [Rows.uptoBulk]
 | .lit .nil=>by simp [Rows.uptoBulk]
 | .nil=>by simp [Rows.uptoBulk]
 | .ptr d=>by simp [Rows.uptoBulk]
 | .slice _ _=>by simp [Rows.uptoBulk]
 | .agg _=>by simp [Rows.uptoBulk]
 | .iface _ d=>by simp [Rows.uptoBulk]
 | .map _=>by simp [Rows.uptoBulk]
 | .held _=>by simp [Rows.uptoBulk]
end
theorem dw {H:Type}:∀l:List (DataW H),gP l≤Rows.uptoBulkAll l:=by
 intro l;induction l with
 |nil=>simp
 |cons d l ih=>have:=zje d;simp only [Ao,Rows.uptoBulkAll];omega
theorem nz {H:Type}{d:DataW H}:∀{l:List (DataW H)},d∈l→Rows.uptoBulk d≤Rows.uptoBulkAll l:=by
 intro l;induction l with
 |nil=>intro h;cases h
 |cons e l ih=>
  intro h;simp only [Rows.uptoBulkAll];rcases Ad.1 h with rfl|h
  ·omega
  have:=ih h;omega
theorem zjg {a:Addr}{c:Nat}(h:bd (up nm (gS (some a) l c))≤3*n):nm a.block<3*n:=by
 simp only [up,bd] at h;omega
theorem gD (a:Addr)(i:Nat):(a.add i).block=a.block:=by unfold Cu;split<;>rfl
theorem zgq (a:Addr)(i:Nat):(a.add i).off=a.off+i:=by unfold Cu;split<;>simp_all
theorem gA (a:Addr):a.add 0=a:=by unfold Cu;simp
section
variable {enc:TypeId×Value→H}
theorem mH {d:DataW H}{p:List MemPlace}(hW:Wn W n)(ht:sP.underlying t=some (.slice e))(a3:sP.cellsOf e=sz)(h0:0<sz)(h:BC enc sP W 0 (fun _=>true) held fuel t [v]=some (d,p))(hb:bd (up nm v)≤3*n):
  ∃(a:Option Addr) (l c:Nat) (cells:List Value),v=gS a l c∧Sl (hv (wH W)) n sz (up nm v) (cells.map (up nm))∧gP cells=l*sz∧l≤Rows.uptoBulk d∧(∀x∈cells,bd (up nm x)≤3*n)∧
   ∀i,i<l→∃C D q,BC enc sP W 0 (fun _=>true) held C e ((cells.drop (i*sz)).take sz)=some (D,q)∧Rows.uptoBulk D≤Rows.uptoBulk d:=by
 rcases Go.Deep.open_slice ht h with ⟨hv,T⟩|⟨a,f,V,m,C,D,O,hv,_,N,_,hm,w,M⟩
 ·injection hv with hv
  injection T with T
  subst hv T;exact ⟨none,0,0,[],rfl,.nil (.inl rfl),gN,gH,(fun x w=>by cases w),fun i s=>eN s (AQ i)⟩
 injection hv with hv
 injection w with w _
 subst hv w;have a2:m=V:=by rw [hm];rfl
 subst a2;rw [a3] at M;have I:nm a.block<3*n:=zjg hb;have a1:f≤Rows.uptoBulk (DataW.slice ((AI f).map D) ((AI (m-f)).map fun j=>D (f+j))):=by
  have:=dw ((AI f).map D);rw [mu,BH] at this;simp only [Rows.uptoBulk];omega
 have U:∀i,i<f→Rows.uptoBulk (D i)≤Rows.uptoBulk (DataW.slice ((AI f).map D) ((AI (m-f)).map fun j=>D (f+j))):=fun i s=>by
  have:=nz (d:=D i) (l:=(AI f).map D) (DZ (Dj.2 s));simp only [Rows.uptoBulk];omega
 by_cases hc0:m=0
 ·have a0:f=0:=zo;subst a0;refine ⟨some a,0,m,[],rfl,.nil (.inr ⟨_,_,_,rfl,I⟩),gN,gH,(fun x w=>by cases w),fun i s=>eN s (AQ i)⟩
 have A:∀i,i<m→∃cs,BC enc sP W 0 (fun _=>true) held C e cs=some (D i,O i)∧gP cs=sz∧∀j,j<sz→W.cell? ((a.add (i*sz)).add j)=cs[j]?:=fun i s=>by
  obtain ⟨cs,o,u⟩:=M i s;obtain ⟨_,F,G⟩:=World.cells?_some o;exact ⟨cs,u,F,G⟩
 have S:a.spot=none∧∃c P R,W.heap[a.block]?=some (.cells c P R):=by
  obtain ⟨cs,_,u,o⟩:=A 0 zo;have o:=o 0 h0;rw [Bg,gA,gA,kF zo] at o;unfold Fk at o;split at o
  ·split at o
   ·cases o
   rename_i hs;exact ⟨by simpa using hs,_,_,_,by assumption⟩
  cases o
 obtain ⟨B,c,P,R,y⟩:=S;obtain ⟨b,g,sp⟩:=a;simp only at B y I;subst B;have J:∀i,i<m→∃cs,BC enc sP W 0 (fun _=>true) held C e cs=some (D i,O i)∧gP cs=sz∧∀j,j<sz→c[g+i*sz+j]?=cs[j]?:=fun i s=>by
  obtain ⟨cs,u,G,F⟩:=A i s;refine ⟨cs,u,G,fun j K=>?_⟩;rw [←F j K];have e1:((Cu ⟨b,g,none⟩ (i*sz)).add j).block=b:=by rw [gD,gD]
  have e2:((Cu ⟨b,g,none⟩ (i*sz)).add j).off=g+i*sz+j:=by rw [zgq,zgq]
  have e3:((Cu ⟨b,g,none⟩ (i*sz)).add j).spot=none:=by
   unfold Cu;split
   ·split<;>rfl
   rfl
  unfold Fk;rw [e1,y];simp only [e2,e3];rfl
 have a4:g+m*sz≤c.size:=by
  obtain ⟨cs,_,F,u⟩:=J (m-1) zo;have u:=u (sz-1) zo;rw [kF zo] at u;rcases Bi (g+(m-1)*sz+(sz-1)) c.size with Y|Y
  ·have:(m-1)*sz+sz=m*sz:=by rw [←Bo];congr 1;omega
   omega
  rw [B1 Y] at u;cases u
 have a6:f*sz≤m*sz:=o0 _ N;have L:gP ((c.toList.drop g).take (f*sz))=f*sz:=by
  rw [sn,sa,Array.length_toList];omega
 refine ⟨some ⟨b,g,none⟩,f,m,(c.toList.drop g).take (f*sz),rfl,.at_ I (dQ y) rfl N (by show g+f*sz≤gP (c.toList.map (up nm));simp;omega) (by rw [Dw,List.map_drop]),L,a1,fun x w=>hW.le b c P R y x (Bq (AB w)),fun i s=>?_⟩;obtain ⟨cs,o,F,G⟩:=J i zo;have Z:(((c.toList.drop g).take (f*sz)).drop (i*sz)).take sz=cs:=by
  have a5:i*sz+sz≤f*sz:=by rw [←Bo];exact o0 _ s
  apply BU;intro j;by_cases K:j<sz
  ·rw [BA K,BY,BA zo,BY,Array.getElem?_toList,←G j K,Nat.add_assoc]
  rw [Ae (by rw [sn,sa,L];omega),Ae zo]
 exact ⟨C,D i,O i,by rw [Z];exact o,U i s⟩
theorem zlc {g:α→List Value}{Q:α→Prop}:∀{l:Nat} {cells:List Value},gP cells=l*sz→(∀i,i<l→∃x,(cells.drop (i*sz)).take sz=g x∧Q x)→∃b:List α,gP b=l∧cells=b.flatMap g∧∀x∈b,Q x:=by
 intro l;induction l with
 |zero=>intro cells d _;exact ⟨[],rfl,List.length_eq_zero_iff.1 (by rw [d,Bg]),fun x c=>by cases c⟩
 |succ l ih=>
  intro cells d h;obtain ⟨x,c,f⟩:=h 0 zo;rw [Bg,Av] at c;obtain ⟨b,j,m,o⟩:=ih (cells:=cells.drop sz) (by rw [sa,d,Bo];omega) (fun i p=>by
   obtain ⟨y,a,f⟩:=h (i+1) zo;exact ⟨y,by rw [List.drop_drop,←a,Bo,Nat.add_comm],f⟩)
  refine ⟨x::b,by rw [Ao,j],?_,fun y a=>?_⟩
  ·rw [El,←c,←m,List.take_append_drop]
  rcases Ad.1 a with rfl|a
  ·exact f
  exact o y a
theorem lM {c:Value}{y:DataW H×List MemPlace}(a:sP.underlying t=some .string)(h:BC enc sP W 0 (fun _=>true) held fuel t [c]=some y):∃s:List UInt8,c=jy ⟨⟨s⟩⟩:=by
 cases fuel with
 |zero=>simp [BC] at h
 |succ fuel=>
  cases c<;>simp [BC,a] at h;rename_i s;exact ⟨s.data.toList,rfl⟩
theorem zh0 (a:gP cells=l*1)(hi:i<l):∃v,(cells.drop (i*1)).take 1=[v]:=by
 rw [AH] at a ⊢;exact ⟨cells[i]'zo,by rw [Bw zo];rfl⟩
theorem uL {d:DataW H}{p:List MemPlace}(B:Wn W n)(F:sP.underlying t=some (.slice e))(C:sP.underlying e=some .string)(o:sP.cellsOf e=1)(h:BC enc sP W 0 (fun _=>true) held fuel t [v]=some (d,p))(hb:bd (up nm v)≤3*n):
  ∃S:List (List UInt8),Sl (hv (wH W)) n 1 (up nm v) (strs S)∧gP S≤Rows.uptoBulk d:=by
 obtain ⟨a,l,c,cells,rfl,u,b,I,_,w⟩:=mH B F o zd h hb;obtain ⟨L,y,f,A⟩:=zlc (g:=fun s:List UInt8=>[jy ⟨⟨s⟩⟩]) (Q:=fun _=>True) b (fun i m=>by
  obtain ⟨v,hv⟩:=zh0 b m;obtain ⟨G,D,q,j,_⟩:=w i m;rw [hv] at j ⊢;obtain ⟨z,rfl⟩:=lM C j;exact ⟨z,rfl,eT⟩)
 refine ⟨L,?_,zo⟩;have:cells.map (up nm)=strs L:=by
  rw [f];clear A f y;induction L with
  |nil=>rfl
  |cons z L ih=>rw [El,AP,ih];rfl
 rw [←this];exact u
noncomputable def parts (t:TypeId):Option (List (TypeId×Nat)):=match sP.underlying t with|some (.struct fs)=>some (fs.toList.map fun f=>(f.type,f.offset))|_=>none
theorem pW {L:List (TypeId×Nat)}{d:DataW H}{p:List MemPlace}(a:parts t=some L)(h:BC enc sP W 0 (fun _=>true) held fuel t cs=some (d,p)):
  (gP cs)=sP.cellsOf t∧∃fu b,d=.agg b∧∀(i:Nat) (f:TypeId×Nat),L[i]?=some f→∃D q,BC enc sP W 0 (fun _=>true) held fu f.1 ((cs.drop f.2).take (sP.cellsOf f.1))=some (D,q)∧D∈b:=by
 cases fuel with
 |zero=>simp [BC] at h
 |succ fuel=>
  unfold parts at a;split at a
  ·rename_i fs hfs;injection a with a
   simp only [BC,hfs] at h;split at h
   ·rename_i hl;refine ⟨hl,?_⟩;rw [A7] at h;obtain ⟨b,w,o⟩:=h;injection o with o _
    refine ⟨fuel,b.map (·.1),o.symm,fun i f u=>?_⟩;subst a;rw [As,A7] at u;obtain ⟨g,m,rfl⟩:=u;have A:=mapM_some_length w;have B:i<gP fs.toList:=by
     rcases Bi i (gP fs.toList) with j|j
     ·exact j
     rw [Ae j] at m;cases m
    have s:=mapM_some_get w i g m;obtain ⟨y,c⟩:∃y,b[i]?=some y:=⟨b[i]'zo,kF zo⟩;rw [c] at s;exact ⟨y.1,y.2,s,DZ (mp c)⟩
   cases h
  cases a
theorem zod {a:List (DataW H)}{D:DataW H}(h:D∈a):Rows.uptoBulk D≤Rows.uptoBulk (.agg a):=by
 have:=nz h;simp only [Rows.uptoBulk];omega
end
end
section
set_option maxRecDepth 100000
theorem zrt {l:List α}(h:gP l=4):∃a b c d,l=[a,b,c,d]:=by
 match l,h with
 |[a,b,c,d],_=>exact ⟨a,b,c,d,rfl⟩
theorem zru {l:List α}(h:gP l=3):∃a b c,l=[a,b,c]:=by
 match l,h with
 |[a,b,c],_=>exact ⟨a,b,c,rfl⟩
theorem gV:sP.underlying 9=some .string:=by kernel_rfl
theorem dV:sP.underlying 22=some (.slice 9):=by kernel_rfl
theorem zox:sP.underlying 23=some (.slice 39):=by kernel_rfl
theorem zb6:sP.cellsOf 9=1:=by kernel_rfl
theorem zld:sP.cellsOf 22=1:=by kernel_rfl
theorem zqw:sP.cellsOf 23=1:=by kernel_rfl
theorem zqx:sP.cellsOf 39=3:=by kernel_rfl
theorem c_lp:sP.cellsOf 25=4:=by kernel_rfl
theorem zro:parts 39=some [(22,0),(9,1),(9,2)]:=by kernel_rfl
theorem p_lp:parts 25=some [(22,0),(23,1),(22,2),(22,3)]:=by kernel_rfl
theorem Sl.sh (s:Sl h n sz v c):∃a l k,v=gS a l k:=by
 cases s with
 |nil ha=>exact ⟨_,_,_,rfl⟩
 |at_ hb hx hc hcap hl he=>exact ⟨_,_,_,rfl⟩
theorem Rec.flat {P:List Value→D→Prop}{g:D→List Value}:∀{l:List D},(∀x∈l,gP (g x)=sz∧P (g x) x)→Rec sz P (l.flatMap g) l:=by
 intro l;induction l with
 |nil=>intro _;exact .nil
 |cons x l ih=>
  intro h;rw [El];exact .cons (h x AR).1 (h x AR).2 (ih fun y a=>h y (List.mem_cons_of_mem _ a))
theorem Rec.map {E:Type}{P:List Value→D→Prop}{a:List Value→E→Prop}{f:D→E}{l:List D}(r:Rec sz P cs l)(h:∀c d,P c d→a c (f d)):Rec sz a cs (l.map f):=by
 induction r with
 |nil=>exact .nil
 |cons hl hp hr ih=>exact .cons hl (h _ _ hp) ih
section
variable {enc:TypeId×Value→H}
theorem zdp {d:DataW H}{p:List MemPlace}(G:Wn W n)(h:BC enc sP W 0 (fun _=>true) held fuel 23 [v]=some (d,p))(hb:bd (up nm v)≤3*n):
  ∃rs,RWS (hv (wH W)) n (up nm v) rs∧gP rs≤Rows.uptoBulk d∧∀r∈rs,gP r.A≤Rows.uptoBulk d:=by
 obtain ⟨a,l,c,b,rfl,K,M,h3,N,O⟩:=mH G zox zqx zd h hb;obtain ⟨L,R,C,m⟩:=zlc (α:=RowD×Value) (g:=fun x=>[x.2,jy ⟨⟨x.1.lo⟩⟩,jy ⟨⟨x.1.hi⟩⟩]) (Q:=fun x=>Sl (hv (wH W)) n 1 (up nm x.2) (strs x.1.A)∧gP x.1.A≤Rows.uptoBulk d) M (fun i U=>by
  obtain ⟨fu,D,q,F,a1⟩:=O i U;have j:∀x∈(b.drop (i*3)).take 3,bd (up nm x)≤3*n:=fun x f=>N x (Bq (AB f));generalize (b.drop (i*3)).take 3=cs at F j ⊢;obtain ⟨I,a0,xs,rfl,f⟩:=pW zro F;rw [zqx] at I;obtain ⟨u,c1,c2,rfl⟩:=zru I;obtain ⟨D0,_,w,Y⟩:=f 0 _ rfl;obtain ⟨_,_,y,_⟩:=f 1 _ rfl;obtain ⟨_,_,B,_⟩:=f 2 _ rfl;simp only [zld,zb6] at w y B;have b0:=zod Y;obtain ⟨S,Z,s2⟩:=uL G dV gV zb6 w (j u gN);obtain ⟨s,rfl⟩:=lM gV y;obtain ⟨t,rfl⟩:=lM gV B;exact ⟨(⟨S,s,t⟩,u),rfl,Z,by show gP S≤_;omega⟩)
 refine ⟨L.map (·.1),⟨b.map (up nm),K,?_⟩,by rw [mu];omega,fun r V=>?_⟩
 ·have e:b.map (up nm)=L.flatMap fun x=>[up nm x.2,jy ⟨⟨x.1.lo⟩⟩,jy ⟨⟨x.1.hi⟩⟩]:=by
   rw [C];clear m C R;induction L with
   |nil=>rfl
   |cons z L ih=>rw [El,AP,ih];rfl
  rw [e];refine (Rec.flat (sz:=3) (P:=fun c (x:RowD×Value)=>rowP c x.1 (hv (wH W)) n) fun x f=>⟨rfl,?_⟩).map fun c d T=>T;obtain ⟨o,_⟩:=m x f;obtain ⟨a2,l2,k2,J⟩:=o.sh;rw [J] at o ⊢;exact ⟨_,_,_,rfl,o⟩
 obtain ⟨x,f,rfl⟩:=AZ.1 V;exact (m x f).2
theorem zm6 {d:DataW H}{p:List MemPlace}(u:Wn W n)(U:∃cs,v=.agg cs)(h:DataW.Trod enc sP W 0 (fun _=>true) held 25 v d p)(hb:bd (up nm v)≤3*n):
  ∃(ao:Option Addr) (lo co:Nat) (ar:Option Addr) (lr cr:Nat) (aw:Option Addr) (lw cw:Nat) (au:Option Addr) (lu cu:Nat) (q:LPD),up nm v=.agg #[gS ao lo co,gS ar lr cr,gS aw lw cw,gS au lu cu]∧Sl (hv (wH W)) n 1 (gS ao lo co) (strs q.obj)∧RWS (hv (wH W)) n (gS ar lr cr) q.rows∧Sl (hv (wH W)) n 1 (gS aw lw cw) (strs q.lower)∧Sl (hv (wH W)) n 1 (gS au lu cu) (strs q.upper):=by
 obtain ⟨cs,rfl⟩:=U;obtain ⟨fuel,h⟩:=h;obtain ⟨S,fu,xs,rfl,a⟩:=pW p_lp h;rw [c_lp] at S;obtain ⟨g,i,j,l,o⟩:=zrt S;have F:cs=#[g,i,j,l]:=by
  cases cs;simp [Value.cells] at o;simp [o]
 subst F;have b:∀x∈[g,i,j,l],bd (up nm x)≤3*n:=fun x a=>by
  have:=aK (DZ (f:=up nm) a);have e:bd (up nm (.agg #[g,i,j,l]))=bdL ([g,i,j,l].map (up nm)):=rfl;omega
 rw [o] at a;obtain ⟨Y,_,M,m0⟩:=a 0 _ rfl;obtain ⟨Z,_,N,m1⟩:=a 1 _ rfl;obtain ⟨D2,_,P,m2⟩:=a 2 _ rfl;obtain ⟨D3,_,R,m3⟩:=a 3 _ rfl;simp only [zld,zqw] at M N P R;obtain ⟨O,w,_⟩:=uL u dV gV zb6 M (b g gN);obtain ⟨V,T,_⟩:=zdp u N (b i gN);obtain ⟨A,y,_⟩:=uL u dV gV zb6 P (b j gN);obtain ⟨B,C,_⟩:=uL u dV gV zb6 R (b l gN);obtain ⟨_,_,_,I⟩:=w.sh;obtain ⟨s,m,G⟩:=T;obtain ⟨_,_,_,J⟩:=m.sh;obtain ⟨_,_,_,K⟩:=y.sh;obtain ⟨_,_,_,L⟩:=C.sh;rw [I] at w;rw [J] at m;rw [K] at y;rw [L] at C;refine ⟨_,_,_,_,_,_,_,_,_,_,_,_,⟨O,V,A,B⟩,?_,w,⟨s,m,G⟩,y,C⟩;show Value.agg #[up nm g,up nm i,up nm j,up nm l]=_;rw [I,J,K,L]
end
end
section
set_option maxRecDepth 100000
theorem own:ownKnob sP.godebug=none:=by kernel_rfl
theorem ei:laidOutB sP=true:=by kernel_rfl
def kw (c:Array Value):Obj→Obj
 | .cells _ t frozen=>.cells c t frozen
 |o=>o
noncomputable def iH (os:Os):World:=
 {World.holding sP os ⟨#[],#[],[]⟩ with heap:=(((World.holding sP os ⟨#[],#[],[]⟩).heap.modify 1 (kw GK.d64.toArray)).modify 0 (kw GK.p10.toArray)).modify 4 (kw GK.d32.toArray)}
theorem kx (os:Os)(a:Array Value):laidMet sP zbd ((iH os).forCall (fun _ _=>0) ⟨#[],a,[]⟩).memory:=
 laidMet_of_run' 8 (by kernel_rfl) (by kernel_rfl)
end
end Go.Proofs.YtepkmadmigkgmaaGreatDoor
