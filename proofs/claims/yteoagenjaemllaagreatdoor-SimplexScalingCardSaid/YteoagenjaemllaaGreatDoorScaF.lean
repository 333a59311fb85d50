import Derived.Below
import Derived.Test.YteoagenjaemllaaGreatDoorRows
import Derived.ChangeSame
import Derived.ChangeVars
import Derived.ChangeSlices
import Derived.JoinedOf
import Derived.RowKit
import Derived.RowKitTokens
import Derived.LaidLaws
import Derived.Carry
import Derived.Handed
import Derived.Deep.Slices
import Derived.Test.YteoagenjaemllaaGreatDoorTie
import Derived.Test.YteoagenjaemllaaGreatDoorCards
import Derived.Test.YteoagenjaemllaaGreatDoorScaE
open Option renaming some→ξ,none→θ
open Bool renaming true→φ,false→χ
open Go renaming Value→ψ
set_option linter.defProp false
open Array renaming getElem?_eq_none→Fz
open Classical renaming axiomOfChoice→Ge,not_not→Hm
open Go.Addr renaming add→F0
open Go.DataW renaming slice→aq5,trod→Fk
open Go.GL.Ren renaming addr→aj2
open Go.Proofs.Tryz renaming prog→Dv
open Go.Proofs.YteoagenjaemllaaGreatDoor.ExtB renaming refl→F7
open Go.Proofs.YteoagenjaemllaaGreatDoor.GR renaming nil→ad6
open Go.Proofs.YteoagenjaemllaaGreatDoor.IW renaming zero→E9
open Go.Proofs.YteoagenjaemllaaGreatDoor.Lb renaming kp→ac2
open Go.Proofs.YteoagenjaemllaaGreatDoor.RS renaming sub→ao1
open Go.Proofs.YteoagenjaemllaaGreatDoor.Sz renaming zero→ac1
open Go.Proofs.YteoagenjaemllaaGreatDoor.Tr renaming refl→Er,s→FN,trans→HS
open Go.Proofs.YteoagenjaemllaaGreatDoor.bndZ renaming kp→JD
open Go.Proofs.YteoagenjaemllaaGreatDoor.intP renaming kp→FE
open Go.Proofs.YteoagenjaemllaaGreatDoor.natP renaming kp→HI
open Go.Proofs.YteoagenjaemllaaGreatDoor.natS renaming «at»→ah4
open Go.Proofs.YteoagenjaemllaaGreatDoor.ratP renaming kp→Es
open Go.Proofs.YteoagenjaemllaaGreatDoor.strP renaming kp→ac3
open Go.Value renaming bool→CV,int→U,pointer→CZ,slice→Y,string→CY
open Go.World renaming cell?→I7,holding→al3
open Int renaming natAbs_mul→D6,natAbs_natCast→Dk,natAbs_tdiv→Gy,toNat_of_nonneg→J5
open List renaming append_assoc→DH,drop_drop→EH,drop_eq_getElem_cons→EX,drop_zero→DO,ext_getElem?→ER,flatMap_cons→Ib,getElem?_append_left→D7,getElem?_append_right→Dx,getElem?_drop→D9,getElem?_eq_getElem→CW,getElem?_eq_none→Dn,getElem?_eq_some_iff→C4,getElem?_map→Dz,getElem?_range→GV,getElem?_replicate→GZ,getElem?_take→HX,getElem?_take_of_lt→Ek,getElem?_zipWith→FG,getElem_mem→Gm,getElem_zipWith→JW,length→O,length_append→C1,length_cons→DM,length_drop→DN,length_map→Da,length_range→Fa,length_replicate→DI,length_set→DX,length_take→DK,length_zipWith→HL,map_append→EK,map_congr_left→Ey,map_id→HY,map_map→Jw,map_take→Gj,mem_append→Ei,mem_cons→DA,mem_cons_self→EM,mem_iff_getElem→JV,mem_iff_getElem?→FH,mem_map→D2,mem_map_of_mem→HM,mem_of_getElem?→C0,mem_of_mem_drop→FO,mem_of_mem_take→D8,mem_range→G2,mem_singleton→Dc,nodup_nil→IP,not_mem_nil→C6,range→Ea,range_succ→ah1,replicate→C3,replicate_succ'→FQ,take_append_drop→Eb,take_length→Ds,take_of_length_le→C7,zipWith→Eo,zipWith_nil_right→JE
open Nat renaming beq→D5,div_le_self→EL,le_of_ble_eq_true→Dt,le_of_lt→EB,le_refl→Ez,le_succ→Du,le_trans→Dy,lt_irrefl→Hf,lt_of_le_of_lt→Dw,lt_of_lt_of_le→Dm,lt_or_ge→En,mul_le_mul→DG,mul_le_mul_left→Do,mul_le_mul_right→C9,mul_one→D1,not_lt_zero→Ed,pow_le_pow_right→Dd,sub_self→Ec,succ_mul→Ff,zero_add→Dl,zero_mul→Ep
open Option renaming isSome_iff_exists→DL,map_eq_some_iff→Ev,map_some→ah2
open Option.some renaming inj→El,injEq→H5
open Rat renaming divInt→DT,divInt_eq_div→ES,div_mul_cancel→Fj,intCast_mul→D4,intCast_natCast→EG,le_of_lt→Ft,le_refl→Hy,mul_comm→FL,mul_one→HA,mul_pos→Fe,neg_num→GH,not_le→F6,zero_add→ab3,zero_mul→FK
set_option maxHeartbeats 8000000
set_option linter.unusedVariables false
set_option linter.unusedSimpArgs false
namespace Go.Proofs.YteoagenjaemllaaGreatDoor
open Go Go.GL
variable {n m j b l cap n' bs n0 co cr cu cw lr lu lw c N V k len Z1 a B T D M Mo BB bt P lo' off Bl N' f:Nat}{h h':HF}{ops r:List Oper}{ms w L:List Nat}{al ld:List (Nat×Nat)}{ef:List (Nat×HF×List Nat)}{d d0:Sol}{X:CtxF}{t:TF}{Q:SV->Prop}{o:Oper}{ty e ty':TypeId}{ao ar au aw aX:Option Addr}{A:Adr}{ob:List Rat}{bz:List (Nat×List Int)}{α β:Type}{y:Nat×List Int}{z:ψ}{C S:List (List UInt8)}{g:Rat}{ρ' ρ:Ren}{ds:List SideD}{fd:Bool}{ik:IntKind}{σ:Nat->Rat}
variable {s:List UInt8}
structure SN (l:Nat)(h:HF)(n bt:Nat)(d:Sol)(A:Adr):Prop extends SM l h n bt d A where
 dh:∀b,BkOf (Y A.hi (O d.hi) (O d.hi)) b->¬BkOf (Y A.lo (O d.lo) (O d.lo)) b
 db:∀b,BkOf (Y A.nb (O d.nb) (O d.nb)) b->¬BkOf (Y A.ba (O d.ba) (O d.ba)) b
 rl:∀r∈d.ta,3*l<=r.1/\r.1≠bt
 rj:(d.ta.map (·.1)).Nodup
 lb:3*l<=bt
theorem len1{α:Type}(l:List α)(x:α):O (l++[x])=O l+1:=by rw[C1];rfl
section
variable {b:Bool}{a:Option Addr}{u:Nat}
def SN.ext(s:SN l h n bs d A)(x:Ko n h h')(e:n<=n'):SN l h' n' bs d A:=⟨s.toSM.ext x e,s.dh,s.db,s.rl,s.rj,s.lb⟩
def SM.rwk(s:SM l h n bs d A){v:ψ}{e:TypeId}{D:Type}{sz:Nat}{P:List ψ->D->HF->Nat->Prop}{i:List D}(g:GR sz P l h n e v i)(T:Tr n h n' h')(K:∀c,c<3*n->c≠bs->¬BkOf v c->h' c=h c)(j:∀r∈d.ta,r.1≠bs):∀r∈d.ta,OZ h' n' r.1 r.2/\gro r.1=χ:=
 λr f=>⟨(s.rw r f).1.go FE T (K _ (s.rw r f).1.1 (j r f) (g.nbk (s.rw r f).2)),(s.rw r f).2⟩
def SN.aNb(s:SN l h n bs d A){x:Nat}(T:Tr n h n' h')(K:∀c,c<3*n->c≠bs->¬BkOf (Y A.nb (O d.nb) (O d.nb)) c->h' c=h c)(g:GR 1 natP l h' n' 3 (Y aX (O d.nb+1) (O d.nb+1)) (d.nb++[x]))(F:∀b,BkOf (Y aX (O d.nb+1) (O d.nb+1)) b->3*n<=b)
  (p:h' bs=ξ (.row [U .i64 (d.n:Int),Y A.sc (O d.sc) (O d.sc),Y A.lo (O d.lo) (O d.lo),Y A.hi (O d.hi) (O d.hi),Y A.va (O d.va) (O d.va),Y A.ba (O d.ba) (O d.ba),Y aX (O d.nb+1) (O d.nb+1),Y A.ta (O d.ta) (O d.ta),CV b,Y a u c] ty))(i:IW h' n' b a u c d.den):SN l h' n' bs {d with nb:=d.nb++[x]} {A with nb:=aX}:=by have e:=len1 d.nb x;have f:=s.bs.2;refine⟨⟨⟨b,a,u,c,ty,?_,i⟩,⟨Au,f⟩,s.sc.kb Es T f K (s.sc.ne s.nb zd),s.lo.kb JD T f K (s.lo.ne s.nb zd),s.hi.kb JD T f K (s.hi.ne s.nb zd),s.va.kb Es T f K (s.va.ne s.nb zd),s.ba.kb HI T f K (λb m j=>s.db b j m),?_,s.ta.kb ac2 T f K (s.ta.ne s.nb zd),s.rwk s.nb T K λr o=>(s.rl r o).2,s.dj⟩,s.dh,?_,s.rl,s.rj,s.lb⟩;show h' bs=ξ (.row [_,_,_,_,_,_,Y aX (O (d.nb++[x])) (O (d.nb++[x])),_,_,_] ty);rw[e];exact p;show GR _ _ _ _ _ _ (Y aX (O (d.nb++[x])) (O (d.nb++[x]))) _;rw[e];exact g;show ∀b,BkOf (Y aX (O (d.nb++[x])) (O (d.nb++[x]))) b->¬BkOf (Y A.ba (O d.ba) (O d.ba)) b;rw[e];intro b m j;have:=F b m;have:=(s.ba.bk b j).2.1;omega
def SN.aBa(s:SN l h n bs d A){x:Nat}(T:Tr n h n' h')(K:∀c,c<3*n->c≠bs->¬BkOf (Y A.ba (O d.ba) (O d.ba)) c->h' c=h c)(g:GR 1 natP l h' n' 3 (Y aX (O d.ba+1) (O d.ba+1)) (d.ba++[x]))(F:∀b,BkOf (Y aX (O d.ba+1) (O d.ba+1)) b->3*n<=b)
  (p:h' bs=ξ (.row [U .i64 (d.n:Int),Y A.sc (O d.sc) (O d.sc),Y A.lo (O d.lo) (O d.lo),Y A.hi (O d.hi) (O d.hi),Y A.va (O d.va) (O d.va),Y aX (O d.ba+1) (O d.ba+1),Y A.nb (O d.nb) (O d.nb),Y A.ta (O d.ta) (O d.ta),CV b,Y a u c] ty))(i:IW h' n' b a u c d.den):SN l h' n' bs {d with ba:=d.ba++[x]} {A with ba:=aX}:=by have e:=len1 d.ba x;have f:=s.bs.2;refine⟨⟨⟨b,a,u,c,ty,?_,i⟩,⟨Au,f⟩,s.sc.kb Es T f K (s.sc.ne s.ba zd),s.lo.kb JD T f K (s.lo.ne s.ba zd),s.hi.kb JD T f K (s.hi.ne s.ba zd),s.va.kb Es T f K (s.va.ne s.ba zd),?_,s.nb.kb HI T f K s.db,s.ta.kb ac2 T f K (s.ta.ne s.ba zd),s.rwk s.ba T K λr o=>(s.rl r o).2,s.dj⟩,s.dh,?_,s.rl,s.rj,s.lb⟩;show h' bs=ξ (.row [_,_,_,_,_,Y aX (O (d.ba++[x])) (O (d.ba++[x])),_,_,_,_] ty);rw[e];exact p;show GR _ _ _ _ _ _ (Y aX (O (d.ba++[x])) (O (d.ba++[x]))) _;rw[e];exact g;show ∀b,BkOf (Y A.nb (O d.nb) (O d.nb)) b->¬BkOf (Y aX (O (d.ba++[x])) (O (d.ba++[x]))) b;rw[e];intro b j m;have:=F b m;have:=(s.nb.bk b j).2.1;omega
def SN.aVa(s:SN l h n bs d A){x:Rat}(T:Tr n h n' h')(K:∀c,c<3*n->c≠bs->¬BkOf (Y A.va (O d.va) (O d.va)) c->h' c=h c)(g:GR 4 ratP l h' n' 81 (Y aX (O d.va+1) (O d.va+1)) (d.va++[x]))(F:∀b,BkOf (Y aX (O d.va+1) (O d.va+1)) b->3*n<=b)
  (p:h' bs=ξ (.row [U .i64 (d.n:Int),Y A.sc (O d.sc) (O d.sc),Y A.lo (O d.lo) (O d.lo),Y A.hi (O d.hi) (O d.hi),Y aX (O d.va+1) (O d.va+1),Y A.ba (O d.ba) (O d.ba),Y A.nb (O d.nb) (O d.nb),Y A.ta (O d.ta) (O d.ta),CV b,Y a u c] ty))(i:IW h' n' b a u c d.den):SN l h' n' bs {d with va:=d.va++[x]} {A with va:=aX}:=by have e:=len1 d.va x;have f:=s.bs.2;refine⟨⟨⟨b,a,u,c,ty,?_,i⟩,⟨Au,f⟩,s.sc.kb Es T f K (λb m j=>s.dj b j m),s.lo.kb JD T f K (s.lo.ne s.va zd),s.hi.kb JD T f K (s.hi.ne s.va zd),?_,s.ba.kb HI T f K (s.ba.ne s.va zd),s.nb.kb HI T f K (s.nb.ne s.va zd),s.ta.kb ac2 T f K (s.ta.ne s.va zd),s.rwk s.va T K λr o=>(s.rl r o).2,?_⟩,s.dh,s.db,s.rl,s.rj,s.lb⟩;show h' bs=ξ (.row [_,_,_,_,Y aX (O (d.va++[x])) (O (d.va++[x])),_,_,_,_,_] ty);rw[e];exact p;show GR _ _ _ _ _ _ (Y aX (O (d.va++[x])) (O (d.va++[x]))) _;rw[e];exact g;show ∀b,BkOf (Y aX (O (d.va++[x])) (O (d.va++[x]))) b->¬BkOf (Y A.sc (O d.sc) (O d.sc)) b;rw[e];intro b m j;have:=F b m;have:=(s.sc.bk b j).2.1;omega
def SN.aTa(s:SN l h n bs d A){x:Nat×List Int}(T:Tr n h n' h')(K:∀c,c<3*n->c≠bs->¬BkOf (Y A.ta (O d.ta) (O d.ta)) c->h' c=h c)(g:GR 1 Lb l h' n' 79 (Y aX (O d.ta+1) (O d.ta+1)) (d.ta++[x]))(o:OZ h' n' x.1 x.2)(m:gro x.1=χ)(hx:x.1≠bs/\3*l<=x.1/\∀r∈d.ta,r.1<x.1)
  (B:h' bs=ξ (.row [U .i64 (d.n:Int),Y A.sc (O d.sc) (O d.sc),Y A.lo (O d.lo) (O d.lo),Y A.hi (O d.hi) (O d.hi),Y A.va (O d.va) (O d.va),Y A.ba (O d.ba) (O d.ba),Y A.nb (O d.nb) (O d.nb),Y aX (O d.ta+1) (O d.ta+1),CV b,Y a u c] ty))(i:IW h' n' b a u c d.den):SN l h' n' bs {d with ta:=d.ta++[x]} {A with ta:=aX}:=by have e:=len1 d.ta x;have j:=s.bs.2;have y:=s.rwk s.ta T K λr f=>(s.rl r f).2;refine⟨⟨⟨b,a,u,c,ty,?_,i⟩,⟨Au,j⟩,s.sc.kb Es T j K (s.sc.ne s.ta zd),s.lo.kb JD T j K (s.lo.ne s.ta zd),s.hi.kb JD T j K (s.hi.ne s.ta zd),s.va.kb Es T j K (s.va.ne s.ta zd),s.ba.kb HI T j K (s.ba.ne s.ta zd),s.nb.kb HI T j K (s.nb.ne s.ta zd),?_,λr f=>?_,s.dj⟩,s.dh,s.db,λr f=>?_,?_,s.lb⟩;show h' bs=ξ (.row [_,_,_,_,_,_,_,Y aX (O (d.ta++[x])) (O (d.ta++[x])),_,_] ty);rw[e];exact B;show GR _ _ _ _ _ _ (Y aX (O (d.ta++[x])) (O (d.ta++[x]))) _;rw[e];exact g;obtain f|f:=Ei.1 f;exact y r f;rw[Dc.1 f];exact⟨o,m⟩;obtain f|f:=Ei.1 f;exact s.rl r f;rw[Dc.1 f];exact⟨hx.2.1,hx.1⟩;show((d.ta++[x]).map (·.1)).Nodup;rw[EK,List.nodup_append];refine⟨s.rj,List.nodup_cons.2 ⟨C6,IP⟩,λp v q w=>?_⟩;obtain⟨r,f,rfl⟩:=D2.1 v;have:=hx.2.2 r f;have C:q=x.1:=Dc.1 w;omega
def TY(k:Nat)(g:GG h n)(s:SN l h n bs d A)(hl:l<=n){m:Nat}(G:O d.sc=m)(Z1:O d.lo=m)(N:O d.hi=m)(hm:m<999999){aA:Option Addr}{lA kA:Nat}{x1 b1 d1 x2 b2 d2 b3 d3:Bool}{Z0 e1 a2 e2 a3 e3:Option Addr}{l1 c1 f1 u1 l2 c2 f2 u2 l3 c3 f3 u3:Nat}{f i r:Rat}(i1:IW h n b1 Z0 l1 c1 f.num)(j1:IW h n d1 e1 f1 u1 (denZ f))(i2:IW h n b2 a2 l2 c2 i.num)(j2:IW h n d2 e2 f2 u2 (denZ i))(i3:IW h n b3 a3 l3 c3 r.num)(j3:IW h n d3 e3 f3 u3 (denZ r)){a b:Nat}(z1:Sz a f)(z2:Sz a i)(z3:Sz b r)(a8:a+b<=2496):
  CF (Kp (k+11)) 54 [ι bs,.agg #[Y aA lA kA,CV x1,CV b1,Y Z0 l1 c1,CV d1,Y e1 f1 u1,CV x2,CV b2,Y a2 l2 c2,CV d2,Y e2 f2 u2],.agg #[CV b3,Y a3 l3 c3,CV d3,Y e3 f3 u3]] h n λ_ h' n' w=>n<=n'/\(∃A',SN l h' n' bs {d with sc:=d.sc++[r],lo:=d.lo++[(x1,f*r)],hi:=d.hi++[(x2,i*r)]} A')/\Tr n h n' h'/\(∀b,b<3*n->b≠bs->gro b=χ->h' b=h b)/\(∀b,b<3*l->h' b=h b)/\(∀c∈w,3*l<=c):=by have⟨b0,a0,u0,c0,ty,st,iD⟩:=s.st;have V:=s.bs.2;have q:=s.sc;have p:=s.lo;have o:=s.hi;have Z4:=s.dh;rw[G,Z1,N]at st;rw[G]at q;rw[Z1]at p Z4;rw[N]at o Z4;refine wc (zof k g st s.bs.1 V hl q p o Z4 G Z1 N hm i1 j1 i2 j2 i3 j3 z1 z2 z3 a8) ?_;rintro _ h' n' w⟨y,H,J,I,p8,a7,a6,a5,a4,F8,T,Z3,aa⟩;have R:∀{D:Type} {sz:Nat} {P:List ψ->D->HF->Nat->Prop} {v:ψ} {e:TypeId} {l':List D},KP sz P->GR sz P l h n e v l'->(∀b,BkOf v b->¬BkOf (Y A.sc m m) b)->(∀b,BkOf v b->¬BkOf (Y A.lo m m) b)->(∀b,BkOf v b->¬BkOf (Y A.hi m m) b)->GR sz P l h' n' e v l':=λkp g W B h3=>g.go kp T λb j=>Z3 b (g.bk b j).2.1 (λe=>by have:=(g.bk b j).2.2.1;rw[e,V]at this;cases this) (W b j) (B b j) (h3 b j);have S:=s.dj;rw[G]at S;have M:=len1 d.sc r;have L:=len1 d.lo (x1,f*r);have K:=len1 d.hi (x2,i*r);rw[G]at M;rw[Z1]at L;rw[N]at K;have kf:∀b,b<3*n->b≠bs->gro b=χ->h' b=h b:=λb j W B=>Z3 b j W (q.nbk B) (p.nbk B) (o.nbk B);refine⟨y,⟨⟨H,J,I,A.va,A.ba,A.nb,A.ta⟩,⟨⟨b0,a0,u0,c0,ty,?_,iD.t T⟩,⟨by have:=s.bs.1;omega,V⟩,?_,?_,?_,R Es s.va S (s.va.ne p zd) (s.va.ne o zd),R HI s.ba (s.ba.ne q zd) (s.ba.ne p zd) (s.ba.ne o zd),R HI s.nb (s.nb.ne q zd) (s.nb.ne p zd) (s.nb.ne o zd),R ac2 s.ta (s.ta.ne q zd) (s.ta.ne p zd) (s.ta.ne o zd),λr C=>⟨(s.rw r C).1.go FE T (kf _ (s.rw r C).1.1 (s.rl r C).2 (s.rw r C).2),(s.rw r C).2⟩,?_⟩,?_,s.db,s.rl,s.rj,s.lb⟩,T,kf,λb j=>Z3 b Z (λe=>by have:=s.lb;omega) (λF=>by have:=(q.bk b F).1;omega) (λF=>by have:=(p.bk b F).1;omega) (λF=>by have:=(o.bk b F).1;omega),λc hc=>by obtain rfl|h:=aa c hc;exact s.lb;exact h⟩;show h' bs=ξ (.row [_,Y H (O (d.sc++[r])) (O (d.sc++[r])),Y J (O (d.lo++[(x1,f*r)])) (O (d.lo++[(x1,f*r)])),Y I (O (d.hi++[(x2,i*r)])) (O (d.hi++[(x2,i*r)])),_,_,_,_,_,_] ty);rw[M,L,K];exact p8;show GR _ _ _ _ _ _ (Y H (O (d.sc++[r])) (O (d.sc++[r]))) _;rw[M];exact a7;show GR _ _ _ _ _ _ (Y J (O (d.lo++[(x1,f*r)])) (O (d.lo++[(x1,f*r)]))) _;rw[L];exact a6;show GR _ _ _ _ _ _ (Y I (O (d.hi++[(x2,i*r)])) (O (d.hi++[(x2,i*r)]))) _;rw[K];exact a5;show ∀b,BkOf (Y A.va (O d.va) (O d.va)) b->¬BkOf (Y H (O (d.sc++[r])) (O (d.sc++[r]))) b;rw[M];intro b j a9;have:=F8 b a9;have:=(s.va.bk b j).2.1;omega;show ∀b,BkOf (Y I (O (d.hi++[(x2,i*r)])) (O (d.hi++[(x2,i*r)]))) b->¬BkOf (Y J (O (d.lo++[(x1,f*r)])) (O (d.lo++[(x1,f*r)]))) b;rw[K,L];exact a4
end
noncomputable def bL(d:SideD)(s:Rat):Bool×Rat:=(decide (d.lo≠[]),zj d.lo*s)
noncomputable def bH(d:SideD)(s:Rat):Bool×Rat:=(decide (d.hi≠[]),zj d.hi*s)
noncomputable def KT(d:SideD):Rat:=if d.lo≠[]then zj d.lo else if d.hi≠[]then zj d.hi else 0
noncomputable def solC(N:Nat)(cs:List SideD):Sol:=⟨N,C3 (O cs) 1,cs.map λd=>bL d 1,cs.map λd=>bH d 1,cs.map KT,[],Ea (O cs),[],1⟩
noncomputable def solR(cs rs:List SideD)(ss:List Rat)(bz:List (Nat×List Int)):Sol:=⟨O cs,C3 (O cs) 1++ss,(cs.map λd=>bL d 1)++Eo bL rs ss,(cs.map λd=>bH d 1)++Eo bH rs ss,cs.map KT++Eo (λr s=>dotR r.A (cs.map KT)*s) rs ss,(Ea (O ss)).map (O cs+ ·),Ea (O cs),bz,1⟩
def zdc{N:Nat}{cs:List SideD}{d:SideD}:solC N (cs++[d])=⟨N,C3 (O cs) 1++[1],(cs.map λd=>bL d 1)++[bL d 1],(cs.map λd=>bH d 1)++[bH d 1],cs.map KT++[KT d],[],Ea (O cs)++[O cs],[],1⟩:=by unfold solC;rw[len1,FQ,ah1,EK,EK,EK];rfl
theorem zda{cs rs:List SideD}:solR cs rs [] []=solC (O cs) cs:=by grind [solR,solC,JE]
theorem s0{α β γ:Type}{f:α->β->γ}:∀{rs:List α} {ss:List β} {r:α} {s:β},rs[O ss]?=ξ r->Eo f rs (ss++[s])=Eo f rs ss++[f r s]
 |[],ss,r,s,h=>by cases h
 |x::rs,[],r,s,h=>by
  injection h with h
  subst h;show f x s::Eo f rs []=_;rw[JE];rfl
 |x::rs,y::ss,r,s,h=>by
  show f x y::Eo f rs (ss++[s])=f x y::(Eo f rs ss++[f r s]);rw[s0 (rs:=rs) (ss:=ss) h]
theorem zdb{cs rs:List SideD}{ss:List Rat}{a:List (Nat×List Int)}{r:SideD}{s:Rat}{z:Nat×List Int}(h:rs[O ss]?=ξ r):solR cs rs (ss++[s]) (a++[z])=⟨O cs,(C3 (O cs) 1++ss)++[s],((cs.map λd=>bL d 1)++Eo bL rs ss)++[bL r s],((cs.map λd=>bH d 1)++Eo bH rs ss)++[bH r s],(cs.map KT++Eo (λr s=>dotR r.A (cs.map KT)*s) rs ss)++[dotR r.A (cs.map KT)*s],(Ea (O ss)).map (O cs+ ·)++[O cs+O ss],Ea (O cs),a++[z],1⟩:=by grind [solR,len1,s0,ah1,DH]
theorem OM{x:Bool}{p:Prop}[Decidable p](v:x=φ↔p):x=decide p:=by grind
def lD{α β γ:Type}{f:α->β->γ}{rs:List α}{ss:List β}(h:O ss<=O rs):O (Eo f rs ss)=O ss:=by rw[HL];omega
def za7(k:Nat){h:HF}{n:Nat}(g:GG h n){ao aR ac:Option Addr}{lo co lR cR lc cc:Nat}{ob:List Rat}{rs cs:List SideD}(io:QS h n (Y ao lo co) ob)(ir:LO h n (Y aR lR cR) rs)(ic:LO h n (Y ac lc cc) cs){a P:Nat}(hc:∀d∈cs,Sz a (zj d.lo)/\Sz a (zj d.hi))(hr:∀d∈rs,Sz a (zj d.lo)/\Sz a (zj d.hi)/\O d.A=O cs/\∀q∈d.A,Sz a q)(hz:∀q∈ob,Sz a q)(gq:O ob=O cs)(h0:0<O cs)(hP:a*O cs+a+1<=P)(jg:O cs*(a+a+2)+a+a+3+P<=2490)(hL:O cs<=900)(hR:O rs<=900):
  CX (Kp (k+13)) 23 [.agg #[Y ao lo co,Y aR lR cR,Y ac lc cc]] h n λw h' n'=>∃u A p M B zs s,w=ι u/\SN n h' n' u {solR cs rs p M with ta:=M++[(B,zs)]} A/\O p=O rs/\O M=O rs/\(∀(i:Nat) r z q,rs[i]?=ξ r->M[i]?=ξ z->p[i]?=ξ q->ScR r.A P z.2 q)/\ScR ob P zs s:=by
 have i3:=io.len;have i0:=ir.len;have i1:=ic.len;subst i3 i0 i1;have ha:a<=P:=Z;refine zw (fn:=Tryz.f23) R4<|zG ?_;refine sB [Y ao (O ob) co,Y aR (O rs) cR,Y ac (O cs) cc] λh1 p1 x1=>?_;refine zG ?_;refine zl [0,1,3,0,15,31,63] rfl<|zH ?_;refine dC (NH _ _ _) ?_;rintro _ h2 n2⟨b2,a2,l2,c2,rfl,i2⟩ y2 x2;refine dT #[U .i64 (O cs:Int),η,η,η,η,η,η,η,CV b2,Y a2 l2 c2] ?_;refine dB [U .i64 (O cs:Int),η,η,η,η,η,η,η,CV b2,Y a2 l2 c2] λh3 p3 x3=>?_;obtain⟨u,hB⟩:∃B,B=3*n2+2:=⟨_,ω⟩;have gb:gro u=χ:=by rw[hB];exact zB _
 rw[<-hB]at p3⊢;have nn:∀{P:Prop} b,BkOf (η) b->P:=λb hb=>(by have⟨o,l,c,e⟩:=hb;cases e);have s3:SN n h3 (n2+1) u (solC (O cs) (cs.take 0)) ⟨θ,θ,θ,θ,θ,θ,θ⟩:=⟨⟨⟨b2,a2,l2,c2,_,p3,i2.ext x3 Zq⟩,⟨Z,gb⟩,ad6,ad6,ad6,ad6,ad6,ad6,ad6,λr hr=>CO hr C6,λb hb=>nn b hb⟩,λb hb=>nn b hb,λb hb=>nn b hb,λr hr=>CO hr C6,IP,Z⟩;have X3:Exo n h h3:=⟨(show Tx n h (n2+1) h3 from zx).2⟩;have i5:h3 (3*n+2)=_:=(zp:h3 (3*n+2)=_);have y3:n+1<=n2:=y2;refine zJ ?_;refine sF (α:=Nat×Adr) (λz=>[(1,ι (3*n+2)),(3,ι u),(19,Y ac (O cs) cc),(20,U .i64 (O cs:Int)),(21,U .i64 (z.1:Int))]) (λz h' n' w'=>w'=[]/\n2+1<=n'/\Ko n h h'/\h' (3*n+2)=ξ (.row [Y ao (O ob) co,Y aR (O rs) cR,Y ac (O cs) cc] 60)/\SN n h' n' u (solC (O cs) (cs.take z.1)) z.2/\z.1<=O cs) (λz=>O cs-z.1) (0,⟨θ,θ,θ,θ,θ,θ,θ⟩) ⟨ω,CS,X3.go,i5,s3,CT⟩ ?_;rintro⟨j,A⟩ t h4 n4 _ ⟨rfl,y4,X4,p4,s4,hj⟩;have y4:n2+1<=n4:=y4;replace X4:Exo n h h4:=⟨X4⟩;have p4:h4 (3*n+2)=ξ (.row [Y ao (O ob) co,Y aR (O rs) cR,Y ac (O cs) cc] 60):=p4;have s4:SN n h4 n4 u (solC (O cs) (cs.take j)) A:=s4;have hj:j<=O cs:=hj;have g4:GG h4 n4:=g.ext X4.go Z;have b4:O (cs.take j)=j:=by rw[DK];omega
 generalize hcj:cs.take j=cj at*;refine zG ?_;by_cases q4:(j:Int)<(O cs:Int);refine zG ?_;have dm:j<O cs:=Z;obtain⟨d,gd⟩:∃d,cs[j]?=ξ d:=⟨_,CW dm⟩;have⟨zlo,zhi⟩:=hc d (C0 gd);have⟨bb,off,aA,lA,kA,bo,b6,a6,l6,c6,d6,e6,f6,u6,bp,b7,a7,l7,c7,d7,e7,f7,u7,e8,m8,r8,t8,_,v6,i6,j6,v7,i7,j7⟩:=LO.at (ic.ext (n':=n4) X4.go Z) gd;refine sI e8 r8 ?_;refine sL t8 m8 0 ?_;refine sA λh5 p5 x5=>?_;refine zG ?_;refine sS [Y aA lA kA,CV bo,CV b6,Y a6 l6 c6,CV d6,Y e6 f6 u6,CV bp,CV b7,Y a7 l7 c7,CV d7,Y e7 f7 u7] λh6 p6 o6=>?_;refine zG ?_;refine zl [0,0,0,7] rfl<|zH ?_;refine dC (SG _ _ _) ?_;rintro _ h7 n7⟨b9,a9,l9,c9,d9,e9,f9,u9,rfl,i9,j9⟩ y7 x7;have T7:Tr n4 h4 n7 h7:=zt;have k7:∀c,c<3*n4->h7 c=h4 c:=λc hc=>(by have e0:h4 c=h4 c:=rfl;exact zp);have X7:Exo n4 h4 h7:=⟨k7⟩;have jk:n4+1<=n7:=y7;have fi:h7 (3*n4+2)=_:=(x7 _ Z).trans p6;have l1:(solC (O cs) cj).sc.length=j:=by show(C3 (O cj) (1:Rat)).length=j;rw[DI];exact b4
 have l2:(solC (O cs) cj).lo.length=j:=by show(cj.map _).length=j;rw[Da];exact b4
 have l3:(solC (O cs) cj).hi.length=j:=by show(cj.map _).length=j;rw[Da];exact b4
 have az:=TY (k+1) (g4.t T7) (s4.ext X7.go Z) (show n<=n7 from Z) l1 l2 l3 Z (aA:=aA) (lA:=lA) (kA:=kA) (x1:=bo) (x2:=bp) (i6.t T7) (j6.t T7) (i7.t T7) (j7.t T7) i9 j9 zlo zhi (b:=1) (show Sz 1 (1:Rat)from⟨by decide,by decide⟩) Z;refine wa _ R7 az ?_;rintro _ h8 J w8⟨y8,⟨A8,s8⟩,T8,k8,L8,f5⟩;refine⟨rF ω ω,y8,?_⟩;rw[mY,zV f5];have bn:=T7.trans T8;have fj:h8 (3*n4+2)=_:=(k8 _ Z Z (zB _)).trans fi;have fh:h8 (3*n+2)=_:=(k8 _ Z Z (zB _)).trans ((k7 _ Z).trans p4);have X8:Exo n h h8:=⟨λc hc=>(L8 c hc).trans ((k7 c Z).trans (X4.go c hc))⟩;have jo:n4+1<=J:=Z;have fa:=i6.t bn;have fc:=j6.t bn;have fb:=i7.t bn;have fd:=j7.t bn;have jj:n<J:=Z;rw[OM v6,OM v7]at s8;obtain⟨K,bq⟩:∃K:Sol,K={solC (O cs) cj with sc:=(solC (O cs) cj).sc++[1],lo:=(solC (O cs) cj).lo++[bL d 1],hi:=(solC (O cs) cj).hi++[bH d 1]}:=⟨_,ω⟩;have s8:SN n h8 J u K A8:=bq▸s8;have l8:O K.nb=j:=by rw[bq];show(Ea (O cj)).length=j;rw[Fa];exact b4
 have⟨b5,a5,l5,c5,ty,st,iD⟩:=s8.st;have jh:=s8.bs.1;refine zJ ?_;refine wE [U .i64 (j:Int)] (l:=1) (c:=1) R5 λh9 p9 x9=>?_;refine OE (n0:=n) [U .i64 (j:Int)] [j] (s8.nb.ext HI x9 Zq) HI (.cons (c:=[U .i64 (j:Int)]) ω ω .nil) ⟨ω,ω⟩ (yp p9 R2) CS (by rw[l8];show j+1<_;omega) Z ?_;intro jr f0 c4 em g8 cz cx;obtain⟨aN,rfl⟩:=c4.shape (L:=O K.nb+1) (len1 _ _);have fk:=(cz u Z (s8.nb.nbk gb)).trans ((x9 u Z).trans st);refine zG ?_;refine NI (n0:=n) [U .i64 (K.n:Int),Y A8.sc (O K.sc) (O K.sc),Y A8.lo (O K.lo) (O K.lo),Y A8.hi (O K.hi) (O K.hi),Y A8.va (O K.va) (O K.va),Y A8.ba (O K.ba) (O K.ba),Y aN (O K.nb+1) (O K.nb+1),Y A8.ta (O K.ta) (O K.ta),CV b5,Y a5 l5 c5] ?_ (hb:=fk);intro G b8 ab;have bd:Tr J h8 (J+1+1) G:=FN ab (HS ⟨Du _,λc hc=>.inl (x9 c hc)⟩ em);have Z1:∀c,c<3*J->c≠u->¬BkOf (Y A8.nb (O K.nb) (O K.nb)) c->G c=h8 c:=λc hc h1 h2=>(ab.1 c h1).trans ((cz c Z h2).trans (x9 c hc));have C:=s8.aNb bd Z1 (c4.go HI (FN ab (Er _ _)) λb hb=>ab.1 b (by have:=cx b hb;omega)) (λb hb=>by have:=cx b hb;omega) b8 (iD.t bd);have iw:G (3*n4+2)=_:=(Z1 _ Z Z (s8.nb.nbk (zB _))).trans fj;have ce:G (3*n+2)=_:=(Z1 _ Z Z (s8.nb.nbk (zB _))).trans fh;have T:Exo n h G:=⟨λc hc=>(Z1 c Z Z (λhv=>by have:=(s8.nb.bk c hv).1;omega)).trans (X8.go c hc)⟩;have fv:=fa.t bd;have fz:=fc.t bd;have fw:=fb.t bd;have g0:=fd.t bd;obtain⟨f,bh⟩:∃f:Sol,f={K with nb:=K.nb++[j]}:=⟨_,ω⟩;obtain⟨D,dg⟩:∃D:Adr,D={A8 with nb:=aN}:=⟨_,ω⟩;rw[<-bh,<-dg]at C;have l11:O f.va=j:=by rw[bh,bq];show(cj.map _).length=j;rw[Da];exact b4
 have b1:{f with va:=f.va++[KT d]}=solC (O cs) (cs.take (j+1)):=(by rw[xa gd,hcj,zdc,bh,bq,b4];unfold solC;rw[b4]);have⟨d4,d2,dw,db,iz,cf,cb⟩:=C.st;have jm:J+1<=J+1+1:=Du _;generalize hm:J+1+1=m at*;have iq:=C.bs.1;refine zG ?_;obtain⟨rfl,cm⟩|⟨rfl,cm⟩:=Ky v6;refine zG ?_;obtain⟨rfl,dd⟩|⟨rfl,dd⟩:=Ky v7;have ev:KT d=0:=(CP cm).trans (CP dd);refine zG ?_;refine sT #[CV χ,η,CV χ,η] ?_;refine wE [CV χ,η,CV χ,η] (l:=1) (c:=1) R5 λae bu I=>?_;refine OE (n0:=n) [CV χ,η,CV χ,η] [(0:Rat)] (C.va.ext Es I Zq) Es (.cons (c:=[CV χ,η,CV χ,η]) ω ⟨_,_,_,_,_,_,_,_,ω,E9 _ _,E9 _ _⟩ .nil) ⟨ω,ω⟩ (yp bu R2) CS (by rw[l11];show j+1<_;omega) Z ?_;intro fp f1 a3 bl eh aq ap;obtain⟨aV,rfl⟩:=a3.shape (L:=O f.va+1) (len1 _ _);have bw:=(aq u Z (C.va.nbk gb)).trans ((I u Z).trans cf);refine zG ?_;refine NI (n0:=n) [U .i64 (f.n:Int),Y D.sc (O f.sc) (O f.sc),Y D.lo (O f.lo) (O f.lo),Y D.hi (O f.hi) (O f.hi),Y aV (O f.va+1) (O f.va+1),Y D.ba (O f.ba) (O f.ba),Y D.nb (O f.nb) (O f.nb),Y D.ta (O f.ta) (O f.ta),CV d4,Y d2 dw db] ?_ (hb:=bw);intro ak ax R;have ar:Tr m G (m+1+1) ak:=FN R (HS ⟨Du _,λc hc=>.inl (I c hc)⟩ bl);have a8:∀c,c<3*m->c≠u->¬BkOf (Y D.va (O f.va) (O f.va)) c->ak c=G c:=λc hc h1 h2=>(R.1 c h1).trans ((aq c Z h2).trans (I c hc));refine zG ?_;have ay:=C.aVa ar a8 (a3.go Es (FN R (Er _ _)) λb hb=>R.1 b (by have:=ap b hb;omega)) (λb hb=>by have:=ap b hb;omega) ax (cb.t ar);rw[<-ev,b1]at ay;exact sK (j+1,{D with va:=aV}) ⟨ω,Z,λc hc=>(a8 c Z Z (λhv=>by have:=(C.va.bk c hv).1;omega)).trans (T.go c hc),(a8 _ Z Z (C.va.nbk (zB _))).trans ce,ay,mu⟩;have ev:KT d=zj d.hi:=(CP cm).trans (CQ dd);refine zG ?_;refine zl [0,0,2,6,14,0,32,96,224,510,1023,2047,4095] rfl<|zH ?_;refine MO [CV b7,Y a7 l7 c7,CV d7,Y e7 f7 u7] λae bu I=>?_;refine MN (n0:=n) (q:=zj d.hi) [CV b7,Y a7 l7 c7,CV d7,Y e7 f7 u7] (C.va.ext Es I Zq) Es ⟨_,_,_,_,_,_,_,_,ω,fw.ext I Zq,g0.ext I Zq⟩ (yp bu R2) (by rw[l11];omega) Z (λW hW=>by(repeat (first|rfl|(refine rF ω ?_)))) ?_;intro fp f1 d1 c8 a3 bl eh aq ap;obtain⟨aV,rfl⟩:=a3.shape (L:=O f.va+1) (len1 _ _);have bw:=(aq u Z (C.va.nbk gb)).trans ((I u Z).trans cf);refine zH ?_;refine ML (n0:=n) [U .i64 (f.n:Int),Y D.sc (O f.sc) (O f.sc),Y D.lo (O f.lo) (O f.lo),Y D.hi (O f.hi) (O f.hi),Y aV (O f.va+1) (O f.va+1),Y D.ba (O f.ba) (O f.ba),Y D.nb (O f.nb) (O f.nb),Y D.ta (O f.ta) (O f.ta),CV d4,Y d2 dw db] bw λak ax R=>?_;have ar:Tr m G (m+1+1) ak:=FN R (HS ⟨Du _,λc hc=>.inl (I c hc)⟩ bl);have a8:∀c,c<3*m->c≠u->¬BkOf (Y D.va (O f.va) (O f.va)) c->ak c=G c:=λc hc h1 h2=>(R.1 c h1).trans ((aq c Z h2).trans (I c hc));refine zG ?_;have au:addW n [u] (addW n d1 [])=[]:=by rw[kX Z,zV (λc hc=>by have:=c8 c hc;omega)]
 exact BH;have ev:KT d=zj d.lo:=CQ cm;refine zG ?_;refine zl [0,0,2,6,14,0,32,96,224,510,1023,2047,4095] rfl<|zH ?_;refine MO [CV b6,Y a6 l6 c6,CV d6,Y e6 f6 u6] λae bu I=>?_;refine MN (n0:=n) (q:=zj d.lo) [CV b6,Y a6 l6 c6,CV d6,Y e6 f6 u6] (C.va.ext Es I Zq) Es ⟨_,_,_,_,_,_,_,_,ω,fv.ext I Zq,fz.ext I Zq⟩ (yp bu R2) (by rw[l11];omega) Z (λW hW=>by(repeat (first|rfl|(refine rF ω ?_)))) ?_;intro fp f1 d1 c8 a3 bl eh aq ap;obtain⟨aV,rfl⟩:=a3.shape (L:=O f.va+1) (len1 _ _);have bw:=(aq u Z (C.va.nbk gb)).trans ((I u Z).trans cf);refine zH ?_;refine ML (n0:=n) [U .i64 (f.n:Int),Y D.sc (O f.sc) (O f.sc),Y D.lo (O f.lo) (O f.lo),Y D.hi (O f.hi) (O f.hi),Y aV (O f.va+1) (O f.va+1),Y D.ba (O f.ba) (O f.ba),Y D.nb (O f.nb) (O f.nb),Y D.ta (O f.ta) (O f.ta),CV d4,Y d2 dw db] bw λak ax R=>?_;have ar:Tr m G (m+1+1) ak:=FN R (HS ⟨Du _,λc hc=>.inl (I c hc)⟩ bl);have a8:∀c,c<3*m->c≠u->¬BkOf (Y D.va (O f.va) (O f.va)) c->ak c=G c:=λc hc h1 h2=>(R.1 c h1).trans ((aq c Z h2).trans (I c hc));refine zG ?_;have au:addW n [u] (addW n d1 [])=[]:=by rw[kX Z,zV (λc hc=>by have:=c8 c hc;omega)]
 exact BH;have dm:j=O cs:=Z;have s4:SN n h4 n4 u (solR cs rs [] []) A:=(by rw[zda];rw[<-hcj,dm,Ds]at s4;exact s4);refine zG ?_;refine sF (α:=Nat×List Rat×List (Nat×List Int)×Adr) (λz=>[(1,ι (3*n+2)),(3,ι u),(84,Y aR (O rs) cR),(85,U .i64 (O rs:Int)),(86,U .i64 (z.1:Int))]) (λz h' n' w'=>w'=[]/\n2+1<=n'/\Ko n h h'/\h' (3*n+2)=ξ (.row [Y ao (O ob) co,Y aR (O rs) cR,Y ac (O cs) cc] 60)/\SN n h' n' u (solR cs rs z.2.1 z.2.2.1) z.2.2.2/\O z.2.1=z.1/\z.1<=O rs/\O z.2.2.1=z.1/\∀(i:Nat) r y q,rs[i]?=ξ r->z.2.2.1[i]?=ξ y->z.2.1[i]?=ξ q->ScR r.A P y.2 q) (λz=>O rs-z.1) (0,[],[],A) ⟨ω,y4,X4.go,p4,s4,ω,CT,ω,λi r y q _ h=>by simp at h⟩ ?_;rintro⟨ii,p,M,A5⟩ t h5 V _ ⟨rfl,y5,X5,p5,s5,gp,hi,b0,cq⟩;obtain rfl:O p=ii:=gp;have y5:n2+1<=V:=y5;replace X5:Exo n h h5:=⟨X5⟩;have p5:h5 (3*n+2)=ξ (.row [Y ao (O ob) co,Y aR (O rs) cR,Y ac (O cs) cc] 60):=p5;have s5:SN n h5 V u (solR cs rs p M) A5:=s5;have hi:O p<=O rs:=hi;have b0:O M=O p:=b0;have cq:∀(i:Nat) r y q,rs[i]?=ξ r->M[i]?=ξ y->p[i]?=ξ q->ScR r.A P y.2 q:=cq;have g5:GG h5 V:=g.ext X5.go Z;have it:=s5.bs.1;refine zG ?_;by_cases q5:(O p:Int)<(O rs:Int);refine zG ?_;have cp:O p<O rs:=Z;obtain⟨r,gr⟩:∃r,rs[O p]?=ξ r:=⟨_,CW cp⟩;have⟨zlo,zhi,f3,hA⟩:=hr r (C0 gr);have⟨bb,off,aA,lA,kA,bo,b6,a6,l6,c6,d6,e6,f6,u6,bp,b7,a7,l7,c7,d7,e7,f7,u7,e8,m8,r8,t8,qA,v6,i6,j6,v7,i7,j7⟩:=LO.at ir gr;have gz:=qA.len;subst gz;refine sI e8 r8 ?_;refine sL (t8.ext X5.go m8) (show bb<3*V from Z) 0 ?_;refine sA λh6 p6 y6=>?_;refine zG ?_;refine sS [Y aA (O r.A) kA,CV bo,CV b6,Y a6 l6 c6,CV d6,Y e6 f6 u6,CV bp,CV b7,Y a7 l7 c7,CV d7,Y e7 f7 u7] λh7 p7 o7=>?_;have k7:Exo V h5 h7:=⟨(show Tx V h5 (V+1) h7 from zx).2⟩;have X7:Exo n h h7:=⟨λc hc=>(k7.go c Z).trans (X5.go c hc)⟩;refine zG ?_;refine sC (qa _ (g.ext (n':=V+1) X7.go Z) (qA.ext X7.go Z) hA (P:=P) (by rw[f3];exact hP) Z Z) ?_;rintro _ h8 J⟨B,zs,s,b9,a9,l9,c9,d9,e9,f9,u9,rfl,hB,gB,oz,tz,hs,i9,j9⟩ y8 x8;refine Zd λf0 e1 bx=>?_;refine zG ?_;refine sS [CV b9,Y a9 l9 c9,CV d9,Y e9 f9 u9] λG b8 ab=>?_;have y8:V+1<=J:=y8;have Z1:Exo V h5 G:=⟨(show Tx V h5 (J+1) G from zx).2⟩;have T:Exo n h G:=⟨λc hc=>(Z1.go c Z).trans (X5.go c hc)⟩;have e5:G (3*V+2)=_:=(zp:G (3*V+2)=_);have ah:Tr J h8 (J+1) G:=zt;have bj:=oz.go FE ah ((ab.1 B (by have:=oz.1;omega)).trans (bx B oz.1));have ca:=i9.t ah;have cd:=j9.t ah;have dp:=hs.len;have l1:(solR cs rs p M).sc.length=O cs+O p:=by show(C3 (O cs) (1:Rat)++p).length=_;rw[C1,DI]
 have l2:(solR cs rs p M).lo.length=O cs+O p:=by show((cs.map _)++Eo bL rs p).length=_;rw[C1,Da,lD hi]
 have l3:(solR cs rs p M).hi.length=O cs+O p:=by show((cs.map _)++Eo bH rs p).length=_;rw[C1,Da,lD hi]
 have fr:=oz.1;refine zG ?_;have bg:n<=J+1:=Z;have az:=TY (k+1) (g.ext T.go bg) (s5.ext (n':=J+1) Z1.go Z) bg l1 l2 l3 Z (aA:=aA) (lA:=O r.A) (kA:=kA) (x1:=bo) (x2:=bp) (i6.ext T.go bg) (j6.ext T.go bg) (i7.ext T.go bg) (j7.ext T.go bg) ca cd zlo zhi hs.sz Z;refine zF _ R5 az ?_;rintro _ ae aw ju⟨fq,⟨ai,S⟩,ci,br,el,dn⟩;rw[mY,zV dn];have ea:ae (3*V+2)=_:=(br _ Z Z (zB _)).trans e5;have e3:ae (3*n+2)=_:=(br _ Z Z (zB _)).trans ((Z1.go _ Z).trans p5);have ec:ae (3*J+2)=_:=(br _ Z Z (zB _)).trans b8;have ep:Exo n h ae:=⟨λc hc=>(el c hc).trans (T.go c hc)⟩;have dy:=bj.go FE ci (br B Z Z gB);have dq:=ca.t ci;have dt:=cd.t ci;rw[OM v6,OM v7]at S;obtain⟨F,Z0⟩:∃F:Sol,F={solR cs rs p M with sc:=(solR cs rs p M).sc++[s],lo:=(solR cs rs p M).lo++[bL r s],hi:=(solR cs rs p M).hi++[bH r s]}:=⟨_,ω⟩;have S:SN n ae aw u F ai:=Z0▸S;have g2:O F.ba=O p:=by rw[Z0];show((Ea (O p)).map _).length=_;rw[Da,Fa]
 have c1:F.n=O cs:=by rw[Z0];rfl
 have⟨gh,gf,gx,gj,j0,cg,ds⟩:=S.st;rw[c1]at cg;have ij:=S.bs.1;have iv:J+1<=aw:=fq;have am:∀r∈F.ta,r.1<B:=λr hr=>(by rw[Z0]at hr;have:=(s5.rw r hr).1.1;omega);refine zG ?_;refine zl [0,0,2,6,14,0,32,96,224,0,992,2016,4094,8191,16383,32767] rfl<|zH ?_;refine MO [U .i64 ((O cs+O p:Nat):Int)] λak ax c0=>?_;refine MN (n0:=n) (q:=O cs+O p) [U .i64 ((O cs+O p:Nat):Int)] (S.ba.ext HI c0 Zq) HI ω (yp ax R2) (by rw[g2];omega) Z (λW hW=>by(repeat (first|rfl|(refine rF ω ?_)))) ?_;intro js jc gc dj df en g9 d0 cy;obtain⟨aB,rfl⟩:=df.shape (L:=O F.ba+1) (len1 _ _);have fl:=(d0 u Z (S.ba.nbk gb)).trans ((c0 u Z).trans cg);refine zH ?_;refine ML (n0:=n) [U .i64 (O cs:Int),Y ai.sc (O F.sc) (O F.sc),Y ai.lo (O F.lo) (O F.lo),Y ai.hi (O F.hi) (O F.hi),Y ai.va (O F.va) (O F.va),Y aB (O F.ba+1) (O F.ba+1),Y ai.nb (O F.nb) (O F.nb),Y ai.ta (O F.ta) (O F.ta),CV gh,Y gf gx gj] fl λav fg bt=>?_;have bm:Tr aw ae (aw+1+1) av:=FN bt (HS ⟨Du _,λc hc=>.inl (c0 c hc)⟩ en);have b3:∀c,c<3*aw->c≠u->¬BkOf (Y ai.ba (O F.ba) (O F.ba)) c->av c=ae c:=λc hc h1 h2=>(bt.1 c h1).trans ((d0 c Z h2).trans (c0 c hc));have au:addW n [u] (addW n gc [])=[]:=by rw[kX Z,zV (λc hc=>by have:=dj c hc;omega)]
 rw[au];have a0:=S.aBa bm b3 (df.go HI (FN bt (Er _ _)) λb hb=>bt.1 b (by have:=cy b hb;omega)) (λb hb=>by have:=cy b hb;omega) (by rw[c1];exact fg) (ds.t bm);have eb:av (3*V+2)=_:=(b3 _ Z Z (S.ba.nbk (zB _))).trans ea;have e4:av (3*n+2)=_:=(b3 _ Z Z (S.ba.nbk (zB _))).trans e3;have ed:av (3*J+2)=_:=(b3 _ Z Z (S.ba.nbk (zB _))).trans ec;have eq:Exo n h av:=⟨λc hc=>(b3 c Z Z (λhv=>by have:=(S.ba.bk c hv).1;omega)).trans (ep.go c hc)⟩;have dz:=dy.go FE bm (b3 B Z Z (S.ba.nbk gB));have dr:=dq.t bm;have du:=dt.t bm;obtain⟨H,a4⟩:∃H:Sol,H={F with ba:=F.ba++[O cs+O p]}:=⟨_,ω⟩;obtain⟨ad,dh⟩:∃ad:Adr,ad={ai with ba:=aB}:=⟨_,ω⟩;rw[<-a4,<-dh]at a0;have c3:H.n=O cs:=by rw[a4];exact c1
 have g3:O H.ta=O p:=by rw[a4,Z0];exact b0
 have am:∀r∈H.ta,r.1<B:=by rw[a4];exact am
 have⟨da,d3,dx,dc,g7,an,bi⟩:=a0.st;rw[c3]at an;have ik:=a0.bs.1;have im:aw<=aw+1+1:=Z;generalize hm16:aw+1+1=m16 at*;refine zJ ?_;refine wE [Y (ξ ⟨B,0,θ⟩) (O r.A) (O r.A)] (l:=1) (c:=1) R5 λgl ct ag=>?_;refine OE (n0:=n) [Y (ξ ⟨B,0,θ⟩) (O r.A) (O r.A)] [(B,zs)] (a0.ta.ext ac2 ag Zq) ac2 (.cons (c:=[Y (ξ ⟨B,0,θ⟩) (O r.A) (O r.A)]) ω (by show _=_;rw[dp]) .nil) ⟨ω,ω⟩ (yp ct R2) CS (by rw[g3];show (O p)+1<_;omega) Z ?_;intro id gm bf ck ei bc ch;obtain⟨aT,rfl⟩:=bf.shape (L:=O H.ta+1) (len1 _ _);have cv:=(bc u Z (a0.ta.nbk gb)).trans ((ag u Z).trans an);refine zG ?_;refine NI (n0:=n) [U .i64 (O cs:Int),Y ad.sc (O H.sc) (O H.sc),Y ad.lo (O H.lo) (O H.lo),Y ad.hi (O H.hi) (O H.hi),Y ad.va (O H.va) (O H.va),Y ad.ba (O H.ba) (O H.ba),Y ad.nb (O H.nb) (O H.nb),Y aT (O H.ta+1) (O H.ta+1),CV da,Y d3 dx dc] ?_ (hb:=cv);intro N cu af;have aj:Tr m16 av (m16+1+1) N:=FN af (HS ⟨Du _,λc hc=>.inl (ag c hc)⟩ ck);have aa:∀c,c<3*m16->c≠u->¬BkOf (Y ad.ta (O H.ta) (O H.ta)) c->N c=av c:=λc hc h1 h2=>(af.1 c h1).trans ((bc c Z h2).trans (ag c hc));have Z3:=a0.aTa aj aa (bf.go ac2 (FN af (Er _ _)) λb hb=>af.1 b (by have:=ch b hb;omega)) (dz.go FE aj (aa B Z Z (a0.ta.nbk gB))) gB ⟨Z,Z,am⟩ (by rw[c3];exact cu) (bi.t aj);have ix:N (3*V+2)=_:=(aa _ Z Z (a0.ta.nbk (zB _))).trans eb;have g6:N (3*n+2)=_:=(aa _ Z Z (a0.ta.nbk (zB _))).trans e4;have iy:N (3*J+2)=_:=(aa _ Z Z (a0.ta.nbk (zB _))).trans ed;have be:Exo n h N:=⟨λc hc=>(aa c Z Z (λhv=>by have:=(a0.ta.bk c hv).1;omega)).trans (eq.go c hc)⟩;have fx:=dr.t aj;have g1:=du.t aj;obtain⟨v,al⟩:∃v:Sol,v={H with ta:=H.ta++[(B,zs)]}:=⟨_,ω⟩;obtain⟨a1,di⟩:∃a1:Adr,a1={ad with ta:=aT}:=⟨_,ω⟩;rw[<-al,<-di]at Z3;have de:v.n=O cs:=by rw[al];exact c3
 have iu:O v.va=O cs+O p:=by rw[al,a4,Z0];show((cs.map KT)++Eo _ rs p).length=_;rw[C1,Da,lD hi]
 have fu:(v.va.drop 0).take (O cs)=cs.map KT:=(by rw[DO,al,a4,Z0];show((cs.map KT)++Eo _ rs p).take (O cs)=_;rw[List.take_append_of_le_length qq,C7 qq]);have b1:{v with va:=v.va++[dotR r.A (cs.map KT)*s]}=solR cs rs (p++[s]) (M++[(B,zs)]):=(by rw[zdb gr,al,a4,Z0];rfl);have⟨gi,gg,gy,gk,j1,ee,fy⟩:=Z3.st;rw[de]at ee;have il:=Z3.bs.1;have ip:m16<=m16+1+1:=Z;generalize hm20:m16+1+1=m20 at*;have f8:∀q∈cs.map KT,Sz (a+1) q:=λq hq=>(by obtain⟨d,hd,rfl⟩:=D2.1 hq;unfold KT;split;exact(hc d hd).1.mono Zq;split;exact(hc d hd).2.mono Zq;exact ac1 _ Z);have ji:O cs*(a+(a+1)+1)=O cs*(a+a+2):=by rw[show a+(a+1)+1=a+a+2 by omega]
 have f4:=nf hA f8 (O cs) Z qq;rw[C7 Z,C7 qq]at f4;have⟨bv,cn,gv,lv,ov,jp⟩:=Z3.va.or ω Z;injection cn with cn;have qv:=Z3.va.rs;rw[cn]at qv;have qv:=ao1 zd qv (m:=0) (c:=O cs) (cap':=O v.va) Z Z;rw[fu]at qv;have qv:QS N m20 (Y (ξ ⟨bv,0,θ⟩) (O cs) (O v.va)) (cs.map KT):=qv;refine zG ?_;refine zl [0,0,2,6,14,0,32,0,128,384,896,0,2048,6144,14336,32640,65504,0,262112,524256,1048574,2097151,4194303,8388607] rfl<|zH ?_;refine tC (b:=bv) (off:=0) (O cs) R6 (by show Y a1.va (O v.va) (O v.va)=_;rw[cn]) ω ω Z ?_;have dl:=dotQ (k+1) (g.ext (n':=m20) be.go Z) (qA.ext be.go Z) qv hA f8 sP (by rw[f3];omega);rw[C7 (show(cs.map KT).length<=O r.A by rw[Da];omega)]at dl;refine dC dl ?_;rintro _ jd jn⟨j4,j3,jl,j5,j8,ja,jb,jq,rfl,gs,gu⟩ eg cw;refine zH ?_;refine dC (mulQ _ ((g.ext (n':=m20) be.go Z).ext cw eg) gs gu (fx.ext cw eg) (g1.ext cw eg) f4 hs.sz Z) ?_;rintro _ je i4⟨es,er,fe,et,eu,ex,ey,fo,rfl,gt,gw⟩ jv ie;refine zH ?_;refine MO [CV es,Y er fe et,CV eu,Y ex ey fo] λgn i8 ef=>?_;have cl:Exo m20 N gn:=⟨λc hc=>(ef c Z).trans ((ie c Z).trans (cw c hc))⟩;refine MN (n0:=n) (q:=dotR r.A (cs.map KT)*s) [CV es,Y er fe et,CV eu,Y ex ey fo] (Z3.va.ext Es cl.go Z) Es ⟨_,_,_,_,_,_,_,_,ω,gt.ext ef Zq,gw.ext ef Zq⟩ (yp i8 R2) Z Z (λW hW=>by(repeat (first|rfl|(refine rF ω ?_)))) ?_;intro jt jf ge fs ez ga j2 ek ej;obtain⟨aV,rfl⟩:=ez.shape (L:=O v.va+1) (len1 _ _);have ib:=(ek u Z (Z3.va.nbk gb)).trans ((cl.go u Z).trans ee);refine zH ?_;refine ML (n0:=n) [U .i64 (O cs:Int),Y a1.sc (O v.sc) (O v.sc),Y a1.lo (O v.lo) (O v.lo),Y a1.hi (O v.hi) (O v.hi),Y aV (O v.va+1) (O v.va+1),Y a1.ba (O v.ba) (O v.ba),Y a1.nb (O v.nb) (O v.nb),Y a1.ta (O v.ta) (O v.ta),CV gi,Y gg gy gk] ib λf2 ia cr=>?_;have eo:Tr m20 N (i4+1+1) f2:=FN cr (HS ⟨Z,λc hc=>.inl (cl.go c hc)⟩ ga);have dv:∀c,c<3*m20->c≠u->¬BkOf (Y a1.va (O v.va) (O v.va)) c->f2 c=N c:=λc hc h1 h2=>(cr.1 c h1).trans ((ek c Z h2).trans (cl.go c hc));have au:addW n [u] (addW n ge [])=[]:=by rw[kX Z,zV (λc hc=>by have:=fs c hc;omega)]
 have fm:=Z3.aVa eo dv (ez.go Es (FN cr (Er _ _)) λb hb=>cr.1 b (by have:=ej b hb;omega)) (λb hb=>by have:=ej b hb;omega) (by rw[de];exact ia) (fy.t eo);rw[b1]at fm;refine zJ ?_;refine sK (O p+1,p++[s],M++[(B,zs)],{a1 with va:=aV}) ⟨au,Z,λc hc=>(dv c Z Z (λhv=>by have:=(Z3.va.bk c hv).1;omega)).trans (be.go c hc),(dv _ Z Z (Z3.va.nbk (zB _))).trans g6,fm,len1 _ _,(by show O p+1<=_;omega),(len1 _ _).trans (congrArg (· +1) b0),λi r' y q h1 h2 h3=>?_⟩;by_cases e:i=O p;subst e;rw[gr]at h1;cases h1;have h2:(M++[(B,zs)])[O p]?=ξ y:=h2;have h3:(p++[s])[O p]?=ξ q:=h3;rw[<-b0,Dx CS,Ec]at h2;rw[Dx CS,Ec]at h3;cases h2;cases h3;exact hs;have ft:i<O p:=(by have:=(C4.1 h3).1;have e2:O (p++[s])=O p+1:=len1 _ _;have this:i<O (p++[s]):=this;omega);exact cq i r' y q h1 ((D7 Z).symm.trans h2) ((D7 ft).symm.trans h3);have cp:O p=O rs:=Z;have zob:=hz;refine zG ?_;refine sC (qa _ g5 (io.ext (n':=V) X5.go Z) hz (P:=P) (by rw[gq];exact hP) Z Z) ?_;rintro _ h8 J⟨B,zs,s,b9,a9,l9,c9,d9,e9,f9,u9,rfl,hB,gB,oz,tz,hs,i9,j9⟩ y8 x8;refine Zd λf0 e1 bx=>?_;refine zG ?_;refine sS [CV b9,Y a9 l9 c9,CV d9,Y e9 f9 u9] λG b8 ab=>?_;have y8:V<=J:=y8;have Z1:Exo V h5 G:=⟨(show Tx V h5 (J+1) G from zx).2⟩;have ah:Tr J h8 (J+1) G:=zt;have bj:=oz.go FE ah ((ab.1 B (by have:=oz.1;omega)).trans (bx B oz.1));have dp:=hs.len;have fr:=oz.1;have C:=s5.ext (n':=J+1) Z1.go Z;have ff:(solR cs rs p M).ta.length=O p:=b0;have am:∀r∈(solR cs rs p M).ta,r.1<B:=λr hr=>(by have:=(s5.rw r hr).1.1;omega);obtain⟨Z4,dk⟩:∃Z4:Sol,Z4=solR cs rs p M:=⟨_,ω⟩;have ew:Z4.n=O cs:=by rw[dk];rfl
 rw[<-dk]at C ff am;have⟨da,d3,dx,dc,g7,an,bi⟩:=C.st;rw[ew]at an;have ig:=C.bs.1;have T:Exo n h G:=⟨λc hc=>(Z1.go c Z).trans (X5.go c hc)⟩;generalize hm8:J+1=m8 at*;refine zG ?_;refine wE [Y (ξ ⟨B,0,θ⟩) (O ob) (O ob)] (l:=1) (c:=1) R5 λgl ct ag=>?_;refine OE (n0:=n) [Y (ξ ⟨B,0,θ⟩) (O ob) (O ob)] [(B,zs)] (C.ta.ext ac2 ag Zq) ac2 (.cons (c:=[Y (ξ ⟨B,0,θ⟩) (O ob) (O ob)]) ω (by show _=_;rw[dp]) .nil) ⟨ω,ω⟩ (yp ct R2) CS (by rw[ff];show (O p)+1<_;omega) Z ?_;intro id gm bf ck ei bc ch;obtain⟨aT,rfl⟩:=bf.shape (L:=O Z4.ta+1) (len1 _ _);have cv:=(bc u Z (C.ta.nbk gb)).trans ((ag u Z).trans an);refine zG ?_;refine NI (n0:=n) [U .i64 (O cs:Int),Y A5.sc (O Z4.sc) (O Z4.sc),Y A5.lo (O Z4.lo) (O Z4.lo),Y A5.hi (O Z4.hi) (O Z4.hi),Y A5.va (O Z4.va) (O Z4.va),Y A5.ba (O Z4.ba) (O Z4.ba),Y A5.nb (O Z4.nb) (O Z4.nb),Y aT (O Z4.ta+1) (O Z4.ta+1),CV da,Y d3 dx dc] ?_ (hb:=cv);intro N cu af;have aj:Tr m8 G (m8+1+1) N:=FN af (HS ⟨Du _,λc hc=>.inl (ag c hc)⟩ ck);have aa:∀c,c<3*m8->c≠u->¬BkOf (Y A5.ta (O Z4.ta) (O Z4.ta)) c->N c=G c:=λc hc h1 h2=>(af.1 c h1).trans ((bc c Z h2).trans (ag c hc));have Z3:=C.aTa aj aa (bf.go ac2 (FN af (Er _ _)) λb hb=>af.1 b (by have:=ch b hb;omega)) (bj.go FE aj (aa B Z Z (C.ta.nbk gB))) gB ⟨Z,Z,am⟩ (by rw[ew];exact cu) (bi.t aj);have be:Exo n h N:=⟨λc hc=>(aa c Z Z (λhv=>by have:=(C.ta.bk c hv).1;omega)).trans (T.go c hc)⟩;refine zG ?_;refine zq ?_ (hx:=⟨Z,be.go⟩);rw[dk]at Z3;exact⟨u,_,p,M,B,zs,s,ω,Z3,cp,b0.trans cp,cq,hs⟩
section
variable {q:Rat}
noncomputable def Le(ds:List SideD)(v:Nat):Option Rat:=match ds[v]? with|some d=>if d.lo≠[]then ξ (zj d.lo)else θ|none=>θ
noncomputable def Lf(ds:List SideD)(v:Nat):Option Rat:=match ds[v]? with|some d=>if d.hi≠[]then ξ (zj d.hi)else θ|none=>θ
def LF(ta:List (Nat×List Int))(i:Nat):Nat×List Int:=(ta[i]?).getD (0,[])
def zI(ta:List (Nat×List Int))(i j:Nat):Int:=Mj (LF ta i).2 j
structure PrO (cs rs:List SideD)(ob:List Rat):Prop where
 n1:1<=O cs
 n5:O cs<=5
 m6:O rs<=6
 lc:∀d∈cs,NE (10^6) (10^8) (zj d.lo)/\NE (10^6) (10^8) (zj d.hi)/\(d.lo≠[]->d.hi≠[]->zj d.lo<=zj d.hi)
 lr:∀d∈rs,NE (10^6) (10^8) (zj d.lo)/\NE (10^6) (10^8) (zj d.hi)/\(d.lo≠[]->d.hi≠[]->zj d.lo<=zj d.hi)/\O d.A=O cs/\∀q∈d.A,NE (10^6) (10^8) q
 lo:O ob=O cs/\∀q∈ob,NE (10^10) (10^14) q
noncomputable def solI(cs rs:List SideD)(ss:List Rat)(bz:List (Nat×List Int))(y:Nat×List Int):Sol:={solR cs rs ss bz with ta:=bz++[y]}
structure ScI (cs rs:List SideD)(ob:List Rat)(ss:List Rat)(bz:List (Nat×List Int))(y:Nat×List Int)(s:Rat):Prop where
 ls:O ss=O rs
 lb:O bz=O rs
 sc:∃P,P<=290/\(∀(i:Nat) r z q,rs[i]?=ξ r->bz[i]?=ξ z->ss[i]?=ξ q->ScR r.A P z.2 q)/\ScR ob P y.2 s
theorem rM:∀{a b:List Rat},O a=O b->∀n,O a=n->dotR a b=Ks n λj=>atR a j*atR b j:=by
 have e:∀(a b:List Rat),O a=O b->∀j,j<=O a->dotR (a.take j) (b.take j)=Ks j λj=>atR a j*atR b j:=by
  intro a b h j;induction j with
  |zero=>intro _;rw[List.take_zero];rfl
  |succ j ih=>
   intro f;have c:=CW (l:=a) (i:=j) Z;have d:=CW (l:=b) (i:=j) Z;rw[wK c d,ih Z];show _=Ks j _+atR a j*atR b j;rw[wg c,wg d]
 intro a b h n g;have:=e a b h n Z;rw[C7 Z,C7 Z]at this;exact this
section
variable {cs rs:List SideD}{ss:List Rat}{s:Rat}{i v:Nat}
theorem TZ(h:i<O bz):LF (bz++[y]) i=bz[i]:=by grind [LF]
theorem Ua:LF (bz++[y]) (O bz)=y:=by grind [LF]
def zq1:Kr ((cs.map λd=>bL d 1)++Eo bL rs ss)=bF (O cs) (Le cs) (Le (rs.take (O ss))) (atR ss):=by
 funext v;unfold Kr bF Le;by_cases h:v<O cs;rw[CQ h,D7 Bc,Dz,CW h];show(match ξ (decide (cs[v].lo≠[]),zj cs[v].lo*1)with|some (φ,q)=>ξ q|_=>θ)=if cs[v].lo≠[]then ξ (zj cs[v].lo)else θ;by_cases q:cs[v].lo≠[];rw[CQ q,CN q,HA];rw[CP q,CM q];rw[CP h,Dx sP,Da,FG];generalize v-O cs=i;rw[HX];by_cases h1:i<O ss;rw[CQ h1];have a:=CW h1;rw[wg a,a];cases rs[i]? with
 |none=>rfl
 |some r=>
  show(match ξ (decide (r.lo≠[]),zj r.lo*ss[i])with|some (φ,q)=>ξ q|_=>θ)=(if r.lo≠[]then ξ (zj r.lo)else θ).map _;by_cases q:r.lo≠[];rw[CQ q,CN q];rfl;rw[CP q,CM q];rfl
 rw[CP h1,Dn (l:=ss) Z];cases rs[i]?<;>rfl
def zq2:Kr ((cs.map λd=>bH d 1)++Eo bH rs ss)=bF (O cs) (Lf cs) (Lf (rs.take (O ss))) (atR ss):=by
 funext v;unfold Kr bF Lf;by_cases h:v<O cs;rw[CQ h,D7 Bc,Dz,CW h];show(match ξ (decide (cs[v].hi≠[]),zj cs[v].hi*1)with|some (φ,q)=>ξ q|_=>θ)=if cs[v].hi≠[]then ξ (zj cs[v].hi)else θ;by_cases q:cs[v].hi≠[];rw[CQ q,CN q,HA];rw[CP q,CM q];rw[CP h,Dx sP,Da,FG];generalize v-O cs=i;rw[HX];by_cases h1:i<O ss;rw[CQ h1];have a:=CW h1;rw[wg a,a];cases rs[i]? with
 |none=>rfl
 |some r=>
  show(match ξ (decide (r.hi≠[]),zj r.hi*ss[i])with|some (φ,q)=>ξ q|_=>θ)=(if r.hi≠[]then ξ (zj r.hi)else θ).map _;by_cases q:r.hi≠[];rw[CQ q,CN q];rfl;rw[CP q,CM q];rfl
 rw[CP h1,Dn (l:=ss) Z];cases rs[i]?<;>rfl
def zko{d:SideD}(h:ds[v]?=ξ d):Le ds v=if d.lo≠[]then ξ (zj d.lo)else θ:=by unfold Le;rw[h]
def zkr{d:SideD}(h:ds[v]?=ξ d):Lf ds v=if d.hi≠[]then ξ (zj d.hi)else θ:=by unfold Lf;rw[h]
theorem kr(h:Le ds v=ξ q):∃d,ds[v]?=ξ d/\d.lo≠[]/\q=zj d.lo:=by grind [Le]
theorem kH(h:Lf ds v=ξ q):∃d,ds[v]?=ξ d/\d.hi≠[]/\q=zj d.hi:=by grind [Lf]
def ScI.row(c:ScI cs rs ob ss bz y s)(p:PrO cs rs ob)(hi:i<O rs):ScF (O cs) (10^30) (10^32) (atR (rs[i]).A) (zI (bz++[y]) i) (atR ss i):=by have⟨P,_,f,_⟩:=c.sc;have u:=c.ls;have o:=c.lb;have a:=CW (l:=ss) (i:=i) Z;have g:=f i _ _ _ (CW hi) (CW (l:=bz) (i:=i) Z) a;have d:=p.lr _ (Gm hi);have m:=g.scF d.2.2.2.2 zd zd d.2.2.2.1;have b:=jW p.n1 p.n5;have e:zI (bz++[y]) i=Mj (bz[i]'Z).2:=(by funext j;unfold zI;rw[TZ Z]);rw[e,wg a];exact m.mono b.2 b.1
def ScI.obj(c:ScI cs rs ob ss bz y s)(p:PrO cs rs ob):ScF (O cs) (10^50) (10^54) (atR ob) (zI (bz++[y]) (O rs)) s:=by have⟨P,_,_,b⟩:=c.sc;have d:=b.scF p.lo.2 zd zd p.lo.1;have a:=zvd p.n1 p.n5;have e:zI (bz++[y]) (O rs)=Mj y.2:=(by funext j;unfold zI;rw[<-c.lb,Ua]);rw[e];exact d.mono a.2 a.1
noncomputable def yI(cs:List SideD):Nat->Rat:=atR (cs.map KT)
def Ub(h:v<O cs):yI cs v=KT cs[v]:=by unfold yI;rw[wg (q:=KT cs[v]) (by rw[Dz,CW h];rfl)]
def Uc(c:ScI cs rs ob ss bz y s):rs.take (O ss)=rs:=C7 (by rw[c.ls];exact Ez _)
def ScI.lo(c:ScI cs rs ob ss bz y s):Kr (solI cs rs ss bz y).lo=bF (O cs) (Le cs) (Le rs) (atR ss):=by have h:=zq1 (cs:=cs) (rs:=rs) (ss:=ss);rw[Uc c]at h;exact h
def ScI.hi(c:ScI cs rs ob ss bz y s):Kr (solI cs rs ss bz y).hi=bF (O cs) (Lf cs) (Lf rs) (atR ss):=by have h:=zq2 (cs:=cs) (rs:=rs) (ss:=ss);rw[Uc c]at h;exact h
theorem zo4(p:PrO cs rs ob)(h:v<O cs):inBd (Le cs) (Lf cs) v (yI cs v)/\LJ (Le cs) (Lf cs) v (yI cs v):=by
 have e:=CW h;have a:=(p.lc _ (Gm h)).2.2;rw[Ub h];unfold inBd LJ;rw[zko e,zkr e];unfold KT;generalize cs[v]=d at a;by_cases h1:d.lo≠[]
 .rw[CQ h1,CQ h1];refine⟨⟨λl q=>?_,λu q=>?_⟩,.inl rfl⟩
  .cases q;exact Hy
  split at q
  .next h2=>cases q;exact a h1 h2
  cases q
 rw[CP h1,CP h1];by_cases h2:d.hi≠[]
 .rw[CQ h2,CQ h2];exact⟨⟨λl q=>(by cases q),λu q=>(by cases q;exact Hy)⟩,.inr (.inl rfl)⟩
 rw[CP h2,CP h2];exact⟨⟨λl q=>(by cases q),λu q=>(by cases q)⟩,.inr (.inr ⟨rfl,rfl,rfl⟩)⟩
def fw(c:ScI cs rs ob ss bz y s)(p:PrO cs rs ob):SolP (O cs) (O rs) (solI cs rs ss bz y) (iniS (O cs) (zI (bz++[y])) (yI cs)):=by
 have g:=c.ls;have D:=c.lb;have H:=p.n5;have G:=p.m6;have b:∀{γ:Type} (f:SideD->Rat->γ),O (Eo f rs ss)=O rs:=λf=>by rw[HL];omega
 refine⟨Fa,λv u=>GV u,?_,λi a=>?_,?_,λv u=>?_,?_,λi a=>?_,ω,?_,?_,Z,?_,ω⟩;show((Ea (O ss)).map _).length=_;rw[Da,Fa];exact g;show((Ea (O ss)).map (O cs+ ·))[i]?=ξ (O cs+i);rw[Dz,GV Z];rfl;show(cs.map KT++Eo (λr s=>dotR r.A (cs.map KT)*s) rs ss).length=_;rw[C1,Da,b];show(cs.map KT++Eo (λr s=>dotR r.A (cs.map KT)*s) rs ss)[v]?=ξ (xF (O cs) (zI (bz++[y])) (yI cs) v);by_cases h:v<O cs;rw[jo h,Ub h,D7 Bc,Dz,CW h];rfl;obtain⟨i,rfl⟩:∃i,v=O cs+i:=⟨v-O cs,Z⟩;have a:i<O rs:=Z;have m:=p.lr _ (Gm a);rw[TH,Dx sP,Da,Nat.add_sub_cancel_left,FG,CW a,CW (l:=ss) (i:=i) Z];show ξ (dotR (rs[i]).A (cs.map KT)*ss[i])=_;rw[PX (c.row p a).eq,rM (by rw[Da];exact m.2.2.2.1) (O cs) m.2.2.2.1,wg (CW (l:=ss) (i:=i) Z),FL];rfl;show(bz++[y]).length=_;rw[len1,D];have o:∀i,i<=O rs->(bz++[y])[i]?=ξ (LF (bz++[y]) i):=λi a=>(by unfold LF;rw[CW (by rw[len1];omega)];rfl);refine⟨_,o i a,?_⟩;have⟨P,_,w,C⟩:=c.sc;have d:(LF (bz++[y]) i).2.length=O cs:=(by by_cases q:i<O rs;rw[TZ Z];have:=(w i _ _ _ (CW q) (CW (l:=bz) (i:=i) Z) (CW (l:=ss) (i:=i) Z)).len;rw[this];exact(p.lr _ (Gm q)).2.2.2.1;obtain rfl:i=O bz:=Z;rw[Ua,C.len];exact p.lo.1);refine⟨d,λj F=>?_⟩;show _=ξ (zI (bz++[y]) i j);unfold zI;have e:=CW (l:=(LF (bz++[y]) i).2) (i:=j) Z;rw[aW e,e];show((cs.map _)++Eo bL rs ss).length=_;rw[C1,Da,b];show((cs.map _)++Eo bH rs ss).length=_;rw[C1,Da,b];show(C3 (O cs) (1:Rat)++ss).length=_;rw[C1,DI,g]
def Ud{l:List (Bool×Rat)}{p:Bool×Rat}(o:p∈l)(h0:p.1=χ->p.2=0)(a:N<2^B)(m:1<=B)(hb:∀v,v<O l->∀q,Kr l v=ξ q->∃k z:Int,0<k/\(k:Rat)*q=z/\k.natAbs<=N/\z.natAbs<=N):Sz B p.2:=by have⟨v,b⟩:=FH.1 o;have⟨f,q⟩:=p;cases f;rw[h0 rfl];exact ac1 _ m;have⟨k,z,c,d,e,g⟩:=hb v (C4.1 b).1 q (xI b);exact QB.sz ⟨z,k,c,d,g,e⟩ a a
def fixI(c:ScI cs rs ob ss bz y s)(p:PrO cs rs ob):Fix (O cs) (O rs) (10^32) (10^54) (10^38) 750 540 620 880 127 (aF (O cs) (zI (bz++[y]))) (solI cs rs ss bz y):=by have Z0:=c.ls;have M:Bnd (O cs) (O rs) (aF (O cs) (zI (bz++[y]))) (Kr (solI cs rs ss bz y).lo) (Kr (solI cs rs ss bz y).hi) (10^32) (10^38):=(by rw[c.lo,c.hi];refine zn8 (E:=10^6) (P:=10^8) (DB:=10^30) (f:=λi=>atR ((rs[i]?).getD ⟨[],[],[]⟩).A) (λi C=>?_) zd zd eN eN eN eN (λv Z1 q m=>?_) λi C q m=>?_;rw[CW C];exact c.row p C;obtain m|m:=m;obtain⟨d,o,_,rfl⟩:=kr m;exact(p.lc d (C0 o)).1;obtain⟨d,o,_,rfl⟩:=kH m;exact(p.lc d (C0 o)).2.1;obtain m|m:=m;obtain⟨d,o,_,rfl⟩:=kr m;exact(p.lr d (C0 o)).1;obtain⟨d,o,_,rfl⟩:=kH m;exact(p.lr d (C0 o)).2.1);have I:zj []=0:=xX so;have V:(solI cs rs ss bz y).lo.length=O cs+O rs/\(solI cs rs ss bz y).hi.length=O cs+O rs:=⟨(fw c p).ll,(fw c p).lh⟩;refine⟨M,λj Z4=>?_,cap8 p.n1 p.n5,lim8,λq m=>?_,λq m=>?_,λv l u o w=>?_⟩;have⟨D,g,_,T,_,_,_,S⟩:=(c.obj p).ex;rw[nQ];exact Dy (Nat.le_mul_of_pos_left _ T) (S j Z4);refine Ud m (λe=>?_) (N:=10^38) eN zd λv Z1 q m=>?_;have m:q∈(cs.map λd=>bL d 1)++Eo bL rs ss:=m;obtain m|m:=Ei.1 m;obtain⟨d,_,rfl⟩:=D2.1 m;have e:d.lo=[]:=Hm.1 (of_decide_eq_false e);show zj d.lo*1=0;rw[e,I,FK];obtain⟨i,C,rfl⟩:=JV.1 m;rw[JW]at e⊢;have e:(rs[i]' Aa).lo=[]:=Hm.1 (of_decide_eq_false e);show zj (rs[i]' Aa).lo*_=0;rw[e,I,FK];have⟨k,z,o,w,H,L,_⟩:=M.bq v Z q (.inl m);exact⟨k,z,o,w,H,L⟩;refine Ud m (λe=>?_) (N:=10^38) eN zd λv Z1 q m=>?_;have m:q∈(cs.map λd=>bH d 1)++Eo bH rs ss:=m;obtain m|m:=Ei.1 m;obtain⟨d,_,rfl⟩:=D2.1 m;have e:d.hi=[]:=Hm.1 (of_decide_eq_false e);show zj d.hi*1=0;rw[e,I,FK];obtain⟨i,C,rfl⟩:=JV.1 m;rw[JW]at e⊢;have e:(rs[i]' Aa).hi=[]:=Hm.1 (of_decide_eq_false e);show zj (rs[i]' Aa).hi*_=0;rw[e,I,FK];have⟨k,z,o,w,H,L,_⟩:=M.bq v Z q (.inr (.inl m));exact⟨k,z,o,w,H,L⟩;rw[c.lo]at o;rw[c.hi]at w;by_cases h:v<O cs;rw[nD h]at o w;obtain⟨d,F,J,rfl⟩:=kr o;obtain⟨R,G,K,rfl⟩:=kH w;rw[F]at G;cases G;exact(p.lc d (C0 F)).2.2 J K;obtain⟨i,rfl⟩:∃i,v=O cs+i:=⟨v-O cs,Z⟩;rw[gn]at o w;obtain⟨a,W,rfl⟩:=Ev.1 o;obtain⟨b,Z3,rfl⟩:=Ev.1 w;obtain⟨d,F,J,rfl⟩:=kr W;obtain⟨R,G,K,rfl⟩:=kH Z3;rw[F]at G;cases G;have H:=(p.lr d (C0 F)).2.2.1 J K;exact Rat.mul_le_mul_of_nonneg_right H (Ft (c.row p (C4.1 F).1).pos)
def steI{g:Nat}{A:Adr}(c:ScI cs rs ob ss bz y s)(p:PrO cs rs ob)(S:SN l h n g (solI cs rs ss bz y) A):Ste l (O cs) (O rs) g (aF (O cs) (zI (bz++[y]))) (L0 (O cs) (O rs) (aF (O cs) (zI (bz++[y])))) A (λi=>(LF (bz++[y]) i).1) (solI cs rs ss bz y) h n (solI cs rs ss bz y) (iniS (O cs) (zI (bz++[y])) (yI cs)):=by have H:=c.lb;have b:∀i,i<=O rs->(bz++[y])[i]?=ξ (LF (bz++[y]) i):=λi a=>(by unfold LF;rw[CW (by rw[len1];omega)];rfl);refine⟨S.toSM,fw c p,zih λv f=>?_,⟨S.lb,λi a=>(S.rl _ (C0 (b i a))).1,λi j a d e=>?_,λi a=>⟨_,b i a⟩,S.db⟩,Same.refl _⟩;have:=zo4 p f;unfold inBd LJ at*;rw[c.lo,c.hi,nD f,nD f];exact this;have o:∀i,i<=O rs->((bz++[y]).map (·.1))[i]?=ξ (LF (bz++[y]) i).1:=λi a=>(by rw[Dz,b i a];rfl);have w:=List.pairwise_iff_getElem.1 S.rj;have m:∀i j,i<j->j<=O rs->(LF (bz++[y]) i).1=(LF (bz++[y]) j).1->False:=λi j u d e=>(by have⟨C,D⟩:=C4.1 (o i Z);have⟨F,G⟩:=C4.1 (o j d);exact w i j C F u (D.trans (e.trans G.symm)));obtain h|h|h:=Nat.lt_trichotomy i j;exact(m i j h d e).elim;exact h;exact(m j i h a e.symm).elim
noncomputable def LW(cs:List SideD)(ss:List Rat)(v:Nat):Rat:=if v<O cs then 1 else atR ss (v-O cs)
set_option exponentiation.threshold 9999 in
def ScI.sg(c:ScI cs rs ob ss bz y s)(h:v<O cs+O rs):(solI cs rs ss bz y).sc[v]?=ξ (LW cs ss v)/\Sz 290 (LW cs ss v):=by have d:=c.ls;show(C3 (O cs) (1:Rat)++ss)[v]?=_/\_;unfold LW;by_cases q:v<O cs;rw[CQ q,D7 (by rw[DI];exact q),GZ,CQ q];exact⟨ω,by decide,eN⟩;rw[CP q,Dx gN,DI];have e:=CW (l:=ss) (i:=v-O cs) Z;rw[wg e];refine⟨e,?_⟩;have⟨P,b,a,_⟩:=c.sc;exact(a _ _ _ _ (CW (l:=rs) (i:=v-O cs) Z) (CW (l:=bz) (i:=v-O cs) (by have:=c.lb;omega)) e).sz.mono b
end
end
def zrs(k:Nat)(h:HF)(n:Nat):CX (Kp (k+2)) 53 [U .i64 (-1)] h n (IV (-1)):=by refine zw (fn:=Tryz.f53) R4<|Zd λo y F=>?_;refine zG ?_;refine wm R6 (ik:=.u64) (a:=18446744073709551615) rfl<|zG ?_;refine sC (So _ _ _) ?_;rintro _ p u⟨e,i,g,rfl,j⟩ H G;refine sT #[CV φ,Y e i g] ?_;refine sS [CV φ,Y e i g] λq C v=>?_;refine zq ?_;exact⟨_,_,_,_,ω,ω,(j.t zt)⟩
def newS(k:Nat)(h:HF)(n:Nat)(up:Bool):CX (Kp (k+2)) 53 [U .i64 (KO up)] h n (IV (KO up)):=by cases up;exact zrs k h n;exact NH k h n
def jE(k:Nat)(h:HF)(n:Nat)(up:Bool):CX (Kp (k+3)) 55 [U .i64 (KO up)] h n (QV (Kz up)):=by refine zw (fn:=Tryz.f55) R4<|Zd λh1 y F=>?_;refine zG ?_;refine sC (newS _ _ _ _) ?_;rintro _ p u⟨g,e,j,i,rfl,o⟩ H G;refine sT #[CV g,Y e j i,CV χ,η] ?_;refine sS [CV g,Y e j i,CV χ,η] λq C v=>?_;refine zq ?_;exact⟨_,_,_,_,_,_,_,_,ω,(o.t zt).as (by cases up<;>rfl),(E9 _ _).as (by cases up<;>rfl)⟩
def jH(up:Bool):Sz 1 (Kz up):=by cases up<;>exact⟨by decide,by decide⟩
theorem Sz.sg{a:Nat}{x:Rat}(h:Sz a x)(up:Bool):Sz a (x*Kz up):=by unfold Kz;cases up;rw[CP Bool.false_ne_true,show x*(-1:Rat)= -x by grind];exact h.neg;rw[CQ ω,HA];exact h
theorem zpe{x:Rat}{up:Bool}(h:x*Kz up=0):x=0:=by unfold Kz at*;grind
section
variable {s:PS}{w:ψ}
def SolP.entI(i:SolP n m d s)(hv:∀c,c<n->s.nb c<n+m)(g:c<n):impC d (rowL n (s.T m)) c (s.nb c)↔∃u,ent m (Kr d.lo) (Kr d.hi) s u c:=by have p:=i.va _ (hv c g);obtain⟨C,o⟩:∃x,d.lo[s.nb c]?=ξ x:=⟨_,CW (by have:=i.ll;have:=hv c g;omega)⟩;obtain⟨y,j⟩:∃x,d.hi[s.nb c]?=ξ x:=⟨_,CW (by have:=i.lh;have:=hv c g;omega)⟩;have q:=(du p j).trans (TT (x:=s.x (s.nb c)) j).symm;have v:=(dt p o).trans (TU (x:=s.x (s.nb c)) o).symm;unfold impC;rw[vu g,q,v];constructor;rintro⟨z,e,h⟩;cases e;obtain h|h:=h;exact⟨φ,h⟩;exact⟨χ,h⟩;rintro⟨u,h⟩;cases u;exact⟨_,ω,.inr h⟩;exact⟨_,ω,.inl h⟩
def EntV.get(i:SolP n m d s)(hv:∀c,c<n->s.nb c<n+m)(h:EntV d (rowL n (s.T m)) w):(∃c up,w=.tuple #[U .i64 ((c:Nat):Int),U .i64 (KO up),CV φ]/\Ent n m (Kr d.lo) (Kr d.hi) s c up)\/((∀c u,c<n->¬ent m (Kr d.lo) (Kr d.hi) s u c)/\w=.tuple #[U .i64 0,U .i64 0,CV χ]):=by
 obtain⟨c,v,z,o,q,F,G,rfl⟩|⟨o,rfl⟩:=h;have e:c<n:=by have:=(C4.1 o).1;have:=i.nl;omega
 rw[i.nb c e]at o;cases o;rw[vu e]at q;cases q;have y:∀j,j<n->s.nb j<s.nb c->∀u,¬ent m (Kr d.lo) (Kr d.hi) s u j:=λj p H u g=>by have:=G j _ (i.nb j p) ((i.entI hv p).2 ⟨u,g⟩);omega
 have⟨u,g⟩:=(i.entI hv e).1 F;refine .inl ⟨c,u,?_,e,g,y⟩;cases u;have C:0<s.T m c:=g.1;rw[CP Z];rfl;have C:s.T m c<0:=g.1;rw[CQ C];rfl;exact .inr ⟨λc u e g=>o c _ (i.nb c e) ((i.entI hv e).2 ⟨u,g⟩),ω⟩
def SolP.sz(g:SolP n m d s)(hv:∀c,c<n->s.nb c<n+m)(z:SzP n m V T Z1 B d s)(p:Lim V T Z1 D B):SZ d D:=by have:=p.l1;have:=g.vl;have:=g.ll;have:=g.lh;have:=g.ls;have:=g.nl;have:=g.nm;have:=g.tl;refine⟨λq i=>?_,λq i=>(z.lo q i).mono Z,λq i=>(z.hi q i).mono Z,Z,Z,Z,λv j=>?_,Z,Z⟩;have⟨v,e⟩:=FH.1 i;have o:=(C4.1 e).1;rw[g.va v Z]at e;cases e;exact(z.va v Z).mono Z;have⟨c,e⟩:=FH.1 j;have o:=(C4.1 e).1;rw[g.nb c Z]at e;cases e;have:=hv c Z;omega
end
section
variable {lo hi:Nat->Option Rat}{s:PS}{up:Bool}{b:Int}{ρ:Rat}
def LG.opt(h:LG m lo hi s c up m b f fd ρ)(C:Ent n m lo hi s c up):fd=χ/\(∀r g,¬Lw m lo hi s c up r g)\/fd=φ/\∃r,OptS n m lo hi s c up r ρ/\(r=θ/\b= -1\/∃i:Nat,r=ξ i/\b=(i:Int)):=by have p:∀{r g},Lw m lo hi s c up r g->cndK m m lo hi s c up r g:=λ{r g} q=>⟨q,λi e=>by subst e;exact q.1⟩;obtain⟨j,o⟩|⟨j,r,o,u,v,y⟩:=h;exact .inl ⟨j,λr g q=>o r g (p q)⟩;exact .inr ⟨j,r,⟨C,o.1,λF g q=>by rw[<-v];exact y F g (p q)⟩,u⟩
end
section
variable {s:PS}{a:Nat->Nat->Int}{L:(Nat->Rat)->Prop}{B:Nat->Nat}
def zd4(k:Nat)(g:GG h n0)(S:Ste l n m bs a L A B d0 h n0 d s)(hF:Feas m (Kr d0.lo) (Kr d0.hi) s)(x:Fix n m M Mo N V T Z1 D BB a d0)(hn:0<n)(b1:n+m<=11):
  CF (Kp (k+15)) 26 [ι bs] h n0 λw P Z3 W=>∃d' s',n0<=Z3/\Ste l n m bs a L A B d0 P Z3 d' s'/\Feas m (Kr d0.lo) (Kr d0.hi) s'/\Tr n0 h Z3 P/\(∀b,b<3*l->P b=h b)/\(∀c∈W,3*l<=c)/\(w=.tuple #[U .i64 0,U .i64 0,CV φ]/\(∀c u,c<n->¬ent m (Kr d0.lo) (Kr d0.hi) s' u c)\/∃(c:Nat) (up:Bool),w=.tuple #[U .i64 (c:Int),U .i64 (KO up),CV χ]/\Ent n m (Kr d0.lo) (Kr d0.hi) s' c up/\∀r ρ,¬Lw m (Kr d0.lo) (Kr d0.hi) s' c up r ρ):=by
 have⟨bw,ew,gw,lw,ow,be⟩:=S.sm.nb.or ω (show O d.nb≠0 by have:=S.sp.nl;omega);have⟨bv,ev,gv,lv,ov,bd⟩:=S.sm.va.or ω (show O d.va≠0 by have:=S.sp.vl;omega);injection ew with ew;injection ev with ev;have hl:3*l<=3*n0:=by have:=S.ap.bs;have:=S.sm.bs.1;omega
 have h4:4^(n+m)<=4^11:=Dd zd b1;refine rT (fn:=Tryz.f26) R4<|zG ?_;refine sF (α:=Nat×Sol×PS) (λ_=>[(0,ι bs)]) (λz P Z3 w'=>n0<=Z3/\Ste l n m bs a L A B d0 P Z3 z.2.1 z.2.2/\Feas m (Kr d0.lo) (Kr d0.hi) z.2.2/\Tr n0 h Z3 P/\(∀b,b<3*l->P b=h b)/\(∀c∈w',3*l<=c)/\(z=(0,d,s)\/w'≠[])/\nT (Ts n m a (Kr d0.lo) (Kr d0.hi) L) (λs=>Lv m (Kr d0.lo) (Kr d0.hi) s (n+m)) z.1 z.2.2/\O z.2.1.va=O d.va/\O z.2.1.nb=O d.nb) (λz=>4^(n+m)-z.1) (0,d,s) ⟨CS,S,hF,Er _ _,λ_ _=>rfl,λc hc=>CO hc C6,.inl ω,nT.start,ω,ω⟩ ?_ (hm:=by show _<LL;unfold LL;(try dsimp only);omega);rintro⟨q,o,y⟩ t h1 n1 w1 ⟨y1,j,F1,T1,K1,a1,a4,ad,Z4,G⟩;dsimp only at y1 j F1 T1 Z4 G;have hq:q<4^(n+m):=ad.lt λs=>iI _;have x1:=x.same j.eq;have el:=j.eq.lo;have eh:=j.eq.hi;have I1:PInv n m a (Kr o.lo) (Kr o.hi) L y:=by rw[el,eh];exact j.iv
 have C:=x1.szp I1;have ay:=zfb (k+6) j.sm (j.sp.sz j.iv.nv C x.l) (by have:=x.l.l3;omega) (r:=(B m,rowL n (y.T m))) (by rw[j.sp.tl];exact j.ap.at j.sp CS) (by rw[j.sp.nl];exact yv);refine zG ?_;refine sC (ay.mono λw _ _ he=>EntV.get j.sp j.iv.nv he) ?_;rintro _ h2 n2 he y2 x2;rw[el,eh]at he;have S2:Ste l n m bs a L A B d0 h2 n2 o y:=⟨j.sm.ext x2 y2,j.sp,j.iv,j.ap,j.eq⟩;have T2:Tr n0 h n2 h2:=T1.trans ⟨y2,λc hc=>.inl (x2 c hc)⟩;have K2:∀b,b<3*l->h2 b=h b:=λb hb=>(x2 b Z).trans (K1 b hb);have y2:n1<=n2:=y2;obtain⟨c,up,rfl,hE⟩|⟨J,rfl⟩:=he;have hc:=hE.he;have af:=zia (k+1) (g.t T2) S2.sm j.sp j.iv.toPB C x.l (up:=up) hc (λi hi hT q hq=>x1.stp I1 hc hi hT hq);rw[el,eh]at af;refine zG ?_;refine sC af ?_;rintro _ h3 F⟨b,f,ρ,b3,a3,l3,c3,d3,e3,f3,u3,fd,rfl,i3,j3,hL,hS⟩ y3 x3;have hP:=hL.opt hE;refine Zd λh4 p4 x4=>?_;refine zG ?_;refine sS [CV b3,Y a3 l3 c3,CV d3,Y e3 f3 u3] λH p5 o5=>?_;have y3:n2<=F:=y3;have k5:Exo n2 h2 H:=⟨(show Tx n2 h2 (F+1) H from zx).2⟩;have i5:=i3.t (zt:Tr F h3 (F+1) H);have j5:=j3.t (zt:Tr F h3 (F+1) H);have S5:Ste l n m bs a L A B d0 H (F+1) o y:=⟨S2.sm.ext k5.go Z,j.sp,j.iv,j.ap,j.eq⟩;have T5:Tr n0 h (F+1) H:=T2.trans ⟨Z,λc hc=>.inl (k5.go c hc)⟩;have K5:∀b,b<3*l->H b=h b:=λb hb=>(k5.go b Z).trans (K2 b hb);obtain⟨rfl,J⟩|⟨rfl,r,hO,hr⟩:=hP;refine zG ?_;refine⟨ω,[_,_,_],ω,⟨o,y,Z,S5,F1,T5,K5,a1,.inr ⟨c,up,ω,hE,J⟩⟩,λR=>?_⟩;have R:w1=[]:=R;obtain e|a2:=a4;cases e;exact⟨_,_,CS,S,hF,Er _ _,AY,λc hc=>CO hc C6,.inr ⟨c,up,ω,hE,J⟩⟩;exact CO R a2;have b5:=x.l.l1;have b8:=x.l.l2;have b9:=x.l.l3;have IN:=hO.inv j.iv F1;have ae:=ad.next (λp τ hp hs hk=>zmy p τ hp hs hk) ⟨j.iv,F1,c,up,r,ρ,hO,ω⟩;refine zG ?_;refine zl [0,0,0,0,8,28,63] rfl<|zH ?_;refine dC (jE _ _ _ up) ?_;rintro _ h6 n6⟨b6,a6,l6,c6,d6,e6,f6,u6,rfl,i6,j6⟩ y6 x6;refine dC (mulQ _ ((g.t T5).x zx) (i5.x zx) (j5.x zx) i6 j6 hS (jH up) Z) ?_;rintro _ h7 n7⟨b7,a7,l7,c7,d7,e7,f7,u7,rfl,i7,j7⟩ y7 x7;have k7:Exo (F+1) H h7:=⟨(show Tx (F+1) H n7 h7 from zx).2⟩;have ag:F+1<=n7:=(show Tx (F+1) H n7 h7 from zx).1;have S7:Ste l n m bs a L A B d0 h7 n7 o y:=⟨S5.sm.ext k7.go ag,j.sp,j.iv,j.ap,j.eq⟩;have T7:Tr n0 h n7 h7:=T5.trans ⟨ag,λc hc=>.inl (k7.go c hc)⟩;have K7:∀b,b<3*l->h7 b=h b:=λb hb=>(k7.go b Z).trans (K5 b hb);have b0:=TK (k+2) (g.t T7) S7.sm j.sp j.iv.toPB C x.l hc i7 j7 (hS.sg up);refine wa _ R7 b0 ?_;rintro _ ar bb K⟨b4,va,an,al,I,ac,a0,a8,aa⟩;refine⟨rF ω ω,b4,?_⟩;have am:∀v,v<n+m->va[v]?=ξ (KB y c (ρ*Kz up) (m+1) v):=λv hv=>(al v hv).trans (congrArg ξ (vi (by rw[j.iv.bm];omega)).symm);have Z0:=j.sp.mv an am;have a5:∀{v:ψ},(∀b,BkOf v b->3*l<=b)->∀b,b<3*l->¬BkOf v b:=λhv b hb av=>by have:=hv b av;omega
 have a0:∀b,b<3*l->ar b=h b:=λb hb=>(a0 b Z (a5 (λb hb=>(S7.sm.va.bk b hb).1) b hb)).trans (K7 b hb);obtain⟨rfl,rfl⟩|⟨i,rfl,rfl⟩:=hr;have hρ:ρ*Kz up≠0:=λe=>by rw[zpe e]at hO;exact hO.own0
 have aw:bv∈K:=(aa.resolve_left hρ) bv ⟨0,O o.va,O o.va,by rw[ev,Z4]⟩;refine zJ ?_;exact sK (q+1,{o with va:=va},optN m y c up θ ρ) ⟨Z,⟨I,Z0,IN.1,j.ap.mv,⟨j.eq.n,j.eq.sc,j.eq.lo,j.eq.hi⟩⟩,IN.2,T7.trans ac,a0,yL a8 a1,.inr (λe=>by have h:=wQ (n0:=n0) (l:=K) (w:=w1) ov.1 aw;have e:addW n0 K w1=[]:=e;rw[e]at h;cases h),ae,(by show O va=_;have:=S.sp.vl;omega),G⟩;have⟨az,ah,_⟩:=hO.ch;have ak:SzP n m V T Z1 BB {o with va:=va} ⟨y.toPT,KB y c (ρ*Kz up) (m+1)⟩:=(by have b2:=x.szp (s:=optN m y c up (ξ i) ρ) IN.1;exact⟨b2.va,C.lo,C.hi,C.tT,C.tO,C.dd⟩);refine zJ ?_;refine zF _ R5 (TS _ I Z0 j.iv.toPB ak x.l j.ap.mv az hc ah) ?_;rintro _ au bc a9⟨bf,aj,aq,ao,ai,ab⟩;have KF:∀b,b<3*l->au b=h b:=λb hb=>(ao b Z (λe=>by have:=j.ap.bs;omega) (λa ha e=>by have:=j.ap.lo a ha;omega) (a5 (λb hb=>(I.ba.bk b hb).1) b hb) (a5 (λb hb=>(I.nb.bk b hb).1) b hb)).trans (a0 b hb);have ax:bw∈a9:=ab bw ⟨0,O o.nb,O o.nb,by rw[ew,G]⟩;refine zG ?_;exact sK (q+1,_,optN m y c up (ξ i) ρ) ⟨Z,⟨aj,Z0.piv,IN.1,j.ap.mv.piv,⟨j.eq.n,j.eq.sc,j.eq.lo,j.eq.hi⟩⟩,IN.2,(T7.trans ac).trans aq,KF,yL ai (yL a8 a1),.inr (λe=>by have h:=wQ (n0:=n0) (l:=a9) (w:=addW n0 K w1) ow.1 ax;have e:addW n0 a9 (addW n0 K w1)=[]:=e;rw[e]at h;cases h),ae,(by show O va=_;have:=S.sp.vl;omega),(by show(o.nb.set _ _).length=_;rw[DX];exact G)⟩;refine zG ?_;refine⟨ω,[_,_,_],ω,⟨o,y,Z,S2,F1,T2,K2,a1,.inl ⟨ω,J⟩⟩,λR=>?_⟩;have R:w1=[]:=R;obtain e|a2:=a4;cases e;exact⟨_,_,CS,S,hF,Er _ _,AY,λc hc=>CO hc C6,.inl ⟨ω,J⟩⟩;exact CO R a2
end
section
variable {sz:Nat}{ss:List (List UInt8)}{q:Rat}{up:Bool}
def KC{α:Type}(N:Nat)(f:Nat->α):List α:=(Ea N).map f
section
variable {f g:Nat->α}{x:α}
def yo:O (KC N f)=N:=by unfold KC;rw[Da,Fa]
def wo(h:j<N):(KC N f)[j]?=ξ (f j):=by unfold KC;rw[Dz,GV h];rfl
def mU{l:List α}(hl:O l=N)(h:∀j,j<N->l[j]?=ξ (f j)):l=KC N f:=by refine ER λj=>?_;by_cases hj:j<N;rw[h j hj,wo hj];rw[Dn Z,Dn Ah]
def oV:(KC N f).set j x=KC N (Kt f j x):=by refine mU (by rw[DX,yo]) λi p=>?_;rw[List.getElem?_set,yo];unfold Kt;by_cases e:j=i;subst e;rw[CQ ω,CQ p,CQ rfl];rw[CP e,CP λq=>e q.symm,wo p]
def oW(h:∀j,j<N->f j=g j):KC N f=KC N g:=mU yo λj p=>by rw[wo p,h j p]
def eE:C3 N x=KC N λ_=>x:=mU DI λj p=>by rw[GZ,CQ p]
def kJ(h:x∈KC N f):∃j,j<N/\f j=x:=by have⟨j,p,e⟩:=D2.1 h;exact⟨j,G2.1 p,e⟩
def Ue{m:Nat}(h:m<=N):(KC N f).take m=KC m f:=mU (by rw[DK,yo];omega) λj p=>by rw[HX,CQ p,wo Z]
def zio{m:Nat}:(KC N f).drop m=KC (N-m) λj=>f (m+j):=mU (by rw[DN,yo]) λj p=>by rw[D9,wo Z]
end
structure OTN (n0:Nat)(h:HF)(n b:Nat)(ss:List (List UInt8)):Prop where
 o:OT h n b ss
 lo:3*n0<=b
 g:gro b=χ
def OTN.go{n0 n:Nat}{h:HF}(o:OTN n0 h n b ss)(T:Tr n h n' h')(e:h' b=h b):OTN n0 h' n' b ss:=⟨o.o.go ac3 T e,o.lo,o.g⟩
def OTN.ext{n0 n:Nat}{h:HF}(o:OTN n0 h n b ss)(x:Ko n h h')(p:n<=n'):OTN n0 h' n' b ss:=⟨o.o.ext ac3 x p,o.lo,o.g⟩
def OTN.low{n0 p n:Nat}{h:HF}(o:OTN n0 h n b ss)(u:p<=n0):OTN p h n b ss:=⟨o.o,by have:=o.lo;omega,o.g⟩
def pw(k:Nat){h:HF}{n:Nat}(g:GG h n){a:Option Addr}{L:Nat}{f:Nat->Rat}(iq:QS h n (Y a L cap) (KC L f))(hL:L<=1000){m:Nat}(hz:∀j,j<L->Sz m (f j))(hm:m<=1920):
  CX (Kp (k+11)) 27 [Y a L cap] h n λv h' n'=>∃b,v=Y (ξ ⟨b,0,θ⟩) L L/\OTN n h' n' b (KC L λj=>ratT (f j)):=by
 refine zw (fn:=Tryz.f27) R4<|zG ?_;refine NJ (L:=L) [CY ⟨⟨[]⟩⟩] ?_ hL;intro h1 K x1;refine zG ?_;have y:OT h1 (n+1) (3*n+2) (C3 L []):=OR.fill Z K ac3 rfl;rw[iA (f:=λj=>ratT (f j))]at y;obtain⟨B,H⟩:∃B,B=3*n+2:=⟨_,ω⟩;have gB:gro B=χ:=by rw[H];exact zB _
 rw[<-H]at y⊢;refine sF (α:=Nat) (λz=>[(2,η),(3,Y (ξ ⟨B,0,θ⟩) L L),(9,Y a L cap),(10,U .i64 (L:Int)),(11,U .i64 (z:Int))])
  (λz h' n' w'=>w'=[]/\n+1<=n'/\Ko n h h'/\OT h' n' B (mixF (λj=>ratT (f j)) (λ_=>[]) z L)/\z<=L) (λz=>L-z) 0 ⟨ω,CS,x1,y,CT⟩ ?_
 rintro j t h2 I _⟨rfl,P,R,u,hj⟩;have P:n+1<=I:=P;have u:OT h2 I B (mixF (λj=>ratT (f j)) (λ_=>[]) j L):=u;have hj:j<=L:=hj;refine zG ?_;by_cases q2:(j:Int)<(L:Int);refine zG ?_;have p:j<L:=Z;have⟨k3,u3,Z4,S,l3,W,C,Z3,Z0,w3,F,m3,r3,t3,i3,j3⟩:=QS.at iq (wo p);refine sI F r3 ?_;refine sL t3 m3 0 ?_;refine sA λh4 p4 x4=>?_;refine zG ?_;refine sS [CV Z4,Y S l3 W,CV C,Y Z3 Z0 w3] λh5 p5 o5=>?_;refine zG ?_;refine sC (SJ _ (g.x zx) (i3.x zx) (j3.x zx) (hz j p) hm) ?_;rintro _ G n6 rfl y6 x6;refine sI (j:=j) ω p ?_;have o6:OT G n6 B (mixF (λj=>ratT (f j)) (λ_=>[]) j L):=u.xx ac3 zx;refine sZn (n0:=n) (j:=j) (q:=ratT (f j)) [CY ⟨⟨ratT (f j)⟩⟩] o6 ac3 (by rw[xE];exact p) (show(0:Nat)+j*1=j*1 from Z) ω Z ?_;intro h7 J s7;rw[pE (f:=λj=>ratT (f j)) p]at J;refine zG ?_;exact sK (j+1) ⟨ω,Z,λc hc=>(s7.1 c Z).trans ((show G c=h2 c by
  have e0:h2 c=h2 c:=rfl;exact zp).trans (R c hc)),J,by show j+1<=L;omega⟩
 obtain rfl:j=L:=Z;refine zG ?_;refine zq ?_;refine⟨_,ω,u.as ?_,Z,gB⟩;exact oW λi hi=>CQ hi
section
variable {i:Nat}{d:Tmp}
def zbn{x lo:Operand}{N:Nat}{j:Int}(mm:Nat)(p:qu X ops t o d (o.op=.slice ty x (ξ lo) θ θ/\X.E.und ty=ξ (.slice e)/\X.E.inf e=ξ (sz,bt,z)/\Kn t x=Y (ξ ⟨b,0,θ⟩) N N/\Kn t lo=U ik j/\j=(mm:Int)))(R:mm<=N)(G:gro b=χ)(k:ED X ops r ms (i+1) ⟨⟨upd t d (Y (ξ ⟨b,if N=mm then 0 else 0+mm*sz,θ⟩) (N-mm) (N-mm)),h,n,w⟩,al,ld,ef⟩ Q):ED X ops (o::r) (m::ms) i ⟨⟨t,h,n,w⟩,al,ld,ef⟩ Q:=by
 have⟨p,F,J,v,K,u,P,H,I⟩:=p;refine yQ p F J (by rw[v];rfl) ?_ k;rw[v];subst I;show xc X.E ty (Kn t x) (ξ (Kn t lo)) θ=_;rw[P,H];have y:(0:Int)<=(mm:Int)/\(mm:Int)<=N:=Z;have C:offA N mm sz ⟨b,0,θ⟩=⟨b,if N=mm then 0 else 0+mm*sz,θ⟩:=by
  unfold offA;by_cases hc:N=mm;subst hc;rw[Nat.beq_refl];simp;have:D5 N mm=χ:=by
   cases hb:D5 N mm with
   |false=>rfl
   |true=>exact CO (Nat.eq_of_beq_eq_true hb) hc
  rw[this,CP hc,wO]
 simp only[xc,K,u,KV,CQ y,Int.toNat_natCast,G,Bool.false_and,C]
end
def OR.lo{h:HF}{n N m:Nat}{p:List Rat}(o:OR 4 ratP h n b p)(hl:O p=N)(hm:m<=N):QS h n (Y (ξ ⟨b,if N=m then 0 else 0+m*4,θ⟩) (N-m) (N-m)) (p.drop m):=by by_cases e:N=m;rw[CQ e,show N-m=0 by omega,List.drop_eq_nil_of_le Z];exact⟨[],.nil (.inr ⟨b,0,θ,ω,o.1⟩),.nil⟩;rw[CP e];have:=ao1 zd (o.sl (len:=N) (cap:=N) hl.symm CS) (m:=m) (c:=N-m) (cap':=N-m) Z CS;rw[C7 (by rw[DN];omega)]at this;exact this
def MulV(n m n0:Nat)(f:Nat->Rat)(w:ψ)(h':HF)(n':Nat):Prop:=∃b1 b2,w=.tuple #[Y (ξ ⟨b1,0,θ⟩) m m,Y (ξ ⟨b2,0,θ⟩) n n]/\OTN n0 h' n' b1 (KC m λi=>ratT (f (n+i)))/\OTN n0 h' n' b2 (KC n λv=>ratT (f v))
def zba{α:Type}{f g:Nat->α}{N:Nat}:KC N g=mixF f g 0 N:=oW (g:=λi=>if i<0 then f i else g i) λ_ _=>(CP (Ed _)).symm
def zh5{α:Type}{f g:Nat->α}{N:Nat}:mixF f g N N=KC N f:=oW (f:=λi=>if i<N then f i else g i) λ_ h=>CQ h
def qV(k:Nat)(g:GG h n0)(s:SM l h n0 bs d A){f σ:Nat->Rat}{N:Nat}(aa:N=n+m)(ol:OR 4 ratP h n0 Bl (KC N f))(gB:gro Bl=χ)(a7:Bl≠bs)(hs:O d.sc=N)(hσ:∀v,v<N->d.sc[v]?=ξ (σ v))(hN:d.n=n)(h0:0<n)(a9:N<=900){a:Nat}(R:∀v,v<N->Sz a (f v))(S:∀v,v<N->Sz b (σ v))(ab:a+b<=1900):
  CF (Kp (k+13)) 32 [ι bs,Y (ξ ⟨Bl,0,θ⟩) N N] h n0 λw h' n' W=>MulV n m n0 (λv=>f v*σ v) w h' n'/\n0<=n'/\ExtB n0 [Bl] h h'/\Tr n0 h n' h'/\∀c∈W,c=Bl:=by
 have⟨b0,a0,u0,c0,ty,st,i0⟩:=s.st;have a4:=s.bs.1;have a3:=ol.1;rw[hs,hN]at st;have I:=s.sc;rw[hs]at I;refine rT (fn:=Tryz.f32) R4<|zG ?_;refine sF (α:=Nat) (λz=>[(0,ι bs),(1,Y (ξ ⟨Bl,0,θ⟩) N N),(11,Y A.sc N N),(12,U .i64 (N:Int)),(13,U .i64 (z:Int))]) (λz h' n' w'=>n0<=n'/\ExtB n0 [Bl] h h'/\Tr n0 h n' h'/\OR 4 ratP h' n' Bl (mixF (λv=>f v*σ v) f z N)/\(∀c∈w',c=Bl)/\(z=0\/Bl∈w')/\z<=N) (λz=>N-z) 0 ⟨CS,F7 _ _ _,Er _ _,ol.as zba,λc hc=>CO hc C6,.inl ω,CT⟩ ?_;rintro j t h1 F w1⟨y1,Y1,C,u,P,Z0,hj⟩;have y1:n0<=F:=y1;have C:Tr n0 h F h1:=C;have u:OR 4 ratP h1 F Bl (mixF (λv=>f v*σ v) f j N):=u;have hj:j<=N:=hj;have J:∀c,c<3*n0->c≠Bl->h1 c=h c:=λc hc hn=>Y1 c hc Ax;have a1:=I.go Es C λb hb=>J b (I.bk b hb).2.1 λe=>by have:=(I.bk b hb).2.2.1;rw[e,gB]at this;cases this
 have ac:h1 bs=_:=(J bs a4 (Ne.symm a7)).trans st;have Z4:=g.t C;refine zG ?_;by_cases q1:(j:Int)<(N:Int);refine zG ?_;have p:j<N:=Z;have⟨k2,o2,b2,a2,l2,c2,d2,e2,f2,u2,ev,mv,rv,tv,iv,jv⟩:=QS.at a1.rs (hσ j p);refine sI ev rv ?_;refine sL tv mv 0 ?_;refine sA λh3 p3 G=>?_;refine zG ?_;refine NI (n0:=n0) [CV b2,Y a2 l2 c2,CV d2,Y e2 f2 u2] λZ3 p4 o4=>?_;refine zG ?_;have k4:∀c,c<3*F->Z3 c=h1 c:=λc hc=>(o4.1 c Z).trans (G c hc);have H:Tr F h1 (F+1) Z3:=zt;have ob:=u.go Es H (k4 Bl u.1);refine zl [0,0,0,0,12,28,0,124,255,511] rfl<|zH ?_;obtain⟨c5,⟨b5,a5,l5,c5,d5,e5,f5,u5,rfl,i5,j5⟩,_,t5⟩:=ob.get (xG p) (off:=0+j*4) (Dl _);rw[CP (Hf _)]at i5 j5;refine dI ω p ?_;refine dL t5 ob.1 0 ?_;refine zH ?_;refine dC (mulQ _ (Z4.t H) i5 j5 (iv.t H) (jv.t H) (R j p) (S j p) Z) ?_;rintro _ h6 n6⟨b6,a6,l6,c6,d6,e6,f6,u6,rfl,i6,j6⟩ y6 x6;refine dI ω p ?_;have a8:=ob.ext (n':=n6) Es x6 y6;refine dZ (n0:=n0) (j:=j) (q:=f j*σ j) [CV b6,Y a6 l6 c6,CV d6,Y e6 f6 u6] a8 Es (by rw[xE];exact p) (Dl _) ⟨_,_,_,_,_,_,_,_,ω,i6,j6⟩ ?_ (h3:=by first|exact rfl|exact rF ω rfl|exact rF ω (rF ω ω));intro h7 o7 S7 _;refine zG ?_;rw[pE (f:=λv=>f v*σ v) p]at o7;exact sK (j+1) ⟨Z,λc hc hn=>(by
  have y:c≠Bl:=λe=>hn (Dc.2 e);exact(S7.1 c y).trans ((x6 c Z).trans ((k4 c Z).trans (J c hc y)))),C.trans (H.trans (FN S7 (Tr.e x6 y6 (Er _ _)))),o7,yL (λc hc=>Dc.1 hc) P,.inr (wQ a3 cA),by show j+1<=N;omega⟩
 obtain rfl:j=N:=Z;rw[zh5]at u;refine zG ?_;refine zl [0,0,2,6,14,31,63,0,0,256,768,1792,3968,8191,16383,32767] rfl<|zH ?_;refine zbn n R9 Z gB ?_;have hz:∀v,v<j->Sz (a+b) (f v*σ v):=λv hv=>(R v hv).mul (S v hv);have q2:=u.lo (m:=n) yo Z;rw[zio]at q2;have hm:j-n=m:=Z;rw[hm]at q2⊢;refine dC (pw _ Z4 q2 Z (m:=a+b) (λi hi=>hz _ Z) Z) ?_;rintro _ h3 n3⟨b3,rfl,o3⟩ y3 G;refine zH ?_;refine tC n R6 ω ω ω Z ?_;have K:=ao1 zd ((u.ext (n':=n3) Es G y3).sl (len:=j) (cap:=j) yo.symm CS) (m:=0) (c:=n) (cap':=j) Z Z;rw[DO,Ue Z]at K;have K:QS h3 n3 (Y (ξ ⟨Bl,0,θ⟩) n j) (KC n λv=>f v*σ v):=K;refine dC (pw _ (Z4.ext G y3) K Z (m:=a+b) (λi hi=>hz _ Z) Z) ?_;rintro _ Z3 n4⟨b4,rfl,o4⟩ y4 x4;refine zJ ?_;refine⟨ω,[_,_],ω,⟨⟨_,_,ω,(o3.ext x4 y4).low Z,o4.low Z⟩,Z,λc hc hn=>?_,C.trans (HS ⟨y3,λc hc=>.inl (G c hc)⟩ ⟨y4,λc hc=>.inl (x4 c hc)⟩),P⟩,λhw=>?_⟩;have y:c≠Bl:=λe=>hn (Dc.2 e);exact(x4 c Z).trans ((G c Z).trans (J c hc y));have hw:w1=[]:=hw;obtain e|e:=Z0;omega;rw[hw]at e;cases e
section
variable {s:PS}{a:Nat->Nat->Int}{L:(Nat->Rat)->Prop}{B:Nat->Nat}
def conF(s:PS)(r:Nat)(low:Bool)(k:Nat):Nat->Rat:=match k with
 |0=>Kt (λ_=>0) (s.bs r) (Kz low)
 |k+1=>Kt (conF s r low k) (s.nb k) ((s.T r k:Rat)/s.d*Kz (!low))
def rayF(s:PS)(c:Nat)(up:Bool)(k:Nat):Nat->Rat:=match k with
 |0=>Kt (λ_=>0) (s.nb c) (Kz up)
 |k+1=>Kt (rayF s c up k) (s.bs k) ((s.T k c:Rat)/s.d*Kz up)
def jt{e:Nat}{f:Nat->Rat}{w:Nat}(p:∀v,Sz e (f v))(u:Sz e q)(v:Nat):Sz e (Kt f w q v):=by unfold Kt;split;exact u;exact p v
def Ug{i:Nat}(v:0<s.d)(p:(s.T i c).natAbs<2^T)(u:s.d.natAbs<2^T):Sz (T+1) ((s.T i c:Rat)/s.d*Kz up):=by have:=xz v p u;rw[ES]at this;exact(this.sg up).mono Zq
def zdx(p:c<n)(u:0<s.d)(sz:SzP n m V T Z1 BB d s):∀k,k<=m->∀v,Sz (T+1) (rayF s c up k v):=by
 intro k;induction k with
 |zero=>exact λ_ v=>jt (λ_=>ac1 _ Z) ((jH up).mono Z) v
 |succ k ih=>exact λy v=>jt (ih Z) (Ug u (sz.tT k Z c p) sz.dd) v
def zn2{r:Nat}{low:Bool}(u:r<m)(p:0<s.d)(sz:SzP n m V T Z1 BB d s):∀k,k<=n->∀v,Sz (T+1) (conF s r low k v):=by
 intro k;induction k with
 |zero=>exact λ_ v=>jt (λ_=>ac1 _ Z) ((jH low).mono Z) v
 |succ k ih=>exact λy v=>jt (ih Z) (Ug p (sz.tT r u k Z) sz.dd) v
def rayP(k:Nat)(g:GG h n0)(S:Ste l n m bs a L A B d0 h n0 d s)(x:Fix n m M Mo N V T Z1 D BB a d0)(hT:T<=1900)(hc:c<n):
  CX (Kp (k+13)) 28 [ι bs,U .i64 (c:Int),U .i64 (KO up)] h n0 λw h' n'=>∃b,w=Y (ξ ⟨b,0,θ⟩) n n/\OTN n0 h' n' b (KC n λv=>ratT (rayF s c up m v)):=by
 have⟨b0,a0,u0,c0,ty,Z0,i0⟩:=S.sm.st;have H:=S.sm.bs.1;have ap:=S.sp.nm;have I:PInv n m a (Kr d.lo) (Kr d.hi) L s:=by rw[S.eq.lo,S.eq.hi];exact S.iv
 have sz:=(x.same S.eq).szp I;have an:=x.l.l1;have ao:=x.l.l2;have a2:=S.iv.toPB.tab.dp;have J:=S.sp.de;obtain⟨K,hK⟩:∃K,K=n+m:=⟨_,ω⟩;rw[S.sp.ls,<-hK,S.sp.dn,S.sp.bl]at Z0;have aq:=S.iv.nv c hc;refine zw (fn:=Tryz.f28) R4<|zG ?_;refine NJ (L:=K) [CV χ,η,CV χ,η] ?_ Z;intro h1 p1 F;obtain⟨Bl,G⟩:∃B,B=3*n0+2:=⟨_,ω⟩;have gl:gro Bl=χ:=by rw[G];exact zB _
 have o1:OR 4 ratP h1 (n0+1) Bl (KC K λ_=>0):=(by exact Cm);rw[<-G];have F:Exo n0 h h1:=⟨F⟩;have ai:h1 bs=_:=(F.go bs H).trans Z0;have S1:=S.sm.ext (n':=n0+1) F.go Zq;refine zG ?_;refine zl [0,0,2,6,14,0,62,126,0,256,1023,2047] rfl<|zH ?_;have⟨k4,o4,e4,m4,r4,t4⟩:=ah4 S1.nb.rs (S.sp.nb c hc);refine dI e4 r4 ?_;refine dL t4 m4 0 ?_;refine zH ?_;refine dC (jE _ _ _ up) ?_;rintro _ h3 n3⟨b3,a3,l3,c3,d3,e3,f3,u3,rfl,i3,j3⟩ y3 x3;refine dI ω (show s.nb c<K from Z) ?_;refine PI (n0:=n0) (j:=s.nb c) (q:=Kz up) [CV b3,Y a3 l3 c3,CV d3,Y e3 f3 u3] (o1.ext Es x3 y3) Es Ah (Dl _) ⟨_,_,_,_,_,_,_,_,ω,i3,j3⟩ Z ?_;rw[oV];intro h5 Z4 S5;have y3:n0+1<=n3:=y3;have x5:Exo n0 h h5:=⟨λb hb=>(S5.1 b Z).trans ((x3 b Z).trans (F.go b hb))⟩;have aj:h5 bs=_:=(x5.go bs H).trans Z0;have Z4:OR 4 ratP h5 n3 Bl (KC K (rayF s c up 0)):=Z4;refine zG ?_;refine sF (α:=Nat) (λz=>[(0,ι bs),(1,U .i64 (c:Int)),(2,U .i64 (KO up)),(7,Y (ξ ⟨Bl,0,θ⟩) K K),(30,Y A.ba m m),(31,U .i64 (m:Int)),(32,U .i64 (z:Int))]) (λz h' n' w'=>w'=[]/\n0+1<=n'/\Ko n0 h h'/\OR 4 ratP h' n' Bl (KC K (rayF s c up z))/\z<=m) (λz=>m-z) 0 ⟨ω,y3,x5.go,Z4,CT⟩ ?_;rintro j t y u _⟨rfl,y6,C,W,hj⟩;have y6:n0+1<=u:=y6;have C:Exo n0 h y:=⟨C⟩;have W:OR 4 ratP y u Bl (KC K (rayF s c up j)):=W;have hj:j<=m:=hj;have S6:=S.sm.ext (n':=u) C.go Z;have ar:y bs=_:=(C.go bs H).trans Z0;have g6:GG y u:=g.ext C.go Z;refine zG ?_;by_cases q6:(j:Int)<(m:Int);refine zG ?_;have p:j<m:=Z;have hw:=S.iv.bv j p;have⟨k7,o7,e7,m7,r7,t7⟩:=ah4 S6.ba.rs (S.sp.ba j p);rw[S.sp.bl]at r7;refine sI e7 r7 ?_;refine sL t7 m7 0 ?_;refine zG ?_;have⟨r0,g0,_,ae⟩:=S.sp.ta j Z;refine sC (Nk _ g6 S6 g0 (ae c hc) (yU (sz.tT j p c hc) Z) (by rw[J];exact yU sz.dd Z) (by rw[J];omega)) ?_;rintro _ h8 n8⟨b8,a8,l8,c8,d8,e8,f8,u8,rfl,i8,j8⟩ y8 x8;have sc:Sz T (DT (s.T j c) s.d):=xz a2 (sz.tT j p c hc) sz.dd;rw[J]at i8 j8;rw[ES]at i8 j8 sc;refine zG ?_;refine sC (jE _ _ _ up) ?_;rintro _ h9 n9⟨b9,a9,l9,c9,d9,e9,f9,u9,rfl,i9,j9⟩ y9 x9;refine sC (mulQ _ (g6.x zx) (i8.x zx) (j8.x zx) i9 j9 sc (jH up) Z) ?_;rintro _ a1 P⟨a7,a6,l10,aa,ab,ac,ad,ak,rfl,af,ag⟩ au R;have R:Exo u y a1:=⟨(show Tx u y P a1 from zx).2⟩;have a4:u<=P:=Z;refine sI ω (show s.bs j<K from Z) ?_;refine OF (n0:=n0) (j:=s.bs j) (q:=(s.T j c:Rat)/s.d*Kz up) [CV a7,Y a6 l10 aa,CV ab,Y ac ad ak] (W.ext (n':=P) Es R.go a4) Es Ah (Dl _) ⟨_,_,_,_,_,_,_,_,ω,af,ag⟩ Z ?_;rw[oV];intro am ah a5 _;refine zG ?_;exact sK (j+1) ⟨ω,Z,λb hb=>(a5.1 b Z).trans ((R.go b Z).trans (C.go b hb)),ah,p⟩;obtain rfl:j=m:=Z;refine zG ?_;refine td n R8 ω Z ?_;have Z3:=ao1 zd (W.sl (len:=K) (cap:=K) yo.symm CS) (m:=0) (c:=n) (cap':=K) Z Z;rw[DO,Ue Z]at Z3;have Z3:QS y u (Y (ξ ⟨Bl,0,θ⟩) n K) (KC n (rayF s c up j)):=Z3;refine sC (pw _ g6 Z3 Z (m:=T+1) (λv _=>zdx hc a2 sz j CS v) Z) ?_;rintro _ h7 n7⟨b7,rfl,o7⟩ y7 x7;refine zG ?_;refine zq ?_ (hx:=⟨Z,λb hb=>(x7 b Z).trans (C.go b hb)⟩);exact⟨_,ω,o7.low Z⟩
def zf2(k:Nat)(g:GG h n0)(S:Ste l n m bs a L A B d0 h n0 d s)(x:Fix n m M Mo N V T Z1 D BB a d0)(hσ:∀v,v<n+m->d.sc[v]?=ξ (σ v))(a4:∀v,v<n+m->Sz b (σ v))(hb:T+1+b<=1900)(hn:0<n){r:Nat}(hr:r<m){low:Bool}:
  CX (Kp (k+14)) 25 [ι bs,U .i64 (r:Int),U .i64 (KO low)] h n0 λw h' n'=>MulV n m n0 (λv=>conF s r low n v*σ v) w h' n':=by
 have⟨b0,a0,u0,c0,ty,Z0,i0⟩:=S.sm.st;have H:=S.sm.bs.1;have aw:=S.sp.nm;have I:PInv n m a (Kr d.lo) (Kr d.hi) L s:=by rw[S.eq.lo,S.eq.hi];exact S.iv
 have sz:=(x.same S.eq).szp I;have au:=x.l.l1;have av:=x.l.l2;have a2:=S.iv.toPB.tab.dp;have J:=S.sp.de;obtain⟨K,Z4⟩:∃K,K=n+m:=⟨_,ω⟩;rw[S.sp.ls,<-Z4,S.sp.nl]at Z0;rw[<-Z4]at hσ a4;have ax:=S.iv.bv r hr;have⟨r0,g0,_,af⟩:=S.sp.ta r Z;refine zw (fn:=Tryz.f25) R4<|zG ?_;refine NJ (L:=K) [CV χ,η,CV χ,η] ?_ Z;intro h1 p1 F;obtain⟨Bl,G⟩:∃B,B=3*n0+2:=⟨_,ω⟩;have gl:gro Bl=χ:=by rw[G];exact zB _
 have o1:OR 4 ratP h1 (n0+1) Bl (KC K λ_=>0):=(by exact Cm);rw[<-G];have F:Exo n0 h h1:=⟨F⟩;have ao:h1 bs=_:=(F.go bs H).trans Z0;have S1:=S.sm.ext (n':=n0+1) F.go Zq;refine zG ?_;refine zl [0,0,2,6,14,0,62,126,0,256,1023,2047] rfl<|zH ?_;have⟨k4,o4,e4,m4,r4,t4⟩:=ah4 S1.ba.rs (S.sp.ba r hr);refine dI e4 r4 ?_;refine dL t4 m4 0 ?_;refine zH ?_;refine dC (jE _ _ _ low) ?_;rintro _ h3 n3⟨b3,a3,l3,c3,d3,e3,f3,u3,rfl,i3,j3⟩ y3 x3;refine dI ω (show s.bs r<K from Z) ?_;refine PI (n0:=n0) (j:=s.bs r) (q:=Kz low) [CV b3,Y a3 l3 c3,CV d3,Y e3 f3 u3] (o1.ext Es x3 y3) Es Ah (Dl _) ⟨_,_,_,_,_,_,_,_,ω,i3,j3⟩ Z ?_;rw[oV];intro h5 W S5;have y3:n0+1<=n3:=y3;have x5:Exo n0 h h5:=⟨λb hb=>(S5.1 b Z).trans ((x3 b Z).trans (F.go b hb))⟩;have ap:h5 bs=_:=(x5.go bs H).trans Z0;have W:OR 4 ratP h5 n3 Bl (KC K (conF s r low 0)):=W;refine zG ?_;refine sF (α:=Nat) (λz=>[(0,ι bs),(1,U .i64 (r:Int)),(2,U .i64 (KO low)),(8,Y (ξ ⟨Bl,0,θ⟩) K K),(31,Y A.nb n n),(32,U .i64 (n:Int)),(33,U .i64 (z:Int))]) (λz h' n' w'=>w'=[]/\n0+1<=n'/\Ko n0 h h'/\OR 4 ratP h' n' Bl (KC K (conF s r low z))/\z<=n) (λz=>n-z) 0 ⟨ω,y3,x5.go,W,CT⟩ ?_;rintro j t C u _⟨rfl,y6,y,Z3,hj⟩;have y6:n0+1<=u:=y6;have y:Exo n0 h C:=⟨y⟩;have Z3:OR 4 ratP C u Bl (KC K (conF s r low j)):=Z3;have hj:j<=n:=hj;have S6:=S.sm.ext (n':=u) y.go Z;have ay:C bs=_:=(y.go bs H).trans Z0;have g6:GG C u:=g.ext y.go Z;refine zG ?_;by_cases q6:(j:Int)<(n:Int);refine zG ?_;have p:j<n:=Z;have hw:=S.iv.nv j p;have⟨k7,o7,e7,m7,r7,t7⟩:=ah4 S6.nb.rs (S.sp.nb j p);rw[S.sp.nl]at r7;refine sI e7 r7 ?_;refine sL t7 m7 0 ?_;refine zG ?_;refine sC (Nk _ g6 S6 g0 (af j p) (yU (sz.tT r hr j p) Z) (by rw[J];exact yU sz.dd Z) (by rw[J];omega)) ?_;rintro _ h8 n8⟨b8,a8,l8,c8,d8,e8,f8,u8,rfl,i8,j8⟩ y8 x8;have sc:Sz T (DT (s.T r j) s.d):=xz a2 (sz.tT r hr j p) sz.dd;rw[J]at i8 j8;rw[ES]at i8 j8 sc;refine zM ?_;refine zS R4 (v:=U .i64 (KO (!low))) (by cases low<;>rfl) ?_;refine zG ?_;refine sC (jE _ _ _ (!low)) ?_;rintro _ h9 n9⟨b9,a9,l9,c9,d9,e9,f9,u9,rfl,i9,j9⟩ y9 x9;refine sC (mulQ _ (g6.x zx) (i8.x zx) (j8.x zx) i9 j9 sc (jH _) Z) ?_;rintro _ a1 P⟨aa,a7,l10,ab,ac,ad,ae,aq,rfl,ai,aj⟩ az R;have R:Exo u C a1:=⟨(show Tx u C P a1 from zx).2⟩;have a5:u<=P:=Z;refine sI ω (show s.nb j<K from Z) ?_;refine OF (n0:=n0) (j:=s.nb j) (q:=(s.T r j:Rat)/s.d*Kz (!low)) [CV aa,Y a7 l10 ab,CV ac,Y ad ae aq] (Z3.ext (n':=P) Es R.go a5) Es Ah (Dl _) ⟨_,_,_,_,_,_,_,_,ω,ai,aj⟩ Z ?_;rw[oV];intro ar ak a6 _;refine zG ?_;exact sK (j+1) ⟨ω,Z,λb hb=>(a6.1 b Z).trans ((R.go b Z).trans (y.go b hb)),ak,p⟩;obtain rfl:j=n:=Z;refine zG ?_;have ag:=qV (k+0) (f:=conF s r low j) (σ:=σ) (a:=T+1) (b:=b) g6 S6 Z4 Z3 gl Z (S.sp.ls.trans Z4.symm) hσ S.sp.dn hn Z (λv _=>zn2 hr a2 sz j CS v) a4 Z;refine zF _ R5 ag ?_;rintro _ h7 n7 w7⟨⟨b1,b2,rfl,am,an⟩,y7,Y7,T7,ah⟩;rw[mY,zV (show ∀c∈w7,3*n0<=c from λc hc=>by have:=ah c hc;omega)];refine zG ?_;refine zq ?_ (hx:=⟨Z,λb hb=>(Y7 b Z (λe=>by have:=Dc.1 e;omega)).trans (y.go b hb)⟩);exact⟨b1,b2,ω,am.low Z,an.low Z⟩
end
end
def Qa(x:Rat)(lo hi:List UInt8):Prop:=(lo=[]\/zj lo<=x)/\(hi=[]\/x<=zj hi)
def Uh(m:Rat)(lo hi:List UInt8):Prop:=(0<m.num->lo≠[])/\(m.num<0->hi≠[])
def Ui(a:Nat)(ds:List SideD):Prop:=∀d∈ds,Sz a (zj d.lo)/\Sz a (zj d.hi)
def hS{α β:Type}(R:α->β->Prop)(ds:List α)(xs:List β):Prop:=∀(j:Nat) d q,ds[j]?=ξ d->xs[j]?=ξ q->R d q
def hT{α β:Type}(R:α->β->Prop)(ds:List α)(xs:List β)(j:Nat):Prop:=∀i,i<j->∀d q,ds[i]?=ξ d->xs[i]?=ξ q->R d q
section
variable {R:α->β->Prop}{ds:List α}{ms:List β}{d:α}{m:β}
end
abbrev okS(ds:List SideD)(ms:List Rat):Prop:=hS (λd m=>Uh m d.lo d.hi) ds ms
abbrev okT(ds:List SideD)(ms:List Rat)(j:Nat):Prop:=hT (λd m=>Uh m d.lo d.hi) ds ms j
abbrev inS(ds:List SideD)(xs:List Rat):Prop:=hS (λd q=>Qa q d.lo d.hi) ds xs
abbrev inT(ds:List SideD)(xs:List Rat)(j:Nat):Prop:=hT (λd q=>Qa q d.lo d.hi) ds xs j
def rowH(P:Rat->List UInt8->List UInt8->Prop)(xs:List Rat)(d:SideD):Prop:=P (dotR d.A (xs.take (O d.A))) d.lo d.hi
abbrev rowIn(xs:List Rat)(d:SideD):Prop:=rowH Qa xs d
noncomputable def colQ(rs:List SideD)(ms:List Rat)(c:Rat)(j:Nat):Nat->Rat
 |0=>c
 |i+1=>colQ rs ms c j i+((rs[i]?.bind λd=>d.A[j]?).getD 0)*ms[i]?.getD 0
noncomputable def zr2(rs:List SideD)(ms cs:List Rat)(i j:Nat):List Rat:=cs.mapIdx λk c=>colQ rs ms c k (if k<j then i+1 else i)
section
variable {rs:List SideD}{ms cs:List Rat}{i:Nat}
end
section
variable {i:Nat}{d:Tmp}
end
def RwB(a L:Nat)(rs:List SideD):Prop:=∀d∈rs,(∀q∈d.A,Sz a q)/\O d.A<=L
section
variable {s:List UInt8}
def Uj(k:Nat)(hs:O s<1000000):VF (Kp (k+7)) 49 [CY ⟨⟨s⟩⟩] h n λv=>∃b:Bool,v=CV b/\(b=φ↔bdOk s):=by
 refine zO (fn:=Tryz.f49) R4<|zG ?_;refine sC (PA _ _ _ s hs) ?_;rintro _ w G⟨f,e,o,g,i,j,l,m,q,u,rfl,D,F,p,c⟩ R N;cases q;have c:¬vF s:=λd=>by cases c d
 refine Zd λy J Z1=>?_;refine sS [CV f,Y e o g,CV i,Y j l m] λA K H=>?_;refine zG ?_;by_cases q14:s=[];refine un φ R6 (by simp[q14]) ?_;refine zf ?_;exact LK (.inl q14);refine un χ R6 (by simp[q14]) ?_;refine zf ?_;exact Lm λd=>by obtain d|d:=d;exact CO d q14;exact CO d c
 have c:vF s:=⟨_,p ω⟩;refine Zd λB L P=>?_;refine sS [CV f,Y e o g,CV i,Y j l m] λC M I=>?_;refine zf ?_;exact LK (.inr c)
def Uk(k:Nat){lo hi:List UInt8}(i:O lo<1000000)(g:O hi<1000000)(w:Sz a (zj lo))(u:Sz b (zj hi))(W:a+b<=2000):VF (Kp (k+9)) 21 [CY ⟨⟨lo⟩⟩,CY ⟨⟨hi⟩⟩] h n λv=>∃b:Bool,v=CV b/\(b=φ↔pairOk lo hi):=by refine zO (fn:=Tryz.f21) R4<|zG ?_;refine sC ((Uj _ i).cx) ?_;rintro _ R a0⟨B,rfl,j⟩ ab a6;obtain⟨rfl,e⟩|⟨rfl,e⟩:=Ky j;refine zf ?_;exact Lm λc=>CO c.1 e;refine zG ?_;refine sC ((Uj _ g).cx) ?_;rintro _ S a1⟨C,rfl,l⟩ ac a7;obtain⟨rfl,f⟩|⟨rfl,f⟩:=Ky l;refine zf ?_;exact Lm λc=>CO c.2.1 f;refine zG ?_;by_cases q13:lo=[];refine un φ R6 (by simp[q13]) ?_;refine zf ?_;exact LK (⟨e,f,.inl q13⟩);refine un χ R6 (by simp[q13]) ?_;refine zG ?_;by_cases q14:hi=[];refine un φ R6 (by simp[q14]) ?_;refine zf ?_;exact LK (⟨e,f,.inr (.inl q14)⟩);refine un χ R6 (by simp[q14]) ?_;refine zG ?_;refine sC (numU _ _ _ lo i) ?_;rintro _ T a2⟨D,y,Z3,G,I,K,M,Z1,rfl,m,p⟩ ad a8;refine zG ?_;refine sC (numU _ _ _ hi g) ?_;rintro _ Z4 a3⟨F,A,Z0,H,J,L,N,P,rfl,o,q⟩ ae a9;refine sC ((Z8 _ (m.t zt) (p.t zt) o q w u Z).cx) ?_;rintro _ V a4⟨a5,rfl,d⟩ af aa;obtain⟨rfl,d⟩|⟨rfl,d⟩|⟨rfl,d⟩:=d;refine zf ?_;exact LK (⟨e,f,.inr (.inr (Ft d))⟩);refine zf ?_;exact LK (⟨e,f,.inr (.inr (by rw[d];exact Hy))⟩);refine zf ?_;exact Lm λc=>by obtain c|c|c:=c.2.2;exact CO c q13;exact CO c q14;exact CO c (F6.2 d)
end
section
variable {lo:Nat}{p:LPD}
def zwt(k:Nat)(io:Sl h n 1 (Y ao lo co) (strs p.obj))(ir:KW h n (Y ar lr cr) p.rows)(iw:Sl h n 1 (Y aw lw cw) (strs p.lower))(iu:Sl h n 1 (Y au lu cu) (strs p.upper))(hp:LPB a p)(ha:a+a<=2000):VF (Kp (k+10)) 8 [.agg #[Y ao lo co,Y ar lr cr,Y aw lw cw,Y au lu cu]] h n λv=>∃b:Bool,v=CV b/\(b=φ↔VLP p):=by
 have be:=z8 io;have bf:=ir.len;have bh:=z8 iw;have bg:=z8 iu;have⟨Z0,F,G,e,Z3,b5,b6,b7⟩:=hp;refine zO (fn:=Tryz.f8) R4<|zG ?_;refine sB [Y ao lo co,Y ar lr cr,Y aw lw cw,Y au lu cu] λaz bp bq=>?_;refine zG ?_;refine sC (SD _ (io.x zx) (λs P=>(Z0 s P).1) Z3) ?_;rintro _ V I⟨ai,bb,an,ae,rfl,K,a5⟩ bv br;obtain⟨rfl,y⟩|⟨rfl,y⟩:=Ky K;refine zf ?_;exact Lm λhv=>CO hv.ob y;have a0:=a5 rfl;have ab:=a0.len;rw[Da]at ab;refine zG ?_;by_cases q13:(lo:Int)<1;refine zf ?_;exact Lm λhv=>by have:=hv.n1;exact BO
 refine zG ?_;by_cases q14:(lo:Int)>64;refine zf ?_;exact Lm λhv=>by have:=hv.n1;exact BO
 refine zG ?_;by_cases q15:(lw:Int)=(lo:Int);refine zG ?_;by_cases q16:(lu:Int)=(lo:Int);refine zG ?_;by_cases q17:(lr:Int)>64;refine zf ?_;exact Lm λhv=>by have:=hv.n1;exact BO
 refine zG ?_;refine sF (α:=Nat) (λz=>[(1,ι (3*n+2)),(3,U .i64 (lo:Int)),(6,U .i64 (z:Int))]) (λz Z1 R S=>S=[]/\I<=R/\ExtB I [] V Z1/\z<=O p.obj/\∀i,i<z->∀lo hi,p.lower[i]?=ξ lo->p.upper[i]?=ξ hi->pairOk lo hi) (λz=>O p.obj-z) 0 ⟨ω,CS,F7 _ _ _,CT,(λi hi=>CO hi (Ed _))⟩ ?_;rintro j t W J _⟨rfl,bw,ag,hj,m⟩;have hj:j<=O p.obj:=hj;have m:∀i,i<j->∀lo hi,p.lower[i]?=ξ lo->p.upper[i]?=ξ hi->pairOk lo hi:=m;refine zG ?_;by_cases q19:(j:Int)<(lo:Int);refine zG ?_;refine zl [0,1,0,7,15,0,32,0,224,480,1023,2047] rfl<|zH ?_;obtain⟨av,f⟩:∃d,(p.lower)[j]?=ξ d:=⟨_,CW Z⟩;have⟨b8,bm,T,a3,a7,a9⟩:=vM iw f;refine dI T a7 ?_;refine dL a9 a3 0 ?_;refine zH ?_;obtain⟨ax,g⟩:∃d,(p.upper)[j]?=ξ d:=⟨_,CW Z⟩;have⟨b9,bn,Z4,a4,a8,aa⟩:=vM iu g;refine dI Z4 a8 ?_;refine dL aa a4 0 ?_;refine dC ((Uk _ (Dm (F _ (C0 f)).1 zd) (Dm (G _ (C0 g)).1 zd) (F _ (C0 f)).2 (G _ (C0 g)).2 Z).cx) ?_;rintro _ b0 bi⟨al,rfl,M⟩ bx bs;obtain⟨rfl,C⟩|⟨rfl,C⟩:=Ky M;refine zf ?_;exact Lm λhv=>CO (hv.bd _ _ _ f g) C;refine zJ ?_;exact sK (j+1) ⟨ω,Z,zy,(by show j+1<=O p.obj;omega),(SK m f g C)⟩;refine zG ?_;have b4:j=O p.obj:=Z;refine zG ?_;refine sF (α:=Nat) (λz=>[(1,ι (3*n+2)),(3,U .i64 (lo:Int)),(7,U .i64 (z:Int))]) (λz Z1 R S=>S=[]/\J<=R/\ExtB J [] W Z1/\z<=O p.rows/\∀r∈p.rows.take z,pairOk r.lo r.hi/\(∀s∈r.A,vF s)/\O r.A=O p.obj) (λz=>O p.rows-z) 0 ⟨ω,CS,F7 _ _ _,CT,(λr hr=>CO hr cA)⟩ ?_;rintro i t b1 bj _⟨rfl,bz,ah,hi,o⟩;have hi:i<=O p.rows:=hi;have o:∀r∈p.rows.take i,pairOk r.lo r.hi/\(∀s∈r.A,vF s)/\O r.A=O p.obj:=o;refine zG ?_;by_cases q24:(i:Int)<(lr:Int);refine zG ?_;obtain⟨ay,c⟩:∃d,(p.rows)[i]?=ξ d:=⟨_,CW Z⟩;have⟨ba,bo,aj,a2,ap,l,q,u,w,H⟩:=KW.at ir c;have ad:=z8 H;refine sI l u ?_;refine zG ?_;refine sL w q 0 ?_;refine sC (SD _ (H.x zx) (λs P=>((e _ (C0 c)).2.2.2 s P).1) (e _ (C0 c)).2.2.1) ?_;rintro _ b2 bk⟨ak,bc,aq,af,rfl,L,a6⟩ c0 bt;obtain⟨rfl,B⟩|⟨rfl,B⟩:=Ky L;refine zG ?_;refine zl [0,1,3,7,15,7,63,127,255,511,7,2047,4095,8191,16383,32767,16383,131071,262143,524287,16383,1064959,16383,7356415,15745023,32522239,67108863,134217727,268435455] rfl<|zf ?_;exact Lm λhv=>CO (hv.rw _ (C0 c)).2.1 B;have a1:=a6 rfl;have ac:=a1.len;rw[Da]at ac;refine zG ?_;refine zl [0,1,3,7,15,7,63,127,255,511,7,2047,4095,8191,16383,32767,16383,131071,262143,524287,16383,1064959,16383,7356415,15745023,32522239,67108863,134217727,268435455] rfl<|zH ?_;refine dI l u ?_;refine zH ?_;refine dL w q 0 ?_;refine zH ?_;by_cases q27:(a2:Int)=(lo:Int);refine zH ?_;refine dI l u ?_;refine zH ?_;refine dL w q 1 ?_;refine zH ?_;refine dI l u ?_;refine zH ?_;refine dL w q 2 ?_;refine dC ((Uk _ (Dm (e _ (C0 c)).1.1 zd) (Dm (e _ (C0 c)).2.1.1 zd) (e _ (C0 c)).1.2 (e _ (C0 c)).2.1.2 Z).cx) ?_;rintro _ b3 bl⟨am,rfl,N⟩ c1 bu;obtain⟨rfl,D⟩|⟨rfl,D⟩:=Ky N;refine zf ?_;exact Lm λhv=>CO (hv.rw _ (C0 c)).1 D;refine zJ ?_;exact sK (i+1) ⟨ω,Z,zy,Aq,(ot o c ⟨D,B,Z⟩)⟩;refine zf ?_;exact Lm λhv=>CO (hv.rw _ (C0 c)).2.2 Z;refine zf ?_;exact LK (⟨Z,Z,Z,Z,Z,y,λj2 lo hi h1 h2=>m j2 (by have:=(C4.1 h1).1;omega) lo hi h1 h2,by have hq:=o;rw[C7 Z]at hq;exact hq⟩);refine zf ?_;exact Lm λhv=>by have:=hv.n1;exact BO
 refine zf ?_;exact Lm λhv=>by have:=hv.n1;exact BO
end
section
variable {p:LPD}
def jJ(p:LPD):O (zk p)=O p.rows:=by unfold zk;rw[Da]
def zf4(h:O p.lower=O p.upper):O (zC p)=O p.lower:=by unfold zC;rw[HL,h,Nat.min_self]
def LPB.rows(h:LPB a p):Ui a (zk p):=by intro d c;obtain⟨r,b,rfl⟩:=D2.1 c;exact⟨(h.rl r b).1.2,(h.rl r b).2.1.2⟩
def LPB.cols(h:LPB a p):Ui a (zC p):=by intro d c;unfold zC at c;rw[FH]at c;have⟨j,b⟩:=c;rw[FG]at b;split at b;rename_i lo hi h1 h2;injection b with b;subst b;exact⟨(h.lw _ (C0 h1)).2,(h.up _ (C0 h2)).2⟩;cases b
end
open Classical in
open Classical in
open Classical in
section
variable {p:LPD}{R:List (List UInt8)}
open Classical in
open Classical in
end
def Lo.nums{b:Nat}{S:List (List UInt8)}(h:∀s∈S,Lo b s):∀q∈S.map zj,Sz b q:=by intro q a;obtain⟨s,c,rfl⟩:=D2.1 a;exact(h s c).2
def VLP.rwb{a:Nat}{p:LPD}(h:VLP p)(e:LPB a p):RwB a (O p.obj) (zk p):=by intro d c;obtain⟨r,b,rfl⟩:=D2.1 c;exact⟨Lo.nums (e.rl r b).2.2.2,by show(r.A.map zj).length<=_;rw[Da,(h.rw r b).2.2];exact Ez _⟩
def VLP.cols{p:LPD}(h:VLP p):O (zC p)=O p.obj:=by rw[zf4 (h.ll.trans h.lu.symm),h.ll]
section
variable {i r:Nat}{low up:Bool}{q:Rat}
def rA(rs:List SideD)(i:Nat):List Rat:=((rs[i]?).getD ⟨[],[],[]⟩).A
def zpn{rs:List SideD}(h:i<O rs):rA rs i=(rs[i]).A:=by unfold rA;rw[CW h];rfl
structure Fea (cs rs:List SideD)(x:Nat->Rat):Prop where
 v:∀v,v<O cs->inBd (Le cs) (Lf cs) v (x v)
 r:∀i,i<O rs->inBd (Le rs) (Lf rs) i (Ks (O cs) λj=>atR (rA rs i) j*x j)
def Fea.congr{cs rs:List SideD}{x y:Nat->Rat}(h:Fea cs rs x)(e:∀v,v<O cs->x v=y v):Fea cs rs y:=
 ⟨λv c=>e v c▸h.v v c,λi hi=>by
  have d:(Ks (O cs) λj=>atR (rA rs i) j*y j)=Ks (O cs) λj=>atR (rA rs i) j*x j:=yg λj f=>by rw[e j f]
  rw[d];exact h.r i hi⟩
def zdy{n m:Nat}{a:Nat->Nat->Int}{L:(Nat->Rat)->Prop}{s:PS}{e:Nat}(h:PB n m a L s.toPT)(f:e<n):∀k,k<=m->rayF s e up k=rayV s.toPT e up k:=by
 intro k;induction k with
 |zero=>
  intro _;show Kt (λ_=>0) (s.nb e) (Kz up)=Kt (λ_=>0) (s.nb e) (0+Kz up);rw[ab3]
 |succ k ih=>
  intro l;have c:rayV s.toPT e up k (s.bs k)=0:=oI (s:=⟨s.toPT,λ_=>0⟩) (λq=>h.dis e k f Z q.symm) λi hi q=>by have:=h.jnj k i Z Z q;omega
  show Kt (rayF s e up k) (s.bs k) ((s.T k e:Rat)/s.d*Kz up)=Kt (rayV s.toPT e up k) (s.bs k) (rayV s.toPT e up k (s.bs k)+(s.T k e:Rat)/s.d*Kz up);rw[ih Z,c,ab3]
section
variable {cs rs:List SideD}{ss:List Rat}{s:Rat}{st:PS}{x:Nat->Rat}
def ScI.fea(c:ScI cs rs ob ss bz y s)(p:PrO cs rs ob)(d:L0 (O cs) (O rs) (aF (O cs) (zI (bz++[y]))) x):(∀v,v<O cs+O rs->inBd (Kr (solI cs rs ss bz y).lo) (Kr (solI cs rs ss bz y).hi) v (x v))↔Fea cs rs x:=by
 rw[c.lo,c.hi];have h:=zqa (cl:=Le cs) (ch:=Lf cs) (rl:=Le rs) (rh:=Lf rs) (f:=λi=>atR (rA rs i)) d (λi hi=>(c.row p hi).pos) λi hi j e=>by rw[zpn hi];exact(c.row p hi).eq j e
 exact h.trans ⟨λh=>⟨h.1,h.2⟩,λh=>⟨h.v,h.r⟩⟩
def ScI.val(c:ScI cs rs ob ss bz y s)(p:PrO cs rs ob)(d:L0 (O cs) (O rs) (aF (O cs) (zI (bz++[y]))) x):x (O cs+O rs)=s*Ks (O cs) λj=>atR ob j*x j:=
 zp0 d (c.obj p).eq
def ScI.xF(c:ScI cs rs ob ss bz y s)(p:PrO cs rs ob)(h:Fea cs rs x):∀v,v<O cs+O rs->inBd (Kr (solI cs rs ss bz y).lo) (Kr (solI cs rs ss bz y).hi) v (Go.Proofs.YteoagenjaemllaaGreatDoor.xF (O cs) (zI (bz++[y])) x v):=
 (c.fea p xF_L).2 (h.congr λv d=>(jo d).symm)
abbrev Md(cs rs:List SideD)(ss:List Rat)(bz:List (Nat×List Int))(y:Nat×List Int)(st:PS):Prop:=PInv (O cs) (O rs) (aF (O cs) (zI (bz++[y]))) (Kr (solI cs rs ss bz y).lo) (Kr (solI cs rs ss bz y).hi) (L0 (O cs) (O rs) (aF (O cs) (zI (bz++[y])))) st
theorem Ul{s a b:Rat}(c:0<s)(h:s*a<=s*b):a<=b:=Rat.not_lt.1 λd=>by
 have e:=Fe c (show 0<a-b by grind)
 grind
theorem Um{s a b:Rat}(c:0<s)(h:s*a<s*b):a<b:=F6.1 λd=>by
 have e:=Rat.mul_nonneg (Ft c) (show 0<=a-b by grind)
 grind
def zpy(c:ScI cs rs ob ss bz y s)(p:PrO cs rs ob)(d:Md cs rs ss bz y st)(l:∀c u,c<O cs->¬ent (O rs) (Kr (solI cs rs ss bz y).lo) (Kr (solI cs rs ss bz y).hi) st u c)(hx:Fea cs rs x):(Ks (O cs) λj=>atR ob j*st.x j)<=Ks (O cs) λj=>atR ob j*x j:=by
 have h:=d.opt l (y:=Go.Proofs.YteoagenjaemllaaGreatDoor.xF (O cs) (zI (bz++[y])) x) xF_L (c.xF p hx);rw[c.val p d.xL,c.val p xF_L]at h;have h:=Ul (c.obj p).pos h;have e:(Ks (O cs) λj=>atR ob j*Go.Proofs.YteoagenjaemllaaGreatDoor.xF (O cs) (zI (bz++[y])) x j)=Ks (O cs) λj=>atR ob j*x j:=yg λj f=>by rw[jo f]
 rw[e]at h;exact h
def zp9(c:ScI cs rs ob ss bz y s)(p:PrO cs rs ob)(d:Md cs rs ss bz y st)(hv:Vio (O rs) (Kr (solI cs rs ss bz y).lo) (Kr (solI cs rs ss bz y).hi) st r low g)(f:∀c,c<O cs->¬suit (Kr (solI cs rs ss bz y).lo) (Kr (solI cs rs ss bz y).hi) (rdOf (O rs) st r 0 low) c)(hx:Fea cs rs x):False:=
 hv.inf d (e:=0) f (y:=Go.Proofs.YteoagenjaemllaaGreatDoor.xF (O cs) (zI (bz++[y])) x) xF_L (c.xF p hx)
def Un(c:ScI cs rs ob ss bz y s)(p:PrO cs rs ob)(f:Md cs rs ss bz y st)(G:Feas (O rs) (Kr (solI cs rs ss bz y).lo) (Kr (solI cs rs ss bz y).hi) st){e:Nat}(u:Ent (O cs) (O rs) (Kr (solI cs rs ss bz y).lo) (Kr (solI cs rs ss bz y).hi) st e up)(I:∀r ρ,¬Lw (O rs) (Kr (solI cs rs ss bz y).lo) (Kr (solI cs rs ss bz y).hi) st e up r ρ)(J:0<q):Fea cs rs (λv=>st.x v+q*rayF st e up (O rs) v)/\(Ks (O cs) λj=>atR ob j*(st.x j+q*rayF st e up (O rs) j))<Ks (O cs) λj=>atR ob j*st.x j:=by
 have⟨o,C,d⟩:=Ent.unb f G u I J;have l:∀v,v<O cs->rayV st.toPT e up (O rs+1) v=rayF st e up (O rs) v:=λv w=>(by rw[zdy f.toPB u.he _ CS];exact vi (by show v≠st.bs (O rs);rw[f.bm];omega));have F:=(c.fea p o).1 C;rw[c.val p o,c.val p f.xL]at d;have d:=Um (c.obj p).pos d;have A:(Ks (O cs) λj=>atR ob j*(st.x j+q*rayV st.toPT e up (O rs+1) j))=Ks (O cs) λj=>atR ob j*(st.x j+q*rayF st e up (O rs) j):=yg λj H=>by rw[l j H]
 rw[A]at d;exact⟨F.congr λv w=>by rw[l v w],d⟩
end
def QB.nd{A:Nat}(h:QB A B q):q.num.natAbs<=A/\q.den<=B:=by
 have⟨x,y,l,o,p,u⟩:=h;have e:q=DT x y:=by
  rw[ES,<-o];have:(y:Rat)≠0:=λe=>by have:=Rat.intCast_eq_zero_iff.1 e;omega
  rw[FL];exact(Rat.mul_div_cancel this).symm
 have⟨d,f⟩:=pt (x:=x) l;rw[<-e]at d f;constructor;rw[d,Gy];exact Dy (EL _ _) p;have c:=congrArg Int.natAbs f;rw[Gy,Dk]at c;rw[c];exact Dy (EL _ _) u
def Uo(h:V<10^k)(c:1<=k):O (decT V)<=k:=by unfold decT;split;exact c;rw[Da,kY];exact ws k V h
def Up{A a:Nat}(h:QB A B q)(o:A<10^a)(p:B<10^b)(c:1<=a)(hb:1<=b):O (ratT q)<=a+b+2:=by have⟨d,e⟩:=h.nd;have f:=Uo (V:=q.num.natAbs) Z c;have l:=Uo (V:=q.den) Z hb;unfold Go.Proofs.YteoagenjaemllaaGreatDoor.ratT;simp only[C1];split<;>split<;>simp<;>omega
section
variable {a:Nat->Nat->Int}{lo hi:Nat->Option Rat}{L:(Nat->Rat)->Prop}{st:PS}{x:Nat->Rat}{D:Int}
def Vtx.dot{E:Nat}(h:Vtx n m a x N D)(F:∀v,v<n+m->∀j,j<n->(a v j).natAbs<=M){l:List Rat}(hl:∀q∈l,NE E P q)(H:O l<=n)(G:k<=n):QB (k*(P*E^(O l-1)*vN n M N)) (E^O l*vD n N) (Ks k λj=>atR l j*x j):=by have f:=P0 hl;have d:∀j,∃w:Int,((lcmD l 1:Int):Rat)*atR l j=w/\w.natAbs<=P*E^(O l-1):=λj=>(by by_cases hj:j<O l;have e:=CW hj;rw[wg e,EG];exact TX hl (C0 e);refine⟨0,?_,CT⟩;unfold atR;rw[Dn Z];exact Rat.mul_zero _);have⟨w,d⟩:=Ge d;have o:=h.sum (c:=atR l) (K:=(lcmD l 1:Int)) (by have:=f.1;omega) (w:=w) (λj=>(d j).1) (λj=>(d j).2) F k G;have⟨X,Z3,p,u,A,C⟩:=o;refine⟨X,Z3,p,u,A,Dy C (C9 _ ?_)⟩;rw[Dk];exact f.2
end
theorem zhg{l c:List Rat}{f:Nat->Rat}{n:Nat}(hu:O c=n)(d:∀j,j<n->c[j]?=ξ (f j))(hl:O l<=n)(hj:j<=O l):dotR (l.take j) (c.take j)=Ks j λj=>atR l j*f j:=by grind [rM,yg,wg]
def nV:Nat:=10^38*1001
def num8{n:Nat}(c:1<=n)(d:n<=5):vN n (10^32) nV<2^800/\vD n nV<2^700/\vN n (10^32) nV<10^241/\vD n nV<10^208/\vN n (10^32) (10^38)<=vN n (10^32) nV/\vD n (10^38)<=vD n nV:=by have h:n=1\/n=2\/n=3\/n=4\/n=5:=Z;obtain rfl|rfl|rfl|rfl|rfl:=h<;>exact⟨eN,eN,eN,eN,eN,eN⟩
def zp2{n:Nat}(c:1<=n)(d:n<=5)(p:k<=n)(u:r<=n):k*(10^14*(10^10)^(r-1)*vN n (10^32) nV)<2^990/\(10^10)^r*vD n nV<2^990:=by have⟨e,f,_⟩:=num8 c d;have l:10^14*(10^10)^(r-1)<=10^14*(10^10)^4:=Do _ (Dd zd Z);have o:(10^10)^r<=(10^10)^5:=Dd zd Z;constructor;refine Dw (DG (show k<=5 from Z) (DG l (EB e))) ?_;decide+kernel;refine Dw (DG o (EB f)) ?_;decide+kernel
end
section
variable {sz:Nat}{s:List UInt8}{v:ψ}{cs:List ψ}
def Qb(l:List (List UInt8)):O (strs l)=O l*1:=by simp[strs]
def zd5(l:List (List UInt8)):ones (strs l)=φ:=by
 induction l with
 |nil=>rfl
 |cons e l ih=>exact ih
def Uq(k:Nat){a:Option Addr}{S:List (List UInt8)}(f:Sl h n 1 (Y a len cap) (strs S))(hb:O S<1000000):
  CX (Kp (k+1)) 12 [Y a len cap] h n λv h' n'=>Gr0 h' n n' 9 1 v (O S) (strs S):=by
 refine zw (fn:=Tryz.f12) R4 ?_;have j:=z8 f;subst j;refine mM ?_;refine pZ (cs:=[]) R5 ?_;generalize hh:upd h (3*n+2) _=h1;have c:Ko n h h1:=by rw[<-hh];exact Cy
 refine zM ?_;refine RP (lo:=n) R8 zd (.emp CS (Nat.lt_succ_self _)) (uX (f.ext c Zq)) Z (Qb _) (zd5 _) (by show n<=n/\_;omega) ?_;intro v q o p d g _ _;rw[Dl,List.nil_append]at d;obtain⟨i,rfl,_⟩:=d.shape;refine Ze ?_;exact retX [Y i (O S) (O S)] R3 (show n<=o from Z) (c.trans g CS) d
def fitL(l:List (List UInt8))(n:Nat)(s:List UInt8):List (List UInt8):=(l++C3 (n-O l) s).take n
theorem pF(l:List (List UInt8))(n:Nat)(s:List UInt8):O (fitL l n s)=n:=by grind [fitL]
theorem ziq{l:List (List UInt8)}{x:List UInt8}(h:x∈fitL l n s):x∈l\/x=s:=by obtain h|h:=Ei.1 (D8 h);exact .inl h;exact .inr (List.eq_of_mem_replicate h)
def KH(lo:Nat)(h:HF)(n:Nat)(v:ψ)(L:List (List UInt8)):Prop:=Sl h n 1 v (strs L)/\∀ad len cap,v=Y (ξ ad) len cap->3*lo<=ad.block/\(len≠0->∃T,h ad.block=ξ (.row (strs T) 9)/\ad=⟨ad.block,0,θ⟩/\T.take len=L/\len<=O T/\len<=cap)
def KH.of_gr0{lo:Nat}{c:List ψ}(g:Gr0 h lo n 9 1 v len c){T:List (List UInt8)}(i:c=strs T)(hm:m<=len){a:Option Addr}(hv:v=Y a l k):KH lo h n (Y a m k) (T.take m):=by
 have j:∀(x:List ψ),x=strs T->x.take m=strs (T.take m):=λx e=>by rw[e];unfold strs;rw[Gj]
 cases g with
 |gro g=>
  cases g with
  |nil=>
   cases hv;have d:m=0:=Z;subst d;exact⟨.nil (.inl ω),λf l c e=>by cases e⟩
  |at_ hg hlo hb hr hl ho=>
   cases hv;refine⟨.at_ hb hr ω hm Z (by rw[DO,D1];exact j _ i),λf l c e=>?_⟩;cases e;subst i;exact⟨hlo,λ_=>⟨T,hr,ω,ω,by rw[Qb]at hl;omega,hm⟩⟩
 | @emp m2 hlo hm2=>
  cases hv;have d:m=0:=Z;subst d;refine⟨.nil (.inr ⟨_,_,_,ω,Z⟩),λf l c e=>?_⟩;cases e;exact⟨by show 3*lo<=3*m2+2;omega,λh=>CO ω h⟩
def KH.go{lo:Nat}{L:List (List UInt8)}(s:KH lo h n v L)(p:∀b cs,3*lo<=b->b<3*n->h b=ξ (.row cs 9)->h' b=h b)(q:n<=n'):KH lo h' n' v L:=by
 have⟨s,f⟩:=s;generalize hcl:strs L=cl at s;cases s with
 |nil ha=>exact⟨by rw[hcl];exact .nil (uw ha q),λa len cap e=>by cases e;exact⟨(f _ _ _ ω).1,λh=>CO ω h⟩⟩
 | @at_ b off len cap x cs cells hb hx hc hcap hl he=>
  by_cases h0:len=0;subst h0;have o:cl=[]:=by rw[<-he];simp
  subst o;exact⟨by rw[hcl];exact .nil (.inr ⟨_,_,_,ω,Z⟩),λa len cap e=>by cases e;exact⟨(f _ _ _ ω).1,λh=>CO ω h⟩⟩;have⟨c,i⟩:=f _ _ _ rfl;have⟨T,d,j⟩:=i h0;have g:=p _ _ c hb d;exact⟨by rw[hcl];exact .at_ Z (g.trans hx) hc hcap hl he,λa len cap e=>by cases e;exact⟨c,λ_=>⟨T,g.trans d,j⟩⟩⟩
def KH.ext{lo:Nat}{L:List (List UInt8)}(s:KH lo h n v L)(x:Ko n h h')(c:n<=n'):KH lo h' n' v L:=s.go (λb _ _ a _=>x b a) c
def KH.x{lo:Nat}{L:List (List UInt8)}(g:KH lo h n v L)(t:Tx n h n' h'):KH lo h' n' v L:=g.ext t.2 t.1
def KH.st{lo:Nat}{L:List (List UInt8)}(s:KH lo h n v L)(_:h b=ξ (.row cs e))(_:cs.all nu=φ)(a:Only b h h')(hb:b<3*lo):KH lo h' n v L:=s.go (λk _ c _ _=>a k Z) CS
def KH.sto{lo:Nat}{L:List (List UInt8)}(g:KH lo h n v L)(o:KS b h h')(hb:b<3*lo):KH lo h' n v L:=by have⟨o,_,_,a,c⟩:=o;exact g.st a c o hb
def KH.ss{lo:Nat}{L:List (List UInt8)}(s:KH lo h n v L):Sl h n 1 v (strs L):=s.1
def KH.lo{lo:Nat}{L:List (List UInt8)}(s:KH lo h n v L)(hl:lo'<=lo):KH lo' h n v L:=⟨s.1,λa len cap e=>⟨by have:=(s.2 a len cap e).1;omega,(s.2 a len cap e).2⟩⟩
def Ml(lo:Nat)(c:List ψ)(d:RowD)(h:HF)(n:Nat):Prop:=∃a l k,c=[Y a l k,CY ⟨⟨d.lo⟩⟩,CY ⟨⟨d.hi⟩⟩]/\KH lo h n (Y a l k) d.A
structure GRW (lo:Nat)(h:HF)(n:Nat)(v:ψ)(ds:List RowD):Prop where
 ex:∃C,Gro h lo n 39 3 v (O ds) C/\Rec 3 (λc d=>Ml lo c d h n) C ds
def GRW.nil(lo:Nat)(h:HF)(n:Nat):GRW lo h n (η) []:=⟨[],.nil,.nil⟩
def GRW.ext{lo:Nat}{f:List RowD}(g:GRW lo h n v f)(x:Ko n h h')(i:n<=n'):GRW lo h' n' v f:=by have⟨C,j,o⟩:=g.ex;exact⟨C,j.ext x i,o.mono λc d⟨a,l,k,e,s⟩=>⟨a,l,k,e,s.ext x i⟩⟩
def GRW.x{lo:Nat}{a:List RowD}(g:GRW lo h n v a)(t:Tx n h n' h'):GRW lo h' n' v a:=g.ext t.2 t.1
def GRW.st{lo:Nat}{f:List RowD}(g:GRW lo h n v f)(p:h b=ξ (.row cs e))(hu:cs.all nu=φ)(i:Only b h h')(hb:b<3*lo):GRW lo h' n v f:=by have⟨C,j,o⟩:=g.ex;exact⟨C,j.same λk q _ _=>i k Z,o.mono λc d⟨a,l,k,e,s⟩=>⟨a,l,k,e,s.st p hu i hb⟩⟩
def GRW.sto{lo:Nat}{a:List RowD}(g:GRW lo h n v a)(o:KS b h h')(hb:b<3*lo):GRW lo h' n v a:=by have⟨o,_,_,c,d⟩:=o;exact g.st c d o hb
def GRW.lo{lo:Nat}{f:List RowD}(g:GRW lo h n v f)(hl:lo'<=lo):GRW lo' h n v f:=by
 have⟨C,i,j⟩:=g.ex;refine⟨C,?_,j.mono λc d⟨a,l,k,e,s⟩=>⟨a,l,k,e,s.lo hl⟩⟩;generalize (O f)=m at i⊢;cases i with
 |nil=>exact .nil
 |at_ hg hlo hb hr hl2 ho=>exact .at_ hg Z hb hr hl2 ho
def GRW.rws{lo:Nat}{f:List RowD}(g:GRW lo h n v f):KW h n v f:=by have⟨C,i,j⟩:=g.ex;exact⟨C,i.sl,j.mono λc d⟨a,l,k,e,s⟩=>⟨a,l,k,e,s.1⟩⟩
def KH.keep{lo d:Nat}{u:ψ}{L:List (List UInt8)}{C:List ψ}(s:KH lo h n v L)(g:Gro h d n 39 3 u len C)(k:Keep u n h h')(f:n<=n'):KH lo h' n' v L:=
 s.go (λb cs j a i=>by
  refine k b a λo l c e=>?_;cases g with
  |nil=>cases e
  |at_ hg hlo hb3 hr2 hl2 ho=>
   cases e;rw[i]at hr2;injection hr2 with hr2
   injection hr2 with _ hr2
   exact CO hr2 zd) f
def GRW.app{lo:Nat}{v':ψ}{f:List RowD}{d:RowD}{C c:List ψ}(j:Gro h lo n 39 3 v (O f) C)(o:Rec 3 (λc d=>Ml lo c d h n) C f)(s:Ml lo c d h n)(k:Keep v n h h')(g:Gro h' lo (n+1) 39 3 v' (O f+1) (C++c)):GRW lo h' (n+1) v' (f++[d]):=by have i:∀c d,Ml lo c d h n->Ml lo c d h' (n+1):=λc d⟨a,l,m,e,s⟩=>⟨a,l,m,e,s.keep j k Zq⟩;refine⟨C++c,by rw[C1];exact g,(o.mono i).snoc ?_ (i _ _ s)⟩;obtain⟨a,l,m,rfl,_⟩:=s;rfl
def Gr0.slice{lo:Nat}{a:Option Addr}{c:List ψ}(g:Gr0 h lo n e sz (Y a l k) len c):l=len/\k=len/\(a=θ\/∃b,a=ξ ⟨b,0,θ⟩):=by
 cases g with
 |gro g=>
  cases g with
  |nil=>exact⟨ω,ω,.inl ω⟩
  |at_ hg hlo hb hr hl ho=>exact⟨ω,ω,.inr ⟨_,ω⟩⟩
 |emp hlo hm=>exact⟨ω,ω,.inr ⟨_,ω⟩⟩
def bI(k:Nat){a:Option Addr}{S:List (List UInt8)}(y:Sl h n 1 (Y a len cap) (strs S))(hb:O S<1000000)(hm:m<1000000)(s:List UInt8):
  CX (Kp (k+2)) 19 [Y a len cap,U .i64 (m:Int),CY ⟨⟨s⟩⟩] h n λv h' n'=>∃a c,v=Y a m c/\KH n h' n' (Y a m c) (fitL S m s):=by
 refine zw (fn:=Tryz.f19) R4 ?_;have F:=z8 y;subst F;refine mM ?_;refine zM ?_;refine gJ R5 (Uq k y hb) λv N T p u K=>?_;obtain⟨C,rfl,_⟩:=p.shape;refine Ze ?_;refine ye (α:=Option Addr×Nat) (λz=>[(1,U .i64 (m:Int)),(2,CY ⟨⟨s⟩⟩),(7,Y z.1 (O S+z.2) (O S+z.2))]) (λz h' n' J=>J=[]/\n<=n'/\Ko n h h'/\Gr0 h' n n' 9 1 (Y z.1 (O S+z.2) (O S+z.2)) (O S+z.2) (strs (S++C3 z.2 s))/\(z.2=0\/O S+z.2<=m)) (λz=>m-(O S+z.2))
  (C,0) P3 ⟨ω,u,K,by rw[List.replicate_zero,List.append_nil];exact p,.inl ω⟩ (by show m-(O S+0)<LL;unfold LL;omega) ?_
 rintro⟨M,j⟩ t Z1 H _ ⟨rfl,f,o,g,d⟩;simp only at g d;refine zN ?_;by_cases hc:O S+j<m;refine Zp ?_;refine wE [CY ⟨⟨s⟩⟩] (l:=1) (c:=1) R5 λP I B=>?_;refine RP (lo:=n) (m:=1) R8 zd (g.ext B Zq) (yp I R2) Z ω ω (by show n<=n/\_;omega) ?_;intro v R A w q L _ _;obtain⟨D,rfl,_⟩:=q.shape;refine Ze ?_;refine goOn (D,j+1) (by show m-(O S+(j+1))<m-(O S+j);omega) P3 ⟨ω,(by show n<=A;have:H+1<=A:=w;omega),(o.trans (B.mono f) CS).trans L CS,?_,.inr (by show O S+(j+1)<=m;omega)⟩;rw[FQ,<-DH,fg];exact q;refine Zy ?_;have G:(S++C3 j s).take m=fitL S m s:=(by unfold fitL;obtain d|d:=d;subst d;rw[show m-O S=0 by omega];rw[show m-O S=j by omega]);have i:=KH.of_gr0 g ω (m:=m) Z rfl;rw[G]at i;obtain e|⟨b,e⟩:=g.slice.2.2;subst e;refine fh m R9 Z<|Ze ?_;exact retX [Y θ m (O S+j)] R3 f o ⟨_,_,ω,i⟩;subst e;refine td m R8 ω Z<|Ze ?_;exact retX [Y (ξ ⟨b,0,θ⟩) m (O S+j)] R3 f o ⟨_,_,ω,i⟩
end
section
variable {p:LPD}{s:List UInt8}
def NO(r:RowD):Prop:=O r.A<=7/\(∀s∈r.A,(O s:Int)<=8)/\∀s∈[r.lo,r.hi],(O s:Int)<=8
structure SmlP (p:LPD):Prop where
 n1:O p.obj<=5
 n2:O p.rows<=6
 n3:O p.lower<=7
 n4:O p.upper<=7
 ob:∀s∈p.obj,(O s:Int)<=8
 lw:∀s∈p.lower,(O s:Int)<=8
 up:∀s∈p.upper,(O s:Int)<=8
 rw:∀r∈p.rows,NO r
def SmlP.lpb(h:SmlP p):LPB 27 p:=
 ⟨λs a=>txt8 (h.ob s a),λs a=>txt8 (h.lw s a),λs a=>txt8 (h.up s a),λr b=>⟨txt8 ((h.rw r b).2.2 _ cA),txt8 ((h.rw r b).2.2 _ cA),by have:=(h.rw r b).1;omega,λs a=>txt8 ((h.rw r b).2.1 s a)⟩,by have:=h.n1;omega,by have:=h.n2;omega,by have:=h.n3;omega,by have:=h.n4;omega⟩
def NP(n:Nat)(r:RowD):RowD:=⟨fitL r.A n [48],r.lo,r.hi⟩
def vo(p:LPD):List RowD:=p.rows.map (NP (O p.obj))
def Ur(p:LPD):LPD:=⟨p.obj,vo p,fitL p.lower (O p.obj) [],fitL p.upper (O p.obj) []⟩
def zal{i:Nat}{r:RowD}(h:p.rows[i]?=ξ r):(vo p)[i]?=ξ (NP (O p.obj) r):=by unfold vo;rw[Dz,h];rfl
def rW(p:LPD):O (vo p)=O p.rows:=by unfold vo;rw[Da]
theorem tr{l:List (List UInt8)}{n:Nat}{m:Int}(h:∀x∈l,(O x:Int)<=m)(a:(O s:Int)<=m):∀x∈fitL l n s,(O x:Int)<=m:=by grind [ziq]
def SmlP.tidy(h:SmlP p):SmlP (Ur p):=
 ⟨h.n1,by show(vo p).length<=6;rw[rW];exact h.n2,Ab,Ab,h.ob,tr h.lw zd,tr h.up zd,λr c=>by
  obtain⟨b,a,rfl⟩:=D2.1 c;exact⟨Ab,tr (h.rw b a).2.1 zd,(h.rw b a).2.2⟩⟩
def Us(k:Nat){h:HF}{n:Nat}{a:Option Addr}{S:List (List UInt8)}(f:Sl h n 1 (Y a len cap) (strs S))(hb:O S<1000000):
  CX (Kp (k+1)) 12 [Y a len cap] h n λv b e=>∃a l c,v=Y a l c/\KH n b e (Y a l c) S:=
 (Uq k f hb).mono λv b e g=>by
  obtain⟨j,rfl,_⟩:=g.shape;have:=KH.of_gr0 g ω CS rfl;rw[Ds]at this;exact⟨_,_,_,ω,this⟩
section
variable {d:Tmp}
end
section
variable {i:Nat}{d:Tmp}
end
end
section
variable {s:List UInt8}{p:LPD}
structure SmQ (p:LPD):Prop where
 n1:O p.obj<=5
 n2:O p.rows<=6
 ob:∀s∈p.obj,NE (10^10) (10^14) (zj s)
 lw:∀s∈p.lower,(O s:Int)<=8
 up:∀s∈p.upper,(O s:Int)<=8
 rw:∀r∈p.rows,NO r
 lpb:LPB 48 p
def Lo.wid(h:Lo a s)(hb:a<=b):Lo b s:=⟨h.1,h.2.mono hb⟩
def LPB.wid(h:LPB a p)(hb:a<=b):LPB b p:=
 ⟨λs c=>(h.ob s c).wid hb,λs c=>(h.lw s c).wid hb,λs c=>(h.up s c).wid hb,λr d=>⟨(h.rl r d).1.wid hb,(h.rl r d).2.1.wid hb,(h.rl r d).2.2.1,λs c=>((h.rl r d).2.2.2 s c).wid hb⟩,h.n1,h.n2,h.n3,h.n4⟩
def SmlP.q(h:SmlP p):SmQ p:=
 ⟨h.n1,h.n2,λs c=>(MD (h.ob s c)).up,h.lw,h.up,h.rw,h.lpb.wid zd⟩
def Ut(hv:VLP p)(o:SmQ p):PrO (zC p) (zk p) (p.obj.map zj):=by have v:=hv.cols;have F:∀d∈zC p,∃j f e,p.lower[j]?=ξ f/\p.upper[j]?=ξ e/\d.lo=f/\d.hi=e:=λd u=>(by have⟨j,y⟩:=FH.1 u;have K:=(C4.1 y).1;have c:=CW (l:=p.lower) (i:=j) (by have:=hv.ll;omega);have g:=CW (l:=p.upper) (i:=j) (by have:=hv.lu;omega);rw[gj c g]at y;cases y;exact⟨j,_,_,c,g,ω,ω⟩);have w:∀{f e:List UInt8},(f=[]\/e=[]\/zj f<=zj e)->f≠[]->e≠[]->zj f<=zj e:=λh c g=>(h.resolve_left c).resolve_left g;refine⟨by rw[v];exact hv.n1,by rw[v];exact o.n1,by rw[jJ];exact o.n2,λd u=>?_,λd u=>?_,by rw[Da,v],λq B=>?_⟩;have⟨j,f,e,c,g,G,H⟩:=F d u;rw[G,H];exact⟨MD (o.lw _ (C0 c)),MD (o.up _ (C0 g)),w (hv.bd j f e c g).2.2⟩;obtain⟨r,D,rfl⟩:=D2.1 u;have⟨c,g,J⟩:=hv.rw r D;have⟨L,I,C⟩:=o.rw r D;refine⟨MD (C r.lo cA),MD (C r.hi cA),w c.2.2,?_,λq B=>?_⟩;show(r.A.map zj).length=_;rw[Da,v];exact J;obtain⟨s,o,rfl⟩:=D2.1 B;exact MD (I s o);obtain⟨s,c,rfl⟩:=D2.1 B;exact o.ob s c
def optF(st:PS)(m:Nat)(s:Rat)(k:Nat):Nat->Rat:=match k with
 |0=>λ_=>0
 |k+1=>Kt (optF st m s k) (st.nb k) ((st.T m k:Rat)/st.d/s)
def zmv{T Z1 f:Nat}{d:Sol}{c:PS}{s:Rat}(i:0<c.d)(sz:SzP n m V T Z1 f d c)(g:T<=Z1)(l:Sz P s):∀k,k<=n->∀v,Sz (Z1+P+1) (optF c m s k v):=by
 intro k;induction k with
 |zero=>exact λ_ v=>ac1 _ Z
 |succ k ih=>
  intro o v;have e:=xz i (sz.tO k Z) (Dm sz.dd (Dd zd g));rw[ES]at e;exact jt (ih Z) ((e.div l).mono Z) v
structure SolI (p:LPD)(ss:List Rat)(bz:List (Nat×List Int))(y:Nat×List Int)(s:Rat)(st:PS):Prop where
 c:ScI (zC p) (zk p) (p.obj.map zj) ss bz y s
 I:Md (zC p) (zk p) ss bz y st
noncomputable abbrev loI (p:LPD) (ss:List Rat) (bz:List (Nat×List Int)) (y:Nat×List Int):Nat->Option Rat:=Kr (solI (zC p) (zk p) ss bz y).lo
noncomputable abbrev hiI (p:LPD) (ss:List Rat) (bz:List (Nat×List Int)) (y:Nat×List Int):Nat->Option Rat:=Kr (solI (zC p) (zk p) ss bz y).hi
def SolA(p:LPD)(ss:List Rat)(bz:List (Nat×List Int))(y:Nat×List Int)(st:PS)(n0:Nat)(w:ψ)(h:HF)(n:Nat):Prop:=∃r low q b1 b2,w=.tuple #[.agg #[U .i64 2,CY ⟨⟨[]⟩⟩,η,η,Y (ξ ⟨b1,0,θ⟩) (O (zk p)) (O (zk p)),Y (ξ ⟨b2,0,θ⟩) (O (zC p)) (O (zC p))],U .i64 0]/\Vio (O (zk p)) (loI p ss bz y) (hiI p ss bz y) st r low q/\(∀c,c<O (zC p)->¬suit (loI p ss bz y) (hiI p ss bz y) (rdOf (O (zk p)) st r 0 low) c)/\OTN n0 h n b1 (KC (O (zk p)) λi=>ratT (conF st r low (O (zC p)) (O (zC p)+i)*LW (zC p) ss (O (zC p)+i)))/\OTN n0 h n b2 (KC (O (zC p)) λv=>ratT (conF st r low (O (zC p)) v*LW (zC p) ss v))
def SolB(p:LPD)(ss:List Rat)(bz:List (Nat×List Int))(y:Nat×List Int)(st:PS)(n0:Nat)(w:ψ)(h:HF)(n:Nat):Prop:=∃e up bX bR,w=.tuple #[.agg #[U .i64 3,CY ⟨⟨[]⟩⟩,Y (ξ ⟨bX,0,θ⟩) (O (zC p)) (O (zC p)),Y (ξ ⟨bR,0,θ⟩) (O (zC p)) (O (zC p)),η,η],U .i64 0]/\Feas (O (zk p)) (loI p ss bz y) (hiI p ss bz y) st/\Ent (O (zC p)) (O (zk p)) (loI p ss bz y) (hiI p ss bz y) st e up/\(∀r ρ,¬Lw (O (zk p)) (loI p ss bz y) (hiI p ss bz y) st e up r ρ)/\OTN n0 h n bX (KC (O (zC p)) λv=>ratT (st.x v))/\OTN n0 h n bR (KC (O (zC p)) λv=>ratT (rayF st e up (O (zk p)) v))
def SolC(p:LPD)(ss:List Rat)(bz:List (Nat×List Int))(y:Nat×List Int)(s:Rat)(st:PS)(n0:Nat)(w:ψ)(h:HF)(n:Nat):Prop:=∃bX b1 b2,w=.tuple #[.agg #[U .i64 1,CY ⟨⟨ratT (Ks (O (zC p)) λj=>atR (p.obj.map zj) j*st.x j)⟩⟩,Y (ξ ⟨bX,0,θ⟩) (O (zC p)) (O (zC p)),η,Y (ξ ⟨b1,0,θ⟩) (O (zk p)) (O (zk p)),Y (ξ ⟨b2,0,θ⟩) (O (zC p)) (O (zC p))],U .i64 0]/\Feas (O (zk p)) (loI p ss bz y) (hiI p ss bz y) st/\(∀c u,c<O (zC p)->¬ent (O (zk p)) (loI p ss bz y) (hiI p ss bz y) st u c)/\OTN n0 h n bX (KC (O (zC p)) λv=>ratT (st.x v))/\OTN n0 h n b1 (KC (O (zk p)) λi=>ratT (optF st (O (zk p)) s (O (zC p)) (O (zC p)+i)*LW (zC p) ss (O (zC p)+i)))/\OTN n0 h n b2 (KC (O (zC p)) λv=>ratT (optF st (O (zk p)) s (O (zC p)) v*LW (zC p) ss v))
def SolR(p:LPD)(n0:Nat)(w:ψ)(h:HF)(n:Nat):Prop:=
 (¬VLP p/\w=.tuple #[.agg #[U .i64 0,CY ⟨⟨[]⟩⟩,η,η,η,η],U .i64 1])\/
 VLP p/\∃ss bz y s st,SolI p ss bz y s st/\(SolA p ss bz y st n0 w h n\/SolB p ss bz y st n0 w h n\/SolC p ss bz y s st n0 w h n)
def SolI.vtx{ss:List Rat}{f:List (Nat×List Int)}{y:Nat×List Int}{s:Rat}{g:PS}(h:SolI p ss f y s g)(e:PrO (zC p) (zk p) (p.obj.map zj)):∃D,Vtx (O (zC p)) (O (zk p)) (aF (O (zC p)) (zI (f++[y]))) g.x nV D:=by have⟨D,d⟩:=h.I.vtx (fixI h.c e).b;have u:=num8 e.n1 e.n5;refine⟨D,d.pos,Dy d.le (show vD _ _<=vD _ _ from u.2.2.2.2.2),λv w P q=>?_⟩;have⟨z,i,l⟩:=d.val v w P q;refine⟨z,i,Dy l ?_⟩;have o:(10^38)^(O (zC p)-1)<=nV^(O (zC p)-1):=Nat.pow_le_pow_left eN _;exact Do _ (DG (Do _ (C9 _ o)) eN)
def zxf{a:Nat->Nat->Int}{x:Nat->Rat}{D:Int}(h:Vtx n m a x nV D)(i:∀v,v<n+m->∀j,j<n->(a v j).natAbs<=10^32)(f:1<=n)(g:n<=5){l d:List Rat}(hl:∀q∈l,NE (10^10) (10^14) q)(c:O l<=n)(hu:O d=n)(o:∀j,j<n->d[j]?=ξ (x j))(hj:j<=O l):Sz 990 (dotR (l.take j) (d.take j)):=by rw[zhg hu o c hj];have e:=zp2 f g (k:=j) (r:=O l) Z c;exact(h.dot i hl c Z).sz e.1 e.2
end
section
variable {st:PS}
def SolP.va_fn(a:SolP n m d st):d.va.take n=KC n st.x:=by have:=a.vl;exact mU gQ λj b=>by rw[HX,CQ b];exact a.va j Z
end
def SM.vaN{l n0 g n m:Nat}{h:HF}{d:Sol}{A:Adr}{st:PS}(s:SM l h n0 g d A)(f:SolP n m d st)(p:0<n):∃e,A.va=ξ ⟨e,0,θ⟩/\QS h n0 (Y (ξ ⟨e,0,θ⟩) n (n+m)) (KC n st.x):=by have i:=f.vl;have⟨e,a,o,q,u,j⟩:=s.va.or ω Z;injection a with a;have b:=s.va.rs;rw[a]at b;have b:=ao1 zd b (m:=0) (c:=n) (cap':=n+m) Z Z;rw[DO,f.va_fn]at b;exact⟨e,a,b⟩
set_option exponentiation.threshold 9999 in
def Uu(k:Nat){h:HF}{n:Nat}(g:GG h n){ao ar aw au:Option Addr}{lo co lr cr lw cw lu cu:Nat}{p:LPD}(io:Sl h n 1 (Y ao lo co) (strs p.obj))(ir:KW h n (Y ar lr cr) p.rows)(iw:Sl h n 1 (Y aw lw cw) (strs p.lower))(iu:Sl h n 1 (Y au lu cu) (strs p.upper))(hs:SmQ p):
  CX (Kp (k+16)) 9 [.agg #[Y ao lo co,Y ar lr cr,Y aw lw cw,Y au lu cu]] h n (SolR p n):=by
 refine zw (fn:=Tryz.f9) R4<|zG ?_;refine sB [Y ao lo co,Y ar lr cr,Y aw lw cw,Y au lu cu] λh1 p1 x1=>?_;refine sA λh2 p2 x2=>?_;refine zG ?_;refine sC (zpl _ (g.x zx) (io.x zx) (ir.x zx) (iw.x zx) (iu.x zx) hs.lpb Z) ?_;rintro _ h3 y⟨aO,lO,kO,aR,lR,kR,aC,lC,kC,ok,rfl,ef,hq⟩ y3 x3;refine Zd λh4 p4 x4=>?_;refine zG ?_;refine sS [Y aO lO kO,Y aR lR kR,Y aC lC kC] λZ1 p5 o5=>?_;have y3:n+1+1<=y:=y3;obtain⟨rfl,hv⟩|⟨rfl,hv⟩:=Ky ef;.refine zG ?_;refine sT #[U .i64 0,CY ⟨⟨[]⟩⟩,η,η,η,η] ?_;refine sS [U .i64 0,CY ⟨⟨[]⟩⟩,η,η,η,η] λh6 p6 o6=>?_;refine zG ?_;refine zq ?_;exact .inl ⟨hv,ω⟩
 have⟨iO,iR,iC⟩:=hq rfl;have pr:=Ut hv hs;have ey:=iO.1.len;subst ey;have n1:=pr.n1;have n5:=pr.n5;have m6:=pr.m6;have bg:=pr.lo.1;have ca:48*O (zC p)+48+1<=289:=Z;have X5:Exo n h Z1:=⟨(show Tx n h (y+1) Z1 from zx).2⟩;have bf:=iO.x (h':=Z1) (n':=y+1) zx;have er:=iR.x (h':=Z1) (n':=y+1) zx;have ep:=iC.x (h':=Z1) (n':=y+1) zx;have fo:Z1 (3*n+2)=_:=(zp:Z1 (3*n+2)=_);have cz:Z1 (3*(n+1)+2)=_:=(zp:Z1 (3*(n+1)+2)=_);have g5:GG Z1 (y+1):=g.ext X5.go Z;have fj:n<=y+1:=Z;have be:∀q∈p.obj.map zj,Sz 48 q:=Lo.nums hs.lpb.ob;have cd:=za7 (k+2) g5 bf.1 er.sds ep.sds (a:=48) (P:=289) (LPB.cols hs.lpb) (λd hd=>⟨(LPB.rows hs.lpb d hd).1,(LPB.rows hs.lpb d hd).2,(pr.lr d hd).2.2.2.1,(hv.rwb hs.lpb d hd).1⟩) be bg n1 ca Z Z Z;refine zG ?_;refine sC cd ?_;rintro _ h6 n6⟨bs,A,M,N,B,zs,s,rfl,S6,ek,ec,ei,cg⟩ y6 x6;have y6:y+1<=n6:=y6;have x6:Exo (y+1) Z1 h6:=⟨x6⟩;have c:ScI (zC p) (zk p) (p.obj.map zj) M N (B,zs) s:=⟨ek,ec,289,by decide,ei,cg⟩;have S6:=steI c pr S6;have F:=fixI c pr;have g6:GG h6 n6:=g5.ext x6.go y6;have cf:=zmn (k+0) g6 S6 F n1 Z;refine zG ?_;refine zF _ R5 cf ?_;rintro _ h8 n8 w8⟨d8,s8,y8,S8,T8,K8,ch,af⟩;rw[mY,zV (show ∀c∈w8,3*n<=c from λc hc=>by have:=ch c hc;omega)];have X8:Exo (y+1) Z1 h8:=⟨λb hb=>(K8 b hb).trans (x6.go b hb)⟩;have f1:y+1<=n8:=Z;have g8:GG h8 n8:=g5.ext X8.go f1;have cl:∀v,v<O (zC p)+O (zk p)->d8.sc[v]?=ξ (LW (zC p) M v):=λv hv=>by rw[S8.eq.sc];exact(c.sg hv).1
 have ck:∀v,v<O (zC p)+O (zk p)->Sz 290 (LW (zC p) M v):=λv hv=>(c.sg hv).2;have d0:h8 (3*(n+1)+2)=_:=(X8.go _ Z).trans cz;have f5:h8 (3*y+2)=_:=(X8.go _ Z).trans p5;obtain⟨rfl,hF⟩|⟨r,bh,q,rfl,hV,R⟩:=af;rotate_left;.refine zG ?_;have ba:=zf2 (k+1) g8 S8 F cl ck zd n1 hV.hr (low:=bh);refine sC ba ?_;rintro _ h9 n9⟨b1,b2,rfl,o1,o2⟩ y9 x9;have bn:h9 (3*(n+1)+2)=_:=(x9 _ Z).trans d0;have X9:Exo n h h9:=⟨λb hb=>(x9 b Z).trans ((X8.go b Z).trans (X5.go b hb))⟩;refine zG ?_;refine sT #[U .i64 2,CY ⟨⟨[]⟩⟩,η,η,Y (ξ ⟨b1,0,θ⟩) (O (zk p)) (O (zk p)),Y (ξ ⟨b2,0,θ⟩) (O (zC p)) (O (zC p))] ?_;refine sS (hb:=bn) [U .i64 2,CY ⟨⟨[]⟩⟩,η,η,Y (ξ ⟨b1,0,θ⟩) (O (zk p)) (O (zk p)),Y (ξ ⟨b2,0,θ⟩) (O (zC p)) (O (zC p))] λG fm aq=>?_;have bx:Tr n9 h9 n9 G:=FN aq (Er _ _);refine zG ?_;refine zq ?_ (hx:=⟨Z,λb hb=>(aq.1 b Z).trans (X9.go b hb)⟩);exact .inr ⟨hv,M,N,(B,zs),s,s8,⟨c,S8.iv⟩,.inl ⟨r,bh,q,b1,b2,ω,hV,R,(o1.go bx (aq.1 _ (by have:=o1.lo;omega))).low Z,(o2.go bx (aq.1 _ (by have:=o2.lo;omega))).low Z⟩⟩
 have ce:=zd4 (k+0) g8 S8 hF F n1 Z;refine zG ?_;refine zF _ R5 ce ?_;rintro v9 h9 n9 w9⟨d9,C,y9,w,F9,T9,K9,ci,af⟩;rw[mY,zV (show ∀c∈w9,3*n<=c from λc hc=>by have:=ci c hc;omega)];have X9:Exo (y+1) Z1 h9:=⟨λb hb=>(K9 b hb).trans (X8.go b hb)⟩;have f2:y+1<=n9:=Z;have g9:GG h9 n9:=g5.ext X9.go f2;have I9:Md (zC p) (zk p) M N (B,zs) C:=w.iv;have a6:=F.szp I9;have el:∀v,v<O (zC p)+O (zk p)->d9.sc[v]?=ξ (LW (zC p) M v):=λv hv=>by rw[w.eq.sc];exact(c.sg hv).1
 have bn:h9 (3*(n+1)+2)=_:=(X9.go _ Z).trans cz;have f6:h9 (3*y+2)=_:=(X9.go _ Z).trans p5;have⟨b0,a0,u0,c0,ty,d2,i0⟩:=w.sm.st;have eb:=w.sm.bs.1;have⟨bv,c6,qv⟩:=w.sm.vaN w.sp n1;rw[w.sp.dn,w.sp.vl,w.sp.nl,w.sp.bl,w.sp.ls]at d2;obtain⟨c1,c2,ok,rfl,eg⟩:∃(c1 c2:Int) (ok:Bool),v9=Value.tuple #[U .i64 c1,U .i64 c2,CV ok]/\(ok=φ/\(∀c u,c<O (zC p)->¬ent (O (zk p)) (loI p M N (B,zs)) (hiI p M N (B,zs)) C u c)\/ok=χ/\∃(e:Nat) (up:Bool),c1=(e:Int)/\c2=KO up/\Ent (O (zC p)) (O (zk p)) (loI p M N (B,zs)) (hiI p M N (B,zs)) C e up/\∀r ρ,¬Lw (O (zk p)) (loI p M N (B,zs)) (hiI p M N (B,zs)) C e up r ρ):=(by obtain⟨rfl,R⟩|⟨e,up,rfl,hE,R⟩:=af;exact⟨0,0,φ,ω,.inl ⟨ω,R⟩⟩;exact⟨(e:Int),KO up,χ,ω,.inr ⟨ω,e,up,ω,ω,hE,R⟩⟩);refine zG ?_;refine zl [0,1,3,7,0,16,48,112,255,511,1023] rfl<|zH ?_;refine tC (b:=bv) (off:=0) (O (zC p)) R6 (by show Y A.va _ _=_;rw[c6]) ω ω Z ?_;refine dC (pw _ g9 qv Z (m:=750) (λj hj=>a6.va j Z) zd) ?_;rintro _ G Z4⟨bX,rfl,oX⟩ ay V;have V:Exo n9 h9 G:=⟨V⟩;have b5:Exo (y+1) Z1 G:=⟨λb hb=>(V.go b Z).trans (X9.go b hb)⟩;have bj:G (3*(n+1)+2)=_:=(V.go _ Z).trans bn;have dg:G (3*y+2)=_:=(V.go _ Z).trans f6;have di:G bs=_:=(V.go _ eb).trans d2;have aj:GG G Z4:=g9.ext V.go ay;have a8:Ste (y+1) (O (zC p)) (O (zk p)) bs (aF (O (zC p)) (zI (N++[(B,zs)]))) (L0 (O (zC p)) (O (zk p)) (aF (O (zC p)) (zI (N++[(B,zs)])))) A (λi=>(LF (N++[(B,zs)]) i).1) (solI (zC p) (zk p) M N (B,zs)) G Z4 d9 C:=⟨w.sm.ext V.go ay,w.sp,w.iv,w.ap,w.eq⟩;have ay:n9<=Z4:=ay;refine zJ ?_;obtain⟨rfl,R⟩|⟨rfl,e,up,rfl,rfl,hE,R⟩:=eg;rotate_left;.refine zG ?_;have eh:=rayP (k+2) aj a8 F zd hE.he (up:=up);refine sC eh ?_;rintro _ a4 l⟨bR,rfl,oR⟩ az a7;have d7:=oX.ext a7 az;have da:a4 (3*(n+1)+2)=_:=(a7 _ Z).trans bj;have dk:Exo n h a4:=⟨λb hb=>(a7 b Z).trans ((b5.go b Z).trans (X5.go b hb))⟩;refine zG ?_;refine sT #[U .i64 3,CY ⟨⟨[]⟩⟩,Y (ξ ⟨bX,0,θ⟩) (O (zC p)) (O (zC p)),Y (ξ ⟨bR,0,θ⟩) (O (zC p)) (O (zC p)),η,η] ?_;refine sS (hb:=da) [U .i64 3,CY ⟨⟨[]⟩⟩,Y (ξ ⟨bX,0,θ⟩) (O (zC p)) (O (zC p)),Y (ξ ⟨bR,0,θ⟩) (O (zC p)) (O (zC p)),η,η] λc8 cv av=>?_;have c3:Tr l a4 l c8:=FN av (Er _ _);refine zG ?_;refine zq ?_ (hx:=⟨Z,λb hb=>(av.1 b Z).trans (dk.go b hb)⟩);exact .inr ⟨hv,M,N,(B,zs),s,C,⟨c,w.iv⟩,.inr (.inl ⟨e,up,bX,bR,ω,F9,hE,R,(d7.go c3 (av.1 _ (by have:=oX.lo;omega))).low Z,(oR.go c3 (av.1 _ (by have:=oR.lo;omega))).low Z⟩)⟩
 refine zG ?_;have ej:=qa (k+3) aj (bf.1.ext (n':=Z4) b5.go Z) be (P:=289) (by rw[bg];exact ca) zd Z;refine sC ej ?_;rintro _ a4 l⟨B2,zs2,s2,dt,dm,l11,dw,dz,e2,e6,f8,rfl,_,_,_,_,ag,cm,cp⟩ az a7;have es:s2=s:=ag.ds.trans cg.ds.symm;subst es;refine Zd λc8 cv d3=>?_;refine zG ?_;refine sS [CV dt,Y dm l11 dw,CV dz,Y e2 e6 f8] λa1 cx cs=>?_;have cn:=cm.t (show Tr l a4 (l+1) a1 from zt);have cq:=cp.t (show Tr l a4 (l+1) a1 from zt);have ad:Exo Z4 G a1:=⟨λb hb=>(cs.1 b Z).trans ((d3 b Z).trans (a7 b hb))⟩;have az:Z4<=l:=az;have ah:a1 bs=_:=(ad.go bs Z).trans di;have bk:a1 (3*(n+1)+2)=_:=(ad.go _ Z).trans bj;have bo:a1 (3*y+2)=_:=(ad.go _ Z).trans dg;obtain⟨K,hK⟩:∃K,K=O (zC p)+O (zk p):=⟨_,ω⟩;rw[<-hK]at ah;refine zG ?_;refine NJ (L:=K) [CV χ,η,CV χ,η] ?_ Z;intro H cy W;obtain⟨Bl,b9⟩:∃B,B=3*(l+1)+2:=⟨_,ω⟩;have gl:gro Bl=χ:=by rw[b9];exact zB _
 have f3:OR 4 ratP H (l+1+1) Bl (KC K λ_=>0):=(by rw[b9,<-eE];exact OR.fill Z cy Es ⟨_,_,_,_,_,_,_,_,ω,E9 _ _,E9 _ _⟩);rw[<-b9];have W:Exo (l+1) a1 H:=⟨W⟩;have dl:Exo Z4 G H:=⟨λb hb=>(W.go b Z).trans (ad.go b hb)⟩;have dj:H bs=_:=(W.go bs Z).trans ah;have db:H (3*(n+1)+2)=_:=(W.go _ Z).trans bk;have dh:H (3*y+2)=_:=(W.go _ Z).trans bo;have bu:H (3*l+2)=_:=(W.go _ Z).trans cx;have em:=cn.ext (n':=l+1+1) W.go Zq;have et:=cq.ext (n':=l+1+1) W.go Zq;have cb:=a8.iv.toPB.tab.dp;have bc:=a8.sp.de;have⟨r0,g0,_,e9⟩:=a8.sp.ta (O (zk p)) CS;refine zG ?_;refine sF (α:=Nat) (λz=>[(2,ι (3*(n+1)+2)),(4,ι (3*y+2)),(6,ι bs),(14,Y (ξ ⟨bX,0,θ⟩) (O (zC p)) (O (zC p))),(16,ι (3*l+2)),(17,Y (ξ ⟨Bl,0,θ⟩) K K),(90,Y A.nb (O (zC p)) (O (zC p))),(91,U .i64 (O (zC p):Int)),(92,U .i64 (z:Int))]) (λz h' S w'=>w'=[]/\l+1+1<=S/\ExtB (l+1+1) [Bl] H h'/\Tr (l+1+1) H S h'/\OR 4 ratP h' S Bl (KC K (optF C (O (zk p)) s2 z))/\z<=O (zC p)) (λz=>O (zC p)-z) 0 ⟨ω,CS,F7 _ _ _,Er _ _,f3,CT⟩ ?_;rintro j t I Z3 _⟨rfl,d4,c4,a9,ax,hj⟩;have d4:l+1+1<=Z3:=d4;have a9:Tr (l+1+1) H Z3 I:=a9;have ax:OR 4 ratP I Z3 Bl (KC K (optF C (O (zk p)) s2 j)):=ax;have hj:j<=O (zC p):=hj;have a5:∀b,b<3*(l+1+1)->b≠Bl->I b=H b:=λb hb hn=>c4 b hb Ax;have b6:Exo Z4 G I:=⟨λb hb=>(a5 b Z Z).trans (dl.go b hb)⟩;have b3:=a8.sm.ext (n':=Z3) b6.go Z;have br:I bs=_:=(a5 bs Z Z).trans dj;have bm:I (3*(n+1)+2)=_:=(a5 _ Z Z).trans db;have bp:I (3*y+2)=_:=(a5 _ Z Z).trans dh;have fe:I (3*l+2)=_:=(a5 _ Z Z).trans bu;have en:=em.t a9;have eu:=et.t a9;have b8:GG I Z3:=aj.ext b6.go Z;refine zG ?_;by_cases q15:(j:Int)<(O (zC p):Int);.refine zG ?_;have al:j<O (zC p):=Z;have fk:=w.iv.nv j al;have⟨ac,fl,e3,ez,d1,f7⟩:=ah4 b3.nb.rs (w.sp.nb j al);rw[w.sp.nl]at d1;refine sI e3 d1 ?_;refine sL f7 ez 0 ?_;refine zG ?_;refine zl [0,0,0,0,8,24,56,120,0,508,0,2044,4095,8191] rfl<|zH ?_;have cj:=a6.tO j al;have ba:=Nk (k+4) b8 b3 (i:=O (zk p)) (j:=j) g0 (e9 j al) (yU cj zd) (by rw[bc];exact yU a6.dd zd) (by rw[bc];omega);refine dC ba ?_;rintro _ ea f0⟨du,dq,ew,dx,e0,e4,e7,fa,rfl,aa,ab⟩ ae a3;have sc:Sz 620 (DT (C.T (O (zk p)) j) C.d):=xz cb cj (Dm a6.dd (Dd zd zd));rw[bc]at aa ab;rw[ES]at aa ab sc;refine zH ?_;refine dC (divQ _ (b8.ext a3 ae) aa ab (en.ext a3 ae) (eu.ext a3 ae) sc ag.sz zd) ?_;rintro _ ak an⟨dv,dr,ex,dy,e1,e5,e8,fb,rfl,eo,ev⟩ fd bt;refine dI ω (show C.nb j<K from Z) ?_;have Z0:Exo Z3 I ak:=⟨λb hb=>(bt b Z).trans (a3 b hb)⟩;refine PI (n0:=n) (j:=C.nb j) (q:=(C.T (O (zk p)) j:Rat)/C.d/s2) [CV dv,Y dr ex dy,CV e1,Y e5 e8 fb] (ax.ext (n':=an) Es Z0.go Z) Es Ah (Dl _) ⟨_,_,_,_,_,_,_,_,ω,eo,ev⟩ Z ?_;rw[oV];intro fi f4 bw;refine zG ?_;exact sK (j+1) ⟨ω,Z,λb hb hn=>(bw.1 b (λe=>hn (Dc.2 e))).trans ((Z0.go b Z).trans (a5 b hb (λe=>hn (Dc.2 e)))),a9.trans (HS ⟨show Z3<=an by omega,λb hb=>.inl (Z0.go b hb)⟩ (FN bw (Er _ _))),f4,mu⟩
 have ed:j=O (zC p):=Z;subst ed;refine zG ?_;have ee:=qV (k+2) (f:=optF C (O (zk p)) s2 (O (zC p))) (σ:=LW (zC p) M) (a:=910) (b:=290) b8 b3 hK ax gl Z (w.sp.ls.trans hK.symm) (λv hv=>el v Z) w.sp.dn n1 Z (λv _=>zmv cb a6 zd ag.sz _ CS v) (λv hv=>ck v Z) zd;refine zF _ R5 ee ?_;rintro _ J a2 fc⟨⟨b1,b2,rfl,o1,o2⟩,fq,c5,fh,d6⟩;rw[mY,zV (show ∀c∈fc,3*n<=c from λc hc=>by have:=d6 c hc;omega)];have ac:∀b,b<3*Z3->b≠Bl->J b=I b:=λb hb hn=>c5 b hb Ax;have ai:Exo Z4 G J:=⟨λb hb=>(ac b Z Z).trans (b6.go b hb)⟩;have b7:Exo (y+1) Z1 J:=⟨λb hb=>(ai.go b Z).trans (b5.go b hb)⟩;have fg:J bs=_:=(ac bs Z Z).trans br;have dc:J (3*(n+1)+2)=_:=(ac _ Z Z).trans bm;have ff:J (3*y+2)=_:=(ac _ Z Z).trans bp;have c7:GG J a2:=aj.ext ai.go Z;have bi:=oX.ext (n':=a2) ai.go Z;have bq:=qv.ext (n':=a2) (show Ko n9 h9 J from λb hb=>(ai.go b Z).trans (V.go b hb)) Z;rw[<-hK]at bq;refine zG ?_;refine zl [0,1,0,4,12,28,0,64,192,448,1020,2047,4095,8191] rfl<|zH ?_;refine tC (b:=bv) (off:=0) (O (zC p)) R6 (by show Y A.va _ _=_;rw[c6]) ω ω Z ?_;have⟨D,hD⟩:=SolI.vtx (p:=p) ⟨c,w.iv⟩ pr;have cc:∀j,j<=O (p.obj.map zj)->Sz 990 (dotR ((p.obj.map zj).take j) ((KC (O (zC p)) C.x).take j)):=λj hj=>zxf hD F.b.aM n1 n5 pr.lo.2 Z yo (λj hj=>wo hj) hj;have bd:=SL (k+4) c7 (bf.1.ext (n':=a2) b7.go Z) bq be (b:=750) (λq hq=>by obtain⟨j,hj,rfl⟩:=kJ hq;exact a6.va j Z) Ah cc zd Z;rw[C7 (show(KC (O (zC p)) C.x).length<=O (p.obj.map zj) by rw[yo];omega)]at bd;have bb:=cc _ CS;rw[C7 CS,C7 (show(KC (O (zC p)) C.x).length<=O (p.obj.map zj) by rw[yo];omega)]at bb;have d5:dotR (p.obj.map zj) (KC (O (zC p)) C.x)=Ks (O (zC p)) λj=>atR (p.obj.map zj) j*C.x j:=(by rw[rM Ah (O (zC p)) bg];exact yg λj hj=>by rw[wg (wo hj)]);rw[d5]at bd bb;refine dC bd ?_;rintro _ ea f0⟨du,dq,ew,dx,e0,e4,e7,fa,rfl,aa,ab⟩ ae a3;refine dC (SJ _ (c7.ext a3 ae) aa ab bb zd) ?_;rintro _ ak an rfl fd bt;have Z0:Exo a2 J ak:=⟨λb hb=>(bt b Z).trans (a3 b hb)⟩;have df:ak (3*(n+1)+2)=_:=(Z0.go _ Z).trans dc;refine zJ ?_;refine sT #[U .i64 1,CY ⟨⟨ratT (Ks (O (zC p)) λj=>atR (p.obj.map zj) j*C.x j)⟩⟩,Y (ξ ⟨bX,0,θ⟩) (O (zC p)) (O (zC p)),η,Y (ξ ⟨b1,0,θ⟩) (O (zk p)) (O (zk p)),Y (ξ ⟨b2,0,θ⟩) (O (zC p)) (O (zC p))] ?_;refine sS (hb:=df) [U .i64 1,CY ⟨⟨ratT (Ks (O (zC p)) λj=>atR (p.obj.map zj) j*C.x j)⟩⟩,Y (ξ ⟨bX,0,θ⟩) (O (zC p)) (O (zC p)),η,Y (ξ ⟨b1,0,θ⟩) (O (zk p)) (O (zk p)),Y (ξ ⟨b2,0,θ⟩) (O (zC p)) (O (zC p))] λc9 fp ct=>?_;have b4:Tr a2 J an c9:=FN ct ⟨Z,λb hb=>.inl (Z0.go b hb)⟩;have am:∀b,b<3*a2->b≠3*(n+1)+2->c9 b=J b:=λb hb hn=>(ct.1 b hn).trans (Z0.go b hb);refine zG ?_;refine zq ?_ (hx:=⟨Z,λb hb=>(am b Z Z).trans ((b7.go b Z).trans (X5.go b hb))⟩);exact .inr ⟨hv,M,N,(B,zs),s2,C,⟨c,w.iv⟩,.inr (.inr ⟨bX,b1,b2,ω,F9,R,(bi.go b4 (am _ bi.o.1 (by have:=oX.lo;omega))).low Z,(o1.go b4 (am _ o1.o.1 (by have:=o1.lo;omega))).low Z,(o2.go b4 (am _ o2.o.1 (by have:=o2.lo;omega))).low Z⟩)⟩
noncomputable def cq(p:LPD)(R C:List (List UInt8))(j i:Nat):Rat:=colQ (zk p) (R.map zj) (((C.map zj)[j]?).getD 0) j i
noncomputable def sq(p:LPD)(R C X:List (List UInt8))(j:Nat):Rat:=dotR ((zr2 (zk p) (R.map zj) (C.map zj) (O (zk p)) 0).take j) ((X.map zj).take j)
section
variable {p:LPD}{R X:List (List UInt8)}{i:Nat}
end
section
variable {lo:Nat}{p:LPD}
def zdg(k:Nat)(L:Sl h n 1 (Y ao lo co) (strs p.obj))(M:KW h n (Y ar lr cr) p.rows)(Z1:Sl h n 1 (Y aw lw cw) (strs p.lower))(N:Sl h n 1 (Y au lu cu) (strs p.upper)):VF (Kp (k+2)) 4 [.agg #[Y ao lo co,Y ar lr cr,Y aw lw cw,Y au lu cu]] h n λv=>∃b:Bool,v=CV b/\(b=φ->SmlP p):=by have ae:=z8 L;have af:=M.len;have ah:=z8 Z1;have ag:=z8 N;refine zO (fn:=Tryz.f4) R4<|zG ?_;refine sB [Y ao lo co,Y ar lr cr,Y aw lw cw,Y au lu cu] λa6 ap aq=>?_;refine zG ?_;by_cases q12:(lo:Int)>5;exact BI;refine zG ?_;by_cases q13:(lr:Int)>6;exact BI;refine zG ?_;by_cases q14:(lw:Int)>7;exact BI;refine zG ?_;by_cases q15:(lu:Int)>7;exact BI;refine zG ?_;refine sC ((mI _ (8) (L.x zx) Z).cx) ?_;rintro _ a7 ai⟨a0,rfl,F⟩ b2 av;obtain⟨rfl,y⟩|⟨rfl,y⟩:=Ky F;exact BI;refine zG ?_;refine sC ((mI _ (8) (Z1.x zx) Z).cx) ?_;rintro _ a8 aj⟨a1,rfl,G⟩ b3 ax;obtain⟨rfl,A⟩|⟨rfl,A⟩:=Ky G;exact BI;refine zG ?_;refine sC ((mI _ (8) (N.x zx) Z).cx) ?_;rintro _ K w⟨a2,rfl,H⟩ b4 ay;obtain⟨rfl,B⟩|⟨rfl,B⟩:=Ky H;exact BI;refine zG ?_;refine sF (α:=Nat) (λz=>[(1,ι (3*n+2)),(3,U .i64 (z:Int))]) (λz S V W=>W=[]/\w<=V/\ExtB w [] K S/\z<=O p.rows/\∀r∈p.rows.take z,NO r) (λz=>O p.rows-z) 0 ⟨ω,CS,F7 _ _ _,CT,(λs T=>CO T cA)⟩ ?_;rintro i t a9 ak _⟨rfl,b5,Z3,hi,f⟩;have hi:i<=O p.rows:=hi;have f:∀r∈p.rows.take i,NO r:=f;refine zG ?_;by_cases q20:(i:Int)<(lr:Int);refine zG ?_;refine zl [0,1,0,7,15,31,63,127,255,511,1023,511,4095,8191,16383,32767,65535,131071,262143,524287,1048575,524287,4194303,8388607,16777215,524287,34078719,524287,235405311,503840767,1040711679,2147483647,4294967295,8589934591,17179869183] rfl<|zH ?_;obtain⟨o,q⟩:∃d,(p.rows)[i]?=ξ d:=⟨_,CW Z⟩;have⟨ad,an,Z0,P,a5,e,g,j,m,u⟩:=KW.at M q;have Z4:=z8 u;refine dI e j ?_;refine zH ?_;refine dL m g 0 ?_;refine zH ?_;by_cases q22:(P:Int)>7;exact BI;refine zH ?_;refine dI e j ?_;refine zH ?_;refine dL m g 0 ?_;refine dC ((mI _ (8) (u.x zx) Z).cx) ?_;rintro _ aa al⟨a3,rfl,I⟩ b6 az;obtain⟨rfl,C⟩|⟨rfl,C⟩:=Ky I;exact BI;refine zH ?_;refine dI e j ?_;refine zH ?_;refine dL m g 1 ?_;refine zH ?_;refine dI e j ?_;refine zH ?_;refine dL m g 2 ?_;refine TW [CY ⟨⟨o.lo⟩⟩,CY ⟨⟨o.hi⟩⟩] (l:=2) (c:=2) R5 λab R b0=>?_;refine dC ((mI _ (8) (zo8 R Z) (by show 2<100000000;omega)).cx) ?_;rintro _ ac am⟨a4,rfl,J⟩ b7 b1;obtain⟨rfl,D⟩|⟨rfl,D⟩:=Ky J;exact BI;refine zJ ?_;exact sK (i+1) ⟨ω,Z,zy,Aq,(ot f q ⟨Z,C,D⟩)⟩;refine zf ?_;exact⟨_,ω,λ_=>⟨Z,Z,Z,Z,y,A,B,by have a:=f;rw[C7 Z]at a;exact a⟩⟩
end
section
variable {lo:Nat}{v:ψ}{p:LPD}
def NR(n:Nat)(v:ψ):Prop:=∀ad len cap,v=Y (ξ ad) len cap->ad.block<3*n
def KH.blt{L:List (List UInt8)}(s:KH lo h n v L):NR n v:=by
 have⟨s,_⟩:=s;generalize strs L=c at s;intro j g f e;subst e;cases s with
 |nil a=>
  obtain a|⟨b,i,l,a,d⟩:=a;cases a;cases a;exact d
 |at_ d=>exact d
def Uv(k:Nat)(io:Sl h n 1 (Y ao lo co) (strs p.obj))(ir:KW h n (Y ar lr cr) p.rows)(iw:Sl h n 1 (Y aw lw cw) (strs p.lower))(iu:Sl h n 1 (Y au lu cu) (strs p.upper))(hp:SmlP p):CX (Kp (k+3)) 7 [.agg #[Y ao lo co,Y ar lr cr,Y aw lw cw,Y au lu cu]] h n λv C D=>∃aO lO kO aR lR kR aL lL kL aU lU kU nA nB nC,v=.agg #[Y aO lO kO,Y aR lR kR,Y aL lL kL,Y aU lU kU]/\(n<=nA/\nA<=nB/\nB<=nC/\nC<=D)/\KH n C D (Y aO lO kO) p.obj/\GRW nC C D (Y aR lR kR) (vo p)/\KH nA C D (Y aL lL kL) (fitL p.lower (O p.obj) [])/\KH nB C D (Y aU lU kU) (fitL p.upper (O p.obj) [])/\NR nA (Y aO lO kO)/\NR nB (Y aL lL kL)/\NR nC (Y aU lU kU):=by
 have W:=z8 io;have bp:=ir.len;have br:=z8 iw;have bq:=z8 iu;have⟨bf,bg,bh,bi,bj,bk,bl,ak⟩:=hp;refine zw (fn:=Tryz.f7) R4<|zG ?_;refine sB [Y ao lo co,Y ar lr cr,Y aw lw cw,Y au lu cu] λb8 bu c4=>?_;refine sA λb9 bv c5=>?_;refine zG ?_;refine zl [0,1,3,0,8,0,63,0,128,0,1023,2047,0,8191] rfl<|zH ?_;refine dC (Us _ (io.x zx) Z) ?_;rintro _ ba a6⟨w,B,y,rfl,a4⟩ cc c6;refine zH ?_;refine dC (bI _ (iw.x zx) Z (m:=lo) Z []) ?_;have ac:=a4.blt;rintro _ ag Z0⟨o,s,rfl,L⟩ cd c7;have L:KH a6 ag Z0 (Y o lo s) (fitL p.lower (O p.obj) []):=by have e:fitL p.lower lo []=fitL p.lower (O p.obj) []:=(by rw[W]);rw[<-e];exact L
 have ae:=L.blt;refine zH ?_;refine dC (bI _ (iu.x zx) Z (m:=lo) Z []) ?_;rintro _ ah a⟨q,u,rfl,M⟩ ce c8;have M:KH Z0 ah a (Y q lo u) (fitL p.upper (O p.obj) []):=by have e:fitL p.upper lo []=fitL p.upper (O p.obj) []:=(by rw[W]);rw[<-e];exact M
 have af:NR (a+1) _:=λad len cap e=>Dm (M.blt ad len cap e) Z;refine dT #[Y w B y,η,Y o lo s,Y q lo u] ?_;refine dB [η,η,η,η] λbb bw c9=>?_;refine dS [Y w B y,η,Y o lo s,Y q lo u] λai ax bs=>?_;refine zG ?_;refine sF (α:=Nat×Option Addr×Nat×Nat) (λz=>[(1,ι (3*n+2)),(2,ι (3*(n+1)+2)),(3,U .i64 (lo:Int)),(4,ι (3*a+2)),(5,U .i64 (z.1:Int))]) (λz C D w'=>w'=[]/\a+1<=D/\ExtB (a+1) [3*a+2] ai C/\C (3*a+2)=ξ (.row [Y w B y,Y z.2.1 z.2.2.1 z.2.2.2,Y o lo s,Y q lo u] 25)/\GRW (a+1) C D (Y z.2.1 z.2.2.1 z.2.2.2) ((vo p).take z.1)/\z.1<=O p.rows) (λz=>O p.rows-z.1) (0,θ,0,0) ⟨ω,CS,F7 _ _ _,ax,GRW.nil _ _ _,CT⟩ ?_;rintro⟨i,aT,lT,kT⟩ t T N _ ⟨rfl,cf,b4,Z1,f,hi⟩;dsimp only at Z1 f hi;refine zG ?_;by_cases q19:(i:Int)<(lr:Int);refine zG ?_;refine zl [0,1,0,4,0,28,60,124,0,508,0,1024,0,7168,15360,31744,0,65536,0,458752,983040,2031616,4194300,8388604,16777215,33554431,67108863] rfl<|zH ?_;obtain⟨g,R⟩:∃d,(p.rows)[i]?=ξ d:=⟨_,CW Z⟩;have⟨bn,bt,b5,bo,b6,P,Z3,a0,a1,a5⟩:=KW.at ir R;have b1:=z8 a5;refine dI P a0 ?_;refine zH ?_;refine dL a1 Z3 0 ?_;refine zH ?_;refine dC (bI _ (a5.x zx) (by have:=(ak _ (C0 R)).1;omega) (m:=lo) Z [48]) ?_;rintro _ aj G⟨I,J,rfl,V⟩ cg ca;have V:KH N aj G (Y I lo J) (fitL g.A (O p.obj) [48]):=by have e:fitL g.A lo [48]=fitL g.A (O p.obj) [48]:=(by rw[W]);rw[<-e];exact V
 refine zH ?_;refine dI P a0 ?_;refine zH ?_;refine dL a1 Z3 1 ?_;refine zH ?_;refine dI P a0 ?_;refine zH ?_;refine dL a1 Z3 2 ?_;refine dT #[Y I lo J,CY ⟨⟨g.lo⟩⟩,CY ⟨⟨g.hi⟩⟩] ?_;refine TW [Y I lo J,CY ⟨⟨g.lo⟩⟩,CY ⟨⟨g.hi⟩⟩] (l:=1) (c:=1) R5 λZ4 ay cb=>?_;have b0:Ml (a+1) [Y I lo J,CY ⟨⟨g.lo⟩⟩,CY ⟨⟨g.hi⟩⟩] (NP (O p.obj) g) Z4 (G+1):=⟨_,_,_,ω,((V.x zx)).lo (show a+1<=N from Z)⟩;have⟨b2,j,aa⟩:=((f.x (h':=Z4) (n':=G+1) zx)).ex;have a9:Z4 (3*G+2)=_:=ay;refine Yo (lo:=(a+1)) (mm:=1) ω ω ω ω ω ω ω ω ⟨Dt ω,Dt ω⟩ ω ω ω j (yp a9 R2) CS (by rw[DK,rW];omega) ω ω ⟨Bq,Z⟩ ?_;intro c3 K b3 S a7 F b7;have ab:=GRW.app j aa b0 F S;have⟨a3,a8,_⟩:=S.shape;subst a8;replace a7:Exa (a+1) _ _:=⟨a7⟩;have bx:K (3*n+2)=_:=(F.blk j (zB _) Z).trans zp;have bz:K (3*(n+1)+2)=_:=(F.blk j (zB _) Z).trans zp;have c0:K (3*a+2)=_:=(F.blk j (zB _) Z).trans zp;have c1:K (3*G+2)=_:=(F.blk j (zB _) Z).trans zp;refine zH ?_;refine dS (b:=3*a+2) (off:=1) [Y w B y,Y a3 (O ((vo p).take i)+1) (O ((vo p).take i)+1),Y o lo s,Y q lo u] λbc az av=>?_;have al:=ab.sto av Z;refine zG ?_;exact sK (i+1,a3,(O ((vo p).take i)+1),(O ((vo p).take i)+1)) ⟨ω,Z,zy,az,((xa (zal R)).symm▸al),Aq⟩;refine zG ?_;have be:i=O p.rows:=Z;have a2:GRW (a+1) T N (Y aT lT kT) (vo p):=by have hq:=f;rw[C7 (by rw[rW];omega)]at hq;exact hq
 refine zG ?_;refine sS [Y w B y,Y aT lT kT,Y o lo s,Y q lo u] λbd c2 H=>?_;have am:=(a4.x zx).sto H Z;have an:=(L.x zx).sto H Z;have ap:=(M.x zx).sto H Z;have bm:=f.sto H Z;have aq:=a2.sto H Z;refine zq ?_;exact⟨_,_,_,_,_,_,_,_,_,_,_,_,a6,Z0,a+1,ω,⟨Z,Z,Z,Z⟩,(am).lo Z,aq,an,ap,ac,ae,af⟩
def zlw(k:Nat)(F:Sl h n 1 (Y ao lo co) (strs p.obj))(G:KW h n (Y ar lr cr) p.rows)(I:Sl h n 1 (Y aw lw cw) (strs p.lower))(H:Sl h n 1 (Y au lu cu) (strs p.upper))(y:SmlP p):CX (Kp (k+3)) 7 [.agg #[Y ao lo co,Y ar lr cr,Y aw lw cw,Y au lu cu]] h n λv a b=>∃d q j f s l c o i g u m,v=.agg #[Y d q j,Y f s l,Y c o i,Y g u m]/\KH n a b (Y d q j) p.obj/\GRW n a b (Y f s l) (vo p)/\KH n a b (Y c o i) (fitL p.lower (O p.obj) [])/\KH n a b (Y g u m) (fitL p.upper (O p.obj) []):=
 (Uv k F G I H y).mono λv a b⟨d,q,j,f,s,l,c,o,i,g,u,m,L,M,N,e,⟨w,J,K,_⟩,A,B,C,D,_⟩=>⟨d,q,j,f,s,l,c,o,i,g,u,m,e,A,B.lo Z,C.lo w,D.lo Z⟩
end
section
variable {p:LPD}{X:List (List UInt8)}
end
section
variable {low up:Bool}{r:Nat}
def MeaS(cs rs:List SideD)(ob:List Rat)(oc:Int)(v:Rat):Prop:=
 oc=2/\(∀x,¬Fea cs rs x)\/oc=3/\(∀M:Rat,∃x,Fea cs rs x/\(Ks (O cs) λj=>atR ob j*x j)<M)\/oc=1/\(∃x,Fea cs rs x/\(Ks (O cs) λj=>atR ob j*x j)=v)/\∀x,Fea cs rs x->v<=Ks (O cs) λj=>atR ob j*x j
section
variable {cs rs:List SideD}{ss:List Rat}{s:Rat}{st:PS}
def Md.fea(c:ScI cs rs ob ss bz y s)(p:PrO cs rs ob)(a:Md cs rs ss bz y st)(b:Feas (O rs) (Kr (solI cs rs ss bz y).lo) (Kr (solI cs rs ss bz y).hi) st):Fea cs rs st.x:=
 (c.fea p a.xL).1 λ_ d=>a.inb b d
def zw1(c:ScI cs rs ob ss bz y s)(p:PrO cs rs ob)(a:Md cs rs ss bz y st)(b:Feas (O rs) (Kr (solI cs rs ss bz y).lo) (Kr (solI cs rs ss bz y).hi) st)(d:∀c u,c<O cs->¬ent (O rs) (Kr (solI cs rs ss bz y).lo) (Kr (solI cs rs ss bz y).hi) st u c):MeaS cs rs ob 1 (Ks (O cs) λj=>atR ob j*st.x j):=
 .inr (.inr ⟨ω,⟨_,a.fea c p b,ω⟩,λ_ e=>zpy c p a d e⟩)
theorem zw0(c:ScI cs rs ob ss bz y s)(p:PrO cs rs ob)(o:Md cs rs ss bz y st)(m:Feas (O rs) (Kr (solI cs rs ss bz y).lo) (Kr (solI cs rs ss bz y).hi) st){e:Nat}(u:Ent (O cs) (O rs) (Kr (solI cs rs ss bz y).lo) (Kr (solI cs rs ss bz y).hi) st e up)(w:∀r ρ,¬Lw (O rs) (Kr (solI cs rs ss bz y).lo) (Kr (solI cs rs ss bz y).hi) st e up r ρ)(v:Rat):MeaS cs rs ob 3 v:=by
 refine .inr (.inl ⟨ω,λM=>?_⟩);have d:∀q:Rat,(Ks (O cs) λj=>atR ob j*(st.x j+q*rayF st e up (O rs) j))=(Ks (O cs) λj=>atR ob j*st.x j)+q*Ks (O cs) λj=>atR ob j*rayF st e up (O rs) j:=λq=>(by rw[<-wL,<-zwx];exact yg λj _=>by grind);have f:=Un c p o m u w (q:=1) zd;have f:=f.2;rw[d]at f;generalize (Ks (O cs) λj=>atR ob j*st.x j)=A at f d;generalize (Ks (O cs) λj=>atR ob j*rayF st e up (O rs) j)=R at f d;have C:0< -R:=by grind
 obtain⟨q,D,B⟩:∃q:Rat,0<q/\A+q*R<M:=(by by_cases h:A<M;refine⟨1,by decide,Ag⟩;refine⟨(A-M+1)/(-R),?_,?_⟩;rw[Rat.div_def];exact Fe Ag (Rat.inv_pos.2 C);have l:=Fj (a:=A-M+1) (b:= -R) Ag;grind);have l:=Un c p o m u w D;exact⟨_,l.1,by rw[d];exact B⟩
def zw2(c:ScI cs rs ob ss bz y s)(p:PrO cs rs ob)(a:Md cs rs ss bz y st)(hv:Vio (O rs) (Kr (solI cs rs ss bz y).lo) (Kr (solI cs rs ss bz y).hi) st r low g)(b:∀c,c<O cs->¬suit (Kr (solI cs rs ss bz y).lo) (Kr (solI cs rs ss bz y).hi) (rdOf (O rs) st r 0 low) c)(v:Rat):MeaS cs rs ob 2 v:=
 .inl ⟨ω,λ_ d=>zp9 c p a hv b d⟩
end
structure Alike (cs rs:List SideD)(ob:List Rat)(cs' rs':List SideD)(ob':List Rat)(c:Rat):Prop where
 pos:0<c
 to:∀x,Fea cs rs x->∃x',Fea cs' rs' x'/\(Ks (O cs') λj=>atR ob' j*x' j)=c*Ks (O cs) λj=>atR ob j*x j
 of:∀x',Fea cs' rs' x'->∃x,Fea cs rs x/\(Ks (O cs') λj=>atR ob' j*x' j)=c*Ks (O cs) λj=>atR ob j*x j
theorem MeaS.alike{cs rs u B:List SideD}{ob w:List Rat}{c v v':Rat}{D A:Int}(a:Alike cs rs ob u B w c)(h:MeaS cs rs ob D v)(h':MeaS u B w A v'):A=D/\(D=1->v'=c*v):=by have C:=a.pos;obtain⟨rfl,h⟩|⟨rfl,h⟩|⟨rfl,⟨x,l,rfl⟩,h⟩:=h;obtain⟨rfl,_⟩|⟨rfl,h'⟩|⟨rfl,⟨f,d,_⟩,_⟩:=h';exact⟨ω,λh=>by cases h⟩;have⟨f,d,_⟩:=h' 0;have⟨x,l,_⟩:=a.of f d;exact(h x l).elim;have⟨x,l,_⟩:=a.of f d;exact(h x l).elim;obtain⟨rfl,h'⟩|⟨rfl,_⟩|⟨rfl,_,h'⟩:=h';have⟨x,l,_⟩:=h 0;have⟨f,d,_⟩:=a.to x l;exact(h' f d).elim;exact⟨ω,λh=>by cases h⟩;have⟨x,l,o⟩:=h (v'/c);have⟨f,d,e⟩:=a.to x l;have m:=h' f d;rw[e]at m;have q:=Fj (a:=v') (b:=c) Ag;have G:=Fe C (show 0<v'/c-Ks (O cs) λj=>atR ob j*x j by grind);generalize (Ks (O cs) λj=>atR ob j*x j)=S at*;generalize v'/c=T at*;exfalso;grind;obtain⟨rfl,h'⟩|⟨rfl,h'⟩|⟨rfl,⟨f,d,rfl⟩,h'⟩:=h';have⟨f,d,_⟩:=a.to x l;exact(h' f d).elim;have⟨f,d,o⟩:=h' (c*Ks (O cs) λj=>atR ob j*x j);have⟨F,p,e⟩:=a.of f d;rw[e]at o;have m:=Um C o;exact CO (h F p) (F6.2 m);refine⟨ω,λ_=>?_⟩;have⟨F,p,I⟩:=a.of f d;have⟨K,H,J⟩:=a.to x l;have m:=h F p;have q:=h' K H;rw[J]at q;rw[I]at q⊢;have G:=Ul C q;rw[Rat.le_antisymm G m]
def KJ(i k j:Nat):Nat:=if j=i then k else if j=k then i else j
section
variable {i:Nat}
def Qc(j:Nat):KJ i k (KJ i k j)=j:=by unfold KJ;split<;>split<;>(try split)<;>omega
def NT(hi:i<n)(a:k<n)(hj:j<n):KJ i k j<n:=by unfold KJ;split;exact a;split;exact hi;exact hj
theorem ON{f:Nat->Rat}:∀{n i:Nat},i<n->Ks n f=f i+Ks n λj=>if j=i then 0 else f j:=by
 intro n;induction n with
 |zero=>intro i h;omega
 |succ n ih=>
  intro i h;show Ks n f+f n=f i+(Ks n (λj=>if j=i then 0 else f j)+(if n=i then 0 else f n));by_cases e:n=i;subst e;rw[CQ ω,yg (f:=λj=>if j=n then 0 else f j) (g:=f) λj a=>CP Z];grind;rw[CP e,ih (show i<n from Z)];grind
theorem Uw{f:Nat->Rat}(hi:i<n)(a:k<n):(Ks n λj=>f (KJ i k j))=Ks n f:=by
 by_cases e:i=k;subst e;exact yg λj _=>by unfold KJ;split<;>simp_all
 rw[ON (f:=λj=>f (KJ i k j)) hi,ON (f:=f) hi];rw[ON (f:=λj=>if j=i then 0 else f (KJ i k j)) a,ON (f:=λj=>if j=i then 0 else f j) a];rw[CP (λh=>e h.symm),CP (λh=>e h.symm)];have b:KJ i k i=k:=by unfold KJ;rw[CQ rfl]
 have c:KJ i k k=i:=by unfold KJ;rw[CP (λh=>e h.symm),CQ rfl]
 rw[b,c];have d:(Ks n λj=>if j=k then 0 else(λj=>if j=i then 0 else f (KJ i k j)) j)=Ks n λj=>if j=k then 0 else(λj=>if j=i then 0 else f j) j:=yg λj _=>(by by_cases h1:j=k;rw[CQ h1,CQ h1];rw[CP h1,CP h1];show(if j=i then 0 else f (KJ i k j))=if j=i then 0 else f j;by_cases h2:j=i;rw[CQ h2,CQ h2];rw[CP h2,CP h2];unfold KJ;rw[CP h2,CP h1]);rw[d];grind
end
theorem zwl{cs rs l m:List SideD}{ob A:List Rat}{c:Rat}{i k:Nat}(D:0<c)(hl:O l=O cs)(B:O m=O rs)(hi:i<O cs)(o:k<O cs)(hv:∀j,j<O cs->∀x,inBd (Le l) (Lf l) j x↔inBd (Le cs) (Lf cs) (KJ i k j) x)(F:∀j,j<O cs->atR A j=c*atR ob (KJ i k j))(hb:∀r,r<O rs->(∀x,inBd (Le m) (Lf m) r x↔inBd (Le rs) (Lf rs) r x)/\∀j,j<O cs->atR (rA m r) j=atR (rA rs r) (KJ i k j)):Alike cs rs ob l m A c:=by
 have w:∀x a:Nat->Rat,(∀j,j<O cs->a j=x (KJ i k j))->(Ks (O l) λj=>atR A j*a j)=c*Ks (O cs) λj=>atR ob j*x j:=λx a h=>(by rw[hl,<-Uw (f:=λj=>atR ob j*x j) hi o,<-wL];exact yg λj d=>by rw[F j d,h j d];grind);have u:∀x a:Nat->Rat,(∀j,j<O cs->a j=x (KJ i k j))->∀r,r<O rs->(Ks (O l) λj=>atR (rA m r) j*a j)=Ks (O cs) λj=>atR (rA rs r) j*x j:=λx a h r b=>(by rw[hl,<-Uw (f:=λj=>atR (rA rs r) j*x j) hi o];exact yg λj d=>by rw[(hb r b).2 j d,h j d]);have q:∀x a:Nat->Rat,(∀j,j<O cs->a j=x (KJ i k j))->(Fea cs rs x↔Fea l m a):=λx a h=>(by constructor;intro f;refine⟨λj d=>?_,λr b=>?_⟩;rw[hl]at d;rw[hv j d,h j d];exact f.v _ (NT hi o d);rw[B]at b;rw[u x a h r b,(hb r b).1];exact f.r r b;intro f;refine⟨λj d=>?_,λr b=>?_⟩;have p:=f.v (KJ i k j) (by rw[hl];exact NT hi o d);rw[hv _ (NT hi o d),Qc,h _ (NT hi o d),Qc]at p;exact p;have p:=f.r r (by rw[B];exact b);rw[u x a h r b,(hb r b).1]at p;exact p);refine⟨D,λx G=>?_,λa C=>?_⟩;have e:∀j,j<O cs->(λj=>x (KJ i k j)) j=x (KJ i k j):=λ_ _=>rfl;exact⟨_,(q x _ e).1 G,w x _ e⟩;have e:∀j,j<O cs->a j=(λj=>a (KJ i k j)) (KJ i k j):=λj _=>by show a j=a (KJ i k (KJ i k j));rw[Qc]
 exact⟨λj=>a (KJ i k j),(q (λj=>a (KJ i k j)) a e).2 C,w (λj=>a (KJ i k j)) a e⟩
end
section
variable {q:Rat}
def zvv(q:Rat):∃d r,decT q.num.natAbs++(if q.den=1 then[]else 47::decT q.den)=d::r/\(48:UInt8)<=d:=by
 have⟨a,_,b⟩:=wx q.num.natAbs;cases h:decT q.num.natAbs with
 |nil=>exact CO h b
 |cons d r=>
  refine⟨d,_,ω,?_⟩;have:=(a d (by rw[h];exact EM)).1;exact this
def Ux(h:q.num<0):ratT q=45::ratT (-q):=by unfold Go.Proofs.YteoagenjaemllaaGreatDoor.ratT;rw[CQ h,GH,Rat.neg_den,Int.natAbs_neg,CP (show ¬ -q.num<0 from Z)];rfl
def zwc(h:0<q.num):(∃d r,ratT q=d::r/\(48:UInt8)<=d)/\ratT (-q)=45::ratT q:=by
 constructor;have⟨d,r,b,a⟩:=zvv q;refine⟨d,r,?_,a⟩;unfold Go.Proofs.YteoagenjaemllaaGreatDoor.ratT;rw[CP Z];exact b;have a:(-q).num<0:=by rw[GH];omega
 have:=Ux a;rwa [Rat.neg_neg]at this
def Uy(q:Rat):(ratT q==[48])=decide (q=0):=by
 by_cases h:q=0;subst h;rfl;rw[CM h];cases hb:(ratT q==[48])with
 |false=>rfl
 |true=>exact CO (Sv ((eq_of_beq hb).trans zw9.symm)) h
end
def Uz(a:NW L)(hv:wv L=dval s)(b:AllD s)(hl:O s<=19):O L<=1:=by refine a.len_le ?_;rw[hv];have:=qy b;have c:=cL hl;omega
def UA(a:NW L)(hv:wv L=dval s)(b:AllD s)(hl:O s<=100):O L<1000000:=by have:=a.len_pow (i:=O s) (by rw[hv];exact qy b);omega
def zvg(k:Nat)(R:GK.G h)(Z4:20<=n)(s:List UInt8)(hs:O s<=40)(ho:GK.orc 17 [CY ⟨⟨s⟩⟩]=θ):VF (Kp (k+7)) 17 [CY ⟨⟨s⟩⟩] h n λv=>∃b:Bool,v=CV b/\(b=φ↔vF s):=by
 refine zO (fn:=Tryz.f17) ⟨ho,ω,ω,ω⟩ ?_;refine mM ?_;refine zM ?_;refine zF _ R5 (jQ (k+1) h n s Z) ?_;rintro _ h0 K _⟨rfl,a9,a2,x,y,N,rfl,C⟩;repeat refine zR ?_
 refine xV R5<|yc [U .i64 x,U .i64 y] R7 ω (zg _ _ _) ω (by show 3*n<=3*K+2;omega) ?_;rw[uk];generalize hh:upd h0 (3*K+2) _=h1;have p:Ko n h h1:=λb f=>by rw[<-hh,zm Z,a2 b f]
 refine Zg ?_;cases N with
 |true=>
  rw[ze rfl];refine mM ?_;have⟨q,hq,_⟩:=C rfl;exact retF _ ω (zi ω) R2 ⟨φ,ω,λ_=>⟨q,hq⟩,λ_=>rfl⟩
 |false=>
 refine Zw ?_;refine zM ?_;refine zF _ R5 (cn (k+2) h1 (K+1) s Z) ?_;rintro _ A w _⟨rfl,aa,I,rfl⟩;replace p:Ko n h A:=λb f=>(I b Z).trans (p b f);have a:=oP s;have c:(KI s).2.2=φ->Frm s (KI s).1 (KI s).2.1:=λe=>rZ (by rw[<-e]);generalize (KI s).1=M at c a⊢;generalize (KI s).2.1=D at c a⊢;generalize (KI s).2.2=N at c a⊢;generalize hmi:z6 s=mi;repeat refine zR ?_
 refine xV R5<|yc [CV mi,CY ⟨⟨M⟩⟩,CY ⟨⟨D⟩⟩] R7 ω (zg _ _ _) ω (by show 3*n<=3*w+2;omega) ?_;rw[uk];generalize hh:upd A (3*w+2) _=i;have d:∃e,i (3*w+2)=ξ (.row [CV mi,CY ⟨⟨M⟩⟩,CY ⟨⟨D⟩⟩] e):=⟨_,mp⟩;have F:Ko n h i:=λb f=>by rw[<-hh,zm Z,p b f]
 have⟨e5,d⟩:=d;refine oQ ?_;refine zM ?_;cases N with
 |false=>
  refine Zi ?_;exact retF _ ω (zi ω) R2 ⟨χ,ω,(λh=>by cases h),λh=>CO (a.1 h).1 cA⟩
 |true=>
 have g:=c rfl;repeat refine zR ?_
 refine zT R6 d (v:=CY ⟨⟨D⟩⟩) R2 ?_;cases D with
 |nil=>
  refine Zi ?_;exact retF _ ω (zi ω) R2 ⟨φ,ω,λ_=>a.2 ⟨ω,.inl ω⟩,λ_=>rfl⟩
 |cons u D=>
 have a7:O M+O (u::D)+1<=40:=by
  have:=congrArg O g.eq;have i:O (if u::D=[]then[]else(47:UInt8)::u::D)=O (u::D)+1:=by rw[CP cA];rfl
  rw[C1,C1,i]at this;omega
 generalize hD:u::D=DD at*;have P:DD≠[]:=by rw[<-hD];simp
 refine oQ ?_;rw[za (by show CV _=_;rw[<-hD];rfl)];refine zN ?_;have a8:=rR R F Z4;refine zl [0,1,3,0,8,31,63,127,255] ω ?_;repeat refine zE ?_
 refine yd R6 (zX ω d (v:=CY ⟨⟨M⟩⟩) R2) R2 ?_;refine wa _ R7 (Pt k i (w+1) g.dm Z) ?_;rintro _ h3 n3 _⟨a3,l3,c3,L3,rfl,⟨rfl,V,a6,Z3,j⟩,m⟩;refine⟨sj,V,?_⟩;repeat refine zE ?_
 refine yd R6 (zX ω d (v:=CY ⟨⟨DD⟩⟩) R2) ⟨(Pd cA),ω⟩ ?_;refine wa _ R7 (Pt k h3 n3 g.dd Z) ?_;rintro _ h4 n4 _⟨a4,l4,c4,L4,rfl,⟨rfl,B,H,Z0,l⟩,o⟩;refine⟨sj,B,?_⟩;have J:Ko n h h4:=λb f=>by rw[H b Z,a6 b Z,F b f]
 have Z1:O L3<=1\/O L4<=1:=(by obtain T|T:=En 19 (O M);exact .inr (Uz l o g.dd Z);exact .inl (Uz j m g.dm T));refine wa _ R7 (Ym k (rR R J Z4) Z (Z3.ext H B) Z0 j l ⟨UA j m g.dm Z,UA l o g.dd Z⟩ Z1) ?_;rintro _ h5 n5 _⟨a5,l5,c5,L5,rfl,⟨rfl,W,ab,a0,S⟩,a1⟩;refine⟨sj,W,?_⟩;refine Mv _ R7 (RR (k+5) (neg:=χ) a0 S) ?_;rintro _ rfl;repeat refine zE ?_
 refine zN ?_;refine retF _ ω (zi ω) R2 ⟨_,ω,?_⟩;rw[a1,m,o,Bool.not_false,Bool.true_and,decide_eq_true_iff,a];exact⟨λh=>⟨ω,.inr h⟩,λh=>h.2.resolve_left P⟩
def UB(k:Nat){h:HF}(a:GK.G h){n:Nat}(c:20<=n)(s:List UInt8)(d:O s<=40):VF (Kp (k+7)) 17 [CY ⟨⟨s⟩⟩] h n λv=>∃b:Bool,v=CV b/\(b=φ↔vF s):=zvg k a c s d rfl
def zx2(k:Nat){h:HF}{n:Nat}(g:GG h n){q:Rat}(i:O (ratT q)<=40):VF (Kp (k+8)) 5 [CY ⟨⟨ratT q⟩⟩] h n λv=>∃s:Int,v=U .i64 s/\(s= -1/\q.num<0\/s=0/\q.num=0\/s=1/\0<q.num):=by
 refine zO (fn:=Tryz.f5) R4<|zG ?_;refine sQ (decide (q=0)) (Uy q) ?_;by_cases h0:q=0;subst h0;refine zG ?_;refine zf ?_;exact⟨0,ω,.inr (.inl ⟨ω,ω⟩)⟩;rw[CM h0];refine zG ?_;refine sC (UB k g.1 g.2 (ratT q) i).cx ?_;rintro _ p u⟨m,rfl,b⟩ y w;obtain rfl:=b.2 ⟨q,ω⟩;refine zG ?_;have l:q.num≠0:=λe=>h0 (Rat.num_eq_zero.1 e);by_cases hneg:q.num<0;rw[Ux hneg];refine st_I (ik:=.u8) (a:=45) R5<|st_B (a:=φ) R5<|zf ?_;exact⟨-1,ω,.inl ⟨ω,hneg⟩⟩;have⟨⟨d,r,f,hd⟩,o⟩:=zwc (q:=q) Z;rw[f];have c:d≠45:=λe=>by rw[e]at hd;exact CO hd zd
 refine st_I (ik:=.u8) (a:=(d.toNat:Int)) R5 ?_;have j:(d.toNat:Int)≠45:=λe=>c (UInt8.toNat_inj.1 (by show d.toNat=45;omega));refine zf ?_;exact⟨1,ω,.inr (.inr ⟨ω,Z⟩)⟩
section
variable {q:Rat}{s:List UInt8}{x:Operand}{v:ψ}
theorem zxs(h:0<q.num):0<q:=F6.1 λc=>by
 have a:=Rat.num_nonneg.2 (show 0<= -q by grind);rw[GH]at a;omega
def zx3(k:Nat){h:HF}{n:Nat}(g:GG h n)(a:O s<=40):VF (Kp (k+8)) 5 [CY ⟨⟨s⟩⟩] h n λv=>∃z:Int,v=U .i64 z/\(0<z->vF s/\0<zj s):=by by_cases hn:vF s;obtain⟨q,rfl⟩:=hn;obtain⟨v,h',n',w,e,l,p,u,z,rfl,B⟩:=zx2 k g a;refine⟨_,h',n',w,e,l,p,u,z,ω,λy=>⟨⟨q,ω⟩,?_⟩⟩;rw[yb];exact zxs Z;refine zO (fn:=Tryz.f5) R4<|zG ?_;refine sQ χ (beq_eq_false_iff_ne.2 λe=>hn ⟨0,(eq_of_beq ((Uy 0).trans (CN ω))).trans e.symm⟩) ?_;refine zG ?_;refine sC (UB k g.1 g.2 s a).cx ?_;rintro _ A C⟨c,rfl,f⟩ F D;obtain rfl:c=χ:=Bool.eq_false_iff.2 λe=>hn (f.1 e);refine zG ?_;refine zf ?_;exact⟨0,ω,λh=>CO h zd⟩
def modM(k:Nat)(h:HF)(n:Nat){x:Int}{m:Nat}(hx: -9223372036854775808<=x/\x<9223372036854775808)(e:1<=m)(g:m<=5):VF (Kp (k+1)) 10 [U .i64 x,U .i64 (m:Int)] h n λv=>∃r:Nat,r<m/\v=U .i64 (r:Int):=by
 have f:(x.tmod m).natAbs<m:=by rw[Int.natAbs_tmod,Dk];exact Nat.mod_lt _ e
 obtain⟨r,hr⟩:∃r,r=x.tmod m:=⟨_,ω⟩;rw[<-hr]at f;have c:m=1\/m=2\/m=3\/m=4\/m=5:=Z;refine zO (fn:=Tryz.f10) R4<|zG ?_;refine st_I (ik:=.i64) (a:=r) ⟨ω,ω,ω,ω,(by rw[hr];obtain rfl|rfl|rfl|rfl|rfl:=c<;>rfl)⟩ ?_;refine zG ?_;by_cases q:r<0;refine zG ?_;refine zf ?_;exact⟨(r+m).toNat,Z,by rw[J5 Z];rfl⟩;refine zG ?_;refine zf ?_;exact⟨r.toNat,Z,by rw[J5 Z];rfl⟩
structure MB (h:HF)(n b cap:Nat)(L:List (List UInt8)):Prop where
 ex:∃T,OR 1 strP h n b T/\T.take (O L)=L/\O L<=O T
 cp:O L<=cap
 ty:Ld h b 9
section
variable {lo:Nat}{L:List (List UInt8)}
def UC(h:HF)(n:Nat):∀T:List (List UInt8),Rec 1 (λc s=>strP c s h n) (strs T) T
 |[]=>.nil
 |s::T=>.cons (c:=[CY ⟨⟨s⟩⟩]) ω ω (UC h n T)
def KH.mb{a:Option Addr}(s:KH lo h n (Y a len cap) L)(hl:len≠0):∃b,a=ξ ⟨b,0,θ⟩/\3*lo<=b/\len=O L/\MB h n b cap L:=by have c:=z8 s.1;obtain⟨b,off,x,C,rfl,A,_⟩:=s.1.inv hl;have⟨p,u⟩:=s.2 _ _ _ rfl;have⟨T,e,y,f,g,l⟩:=u hl;rw[c]at f g l;refine⟨b,congrArg ξ y,p,c,⟨T,⟨A,_,_,e,?_,UC _ _ T⟩,f,g⟩,l,⟨_,e⟩⟩;rw[List.all_eq_true];intro x B;obtain⟨s,_,rfl⟩:=D2.1 B;rfl
def MB.go(o:MB h n b cap L)(t:Tr n h n' h')(e:h' b=h b):MB h' n' b cap L:=by have⟨⟨T,o,a,c⟩,f,C,g⟩:=o;exact⟨⟨T,o.go ac3 t e,a,c⟩,f,C,e.trans g⟩
theorem MB.lt(o:MB h n b cap L):b<3*n:=by
 obtain⟨⟨T,o,_⟩,_⟩:=o;exact o.1
def MB.ext(o:MB h n b cap L)(x:Ko n h h')(e:n<=n'):MB h' n' b cap L:=o.go ⟨e,λc a=>.inl (x c a)⟩ (x b o.lt)
theorem MB.sl(o:MB h n b cap L):Sl h n 1 (Y (ξ ⟨b,0,θ⟩) (O L) cap) (strs L):=by
 obtain⟨⟨T,⟨p,C,e,c,_,f⟩,g,u⟩,l⟩:=o;have a:=f.strsE;subst a;refine .at_ p c rfl l (by rw[Qb];omega) ?_;rw[DO,D1];show(T.map _).take _=L.map _;rw[<-Gj,g]
def MB.sse(o:MB h n b cap L)(hb:3*lo<=b):KH lo h n (Y (ξ ⟨b,0,θ⟩) (O L) cap) L:=by have s:=o.sl;have⟨⟨T,⟨_,C,e,a,_,g⟩,l,p⟩,u,y,c⟩:=o;have f:=g.strsE;subst f;rw[a]at c;cases c;exact⟨s,λA len cap e=>by cases e;exact⟨hb,λ_=>⟨T,a,ω,l,p,u⟩⟩⟩
def MB.slL(o:MB h n b cap L)(e:O L=len):Sl h n 1 (Y (ξ ⟨b,0,θ⟩) len cap) (strs L):=e▸o.sl
def MB.as{a:List (List UInt8)}(o:MB h n b cap L)(e:L=a):MB h n b cap a:=e▸o
end
section
variable {i:Nat}{d:Tmp}
def Mm{a:Operand}{b cap:Nat}{L:List (List UInt8)}(s:List UInt8)(B:MB h n b cap L)(hj:j<L.length)(e:off=j*1)(c:3*n0<=b)(k:∀h',MB h' n b cap (L.set j s)->KS b h h'->ED X ops r ms (i+1) ⟨⟨t,h',n,w⟩,al,ld,(i,h,[b])::ef⟩ Q)(u:zh ops t o=φ:=by rfl)(hd:o.dst=θ:=by rfl)(ho:o.op=.store ty a x:=by rfl)(hi:X.E.inf ty=ξ (1,bt,z):=by rfl)(ha:Kn t a=.pointer (ξ ⟨b,off,θ⟩):=by rfl)(hx:zn (Kn t x)=[.string ⟨⟨s⟩⟩]:=by rfl)(h1:xq m ef=φ:=by rfl)(h2:xJ m al=φ:=by rfl)(h3:ya m [b] ld=φ:=by rfl)(hX:X.n0=n0:=by rfl):ED X ops (o::r) (m::ms) i ⟨⟨t,h,n,w⟩,al,ld,ef⟩ Q:=by
 have⟨⟨T,A,f,g⟩,l,p⟩:=B;exact dZ (n0:=n0) (q:=s) [.string ⟨⟨s⟩⟩] A strP.kp Z e ω (λh' y C D=>by
  rw[kX c];exact k h' ⟨⟨_,y,by rw[List.length_set,List.take_set,f],by rw[List.length_set,List.length_set];exact g⟩,by rw[List.length_set];exact l,D _ p⟩ C) u hd ho hi ha hx h1 h2 h3 hX
end
theorem zva{C:List ψ}{o:Nat}{x y w:ψ}(h:(C.drop o).take 3=[x,y,z]):zu C o [w]=zu C o [w,y,z]:=by grind [zu,Eb,EH]
def zug{C:List ψ}{o:Nat}{x y:ψ}(h:o+3<=O C):O (zu C o [x,y,z])=O C:=by unfold zu;simp;omega
def UD{lo n:Nat}{h:HF}{C:List ψ}{e:List RowD}(r:Rec 3 (λc d=>Ml lo c d h n) C e):C.all nu=φ/\ones C=φ:=by
 induction r with
 |nil=>exact⟨ω,ω⟩
 |cons _ hp _ ih=>
  obtain⟨a,l,k,rfl,_⟩:=hp;exact⟨(List.all_append).trans (by rw[ih.1];rfl),yZ ω ih.2⟩
def GRW.old{lo n n':Nat}{h h':HF}{f:List RowD}(g:GRW lo h n v f)(A:∀b,3*lo<=b->b<3*n->h' b=h b)(D:n<=n'):GRW lo h' n' v f:=by
 have⟨C,u,B⟩:=g.ex;refine⟨C,?_,B.mono λc d⟨a,l,k,e,s⟩=>⟨a,l,k,e,s.go (λb _ p y _=>A b p y) D⟩⟩;generalize (O f)=m at u;cases u with
 |nil=>exact .nil
 |at_ hg hlo p hr hl ho=>exact .at_ hg hlo Z ((A _ hlo p).trans hr) hl ho
def GRW.put{lo:Nat}{h:HF}{n:Nat}{y:Option Addr}{f J:Nat}{p:List RowD}{d:RowD}(g:GRW lo h n (Y y f J) p)(hj:p[j]?=ξ d):∃bR C,y=ξ ⟨bR,0,θ⟩/\gro bR=φ/\3*lo<=bR/\bR<3*n/\f=O p/\h bR=ξ (.row C 39)/\C.all nu=φ/\O C=f*3/\∀h' a l k L,KH lo h n (Y a l k) L->h' bR=ξ (.row (zu C (j*3) [Y a l k]) 39)->Only bR h h'->GRW lo h' n (Y y f J) (p.set j ⟨L,d.lo,d.hi⟩):=by
 have⟨C,A,B⟩:=g.ex;have u:=A;obtain⟨m,D⟩:∃m,m=O p:=⟨_,ω⟩;rw[<-D]at A;cases A with
 |nil=>
  have:=(C4.1 hj).1;omega
 | @at_ b _ _ hg hlo hb hr hl ho=>
  refine⟨b,C,ω,hg,hlo,hb,D,hr,(UD B).1,hl,λh' a l k L N G I=>?_⟩;have⟨c,W,Z1,P,R⟩:=B.get hj;obtain⟨S,V,Z4,rfl,_⟩:=Z1;rw[zva P]at G;have K:Keep (Y (ξ ⟨b,0,θ⟩) f f) n h h':=λc T H=>I c λe=>(by subst e;exact H _ _ _ ω);have M:∀c d,Ml lo c d h n->Ml lo c d h' n:=λc d⟨a,l,k,e,s⟩=>⟨a,l,k,e,s.keep u K CS⟩;have F:=(B.mono M).set2 (c:=[Y a l k,CY ⟨⟨d.lo⟩⟩,CY ⟨⟨d.hi⟩⟩]) (d:=⟨L,d.lo,d.hi⟩) ω ⟨a,l,k,ω,N.keep u K CS⟩ (C4.1 hj).1;refine⟨_,?_,F⟩;rw[DX,<-D];exact .at_ hg hlo hb G ((zug R).trans hl) (UD F).2
def UE{L:List α}{d:α}{f:Nat->α}:L=mixF f (λj=>(L[j]?).getD d) 0 (O L):=by refine ER λj=>?_;by_cases h:j<O L;rw[xG h,CP (Ed _),CW h];rfl;rw[Dn Z,Dn As]
def UF{L:List α}{d:α}{g:α->α}{a:Nat->α}:mixF (λj=>g ((L[j]?).getD d)) a (O L) (O L)=L.map g:=by refine ER λj=>?_;by_cases h:j<O L;rw[xG h,CQ h,Dz,CW h];rfl;rw[Dn As,Dn sP]
end
def KU(i k:Nat)(L:List (List UInt8)):List (List UInt8):=(L.set i ((L[k]?).getD [])).set k ((L[i]?).getD [])
section
variable {i:Nat}{L:List (List UInt8)}
def jq:O (KU i k L)=O L:=by unfold KU;rw[DX,DX]
theorem MR(hi:i<O L)(a:k<O L)(j:Nat):(KU i k L)[j]?=L[KJ i k j]?:=by unfold KU KJ;grind
def Nn(hi:i<O L)(b:k<O L){s:List UInt8}(h:s∈KU i k L):s∈L:=by have⟨j,a⟩:=FH.1 h;rw[MR hi b]at a;exact C0 a
end
def MS(i k:Nat)(r:RowD):RowD:=⟨KU i k r.A,r.lo,r.hi⟩
noncomputable def K6(c s:List UInt8):List UInt8:=ratT (zj c*zj s)
noncomputable def La(c:List UInt8)(i k:Nat)(P:LPD):LPD:=⟨KU i k (P.obj.map (K6 c)),P.rows.map (MS i k),KU i k P.lower,KU i k P.upper⟩
theorem NE.mul{E P a b:Nat}{x y:Rat}(hx:NE E P x)(d:NE a b y):NE (E*a) (P*b) (x*y):=by have h:=QB.nd (A:=P*b) (B:=E*a) (q:=x*y) ⟨x.num*y.num,x.den*y.den,by have:=x.den_pos;have:=y.den_pos;exact Int.mul_pos Z Z,?_,?_,?_⟩;exact⟨h.2,h.1⟩;rw[D4,D4,EG,EG,<-NM x,<-NM y];grind;rw[D6];exact DG hx.num d.num;rw[D6,Dk,Dk];exact DG hx.den d.den
def NE.qb{E P:Nat}{x:Rat}(h:NE E P x):QB P E x:=
 ⟨x.num,x.den,by have:=x.den_pos;omega,NM x,h.num,by rw[Dk];exact h.den⟩
def UG{c s:List UInt8}(f:O c<=6)(g:(O s:Int)<=8):NE (10^10) (10^14) (zj c*zj s)/\Lo 48 (K6 c s):=by have h:=(P1 (m:=6) zd f).mul (MD g);have d:NE (10^10) (10^14) (zj c*zj s):=⟨Dy h.den zd,Dy h.num zd⟩;have e:Sz 48 (zj c*zj s):=⟨Dw d.num zd,Dw d.den zd⟩;refine⟨d,?_,?_⟩;have:=Up d.qb (a:=15) (b:=11) zd zd zd zd;unfold K6;omega;unfold K6;rw[yb];exact e
section
variable {P:LPD}{c:List UInt8}{i:Nat}
def UH(v:VLP P)(hi:i<O P.obj)(d:k<O P.obj):VLP (La c i k P):=by
 have e:(La c i k P).obj.length=O P.obj:=by show(KU i k (P.obj.map _)).length=_;rw[jq,Da]
 refine⟨e▸v.n1,e▸v.n2,?_,?_,?_,λs g=>?_,λj p o a b=>?_,λr m=>?_⟩;rw[e];exact jq.trans v.ll;rw[e];exact jq.trans v.lu;show(P.rows.map _).length<=_;rw[Da];exact v.lr;have a:=Nn A2 (by rw[Da];exact d) (show s∈KU i k (P.obj.map (K6 c))from g);obtain⟨t,_,rfl⟩:=D2.1 a;exact⟨_,ω⟩;have a:(KU i k P.lower)[j]?=_:=a;have b:(KU i k P.upper)[j]?=_:=b;rw[MR (v.ll▸hi) (v.ll▸d)]at a;rw[MR (v.lu▸hi) (v.lu▸d)]at b;exact v.bd _ _ _ a b;obtain⟨r,l,rfl⟩:=D2.1 m;have⟨a,b,f⟩:=v.rw r l;exact⟨a,λs g=>b s (Nn (f▸hi) (f▸d) g),e▸jq.trans f⟩
def zw3(v:VLP P)(s:SmlP P)(q:O c<=6)(hi:i<O P.obj)(g:k<O P.obj):SmQ (La c i k P):=by
 have e:(La c i k P).obj.length=O P.obj:=by show(KU i k (P.obj.map _)).length=_;rw[jq,Da]
 have w:∀s∈(La c i k P).obj,∃t∈P.obj,s=K6 c t:=λs d=>(by have b:=Nn A2 (by rw[Da];exact g) (show s∈KU i k (P.obj.map (K6 c))from d);obtain⟨t,a,rfl⟩:=D2.1 b;exact⟨t,a,ω⟩);have u:∀t∈(La c i k P).lower,(O t:Int)<=8:=λt a=>s.lw t (Nn (v.ll▸hi) (v.ll▸g) a);have B:∀t∈(La c i k P).upper,(O t:Int)<=8:=λt a=>s.up t (Nn (v.lu▸hi) (v.lu▸g) a);have l:∀r∈(La c i k P).rows,NO r:=λr l=>(by obtain⟨r,o,rfl⟩:=D2.1 l;have⟨b,D,F⟩:=s.rw r o;have p:=(v.rw r o).2.2;exact⟨by show(KU i k r.A).length<=7;rw[jq];exact b,λs d=>D s (Nn (p▸hi) (p▸g) d),F⟩);have f:∀{t:List UInt8},(O t:Int)<=8->Lo 48 t:=λh=>(txt8 h).wid zd;have H:=s.n1;have y:(La c i k P).rows.length<=6:=by show(P.rows.map _).length<=_;rw[Da];exact s.n2
 refine⟨e▸s.n1,y,λt a=>?_,u,B,l,⟨λt a=>?_,λt a=>f (u t a),λt a=>f (B t a),λr b=>?_,Z,Z,?_,?_⟩⟩;obtain⟨t,b,rfl⟩:=w t a;unfold K6;rw[yb];exact(UG q (s.ob t b)).1;obtain⟨t,b,rfl⟩:=w t a;exact(UG q (s.ob t b)).2;have⟨G,C,m⟩:=l r b;exact⟨f (m _ cA),f (m _ cA),Z,λs d=>f (C s d)⟩;show(KU i k P.lower).length<_;have:=s.n3;rw[jq];omega;show(KU i k P.upper).length<_;have:=s.n4;rw[jq];omega
def zvs(v:VLP P)(h0:0<zj c)(hi:i<O P.obj)(a:k<O P.obj):Alike (zC P) (zk P) (P.obj.map zj) (zC (La c i k P)) (zk (La c i k P)) ((La c i k P).obj.map zj) (zj c):=by
 have D:=UH (c:=c) v hi a;have e:(La c i k P).obj.length=O P.obj:=by show(KU i k (P.obj.map _)).length=_;rw[jq,Da]
 have g:=v.cols;have u:O (zC (La c i k P))=O (zC P):=by rw[D.cols,g,e]
 have B:O (zk (La c i k P))=O (zk P):=by rw[jJ,jJ];show(P.rows.map _).length=_;rw[Da]
 have l:∀j,(zC (La c i k P))[j]?=(zC P)[KJ i k j]?:=λj=>(by unfold zC;rw[FG,FG];rw[show(La c i k P).lower[j]?=_ from MR (v.ll▸hi) (v.ll▸a) j,show(La c i k P).upper[j]?=_ from MR (v.lu▸hi) (v.lu▸a) j]);have s:∀(L f:List Rat) j,f[j]?=L[KJ i k j]?->atR f j=atR L (KJ i k j):=λL f j h=>by unfold atR;rw[h]
 refine zwl (i:=i) (k:=k) h0 u B (g▸hi) (g▸a) (λj _ x=>?_) (λj C=>?_) λr y=>?_;unfold inBd Le Lf;rw[l];have w:=NT (i:=i) (k:=k) hi a (show j<O P.obj from Z);have b:=CW w;rw[wg (q:=zj c*zj (P.obj[KJ i k j])) (by
  rw[Dz];show((KU i k (P.obj.map (K6 c)))[j]?).map zj=_;rw[MR A2 (by rw[Da];exact a),Dz,b];show ξ (zj (K6 c _))=_;unfold K6;rw[yb]),wg (q:=zj (P.obj[KJ i k j])) (by rw[Dz,b];rfl)]
 have d:r<O P.rows:=by rw[jJ]at y;exact y
 have b:=CW d;have p:=(v.rw _ (Gm d)).2.2;have m:(zk P)[r]?=ξ (rowS P.rows[r]):=PH b;have o:(zk (La c i k P))[r]?=ξ (rowS (MS i k P.rows[r])):=PH (by show(P.rows.map _)[r]?=_;rw[Dz,b];rfl);refine⟨λx=>?_,λj C=>?_⟩;unfold inBd Le Lf;rw[m,o];exact Iff.rfl;unfold rA;rw[m,o];refine s _ _ _ ?_;show((KU i k (P.rows[r]).A).map zj)[j]?=((P.rows[r]).A.map zj)[KJ i k j]?;rw[Dz,Dz,MR (p▸hi) (p▸a)]
end
def SolR.sem{p:LPD}{n0 n:Nat}{w:ψ}{h:HF}(hv:VLP p)(K:SmQ p)(r:SolR p n0 w h n):∃oc t aX lX aR lR a1 l1 a2 l2 v,w=.tuple #[.agg #[U .i64 oc,CY ⟨⟨t⟩⟩,Y aX lX lX,Y aR lR lR,Y a1 l1 l1,Y a2 l2 l2],U .i64 0]/\MeaS (zC p) (zk p) (p.obj.map zj) oc v/\(oc=1->t=ratT v/\((∀s∈p.obj,(O s:Int)<=8)->O t<500/\Sz 990 v)):=by
 have f:=Ut hv K;obtain⟨a,_⟩|⟨_,T,Z1,y,s,Z4,d,⟨r,M,q,B,C,rfl,a,l,_⟩|⟨e,V,G,N,rfl,a,l,u,R,S⟩|⟨G,B,C,rfl,a,l,_⟩⟩:=r;exact CO hv a;exact⟨_,_,_,_,_,_,_,_,_,_,0,ω,zw2 d.c f d.I a l 0,λh=>by cases h⟩;exact⟨_,_,_,_,_,_,_,_,_,_,0,ω,zw0 d.c f d.I a l u 0,λh=>by cases h⟩;refine⟨_,_,_,_,_,_,_,_,_,_,_,ω,zw1 d.c f d.I a l,λ_=>⟨ω,λJ=>?_⟩⟩;have F:=fixI d.c f;have⟨D,H⟩:=d.I.vtx F.b;have A:∀q∈p.obj.map zj,NE (10^6) (10^8) q:=λq m=>(by obtain⟨s,a,rfl⟩:=D2.1 m;exact MD (J s a));have m:=H.dot F.b.aM A (by rw[f.lo.1];exact Ez _) (Ez (O (zC p)));have o:O (zC p)=1\/O (zC p)=2\/O (zC p)=3\/O (zC p)=4\/O (zC p)=5:=by have:=f.n1;have:=f.n5;omega
 have g:∀n,(n=1\/n=2\/n=3\/n=4\/n=5)->n*(10^8*(10^6)^(n-1)*vN n (10^32) (10^38))<10^258/\(10^6)^n*vD n (10^38)<10^223:=λn o=>(by obtain rfl|rfl|rfl|rfl|rfl:=o<;>exact⟨eN,eN⟩);have g:=g _ o;rw[f.lo.1]at m;have u:=Up m g.1 g.2 zd zd;exact⟨Z,m.sz (Dm g.1 eN) (Dm g.2 eN)⟩
section
set_option maxRecDepth 100000
variable {x y:Operand}{s:List UInt8}{p:LPD}{lo:Nat}
section
variable {i:Nat}{d:Tmp}
def dQ{a b:List UInt8}(v:Bool)(hv:(a==b)=v)(k:ED X ops r ms (i+1) ⟨⟨upd t d (.bool v),h,n,w⟩,al,ld,ef⟩ Q)(c:zh ops t o=φ:=by rfl)(hd:o.dst=ξ d:=by rfl)(hn:zv X.nt (ξ d)=φ:=by rfl)(ho:o.op=.binOp .eql ty x y ty':=by rfl)(hx:Kn t x=.string ⟨⟨a⟩⟩:=by rfl)(hy:Kn t y=.string ⟨⟨b⟩⟩:=by rfl):ED X ops (o::r) (m::ms) i ⟨⟨t,h,n,w⟩,al,ld,ef⟩ Q:=
 yQ (v:=.bool v) c hd hn (by rw[ho];rfl) (by rw[ho];show binE X.E .eql ty (Kn t x) (Kn t y)=_;rw[hx,hy];show ξ (Value.bool (a==b))=_;rw[hv]) k
end
theorem Qd{l:List (List UInt8)}{n:Nat}(h:O l=n):fitL l n s=l:=by grind [fitL]
def zv9(v:VLP p):vo p=p.rows:=by
 unfold vo;refine ER λi=>?_;rw[Dz];cases e:p.rows[i]? with
 |none=>rfl
 |some r=>
  show ξ (NP _ r)=_;unfold NP;rw[Qd (v.rw r (C0 e)).2.2]
def simplexScaling_ok(k:Nat){h:HF}{n:Nat}(g:GG h n)(io:Sl h n 1 (Y ao lo co) (strs p.obj))(ir:KW h n (Y ar lr cr) p.rows)(iw:Sl h n 1 (Y aw lw cw) (strs p.lower))(iu:Sl h n 1 (Y au lu cu) (strs p.upper))(c:List UInt8){t0 t1:Int}(fu: -9223372036854775808<=t0/\t0<9223372036854775808)(fv: -9223372036854775808<=t1/\t1<9223372036854775808):VF (Kp (k+17)) 3 [.agg #[Y ao lo co,Y ar lr cr,Y aw lw cw,Y au lu cu],CY ⟨⟨c⟩⟩,U .i64 t0,U .i64 t1] h n λv=>v=CV φ:=by
 have ks:=z8 io;have kt:=ir.len;have kv:=z8 iw;have ku:=z8 iu;refine zO (fn:=Tryz.f3) R4<|zG ?_;refine sB [Y ao lo co,Y ar lr cr,Y aw lw cw,Y au lu cu] λju gm il=>?_;refine zG ?_;refine sC ((zdg _ (io.x zx) (ir.x zx) (iw.x zx) (iu.x zx)).cx) ?_;rintro _ jv kw⟨ex,rfl,V⟩ ly im;cases ex;exact BP;have V:=V rfl;have kg:=V.n1;have kh:=V.n2;have ki:=V.n3;have kj:=V.n4;refine zG ?_;refine st_I (ik:=.i64) (a:=(O c:Int)) R5<|zG ?_;by_cases q13:6<(O c:Int);exact BP;refine zG ?_;refine sC ((zx3 _ (g.x zx) (s:=c) Z).cx) ?_;rintro _ jw kx⟨z14,rfl,g4⟩ lz ip;by_cases q14:z14<=0;exact BP;have⟨nc,fr⟩:=g4 Z;refine zG ?_;refine sC (zlw _ (io.x zx) (ir.x zx) (iw.x zx) (iu.x zx) V) ?_;rintro _ jx H⟨bm,B,c9,bn,ce,ca,bl,cd,c8,bo,cf,cb,rfl,am,c4,c1,c6⟩ iz iq;have eo:=z8 am.1;refine sS [Y bm B c9,Y bn ce ca,Y bl cd c8,Y bo cf cb] λG b6 ai=>?_;have c3:=am.sto ai Z;have c5:=c4.sto ai Z;have c2:=c1.sto ai Z;have c7:=c6.sto ai Z;obtain⟨P,hP⟩:∃P,P=Ur p:=⟨_,ω⟩;have hs:SmlP P:=by rw[hP];exact V.tidy
 have es:Exo n h G:=⟨(show Tx n h H G from zx).2⟩;have b6:G (3*n+2)=_:=b6;have iz:n+1<=H:=Z;have aq:GG G H:=g.ext es.go Z;have jO:Sl G H 1 (Y bm B c9) (strs P.obj):=by rw[hP];exact c3.ss
 have jR:KW G H (Y bn ce ca) P.rows:=by rw[hP];exact c5.rws
 have jL:Sl G H 1 (Y bl cd c8) (strs P.lower):=by rw[hP];exact c2.ss
 have jU:Sl G H 1 (Y bo cf cb) (strs P.upper):=by rw[hP];exact c7.ss
 have kq:B=O P.obj:=by rw[hP];exact eo
 refine zG ?_;refine sC ((zwt _ jO jR jL jU hs.lpb zd).cx) ?_;rintro _ dc ch⟨ey,rfl,g5⟩ a3 S;cases ey;refine zG ?_;refine sC ((wz _ (aq.x zx)).cx) ?_;rintro _ bw cg rfl cq cm;refine zf ?_;exact rfl;have hv:VLP P:=g5.1 rfl;have S:Exo H G dc:=⟨S⟩;refine zG ?_;have ad:=Uu (k+0) (aq.ext S.go a3) (jO.ext S.go a3) (jR.ext S.go a3) (jL.ext S.go a3) (jU.ext S.go a3) hs.q;refine sC ad ?_;rintro _ ff Z1 hR ec bb;obtain⟨oc,tt,aX,lX,aR,lR,a1,l1,a2,l2,v1,rfl,hE,hT⟩:=hR.sem hv hs.q;have bb:Exo ch dc ff:=⟨bb⟩;refine Zd λjy gn e5=>?_;refine zG ?_;refine sS [U .i64 oc,CY ⟨⟨tt⟩⟩,Y aX lX lX,Y aR lR lR,Y a1 l1 l1,Y a2 l2 l2] λbx ds dn=>?_;have a3:H<=ch:=a3;have ec:ch<=Z1:=ec;have bk:Exo H G bx:=⟨λb hb=>(dn.1 b Z).trans ((e5 b Z).trans ((bb.go b Z).trans (S.go b hb)))⟩;have b7:bx (3*n+2)=_:=(bk.go _ Z).trans b6;have li:=hv.n1;refine zG ?_;refine sC ((modM _ _ _ (m:=B) fu Z Z).cx) ?_;rintro _ jz dm⟨i0,ka,rfl⟩ ed e6;refine zG ?_;refine sC ((modM _ _ _ (m:=B) fv Z Z).cx) ?_;rintro _ ab a0⟨k0,kb,rfl⟩ ee aj;have ed:Z1+1<=dm:=ed;have ee:dm<=a0:=ee;have aj:Exo (Z1+1) bx ab:=⟨λb hb=>(aj b Z).trans (e6 b hb)⟩;have a6:Exo H G ab:=⟨λb hb=>(aj.go b Z).trans (bk.go b hb)⟩;have j3:ab (3*n+2)=_:=(aj.go _ Z).trans b7;have b8:ab (3*Z1+2)=_:=(aj.go _ Z).trans ds;refine zG ?_;refine sC (Uv _ (jO.ext (n':=a0) a6.go Z) (jR.ext (n':=a0) a6.go Z) (jL.ext (n':=a0) a6.go Z) (jU.ext (n':=a0) a6.go Z) hs) ?_;rintro _ fg u⟨aO,lO,kO,ap,K,kR,aL,lL,kL,aU,lU,kU,nA,nB,nC,rfl,⟨wA,wB,wC,wD⟩,iO,iR,iL,iU,bO,bL,bU⟩ eg it;have eg:a0<=u:=eg;rw[Qd hv.ll]at iL;rw[Qd hv.lu]at iU;rw[zv9 hv]at iR;have qO:=z8 iO.1;have qL:=z8 iL.1;have qU:=z8 iU.1;have ke:=hv.ll;have kf:=hv.lu;obtain⟨W,rfl,f1,_,M1⟩:=iO.mb Z;obtain⟨b2,rfl,f2,_,M2⟩:=iL.mb Z;obtain⟨b3,rfl,f3,_,M3⟩:=iU.mb Z;have e1:=bO _ _ _ rfl;have e2:=bL _ _ _ rfl;have e3:=bU _ _ _ rfl;have e1:W<3*nA:=e1;have e2:b2<3*nB:=e2;have e3:b3<3*nC:=e3;refine Zd λk1 gp e7=>?_;refine sS [Y (ξ ⟨W,0,θ⟩) lO kO,Y ap K kR,Y (ξ ⟨b2,0,θ⟩) lL kL,Y (ξ ⟨b3,0,θ⟩) lU kU] λZ4 cj dp=>?_;obtain rfl:B=lO:=Z;obtain rfl:B=lL:=Z;obtain rfl:B=lU:=Z;have aa:Exo u fg Z4:=⟨λb hb=>(dp.1 b Z).trans (e7 b hb)⟩;have cj:Z4 (3*u+2)=_:=cj;have N1:=M1.ext (n':=u+1) aa.go Z;have N2:=M2.ext (n':=u+1) aa.go Z;have N3:=M3.ext (n':=u+1) aa.go Z;have l1:=M1.lt;have l2:=M2.lt;have l3:=M3.lt;have a9:Exo a0 ab Z4:=⟨λb hb=>(aa.go b Z).trans (it b hb)⟩;have fs:ratT (zj c)=c:=qr nc;have bz:Sz 20 (zj c):=(by have h:=P1 (m:=6) (s:=c) zd Z;exact⟨Dw h.num zd,Dw h.den zd⟩);refine zG ?_;refine sF (α:=Nat) (λz=>[(1,CY ⟨⟨c⟩⟩),(2,U .i64 (i0:Int)),(3,U .i64 (k0:Int)),(9,ι (3*Z1+2)),(11,U .i64 (B:Int)),(12,ι (3*u+2)),(13,U .i64 (z:Int))]) (λz h' L w'=>w'=[]/\u+1<=L/\ExtB (u+1) [W] Z4 h'/\Tr (u+1) Z4 L h'/\MB h' L W kO (mixF (λj=>K6 c ((P.obj[j]?).getD [])) (λj=>(P.obj[j]?).getD []) z (O P.obj))/\z<=B) (λz=>B-z) 0 ⟨ω,CS,F7 _ _ _,Er _ _,N1.as UE,CT⟩ ?_;rintro j t N D _⟨rfl,eh,d6,a5,M,hj⟩;have eh:u+1<=D:=eh;have a5:Tr (u+1) Z4 D N:=a5;have M:MB N D W kO (mixF (λj=>K6 c ((P.obj[j]?).getD [])) (λj=>(P.obj[j]?).getD []) j (O P.obj)):=M;have hj:j<=B:=hj;have a8:∀b,b<3*(u+1)->b≠W->N b=Z4 b:=λb hb hn=>d6 b hb Ax;have dt:N (3*u+2)=_:=(a8 _ Z Z).trans cj;have cl:=M.slL (xE.trans qO.symm);have d3:Exo H G N:=⟨λb hb=>(a8 b Z Z).trans ((a9.go b Z).trans (a6.go b hb))⟩;have d8:GG N D:=aq.ext d3.go Z;refine zG ?_;by_cases q28:(j:Int)<(B:Int);refine zG ?_;have az:j<O P.obj:=Z;have hd:=CW az;have ax:(mixF (λj=>K6 c ((P.obj[j]?).getD [])) (λj=>(P.obj[j]?).getD []) j (O P.obj))[j]?=ξ (P.obj[j]):=by rw[xG az,CP (Hf _),hd];rfl
 have ay:=C0 hd;have ft:ratT (zj P.obj[j])=P.obj[j]:=qr (hv.ob _ ay);have⟨kl,kz,ez,g6,gu,i5⟩:=vM cl ax;refine zl [0,1,0,0,0,16,0,112,240,504,1023,2047] rfl<|zH ?_;refine dI ez gu ?_;refine dL i5 g6 0 ?_;have df:=mulR (k+5) d8 bz (txt8 (hs.ob _ ay)).2 zd zd zd;rw[fs,ft]at df;refine dC df.cx ?_;rintro _ fh gg rfl ej cn;refine dI ω (show j<B from Z) ?_;refine Mm (n0:=n) (j:=j) (K6 c P.obj[j]) (M.ext (n':=gg) cn ej) (by rw[xE];exact az) (Dl _) Z ?_;intro Z0 a4 dz;refine zG ?_;have f0:K6 c P.obj[j]=(λj=>K6 c ((P.obj[j]?).getD [])) j:=by show _=K6 c ((P.obj[j]?).getD []);rw[hd];rfl
 rw[f0,pE az]at a4;exact sK (j+1) ⟨ω,Z,λb hb hn=>(dz.1 b (λe=>hn (Dc.2 e))).trans ((cn b Z).trans (a8 b hb (λe=>hn (Dc.2 e)))),a5.trans (HS ⟨ej,λb hb=>.inl (cn b hb)⟩ (FN dz (Er _ _))),a4,by show j+1<=B;omega⟩;obtain rfl:j=B:=Z;have M:MB N D W kO (P.obj.map (K6 c)):=M.as (by rw[qO];exact UF);have cl:Sl N D 1 (Y (ξ ⟨W,0,θ⟩) j kO) (strs (P.obj.map (K6 c))):=M.slL (by rw[Da];exact qO.symm);have N2:=N2.go a5 (a8 _ Z Z);have N3:=N3.go a5 (a8 _ Z Z);have ig:O (P.obj.map (K6 c))=j:=by rw[Da];omega
 have dy:=M.slL ig;have bt:=CW (l:=(P.obj.map (K6 c))) (i:=k0) Z;have bq:=CW (l:=(P.obj.map (K6 c))) (i:=i0) Z;refine zG ?_;refine zl [0,1,0,0,8,0,0,64,0,448,960,0,2048,0,14336,30720,65479,131015,262143,524287] rfl<|zH ?_;have⟨lb,ln,f9,ga,gy,i9⟩:=vM dy bt;refine dI f9 gy ?_;refine dL i9 ga 0 ?_;refine zH ?_;have⟨lc,lp,fa,gb,gz,ia⟩:=vM dy bq;refine dI fa gz ?_;refine dL ia gb 0 ?_;refine zH ?_;refine dI ω (show i0<j from Z) ?_;refine Mm (n0:=n) (j:=i0) _ M Z (Dl _) Z ?_ (h3:=by(repeat (first|rfl|refine rF ω ?_|refine Mh Z ?_)));intro fh cv z30;refine dI ω (show k0<j from Z) ?_;refine Mm (n0:=n) (j:=k0) _ cv xd (Dl _) Z ?_ (h3:=by(repeat (first|rfl|refine rF ω ?_|refine Mh Z ?_)));intro Z0 a4 z31;have a4:MB Z0 D W kO (KU i0 k0 (P.obj.map (K6 c))):=a4.as (by unfold KU;rw[bt,bq];rfl);have bh:Tr D N D Z0:=FN z31 (FN z30 (Er _ _));have ae:∀b,b≠W->Z0 b=N b:=λb hb=>(z31.1 b hb).trans (z30.1 b hb);have du:Z0 (3*u+2)=_:=(ae _ Z).trans dt;have N2:=N2.go bh (ae _ Z);have N3:=N3.go bh (ae _ Z);have ii:O P.lower=j:=Z;have e0:=N2.slL ii;have bu:=CW (l:=P.lower) (i:=k0) Z;have br:=CW (l:=P.lower) (i:=i0) Z;refine zG ?_;refine zl [0,1,0,0,8,0,0,64,0,448,960,0,2048,0,14336,30720,65479,131015,262143,524287] rfl<|zH ?_;have⟨le,lq,fb,gc,i1,ib⟩:=vM e0 bu;refine dI fb i1 ?_;refine dL ib gc 0 ?_;refine zH ?_;have⟨lf,ls,fc,gd,i2,ic⟩:=vM e0 br;refine dI fc i2 ?_;refine dL ic gd 0 ?_;refine zH ?_;refine dI ω (show i0<j from Z) ?_;refine Mm (n0:=n) (j:=i0) _ N2 Z (Dl _) Z ?_ (h3:=by(repeat (first|rfl|refine rF ω ?_|refine Mh Z ?_)));intro k2 cy z32;refine dI ω (show k0<j from Z) ?_;refine Mm (n0:=n) (j:=k0) _ cy xd (Dl _) Z ?_ (h3:=by(repeat (first|rfl|refine rF ω ?_|refine Mh Z ?_)));intro a7 be z33;have be:MB a7 D b2 kL (KU i0 k0 P.lower):=be.as (by unfold KU;rw[bu,br];rfl);have bi:Tr D Z0 D a7:=FN z33 (FN z32 (Er _ _));have af:∀b,b≠b2->a7 b=Z0 b:=λb hb=>(z33.1 b hb).trans (z32.1 b hb);have dv:a7 (3*u+2)=_:=(af _ Z).trans du;have O1:=a4.go bi (af _ Z);have N3:=N3.go bi (af _ Z);have ij:O P.upper=j:=Z;have e4:=N3.slL ij;have bv:=CW (l:=P.upper) (i:=k0) Z;have bs:=CW (l:=P.upper) (i:=i0) Z;refine zG ?_;refine zl [0,1,0,0,8,0,0,64,0,448,960,0,2048,0,14336,30720,65479,131015,262143,524287] rfl<|zH ?_;have⟨lg,lv,fd,ge,i3,id⟩:=vM e4 bv;refine dI fd i3 ?_;refine dL id ge 0 ?_;refine zH ?_;have⟨lh,lx,fe,gf,i4,ie⟩:=vM e4 bs;refine dI fe i4 ?_;refine dL ie gf 0 ?_;refine zH ?_;refine dI ω (show i0<j from Z) ?_;refine Mm (n0:=n) (j:=i0) _ N3 Z (Dl _) Z ?_ (h3:=by(repeat (first|rfl|refine rF ω ?_|refine Mh Z ?_)));intro k3 cz z34;refine dI ω (show k0<j from Z) ?_;refine Mm (n0:=n) (j:=k0) _ cz xd (Dl _) Z ?_ (h3:=by(repeat (first|rfl|refine rF ω ?_|refine Mh Z ?_)));intro F an z35;have an:MB F D b3 kU (KU i0 k0 P.upper):=an.as (by unfold KU;rw[bv,bs];rfl);have bj:Tr D a7 D F:=FN z35 (FN z34 (Er _ _));have ag:∀b,b≠b3->F b=a7 b:=λb hb=>(z35.1 b hb).trans (z34.1 b hb);have dw:F (3*u+2)=_:=(ag _ Z).trans dv;have O1:=O1.go bj (ag _ Z);have O2:=be.go bj (ag _ Z);have qR:=iR.rws.len;have kk:=hs.n2;have bc:∀b,b<3*(u+1)->b≠W->b≠b2->b≠b3->F b=Z4 b:=λb hb e1 e2 e3=>(ag b e3).trans ((af b e2).trans ((ae b e1).trans (a8 b hb e1)));have d0:=iR.old (h':=F) (n':=D) (λb hb fq=>(bc b Z Z Z Z).trans (aa.go b fq)) Z;have d4:Exo H G F:=⟨λb hb=>(bc b Z Z Z Z).trans ((a9.go b Z).trans (a6.go b hb))⟩;have b9:F (3*Z1+2)=_:=(bc _ Z Z Z Z).trans ((a9.go _ Z).trans b8);refine zG ?_;refine sF (α:=Nat) (λz=>[(1,CY ⟨⟨c⟩⟩),(2,U .i64 (i0:Int)),(3,U .i64 (k0:Int)),(9,ι (3*Z1+2)),(12,ι (3*u+2)),(14,U .i64 (z:Int))]) (λz h' L w'=>w'=[]/\D<=L/\Ko nC F h'/\h' (3*u+2)=F (3*u+2)/\Tr D F L h'/\GRW nC h' L (Y ap K kR) (mixF (λj=>MS i0 k0 ((P.rows[j]?).getD ⟨[],[],[]⟩)) (λj=>(P.rows[j]?).getD ⟨[],[],[]⟩) z (O P.rows))/\z<=K) (λz=>K-z) 0 ⟨ω,CS,Ko.refl _ _,ω,Er _ _,UE▸d0,CT⟩ ?_;rintro f t I J _⟨rfl,el,R,bp,Z3,T,hf⟩;have el:D<=J:=el;replace R:Exo nC F I:=⟨R⟩;have Z3:Tr D F J I:=Z3;have T:GRW nC I J (Y ap K kR) (mixF (λj=>MS i0 k0 ((P.rows[j]?).getD ⟨[],[],[]⟩)) (λj=>(P.rows[j]?).getD ⟨[],[],[]⟩) f (O P.rows)):=T;have hf:f<=K:=hf;have ck:I (3*u+2)=_:=bp.trans dw;have d9:GG I J:=aq.ext (λb hb=>(R.go b Z).trans (d4.go b hb)) Z;refine zG ?_;by_cases q40:(f:Int)<(K:Int);refine zG ?_;have c0:f<O P.rows:=Z;have hd:=CW c0;have ax:(mixF (λj=>MS i0 k0 ((P.rows[j]?).getD ⟨[],[],[]⟩)) (λj=>(P.rows[j]?).getD ⟨[],[],[]⟩) f (O P.rows))[f]?=ξ (P.rows[f]):=by rw[xG c0,CP (Hf _),hd];rfl
 have ay:=C0 hd;have kd:=(hv.rw _ ay).2.2;have⟨l8,lj,j5,km,jd,f5,g7,gv,i6,fx⟩:=KW.at T.rws ax;refine sI f5 gv ?_;refine zG ?_;refine sL i6 g7 0 ?_;refine zG ?_;refine sC (Us _ fx Z) ?_;rintro _ fi b5⟨j6,cc,d7,rfl,b0⟩ bd e8;have gt:=z8 b0.1;obtain⟨b4,rfl,f4,_,bf⟩:=b0.mb Z;have l4:=bf.lt;have bd:J<=b5:=bd;have l0:fi (3*u+2)=_:=(e8 _ Z).trans ck;have l7:=bf.sl;have ek:=CW (l:=(P.rows[f]).A) (i:=k0) Z;have ei:=CW (l:=(P.rows[f]).A) (i:=i0) Z;have⟨l9,lk,f6,g8,gw,i7⟩:=vM b0.1 ek;have⟨la,lm,f7,g9,gx,i8⟩:=vM b0.1 ei;refine zG ?_;refine zl [0,0,0,0,0,0,48,112,0,0,768,1792,4083,8179,16383,32767] rfl<|zH ?_;refine dI f6 gw ?_;refine dL i7 g8 0 ?_;refine zH ?_;refine dI f7 gx ?_;refine dL i8 g9 0 ?_;refine dI ω (show i0<cc from Z) ?_;refine Mm (n0:=n) (j:=i0) _ bf Z (Dl _) Z ?_ (h3:=by(repeat (first|rfl|refine rF ω ?_|refine Mh Z ?_)));intro k4 ep z43;refine dI ω (show k0<cc from Z) ?_;refine Mm (n0:=n) (j:=k0) _ ep xd (Dl _) Z ?_ (h3:=by(repeat (first|rfl|refine rF ω ?_|refine Mh Z ?_)));intro ac bg z44;have bg:MB ac b5 b4 d7 (KU i0 k0 (P.rows[f]).A):=bg.as (by unfold KU;rw[ek,ei];rfl);have ah:∀b,b<3*J->ac b=I b:=λb hb=>(z44.1 b Z).trans ((z43.1 b Z).trans (e8 b hb));have eq:=T.old (h':=ac) (n':=b5) (λb _ hb=>ah b hb) bd;have d2:=bg.sse (lo:=nC) Z;rw[jq,<-gt]at d2;have l5:ac (3*u+2)=_:=(ah _ Z).trans ck;obtain⟨bR,C,rfl,db,fR,kr,l6,hC,fm,fl,gs⟩:=eq.put ax;have gl:bR≠3*u+2:=λe=>by rw[e,zB]at db;cases db
 have er:Tr D F b5 ac:=Z3.trans ⟨bd,λb hb=>.inl (ah b hb)⟩;refine zG ?_;refine sI ω (show f<K from Z) ?_;refine zG ?_;refine OC (n0:=n) (c:=C) (zu C (f*3) [Y (ξ ⟨b4,0,θ⟩) cc d7]) hC ?_ (hu:=fm) (hl:=by rw[fl];show 0+f*3+1<=K*3;omega) (hsp:=by rw[Dl];rfl);intro fj gq z45;rw[kX Z];refine zG ?_;have d1:=gs fj _ _ _ _ d2 gq z45.1;have f8:(⟨KU i0 k0 (P.rows[f]).A,(P.rows[f]).lo,(P.rows[f]).hi⟩:RowD)=(λj=>MS i0 k0 ((P.rows[j]?).getD ⟨[],[],[]⟩)) f:=by show _=MS i0 k0 ((P.rows[f]?).getD _);rw[hd];rfl
 rw[f8,pE c0]at d1;exact sK (f+1) ⟨ω,Z,λb hb=>(z45.1 b Z).trans ((ah b Z).trans (R.go b hb)),(z45.1 _ (λe=>gl e.symm)).trans ((ah _ Z).trans bp),FN z45 er,d1,by show f+1<=K;omega⟩;obtain rfl:f=K:=Z;have T:KW I J (Y ap f kR) (La c i0 k0 P).rows:=(by have r:=T.rws;rw[qR,UF]at r;rw[qR];exact r);have I1:Sl I J 1 (Y (ξ ⟨W,0,θ⟩) j kO) (strs (La c i0 k0 P).obj):=(O1.go Z3 (R.go _ Z)).slL (by rw[jq,Da];omega);have I2:Sl I J 1 (Y (ξ ⟨b2,0,θ⟩) j kL) (strs (La c i0 k0 P).lower):=(O2.go Z3 (R.go _ Z)).slL (by rw[jq];omega);have I3:Sl I J 1 (Y (ξ ⟨b3,0,θ⟩) j kU) (strs (La c i0 k0 P).upper):=(an.go Z3 (R.go _ Z)).slL (by rw[jq];omega);have ba:I (3*Z1+2)=_:=(R.go _ Z).trans b9;have dh:=zw3 (c:=c) hv hs Z (i:=i0) (k:=k0) Z Z;have fw:=UH (c:=c) hv (i:=i0) (k:=k0) Z Z;have ha:=zvs (c:=c) hv fr (i:=i0) (k:=k0) Z Z;refine zG ?_;have ad:=Uu (k+0) d9 I1 T I2 I3 dh;refine sC ad ?_;rintro _ k5 ci hR em e9;obtain⟨dr,t2,ew,dl,ev,dk,et,di,eu,dj,v2,rfl,fo,fp⟩:=hR.sem fw dh;have em:J<=ci:=em;obtain⟨rfl,ak⟩:=MeaS.alike ha hE fo;refine Zd λk6 gr ea=>?_;refine zG ?_;refine sS [U .i64 dr,CY ⟨⟨t2⟩⟩,Y ew dl dl,Y ev dk dk,Y et di di,Y eu dj dj] λav dx dq=>?_;have d5:Exo J I av:=⟨λb hb=>(dq.1 b Z).trans ((ea b Z).trans (e9 b hb))⟩;have ct:av (3*Z1+2)=_:=(d5.go _ Z).trans ba;have dx:av (3*ci+2)=_:=dx;have da:GG av (ci+1):=d9.ext d5.go Z;refine zG ?_;refine zl [0,1,3,7,15,31,15,79,15,271,975,1999,4047,8191,16383,32767,65535,131071,262143] ω ?_;by_cases q48:dr=1;obtain⟨rfl,hl⟩:=hT q48;have⟨kc,de⟩:=hl hs.ob;obtain⟨rfl,_⟩:=fp q48;have ak:=ak q48;refine zH ?_;refine dC (numU _ _ _ c Z) ?_;rintro _ dd gh⟨ja,j7,kn,je,jh,jk,jn,jr,rfl,fy,g1⟩ j0 eb;have j4:dd (3*Z1+2)=_:=(eb _ Z).trans ct;refine zH ?_;have dg:=numU (k+9) dd gh (ratT v1) Z;rw[yb]at dg;refine dC dg ?_;rintro _ k7 gi⟨jb,j8,ko,jf,ji,jl,jo,js,rfl,fz,g2⟩ cs cp;refine dC (ZZ _ (fy.ext cp cs) (g1.ext cp cs) fz g2 bz de zd) ?_;rintro _ k8 gj⟨jc,j9,kp,jg,jj,jm,jp,jt,rfl,g0,g3⟩ en iv;refine dC ((ZU _ g0 g3 (bz.mul de) zd).cx) ?_;rintro _ k9 ky rfl j1 ix;refine dQ (a:=ratT v2) (b:=ratT (zj c*v1)) φ (by rw[ak];exact beq_self_eq_true _) ?_;refine zH ?_;refine dC ((wz _ (((da.ext eb j0).ext cp cs).ext (λb hb=>(ix b (by have:gi<=gj:=en;omega)).trans (iv b hb)) (Dy en j1))).cx) ?_;rintro _ fk gk rfl j2 iy;refine zJ ?_;refine zf ?_;exact rfl;refine zH ?_;refine dC ((wz _ da).cx) ?_;rintro _ fk gk rfl j2 iy;refine zJ ?_;refine zf ?_;exact rfl
end
def upFn(nm:Nat->Nat):Fn->Fn
 | .yield l=>.yield (nm l)
 |f=>f
mutual
def up(nm:Nat->Nat):ψ->ψ
 | CZ (ξ a)=>CZ (ξ ⟨nm a.block,a.off,a.spot⟩)
 | Y (ξ a) l c=>Y (ξ ⟨nm a.block,a.off,a.spot⟩) l c
 | .func f a b=>.func (upFn nm f) (No nm a) (No nm b)
 | .agg cs=>.agg (No nm cs)
 | .tuple cs=>.tuple (No nm cs)
 |v=>v
def No(nm:Nat->Nat):Array ψ->Array ψ
 |⟨l⟩=>⟨OO nm l⟩
def OO(nm:Nat->Nat):List ψ->List ψ
 |[]=>[]
 |v::r=>up nm v::OO nm r
end
mutual
def dl{g:Nat->Nat}(hb:∀b,ρ.b (g b)=b)(hx:∀b,ρ.x (g b)=0)(d:∀b,gro (g b)=χ):∀v:ψ,conc ρ (up g v)=v
 | CZ θ=>rfl
 | CZ (ξ a)=>by simp[up,conc,aj2,hb]
 | Y θ _ _=>rfl
 | Y (ξ a) l c=>by
  simp only[up,conc];rw[ρ.adrS_old (d a.block),hx];simp[aj2,hb]
 | .func f a b=>by
  have h1:ρ.fn (upFn g f)=f:=by cases f<;>simp[upFn,Ren.fn,hb]
  simp only[up,conc,h1,pJ hb hx d a,pJ hb hx d b]
 | .agg cs=>by simp only[up,conc,pJ hb hx d cs]
 | .tuple cs=>by simp only[up,conc,pJ hb hx d cs]
 | CV _=>by simp[up,conc]
 | U _ _=>by simp[up,conc]
 | .float _ _=>by simp[up,conc]
 | .complex _ _ _=>by simp[up,conc]
 | CY _=>by simp[up,conc]
 | .map _=>by simp[up,conc]
 | .chan _=>by simp[up,conc]
 | .nilFunc=>by simp[up,conc]
 | .nilIface=>by simp[up,conc]
 | .iface _ _=>by simp[up,conc]
def pJ{nm:Nat->Nat}(hb:∀b,ρ.b (nm b)=b)(hx:∀b,ρ.x (nm b)=0)(hg:∀b,gro (nm b)=χ):∀a:Array ψ,nw ρ (No nm a)=a
 |⟨l⟩=>by simp only[No,nw,an hb hx hg l]
def an{nm:Nat->Nat}(hb:∀b,ρ.b (nm b)=b)(hx:∀b,ρ.x (nm b)=0)(hg:∀b,gro (nm b)=χ):∀l:List ψ,mg ρ (OO nm l)=l
 |[]=>rfl
 |v::r=>by simp only[OO,mg,dl hb hx hg v,an hb hx hg r]
end
def bdFn:Fn->Nat
 | .yield l=>l+1
 |_=>0
mutual
def bd:ψ->Nat
 | CZ (ξ a)=>a.block+1
 | Y (ξ a) _ _=>a.block+1
 | .func f a b=>bdFn f+Np a+Np b
 | .agg cs=>Np cs
 | .tuple cs=>Np cs
 |_=>0
def Np:Array ψ->Nat
 |⟨l⟩=>Me l
def Me:List ψ->Nat
 |[]=>0
 |v::r=>bd v+Me r
end
def zjl(d:KQ m ρ ρ'){a:Addr}(h:a.block<m):ρ'.addr a=ρ.addr a:=by unfold aj2;rw[(d _ h).1]
def zjk(d:KQ m ρ ρ'){a:Addr}(h:a.block<m):ρ'.adrS a l c=ρ.adrS a l c:=by
 unfold Ren.adrS aj2;rw[(d _ h).1,(d _ h).2]
mutual
def Qe:∀(v:ψ) (m:Nat),bd v<=m->Nb m v
 | CZ θ,m,_=>λρ ρ' _=>by simp
 | CZ (ξ a),m,h=>λρ ρ' d=>by
  simp only[bd]at h;simp only[conc,zjl d (show a.block<m from Z)]
 | Y θ _ _,m,_=>λρ ρ' _=>by simp
 | Y (ξ a) l c,m,h=>λρ ρ' d=>by
  simp only[bd]at h;simp only[conc,zjk d (show a.block<m from Z),(d _ (show a.block<m from Z)).2]
 | .func f a b,m,h=>λρ ρ' d=>by
  simp only[bd]at h;have h1:ρ'.fn f=ρ.fn f:=by
   cases f<;>simp[Ren.fn];rename_i l;exact(d l (by simp only[bdFn]at h;omega)).1
  simp only[conc,h1,cU a m Z ρ ρ' d,cU b m Z ρ ρ' d]
 | .agg cs,m,h=>λρ ρ' d=>by
  simp only[bd]at h;simp only[conc,cU cs m h ρ ρ' d]
 | .tuple cs,m,h=>λρ ρ' d=>by
  simp only[bd]at h;simp only[conc,cU cs m h ρ ρ' d]
 | CV _,m,_=>λρ ρ' _=>by simp[conc]
 | U _ _,m,_=>λρ ρ' _=>by simp[conc]
 | .float _ _,m,_=>λρ ρ' _=>by simp[conc]
 | .complex _ _ _,m,_=>λρ ρ' _=>by simp[conc]
 | CY _,m,_=>λρ ρ' _=>by simp[conc]
 | .map _,m,_=>λρ ρ' _=>by simp[conc]
 | .chan _,m,_=>λρ ρ' _=>by simp[conc]
 | .nilFunc,m,_=>λρ ρ' _=>by simp[conc]
 | .nilIface,m,_=>λρ ρ' _=>by simp[conc]
 | .iface _ _,m,_=>λρ ρ' _=>by simp[conc]
def cU:∀(a:Array ψ) (m:Nat),Np a<=m->∀ρ ρ':Ren,KQ m ρ ρ'->nw ρ' a=nw ρ a
 |⟨l⟩,m,h=>λρ ρ' ha=>by
  simp only[Np]at h;simp only[nw,UJ l m h ρ ρ' ha]
def UJ:∀(l:List ψ) (m:Nat),Me l<=m->∀ρ ρ':Ren,KQ m ρ ρ'->mg ρ' l=mg ρ l
 |[],m,_=>λρ ρ' _=>rfl
 |v::r,m,h=>λρ ρ' ha=>by
  simp only[Me]at h;simp only[mg,Qe v m Z ρ ρ' ha,UJ r m Z ρ ρ' ha]
end
def aK:∀{l:List ψ} {v:ψ},v∈l->bd v<=Me l:=by
 intro l;induction l with
 |nil=>intro v d;cases d
 |cons a l ih=>
  intro v d;simp only[Me];obtain rfl|d:=DA.1 d;omega;have:=ih d;omega
def uW(W:World)(b:Nat):Option (List ψ):=match W.heap[b]? with|some (.cells c _ _)=>ξ c.toList|_=>θ
noncomputable def wh(nm:Nat->Nat)(W:World):Nat->Hp
 |0=>.lf
 |k+1=>match uW W k with|some c=>Tr.put (wh nm W k) (nm k) (ξ (.ro (c.map (up nm))))|none=>wh nm W k
def NU{d:Nat->Nat}(hi:∀a b,d a=d b->a=b)(W:World):∀k x y,(wh d W k).at x=ξ y↔∃b,b<k/\x=d b/\∃c,uW W b=ξ c/\y=.ro (c.map (up d)):=by
 intro k;induction k with
 |zero=>
  intro x y;constructor;intro h;cases h;rintro⟨b,g,_⟩;omega
 |succ k ih=>
  intro x y;unfold wh;cases hc:uW W k with
  |none=>
   simp only;rw[ih];constructor;rintro⟨b,g,h⟩;exact⟨b,Z,h⟩;rintro⟨b,g,rfl,c,f,i⟩;have:b≠k:=λe=>by rw[e,hc]at f;cases f
   exact⟨b,Z,ω,c,f,i⟩
  |some c=>
   simp only;show Tr.get θ (Tr.put (wh d W k) (d k) _) x=ξ y↔_;rw[Tr.get_put θ rfl];by_cases hx:x=d k;rw[CQ hx];constructor;intro h;injection h with h;exact⟨k,Z,hx,c,hc,h.symm⟩;rintro⟨b,g,e,p,f,i⟩;have j:b=k:=hi _ _ (e.symm.trans hx);rw[j,hc]at f;injection f with f;rw[i,f];rw[CP hx];show(wh d W k).at x=ξ y↔_;rw[ih];constructor;rintro⟨b,g,h⟩;exact⟨b,Z,h⟩;rintro⟨b,g,e,h⟩;have:b≠k:=λo=>hx (by rw[e,o]);exact⟨b,Z,e,h⟩
def nm(b:Nat):Nat:=if b=1\/b=0\/b=4 then 3*b else 3*b+2
def ij(a b:Nat)(h:nm a=nm b):a=b:=by unfold nm at h;split at h<;>split at h<;>omega
def ren0:Ren:=⟨λx=>x/3,λ_=>0,λ_ _=>rfl,λg=>by simp⟩
def oD(b:Nat):ren0.b (nm b)=b:=by unfold nm ren0;split<;>simp<;>omega
def zrr(h:b<n):nm b<3*n:=by unfold nm;split<;>omega
def UK(b:Nat):gro (nm b)=χ:=by unfold nm gro;split;rw[Nat.mul_mod_right];rfl;rw[Nat.mul_add_mod];rfl
noncomputable def wH(W:World):Hp:=wh nm W W.heap.size
def zos(W:World):Sim MZ ren0 (wH W) W:=by
 refine⟨λx y h=>?_,λx o h f e=>?_⟩;obtain⟨b,j,rfl,c,a,rfl⟩:=(NU ij W _ _ _).1 h;unfold uW at a;split at a;rename_i c' e fz hW;injection a with a;subst a;refine⟨_,by rw[oD];exact hW,e,fz,?_⟩;rw[Jw];have:(c'.toList.map (conc ren0 ∘ up nm))=c'.toList:=by
  conv=>rhs;rw[<-HY c'.toList]
  exact Ey λv _=>dl oD (λ_=>rfl) UK v
 rw[this];cases a;have⟨y,g⟩:=DL.1 h;have⟨p,d⟩:=DL.1 f;obtain⟨b,_,rfl,_⟩:=(NU ij W _ _ _).1 g;obtain⟨i,_,rfl,_⟩:=(NU ij W _ _ _).1 d;rw[oD,oD]at e;rw[e]
structure Wn (W:World)(n:Nat):Prop where
 sz:W.heap.size<=n
 le:∀(b:Nat) (c:Array ψ) (e:TypeId) (fz:Nat×Nat),W.heap[b]?=ξ (Obj.cells c e fz)->∀v∈c.toList,bd (up nm v)<=3*n
def zrb(W:World)(d:List ψ):∃n,20<=n/\Wn W n/\KK (3*n) (wH W)/\∀v∈d,bd v<=3*n:=by
 have s:∀k,∃m,∀b,b<k->∀c,uW W b=ξ c->Me (c.map (up nm))<=m:=by
  intro k;induction k with
  |zero=>exact⟨0,λb a=>Z⟩
  |succ k ih=>
   have⟨m,g⟩:=ih;cases i:uW W k with
   |none=>exact⟨m,λb a c h=>g b (by(have:b≠k:=λe=>by rw[e,i]at h;cases h);omega) c h⟩
   |some c'=>
    refine⟨m+Me (c'.map (up nm)),λb a c h=>?_⟩;by_cases hbk:b=k;rw[hbk,i]at h;injection h with h;subst h;omega;have:=g b Z c h;omega
 have⟨m,g⟩:=s W.heap.size;refine⟨20+W.heap.size+m+Me d,Z,⟨Z,λb c e u o v q=>?_⟩,λx y h=>?_,λv p=>by have:=aK p;omega⟩;have a:b<W.heap.size:=(by obtain j|j:=En b W.heap.size;exact j;rw[Fz j]at o;cases o);have w:=g b a c.toList (by unfold uW;rw[o]);have A:=aK (HM (f:=up nm) q);omega;obtain⟨b,a,rfl,c,i,rfl⟩:=(NU ij W _ _ _).1 h;exact⟨zrr Z,λv p=>Qe v _ (by have:=aK p;have:=g b a c i;omega)⟩
def UL{W:World}{c:Array ψ}{fz:Nat×Nat}(h:W.heap[b]?=ξ (.cells c e fz)):hv (wH W) (nm b)=ξ (.ro (c.toList.map (up nm))):=by have d:b<W.heap.size:=(by obtain a|a:=En b W.heap.size;exact a;rw[Fz a]at h;cases h);exact O4 ((NU ij W _ _ _).2 ⟨b,d,ω,_,by unfold uW;rw[h],ω⟩)
def zb3{W:World}(f:FuncId)(a:List ψ)(k:Nat)(u:∀n,20<=n->Wn W n->(∀v∈a.map (up nm),bd v<=3*n)->VF (Kp k) f (a.map (up nm)) (hv (wH W)) n λv=>v=CV φ):
  Calls Dv f a.toArray W λe C=>e=.returned (CV φ)/\RowKit.Below W.heap.size W C:=by
 have⟨n,J,K,B,o⟩:=zrb W (a.map (up nm));have F:∀v∈a.map (up nm),Nb (3*n) v:=λv hv=>Qe v _ (o v hv);have⟨v,R,S,w,A,p,y,q,s⟩:=u n J K o;rw[p,y,q,s]at A;have⟨⟨Z1,D,N,P⟩,L,M⟩:=(WD k).call f (a.map (up nm)) (wH W) n _ A;obtain⟨p,y,q,s⟩:Z1=CV φ/\hv D=hv (wH W)/\N=n/\P=[]:=(by simpa [rv]using M);subst p q s;have⟨_,d⟩:=(WC k).call _ _ _ _ _ _ _ _ L 0 ren0 W (zos W) B F;have i:((a.map (up nm)).map (conc ren0))=a:=by
  rw[Jw];conv=>rhs;rw[<-HY a]
  exact Ey λv _=>dl oD (λ_=>rfl) UK v
 rw[i]at d;refine(callsIn_wide.1 d).mono λe C⟨ρ',H,g⟩=>⟨by rw[H];simp,?_⟩;exact⟨g.os,g.tape,g.out,g.size,λj I=>g.fr j I λb G=>CO G C6⟩
end Go.Proofs.YteoagenjaemllaaGreatDoor
namespace Go.Proofs.YteoagenjaemllaaGreatDoor
open Go Go.GL Go.ChangeShapes Go.WideShapes Go.RowKit
variable {fuel n sz c i l:Nat}{cs cells:List ψ}{held:Bool}{H α D:Type}{e t:TypeId}{v:ψ}{W:World}{h:HF}
section
set_option maxRecDepth 100000
def em{enc:TypeId×ψ->H}{P:Program}{w:World}{a:Nat}{f:Nat->Bool}{b:Bool}{k:IntKind}{c:ψ}{y:DataW H×List MemPlace}
  (d:P.underlying t=ξ (.int k))(h:Fk enc P w a f b fuel t [c]=ξ y):∃n,c=U k n/\y=(.lit (.int k n),[]):=by
 cases fuel with
 |zero=>simp[Fk]at h
 |succ fuel=>
  cases c<;>simp[Fk,d]at h;rename_i k' n;obtain⟨⟨rfl,_⟩,rfl⟩:=h;exact⟨n,ω,ω⟩
def jf{enc:TypeId×ψ->H}{P:Program}{w:World}{f:Nat}{F:Nat->Bool}{g:Bool}{k:IntKind}{l:List Int}{p:List MemPlace}
  (C:P.underlying t=ξ (.array n e))(B:P.underlying e=ξ (.int k))(o:P.cellsOf e=1)(s:P.cellsOf t=n)
  (h:Fk enc P w f F g fuel t cs=ξ (.agg (l.map λz=>.lit (.int k z)),p)):cs=l.map λz=>U k z:=by
 cases fuel with
 |zero=>simp[Fk]at h
 |succ fuel=>
  simp only[Fk,C]at h;split at h;rename_i hl;rw[s]at hl;rw[Ev]at h;have⟨v,u,a⟩:=h;simp only[Prod.mk.injEq,DataW.agg.injEq]at a;have⟨a,_⟩:=a;have m:=mapM_some_length u;rw[Fa]at m;have G:O l=n:=(by have:=congrArg O a;simp at this;omega);apply ER;intro i;by_cases hi:i<n;have j:=mapM_some_get u i i (by simp[hi]);obtain⟨y,c⟩:∃y,v[i]?=ξ y:=⟨v[i]'Z,CW Z⟩;rw[c,o,D1]at j;have A:(cs.drop i).take 1=[cs[i]'Z]:=(by rw[EX Z];rfl);rw[A]at j;obtain⟨z,D,rfl⟩:=em B j;have b:=congrArg (λq=>q[i]?) a;simp only[Dz,c,ah2]at b;obtain⟨z',d⟩:∃z',l[i]?=ξ z':=⟨l[i]'Z,CW Z⟩;rw[d]at b;simp only[ah2,H5,DataW.lit.injEq,Lit.int.injEq,true_and]at b;rw[CW Z,D,Dz,d,b];rfl;rw[Dn Z,Dn dO];cases h
def zcm{P:Program}{W:World}{a:String}{g:Nat}{cs:Array ψ}(b:P.globalNamed a=ξ g)(hv:W.var? P a=ξ cs):∃e fz,W.heap[g]?=ξ (.cells cs e fz):=by unfold World.var? at hv;rw[b]at hv;simp only[Option.bind_some]at hv;split at hv;rename_i cs' e fz h;injection hv with hv;subst hv;exact⟨e,fz,h⟩;cases hv
def up_u(a:Nat->Nat)(k:IntKind)(l:List Int):(GK.u k l).map (up a)=GK.u k l:=by unfold GK.u;rw[Jw];exact Ey λz _=>rfl
def Nq:List (String×DataW Unit):=Rows.simplexScalingRow.laid
def ky (i:Nat):String:=match Nq[i]? with|some x=>x.1|none=> ""
def g32:Dv.globalNamed (ky 0)=ξ 4:=by kernel_rfl
def g64:Dv.globalNamed (ky 1)=ξ 1:=by kernel_rfl
def g10:Dv.globalNamed (ky 2)=ξ 0:=by kernel_rfl
def OP(t:TypeId)(n:Nat)(k:IntKind):Prop:=∃e,Dv.underlying t=ξ (.array n e)/\Dv.underlying e=ξ (.int k)/\Dv.cellsOf e=1/\Dv.cellsOf t=n
def pV{W:World}{a:String}{g t:Nat}{k:IntKind}{l:List Int}{cs:Array ψ}{p:List MemPlace}(s:Dv.globalNamed a=ξ g)(b:W.var? Dv a=ξ cs)(j:OP t n k)
  (q:Fk (λ_=>()) Dv W 0 (λ_=>φ) χ fuel t cs.toList=ξ (.agg (l.map λz=>.lit (.int k z)),p)):hv (wH W) (nm g)=ξ (.ro (GK.u k l)):=by have⟨e,c,d,f,i⟩:=j;have o:=jf c d f i q;have⟨v,w,m⟩:=zcm s b;have:=UL m;rw[this,o];show ξ (BF.ro ((GK.u k l).map (up nm)))=_;rw[up_u]
def ty32:(Dv.globals[4]?).map (·.type)=ξ 231:=by kernel_rfl
def ty64:(Dv.globals[1]?).map (·.type)=ξ 226:=by kernel_rfl
def ty10:(Dv.globals[0]?).map (·.type)=ξ 215:=by kernel_rfl
def zrg:OP 231 32 .u8:=⟨5,by kernel_rfl,by kernel_rfl,by kernel_rfl,by kernel_rfl⟩
def zrf:OP 226 64 .u8:=⟨5,by kernel_rfl,by kernel_rfl,by kernel_rfl,by kernel_rfl⟩
def zrh:OP 215 20 .u64:=⟨164,by kernel_rfl,by kernel_rfl,by kernel_rfl,by kernel_rfl⟩
def zgv{W:World}(h:laidMet Dv Nq W):GK.G (hv (wH W)):=by have⟨K,a,_,_⟩:=h;have⟨B,Z1,s,w,F,L,b,j,o,f,a,_⟩:=a;have⟨C,P,u,y,I,M,c,l,p,g,a,_⟩:=a;have⟨D,R,v,A,J,N,d,m,q,i,_,_⟩:=a;obtain rfl:=El (g32.symm.trans b);obtain rfl:=El (g64.symm.trans c);obtain rfl:=El (g10.symm.trans d);obtain rfl:=El (ty32.symm.trans j);obtain rfl:=El (ty64.symm.trans l);obtain rfl:=El (ty10.symm.trans m);exact⟨pV c p zrf g,pV d q zrh i,pV b o zrg f⟩
end
section
set_option maxRecDepth 100000
mutual
def zje{H:Type}:∀d:DataW H,1<=Rows.uptoBulk d
 | .lit (.string b)=>by simp[Rows.uptoBulk]
 | .lit (.bool b)=>by simp[Rows.uptoBulk]
 | .lit (.int k b)=>by simp[Rows.uptoBulk]
 | .lit (.float k b)=>by simp[Rows.uptoBulk]
 | .lit .nil=>by simp[Rows.uptoBulk]
 | .nil=>by simp[Rows.uptoBulk]
 | .ptr d=>by simp[Rows.uptoBulk]
 | .slice _ _=>by simp[Rows.uptoBulk]
 | .agg _=>by simp[Rows.uptoBulk]
 | .iface _ d=>by simp[Rows.uptoBulk]
 | .map _=>by simp[Rows.uptoBulk]
 | .held _=>by simp[Rows.uptoBulk]
end
def dw{H:Type}:∀l:List (DataW H),O l<=Rows.uptoBulkAll l:=by
 intro l;induction l with
 |nil=>simp
 |cons d l ih=>have:=zje d;simp only[DM,Rows.uptoBulkAll];omega
def nz{H:Type}{d:DataW H}:∀{l:List (DataW H)},d∈l->Rows.uptoBulk d<=Rows.uptoBulkAll l:=by
 intro l;induction l with
 |nil=>intro h;cases h
 |cons e l ih=>
  intro h;simp only[Rows.uptoBulkAll];obtain rfl|h:=DA.1 h;omega;have:=ih h;omega
def zjg{a:Addr}(h:bd (up nm (Y (ξ a) l c))<=3*n):nm a.block<3*n:=by simp only[up,bd]at h;omega
def gD(a:Addr)(i:Nat):(a.add i).block=a.block:=by unfold F0;split<;>rfl
theorem UM(a:Addr)(i:Nat):(a.add i).off=a.off+i:=by unfold F0;split<;>simp_all
def gA(a:Addr):a.add 0=a:=by unfold F0;simp
section
variable {enc:TypeId×ψ->H}
def mH{d:DataW H}{p:List MemPlace}(hW:Wn W n)(ht:Dv.underlying t=ξ (.slice e))(a3:Dv.cellsOf e=sz)(h0:0<sz)(h:Fk enc Dv W 0 (λ_=>φ) held fuel t [v]=ξ (d,p))(hb:bd (up nm v)<=3*n):
  ∃(a:Option Addr) (l c:Nat) (cells:List ψ),v=Y a l c/\Sl (hv (wH W)) n sz (up nm v) (cells.map (up nm))/\O cells=l*sz/\l<=Rows.uptoBulk d/\(∀x∈cells,bd (up nm x)<=3*n)/\
   ∀i,i<l->∃C D q,Fk enc Dv W 0 (λ_=>φ) held C e ((cells.drop (i*sz)).take sz)=ξ (D,q)/\Rows.uptoBulk D<=Rows.uptoBulk d:=by
 obtain⟨hv,T⟩|⟨a,f,V,m,C,D,Z1,hv,_,N,_,hm,w,M⟩:=Go.Deep.open_slice ht h;injection hv with hv;injection T with T;subst hv T;exact⟨θ,0,0,[],ω,.nil (.inl ω),cA,CT,(λx w=>by cases w),λi s=>CO s (Ed i)⟩;injection hv with hv;injection w with w _;subst hv w;have a2:m=V:=by rw[hm];rfl
 subst a2;rw[a3]at M;have I:nm a.block<3*n:=zjg hb;have a1:f<=Rows.uptoBulk (aq5 ((Ea f).map D) ((Ea (m-f)).map λj=>D (f+j))):=(by have:=dw ((Ea f).map D);rw[Da,Fa]at this;simp only[Rows.uptoBulk];omega);have Z4:∀i,i<f->Rows.uptoBulk (D i)<=Rows.uptoBulk (aq5 ((Ea f).map D) ((Ea (m-f)).map λj=>D (f+j))):=λi s=>(by have:=nz (d:=D i) (l:=(Ea f).map D) (HM (G2.2 s));simp only[Rows.uptoBulk];omega);by_cases hc0:m=0;have a0:f=0:=Z;subst a0;refine⟨ξ a,0,m,[],ω,.nil (.inr ⟨_,_,_,ω,I⟩),cA,CT,(λx w=>by cases w),λi s=>CO s (Ed i)⟩;have A:∀i,i<m->∃cs,Fk enc Dv W 0 (λ_=>φ) held C e cs=ξ (D i,Z1 i)/\O cs=sz/\∀j,j<sz->W.cell? ((a.add (i*sz)).add j)=cs[j]?:=λi s=>(by have⟨cs,o,u⟩:=M i s;have⟨_,F,G⟩:=World.cells?_some o;exact⟨cs,u,F,G⟩);have S:a.spot=θ/\∃c P R,W.heap[a.block]?=ξ (.cells c P R):=(by have⟨cs,_,u,o⟩:=A 0 Z;have o:=o 0 h0;rw[Ep,gA,gA,CW Z]at o;unfold I7 at o;split at o;split at o;cases o;rename_i hs;exact⟨by simpa using hs,_,_,_,mo⟩;cases o);have⟨B,c,P,R,y⟩:=S;have⟨b,g,sp⟩:=a;simp only at B y I;subst B;have J:∀i,i<m->∃cs,Fk enc Dv W 0 (λ_=>φ) held C e cs=ξ (D i,Z1 i)/\O cs=sz/\∀j,j<sz->c[g+i*sz+j]?=cs[j]?:=λi s=>by
  have⟨cs,u,G,F⟩:=A i s;refine⟨cs,u,G,λj K=>?_⟩;rw[<-F j K];have e1:((F0 ⟨b,g,θ⟩ (i*sz)).add j).block=b:=by rw[gD,gD]
  have e2:((F0 ⟨b,g,θ⟩ (i*sz)).add j).off=g+i*sz+j:=by rw[UM,UM]
  have e3:((F0 ⟨b,g,θ⟩ (i*sz)).add j).spot=θ:=(by unfold F0;split;split<;>rfl;rfl);unfold I7;rw[e1,y];simp only[e2,e3];rfl
 have a4:g+m*sz<=c.size:=by
  have⟨cs,_,F,u⟩:=J (m-1) Z;have u:=u (sz-1) Z;rw[CW Z]at u;obtain Z3|Z3:=En (g+(m-1)*sz+(sz-1)) c.size;have:(m-1)*sz+sz=m*sz:=by rw[<-Ff];congr 1;omega
  omega;rw[Fz Z3]at u;cases u
 have a6:f*sz<=m*sz:=C9 _ N;have L:O ((c.toList.drop g).take (f*sz))=f*sz:=(by rw[DK,DN,Array.length_toList];omega);refine⟨ξ ⟨b,g,θ⟩,f,m,(c.toList.drop g).take (f*sz),ω,.at_ I (UL y) ω N (by show g+f*sz<=O (c.toList.map (up nm));simp;omega) (by rw[Gj,List.map_drop]),L,a1,λx w=>hW.le b c P R y x (FO (D8 w)),λi s=>?_⟩;have⟨cs,o,F,G⟩:=J i Z;have Z0:(((c.toList.drop g).take (f*sz)).drop (i*sz)).take sz=cs:=by
  have a5:i*sz+sz<=f*sz:=by rw[<-Ff];exact C9 _ s
  apply ER;intro j;by_cases K:j<sz;rw[Ek K,D9,Ek Z,D9,Array.getElem?_toList,<-G j K,Nat.add_assoc];rw[Dn (by rw[DK,DN,L];omega),Dn Z]
 exact⟨C,D i,Z1 i,by rw[Z0];exact o,Z4 i s⟩
def UN{g:α->List ψ}{Q:α->Prop}:∀{l:Nat} {cells:List ψ},O cells=l*sz->(∀i,i<l->∃x,(cells.drop (i*sz)).take sz=g x/\Q x)->∃b:List α,O b=l/\cells=b.flatMap g/\∀x∈b,Q x:=by
 intro l;induction l with
 |zero=>intro cells f _;exact⟨[],ω,List.length_eq_zero_iff.1 (by rw[f,Ep]),λx d=>by cases d⟩
 |succ l ih=>
  intro cells f h;have⟨x,d,j⟩:=h 0 Z;rw[Ep,DO]at d;have⟨b,m,o,p⟩:=ih (cells:=cells.drop sz) (by rw[DN,f,Ff];omega) (λi q=>by
   have⟨y,a,j⟩:=h (i+1) Z;exact⟨y,by rw[EH,<-a,Ff,Nat.add_comm],j⟩)
  refine⟨x::b,by rw[DM,m],?_,λy a=>?_⟩;rw[Ib,<-d,<-o,Eb];obtain rfl|a:=DA.1 a;exact j;exact p y a
def lM{c:ψ}{y:DataW H×List MemPlace}(a:Dv.underlying t=ξ .string)(h:Fk enc Dv W 0 (λ_=>φ) held fuel t [c]=ξ y):∃s:List UInt8,c=CY ⟨⟨s⟩⟩:=by
 cases fuel with
 |zero=>simp[Fk]at h
 |succ fuel=>
  cases c<;>simp[Fk,a]at h;rename_i s;exact⟨s.data.toList,ω⟩
def zh0(hl:O cells=l*1)(hi:i<l):∃v,(cells.drop (i*1)).take 1=[v]:=by rw[D1]at hl⊢;exact⟨cells[i]'Z,by rw[EX Z];rfl⟩
theorem uL{d:DataW H}{p:List MemPlace}(B:Wn W n)(F:Dv.underlying t=ξ (.slice e))(C:Dv.underlying e=ξ .string)(o:Dv.cellsOf e=1)(h:Fk enc Dv W 0 (λ_=>φ) held fuel t [v]=ξ (d,p))(hb:bd (up nm v)<=3*n):
  ∃S:List (List UInt8),Sl (hv (wH W)) n 1 (up nm v) (strs S)/\O S<=Rows.uptoBulk d:=by
 obtain⟨a,l,c,cells,rfl,u,b,I,_,w⟩:=mH B F o zd h hb;have⟨L,y,f,A⟩:=UN (g:=λs:List UInt8=>[CY ⟨⟨s⟩⟩]) (Q:=λ_=>True) b (λi m=>by
  have⟨v,hv⟩:=zh0 b m;have⟨G,D,q,j,_⟩:=w i m;rw[hv]at j⊢;obtain⟨z,rfl⟩:=lM C j;exact⟨z,rfl,CR⟩)
 refine⟨L,?_,Z⟩;have:cells.map (up nm)=strs L:=by
  rw[f];clear A f y;induction L with
  |nil=>rfl
  |cons z L ih=>rw[Ib,EK,ih];rfl
 rw[<-this];exact u
noncomputable def parts(t:TypeId):Option (List (TypeId×Nat)):=match Dv.underlying t with|some (.struct fs)=>ξ (fs.toList.map λf=>(f.type,f.offset))|_=>θ
def pW{L:List (TypeId×Nat)}{d:DataW H}{p:List MemPlace}(a:parts t=ξ L)(h:Fk enc Dv W 0 (λ_=>φ) held fuel t cs=ξ (d,p)):
  (O cs)=Dv.cellsOf t/\∃fu b,d=.agg b/\∀(i:Nat) (f:TypeId×Nat),L[i]?=ξ f->∃D q,Fk enc Dv W 0 (λ_=>φ) held fu f.1 ((cs.drop f.2).take (Dv.cellsOf f.1))=ξ (D,q)/\D∈b:=by
 cases fuel with
 |zero=>simp[Fk]at h
 |succ fuel=>
  unfold parts at a;split at a;rename_i fs hfs;injection a with a;simp only[Fk,hfs]at h;split at h;rename_i hl;refine⟨hl,?_⟩;rw[Ev]at h;have⟨b,A,s⟩:=h;injection s with s _;refine⟨fuel,b.map (·.1),s.symm,λi f w=>?_⟩;subst a;rw[Dz,Ev]at w;obtain⟨g,o,rfl⟩:=w;have B:=mapM_some_length A;have C:i<O fs.toList:=(by obtain m|m:=En i (O fs.toList);exact m;rw[Dn m]at o;cases o);have u:=mapM_some_get A i g o;obtain⟨y,j⟩:∃y,b[i]?=ξ y:=⟨b[i]'Z,CW Z⟩;rw[j]at u;exact⟨y.1,y.2,u,HM (C0 j)⟩;cases h;cases a
def zod{a:List (DataW H)}{D:DataW H}(h:D∈a):Rows.uptoBulk D<=Rows.uptoBulk (.agg a):=by have:=nz h;simp only[Rows.uptoBulk];omega
end
end
section
set_option maxRecDepth 100000
def zrt{l:List α}(h:O l=4):∃a b c d,l=[a,b,c,d]:=by
 match l,h with
 |[a,b,c,d],_=>exact⟨a,b,c,d,ω⟩
def zru{l:List α}(h:O l=3):∃a b c,l=[a,b,c]:=by
 match l,h with
 |[a,b,c],_=>exact⟨a,b,c,ω⟩
def gV:Dv.underlying 9=ξ .string:=by kernel_rfl
def OQ:Dv.underlying 22=ξ (.slice 9):=by kernel_rfl
def zox:Dv.underlying 23=ξ (.slice 39):=by kernel_rfl
def NX:Dv.cellsOf 9=1:=by kernel_rfl
def UO:Dv.cellsOf 22=1:=by kernel_rfl
def zqw:Dv.cellsOf 23=1:=by kernel_rfl
def UP:Dv.cellsOf 39=3:=by kernel_rfl
def c_lp:Dv.cellsOf 25=4:=by kernel_rfl
def zro:parts 39=ξ [(22,0),(9,1),(9,2)]:=by kernel_rfl
def p_lp:parts 25=ξ [(22,0),(23,1),(22,2),(22,3)]:=by kernel_rfl
def Sl.sh{c:List ψ}(s:Sl h n sz v c):∃a l k,v=Y a l k:=by
 cases s with
 |nil ha=>exact⟨_,_,_,ω⟩
 |at_ hb hx hc hcap hl he=>exact⟨_,_,_,ω⟩
def Rec.flat{P:List ψ->D->Prop}{g:D->List ψ}:∀{l:List D},(∀x∈l,O (g x)=sz/\P (g x) x)->Rec sz P (l.flatMap g) l:=by
 intro l;induction l with
 |nil=>intro _;exact .nil
 |cons x l ih=>
  intro h;rw[Ib];exact .cons (h x EM).1 (h x EM).2 (ih λy a=>h y (List.mem_cons_of_mem _ a))
def Rec.map{E:Type}{P:List ψ->D->Prop}{a:List ψ->E->Prop}{f:D->E}{l:List D}(r:Rec sz P cs l)(h:∀c d,P c d->a c (f d)):Rec sz a cs (l.map f):=by
 induction r with
 |nil=>exact .nil
 |cons hl hp hr ih=>exact .cons hl (h _ _ hp) ih
section
variable {enc:TypeId×ψ->H}
theorem zdp{d:DataW H}{p:List MemPlace}(G:Wn W n)(h:Fk enc Dv W 0 (λ_=>φ) held fuel 23 [v]=ξ (d,p))(hb:bd (up nm v)<=3*n):
  ∃rs,KW (hv (wH W)) n (up nm v) rs/\O rs<=Rows.uptoBulk d/\∀r∈rs,O r.A<=Rows.uptoBulk d:=by
 obtain⟨a,l,c,b,rfl,K,M,h3,N,Z1⟩:=mH G zox UP zd h hb;obtain⟨L,R,C,m⟩:=UN (α:=RowD×ψ) (g:=λx=>[x.2,CY ⟨⟨x.1.lo⟩⟩,CY ⟨⟨x.1.hi⟩⟩]) (Q:=λx=>Sl (hv (wH W)) n 1 (up nm x.2) (strs x.1.A)/\O x.1.A<=Rows.uptoBulk d) M (λi Z4=>by
  obtain⟨fu,D,q,F,a1⟩:=Z1 i Z4;have j:∀x∈(b.drop (i*3)).take 3,bd (up nm x)<=3*n:=λx f=>N x (FO (D8 f));generalize (b.drop (i*3)).take 3=cs at F j⊢;obtain⟨I,a0,xs,rfl,f⟩:=pW zro F;rw[UP]at I;obtain⟨u,c1,c2,rfl⟩:=zru I;obtain⟨D0,_,w,Z3⟩:=f 0 _ rfl;obtain⟨_,_,y,_⟩:=f 1 _ rfl;obtain⟨_,_,B,_⟩:=f 2 _ rfl;simp only[UO,NX]at w y B;have b0:=zod Z3;obtain⟨S,Z0,s2⟩:=uL G OQ gV NX w (j u cA);obtain⟨s,rfl⟩:=lM gV y;obtain⟨t,rfl⟩:=lM gV B;exact⟨(⟨S,s,t⟩,u),rfl,Z0,by show O S<=_;omega⟩)
 refine⟨L.map (·.1),⟨b.map (up nm),K,?_⟩,sP,λr V=>?_⟩
 .have e:b.map (up nm)=L.flatMap λx=>[up nm x.2,CY ⟨⟨x.1.lo⟩⟩,CY ⟨⟨x.1.hi⟩⟩]:=by
   rw[C];clear m C R;induction L with
   |nil=>rfl
   |cons z L ih=>rw[Ib,EK,ih];rfl
  rw[e];refine(Rec.flat (sz:=3) (P:=λc (x:RowD×ψ)=>rowP c x.1 (hv (wH W)) n) λx f=>⟨rfl,?_⟩).map λc d T=>T;obtain⟨o,_⟩:=m x f;obtain⟨a2,l2,k2,J⟩:=o.sh;rw[J]at o⊢;exact⟨_,_,_,rfl,o⟩
 obtain⟨x,f,rfl⟩:=D2.1 V;exact(m x f).2
def zm6{d:DataW H}{p:List MemPlace}(s:Wn W n)(T:∃cs,v=.agg cs)(h:DataW.Trod enc Dv W 0 (λ_=>φ) held 25 v d p)(hb:bd (up nm v)<=3*n):
  ∃(ao:Option Addr) (lo co:Nat) (ar:Option Addr) (lr cr:Nat) (aw:Option Addr) (lw cw:Nat) (au:Option Addr) (lu cu:Nat) (q:LPD),up nm v=.agg #[Y ao lo co,Y ar lr cr,Y aw lw cw,Y au lu cu]/\Sl (hv (wH W)) n 1 (Y ao lo co) (strs q.obj)/\KW (hv (wH W)) n (Y ar lr cr) q.rows/\Sl (hv (wH W)) n 1 (Y aw lw cw) (strs q.lower)/\Sl (hv (wH W)) n 1 (Y au lu cu) (strs q.upper):=by obtain⟨cs,rfl⟩:=T;have⟨fuel,h⟩:=h;obtain⟨R,fu,xs,rfl,a⟩:=pW p_lp h;rw[c_lp]at R;have⟨c,g,i,j,m⟩:=zrt R;have C:cs=#[c,g,i,j]:=(by cases cs;simp[Value.cells]at m;simp[m]);subst C;have b:∀x∈[c,g,i,j],bd (up nm x)<=3*n:=λx a=>(by have:=aK (HM (f:=up nm) a);have e:bd (up nm (.agg #[c,g,i,j]))=Me ([c,g,i,j].map (up nm)):=rfl;omega);rw[m]at a;have⟨V,_,L,m0⟩:=a 0 _ rfl;have⟨Z3,_,M,m1⟩:=a 1 _ rfl;have⟨Z0,_,N,m2⟩:=a 2 _ rfl;have⟨D3,_,P,m3⟩:=a 3 _ rfl;simp only[UO,zqw]at L M N P;have⟨Z1,u,_⟩:=uL s OQ gV NX L (b c cA);have⟨Z4,S,_⟩:=zdp s M (b g cA);have⟨A,w,_⟩:=uL s OQ gV NX N (b i cA);have⟨B,y,_⟩:=uL s OQ gV NX P (b j cA);have⟨_,_,_,G⟩:=u.sh;have⟨o,l,F⟩:=S;have⟨_,_,_,I⟩:=l.sh;have⟨_,_,_,J⟩:=w.sh;have⟨_,_,_,K⟩:=y.sh;rw[G]at u;rw[I]at l;rw[J]at w;rw[K]at y;refine⟨_,_,_,_,_,_,_,_,_,_,_,_,⟨Z1,Z4,A,B⟩,?_,u,⟨o,l,F⟩,w,y⟩;show Value.agg #[up nm c,up nm g,up nm i,up nm j]=_;rw[G,I,J,K]
end
end
section
set_option maxRecDepth 100000
def own:ownKnob Dv.godebug=θ:=by kernel_rfl
def OS:laidOutB Dv=φ:=by kernel_rfl
def kw(c:Array ψ):Obj->Obj
 | .cells _ t frozen=>.cells c t frozen
 |o=>o
noncomputable def iH(os:Os):World:=
 {al3 Dv os ⟨#[],#[],[]⟩with heap:=(((al3 Dv os ⟨#[],#[],[]⟩).heap.modify 1 (kw GK.d64.toArray)).modify 0 (kw GK.p10.toArray)).modify 4 (kw GK.d32.toArray)}
def kx(os:Os)(a:Array ψ):laidMet Dv Nq ((iH os).forCall (λ_ _=>0) ⟨#[],a,[]⟩).memory:=
 laidMet_of_run' 8 (by kernel_rfl) (by kernel_rfl)
end
end Go.Proofs.YteoagenjaemllaaGreatDoor
