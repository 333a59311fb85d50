import Derived.Test.YteoagenjaemllaaGreatDoorScaD
open Option renaming some→ξ,none→θ
open Bool renaming true→φ,false→χ
open Go renaming Value→ψ
set_option linter.defProp false
open Bool renaming false_ne_true→EN
open Classical renaming axiomOfChoice→Ge,byContradiction→Df
open Go.Proofs.Tryz renaming f106→aw5
open Go.Proofs.YteoagenjaemllaaGreatDoor.ExtB renaming refl→F7
open Go.Proofs.YteoagenjaemllaaGreatDoor.Gro renaming shape→Jr
open Go.Proofs.YteoagenjaemllaaGreatDoor.IW renaming zero→E9
open Go.Proofs.YteoagenjaemllaaGreatDoor.Ko renaming refl→FI
open Go.Proofs.YteoagenjaemllaaGreatDoor.QS renaming «at»→ab7
open Go.Proofs.YteoagenjaemllaaGreatDoor.Tr renaming refl→Er,s→FN
open Go.Proofs.YteoagenjaemllaaGreatDoor.intP renaming kp→FE
open Go.Proofs.YteoagenjaemllaaGreatDoor.ratP renaming kp→Es
open Go.Value renaming bool→CV,int→U,pointer→CZ,slice→Y,string→CY
open Int renaming add_zero→IJ,eq_of_mul_eq_mul_left→FZ,mul_assoc→al2,mul_comm→ab2,mul_pos→G3,mul_tdiv_cancel_left→Jj,mul_zero→G8,natAbs_mul→D6,natAbs_natCast→Dk,natAbs_neg→E7,natAbs_sub_le→ab9,neg_mul→JS,one_mul→Jd,tdiv_one→JC,zero_add→an9,zero_mul→GI
open Int.ofNat renaming inj→al1
open List renaming ext_getElem?→ER,getElem?_eq_getElem→CW,getElem?_eq_none→Dn,getElem?_eq_some_iff→C4,getElem?_map→Dz,getElem?_range→GV,getElem?_set→Jh,length→O,length_append→C1,length_cons→DM,length_eq_zero_iff→De,length_map→Da,length_range→Fa,length_replicate→DI,length_set→DX,length_singleton→Db,mem_cons→DA,mem_cons_of_mem→E3,mem_cons_self→EM,mem_map→D2,mem_of_getElem?→C0,mem_range→G2,mem_singleton→Dc,not_mem_nil→C6,range→Ea,replicate→C3,take_append_drop→Eb,take_length→Ds
open Nat renaming add_comm→EE,add_mod_right→ab8,add_mul_div_right→Hi,add_sub_cancel_left→E6,add_zero→DV,div_eq_of_lt→EZ,div_le_self→EL,dvd_mul_left→ad5,dvd_mul_right→ac0,dvd_trans→Ji,gcd→Dh,gcd_dvd_right→Fs,lcm→Jf,lcm_dvd→ap9,lcm_pos→aq0,le_mul_of_pos_left→G5,le_mul_of_pos_right→FR,le_of_dvd→Is,le_of_eq→an8,le_of_lt→EB,le_refl→Ez,le_succ→Du,le_trans→Dy,lt_of_le_of_lt→Dw,lt_of_lt_of_le→Dm,lt_or_ge→En,lt_succ_self→FD,mod_lt→DS,mod_mod→aq4,mul_add→DW,mul_assoc→Dp,mul_comm→C5,mul_le_mul→DG,mul_le_mul_left→Do,mul_le_mul_right→C9,mul_lt_mul''→G1,mul_one→D1,mul_pos→Fv,mul_zero→EJ,not_lt_zero→Ed,one_dvd→af4,one_lt_two_pow→IS,one_mul→Et,one_pos→JU,pos_of_ne_zero→Gr,pow_add→Ef,pow_le_pow_right→Dd,pow_pos→DQ,pow_succ→Dj,two_pow_pos→He,zero_add→Dl,zero_le→GA
open Option renaming map_eq_some_iff→Ev
open Option.some renaming inj→El
open Rat renaming add_zero→II,den_inv→af3,divInt→DT,divInt_eq_div→ES,div_def→Hz,div_mul_cancel→Fj,intCast_eq_zero_iff→EW,intCast_lt_intCast→G9,intCast_mul→D4,intCast_natCast→EG,intCast_neg→JH,intCast_pos→FW,intCast_sub→ag9,le_of_lt→Ft,le_refl→Hy,lt_irrefl→Gk,mul_add→aq3,mul_assoc→HR,mul_comm→FL,mul_eq_zero→ah0,mul_nonneg→HB,mul_one→HA,mul_pos→Fe,mul_zero→H9,natCast_eq_zero_iff→H2,natCast_mul→ag8,neg_den→H1,neg_num→GH,not_le→F6,not_lt→Hx,num_eq_zero→FJ,num_inv→ap8,num_nonneg→Gc,one_mul→Jg,sub_eq_add_neg→G7,zero_divInt→ag7,zero_mul→FK
set_option maxHeartbeats 8000000
set_option linter.unusedVariables false
set_option linter.unusedSimpArgs false
namespace Go.Proofs.YteoagenjaemllaaGreatDoor
open Go Go.GL
variable {n cx cy lx ly bs fx gx j n' l m a b fy gy sz i cap len off sz' bt lo l' n0 B k N:Nat}{h h':HF}{sx sy dx dy:Bool}{ax ay ex ey aq:Option Addr}{e' e:TypeId}{D D':Type}{v z:ψ}{ops r:List Oper}{va qs:List Rat}{zs:List Int}{X:CtxF}{t:TF}{w:List Nat}{Q:SV->Prop}{o:Oper}{f:Int}{q:Rat}
def bndZ(c:List ψ)(p:Bool×Rat)(h:HF)(n:Nat):Prop:=∃b a l k d e f g,c=[CV p.1,CV b,Y a l k,CV d,Y e f g]/\IW h n b a l k p.2.num/\IW h n d e f g (denZ p.2)
def bndZ.kp:KP 5 bndZ:=⟨λ⟨b,a,l,k,d,e,f,g,c,i,j⟩ t=>⟨b,a,l,k,d,e,f,g,c,i.t t,j.t t⟩,λ⟨b,a,l,k,d,e,f,g,c,i,j⟩=>by subst c;exact R3⟩
def natP(c:List ψ)(m:Nat)(_:HF)(_:Nat):Prop:=c=[U .i64 (m:Int)]
def natP.kp:KP 1 natP:=⟨λe _=>e,λe=>by cases e;exact R3⟩
def Lb(c:List ψ)(r:Nat×List Int)(_:HF)(_:Nat):Prop:=c=[Y (ξ ⟨r.1,0,θ⟩) (O r.2) (O r.2)]
def Lb.kp:KP 1 Lb:=⟨λe _=>e,λe=>by cases e;exact R3⟩
section
variable {P:List ψ->D->HF->Nat->Prop}{ds:List D}
def GR.rs(g:GR sz P lo h n e v ds):RS sz P h n v ds:=by have⟨C,c,f,_⟩:=g;exact⟨C,c.sl,f⟩
def GR.ext(g:GR sz P lo h n e v ds)(q:KP sz P)(x:Ko n h h')(p:n<=n'):GR sz P lo h' n' e v ds:=g.go q ⟨p,λc i=>.inl (x c i)⟩ λb f=>x b (g.bk b f).2.1
def GR.ty(g:GR sz P lo h n e v ds)(hb:BkOf v b):Ld h b e:=by
 have⟨C,f,_,_⟩:=g;obtain⟨o,l,c,rfl⟩:=hb;generalize (O ds)=L at f;cases f with
 |at_ hg hlo hb hr hl ho=>exact⟨_,hr⟩
end
def Ld.eq{h:HF}{e e':TypeId}(x:Ld h b e)(y:Ld h b e'):e=e':=by have⟨C,x⟩:=x;have⟨c,y⟩:=y;rw[x]at y;cases y;rfl
section
variable {P:List ψ->D->HF->Nat->Prop}{P':List ψ->D'->HF->Nat->Prop}{u:ψ}{ds:List D}{ds':List D'}
def GR.ne(g:GR sz P l h n e v ds)(g':GR sz' P' l' h n e' u ds')(f:e≠e'):∀b,BkOf v b->¬BkOf u b:=λb c i=>f ((g.ty c).eq (g'.ty i))
def GR.kb(g:GR sz P l h n e v ds)(p:KP sz P)(T:Tr n h n' h')(f:gro bs=χ)(K:∀b,b<3*n->b≠bs->¬BkOf u b->h' b=h b)(i:∀b,BkOf v b->¬BkOf u b):GR sz P l h' n' e v ds:=
 g.go p T λb c=>K b (g.bk b c).2.1 (λe=>by have:=(g.bk b c).2.2.1;rw[e,f]at this;cases this) (i b c)
def GR.nbk(g:GR sz P l h n e v ds)(c:gro b=χ):¬BkOf v b:=λf=>by
 have:=(g.bk b f).2.2.1;rw[c]at this;cases this
end
structure Exo (n:Nat)(h h':HF):Prop where
 go:Ko n h h'
abbrev BS(h:HF)(n:Nat)(v:ψ)(l:List (Bool×Rat)):Prop:=RS 5 bndZ h n v l
def BS.at{h:HF}{n:Nat}{a:Option Addr}{l:List (Bool×Rat)}{p:Bool×Rat}(r:BS h n (Y a len cap) l)(hj:l[j]?=ξ p):∃q off b s y k d e f g,a=ξ ⟨q,off,θ⟩/\q<3*n/\j<len/\At h q (off+j*5) [CV p.1,CV b,Y s y k,CV d,Y e f g]/\IW h n b s y k p.2.num/\IW h n d e f g (denZ p.2):=by obtain⟨q,off,c,B,C,F,G,_,b,s,y,k,d,e,f,g,rfl,i,j⟩:=RS.at' zd r hj;exact⟨q,off,b,s,y,k,d,e,f,g,B,C,F,G,i,j⟩
def natS.at{h:HF}{n:Nat}{a:Option Addr}{l:List Nat}(r:RS 1 natP h n (Y a len cap) l)(hj:l[j]?=ξ m):∃f off,a=ξ ⟨f,off,θ⟩/\f<3*n/\j<len/\At h f (off+j*1) [U .i64 (m:Int)]:=by exact Cq
def rwS.at{h:HF}{n:Nat}{a:Option Addr}{l:List (Nat×List Int)}{m:Nat×List Int}(r:RS 1 Lb h n (Y a len cap) l)(hj:l[j]?=ξ m):∃f off,a=ξ ⟨f,off,θ⟩/\f<3*n/\j<len/\At h f (off+j*1) [Y (ξ ⟨m.1,0,θ⟩) (O m.2) (O m.2)]:=by exact Cq
structure Sol where
 n:Nat
 sc:List Rat
 lo:List (Bool×Rat)
 hi:List (Bool×Rat)
 va:List Rat
 ba:List Nat
 nb:List Nat
 ta:List (Nat×List Int)
 den:Int
structure Adr where
 sc:Option Addr
 lo:Option Addr
 hi:Option Addr
 va:Option Addr
 ba:Option Addr
 nb:Option Addr
 ta:Option Addr
structure SM (l:Nat)(h:HF)(n bs:Nat)(d:Sol)(A:Adr):Prop where
 st:∃b a u c ty,h bs=ξ (.row [U .i64 (d.n:Int),Y A.sc (O d.sc) (O d.sc),Y A.lo (O d.lo) (O d.lo),Y A.hi (O d.hi) (O d.hi),Y A.va (O d.va) (O d.va),Y A.ba (O d.ba) (O d.ba),Y A.nb (O d.nb) (O d.nb),Y A.ta (O d.ta) (O d.ta),CV b,Y a u c] ty)/\IW h n b a u c d.den
 bs:bs<3*n/\gro bs=χ
 sc:GR 4 ratP l h n 81 (Y A.sc (O d.sc) (O d.sc)) d.sc
 lo:GR 5 bndZ l h n 113 (Y A.lo (O d.lo) (O d.lo)) d.lo
 hi:GR 5 bndZ l h n 113 (Y A.hi (O d.hi) (O d.hi)) d.hi
 va:GR 4 ratP l h n 81 (Y A.va (O d.va) (O d.va)) d.va
 ba:GR 1 natP l h n 3 (Y A.ba (O d.ba) (O d.ba)) d.ba
 nb:GR 1 natP l h n 3 (Y A.nb (O d.nb) (O d.nb)) d.nb
 ta:GR 1 Lb l h n 79 (Y A.ta (O d.ta) (O d.ta)) d.ta
 rw:∀r∈d.ta,OZ h n r.1 r.2/\gro r.1=χ
 dj:∀b,BkOf (Y A.va (O d.va) (O d.va)) b->¬BkOf (Y A.sc (O d.sc) (O d.sc)) b
section
variable {d:Sol}{A:Adr}
def SM.ext(s:SM l h n bs d A)(x:Ko n h h')(f:n<=n'):SM l h' n' bs d A:=by have⟨b,a,u,c,p,e,i⟩:=s.st;have:=s.bs;exact⟨⟨b,a,u,c,p,(x _ s.bs.1).trans e,i.ext x f⟩,⟨Z,s.bs.2⟩,s.sc.ext Es x f,s.lo.ext bndZ.kp x f,s.hi.ext bndZ.kp x f,s.va.ext Es x f,s.ba.ext natP.kp x f,s.nb.ext natP.kp x f,s.ta.ext Lb.kp x f,λr g=>⟨(s.rw r g).1.ext FE x f,(s.rw r g).2⟩,s.dj⟩
def SM.x(s:SM l h n bs d A)(t:Tx n h n' h'):SM l h' n' bs d A:=s.ext t.2 t.1
def SM.mv(s:SM l h n bs d A){bv:Nat}(G:A.va=ξ ⟨bv,0,θ⟩)(S:KS bv h h')(hl:O va=O d.va)(o:GR 4 ratP l h' n 81 (Y A.va (O va) (O va)) va):SM l h' n bs {d with va:=va} A:=by
 have⟨b,a,u,c,F,e,i⟩:=s.st;have q:BkOf (Y A.va (O d.va) (O d.va)) bv:=⟨_,_,_,by rw[G]⟩;have J:=s.va.ty q;have B:=(s.va.bk bv q).2.2.1;have T:Tr n h n h':=FN S (Er _ _);have k:∀{sz:Nat} {D:Type} {P:List ψ->D->HF->Nat->Prop} {ds:List D} {v:ψ} {e:TypeId},GR sz P l h n e v ds->e≠81->∀b,BkOf v b->h' b=h b:=λg H b p=>S.1 b λf=>H ((f▸g.ty p).eq J);refine⟨⟨b,a,u,c,F,?_,i.t T⟩,s.bs,s.sc.go Es T λb p=>S.1 b λf=>s.dj bv q (f▸p),s.lo.go bndZ.kp T (k s.lo zd),s.hi.go bndZ.kp T (k s.hi zd),o,s.ba.go natP.kp T (k s.ba zd),s.nb.go natP.kp T (k s.nb zd),s.ta.go Lb.kp T (k s.ta zd),λr y=>⟨(s.rw r y).1.go FE T (S.1 _ λf=>by have:=(s.rw r y).2;rw[f,B]at this;cases this),(s.rw r y).2⟩,λb p=>?_⟩;have C:bs≠bv:=λf=>by have:=s.bs.2;rw[f,B]at this;cases this
 show h' bs=ξ (.row [_,_,_,_,Y A.va (O va) (O va),_,_,_,_,_] F);rw[hl,S.1 bs C];exact e;have⟨I,l',K,f⟩:=p;injection f with f;exact s.dj b ⟨I,_,_,by rw[f]⟩
end
def sZw{D:Type}{sz:Nat}{P:List ψ->D->HF->Nat->Prop}{ty:TypeId}{a x:Operand}{zs:List D}{q:D}(c:List ψ)(B:OR sz P h n b zs)(y:KP sz P)(hj:j<zs.length)(g:off=j*sz)(p:P c q h n)(k:∀h',OR sz P h' n b (zs.set j q)->KS b h h'->(∀e,Ld h b e->Ld h' b e)->EO X ops r ⟨t,h',n,addW n0 [b] w⟩ Q)(K:zh ops t o=φ:=by rfl)(hd:o.dst=θ:=by rfl)(ho:o.op=.store ty a x:=by rfl)(hi:X.E.inf ty=ξ (sz,bt,z):=by rfl)(ha:Kn t a=.pointer (ξ ⟨b,off,θ⟩):=by rfl)(hx:zn (Kn t x)=c:=by rfl)(hX:X.n0=n0:=by rfl):EO X ops (o::r) ⟨t,h,n,w⟩ Q:=by have F:=B;have⟨R,C,e,i,S,L⟩:=B;have J:=L.len;have⟨G,Z1,H⟩:=y.c p;have M:j*sz+sz<=zs.length*sz:=(by have:=Nat.mul_le_mul_right sz (show j+1<=zs.length from hj);rw[Nat.add_mul,Nat.one_mul]at this;exact this);subst g;rw[rS K (by rw[hd];rfl) (by rw[ho];rfl) (by rw[ho];exact xn hi ha (by rw[hx];exact G) (by rw[hx];exact H) i Z),hd,hx,hX];have s:=F.set (h':=upd h b (ξ (.row (zu C (j*sz) c) e))) y i hj p (zg _ _ _) (λc I=>zm I);exact k _ s.1 s.2 λe'⟨N,f⟩=>by rw[i]at f;cases f;exact⟨_,zg _ _ _⟩
def OF{D:Type}{sz:Nat}{P:List ψ->D->HF->Nat->Prop}{ty:TypeId}{a x:Operand}{zs:List D}{q:D}(c:List ψ)(B:OR sz P h n b zs)(s:KP sz P)(hj:j<zs.length)(g:off=j*sz)(p:P c q h n)(f:3*n0<=b)(k:∀h',OR sz P h' n b (zs.set j q)->KS b h h'->(∀e,Ld h b e->Ld h' b e)->EO X ops r ⟨t,h',n,w⟩ Q)(i:zh ops t o=φ:=by rfl)(hd:o.dst=θ:=by rfl)(ho:o.op=.store ty a x:=by rfl)(hi:X.E.inf ty=ξ (sz,bt,z):=by rfl)(ha:Kn t a=.pointer (ξ ⟨b,off,θ⟩):=by rfl)(hx:zn (Kn t x)=c:=by rfl)(hX:X.n0=n0:=by rfl):EO X ops (o::r) ⟨t,h,n,w⟩ Q:=
 sZw c B s hj g p (λh' y C e'=>by rw[kX f];exact k h' y C e') i hd ho hi ha hx hX
structure SZ (d:Sol)(a:Nat):Prop where
 va:∀q∈d.va,Sz a q
 lo:∀q∈d.lo,Sz a q.2
 hi:∀q∈d.hi,Sz a q.2
 ll:O d.lo=O d.va
 lh:O d.hi=O d.va
 ls:O d.sc=O d.va
 nb:∀v∈d.nb,v<O d.va
 ln:O d.nb<1000
 lt:O d.ta<1000
def negQ(k:Nat){h:HF}{n:Nat}{x:Rat}(q:IW h n sx ax lx cx x.num)(s:IW h n dx ex fx gx (denZ x)):CX (Kp (k+3)) 137 [.agg #[CV sx,Y ax lx cx,CV dx,Y ex fx gx]] h n (QV (-x)):=by refine zw (fn:=Tryz.f137) R4<|zG ?_;refine sB [CV sx,Y ax lx cx,CV dx,Y ex fx gx] λh1 G J=>?_;refine sA λh2 H K=>?_;refine zG ?_;refine zl [0,1,3,0,8,31,63] rfl<|zH ?_;refine dC (negX _ (q.x zx)) ?_;rintro _ y C⟨f,c,i,g,rfl,p⟩ M L;refine zH ?_;refine dT #[CV f,Y c i g,CV dx,Y ex fx gx] ?_;refine dS [CV f,Y c i g,CV dx,Y ex fx gx] λB I F=>?_;refine zq ?_;exact⟨_,_,_,_,_,_,_,_,ω,(p.t zt).as (by rw[GH]),(s.t zt).as (by unfold denZ;rw[H1])⟩
def subQ(k:Nat){h:HF}{n:Nat}{x:Rat}{y:Rat}(g:GG h n)(J:IW h n sx ax lx cx x.num)(M:IW h n dx ex fx gx (denZ x))(K:IW h n sy ay ly cy y.num)(N:IW h n dy ey fy gy (denZ y))(hx:Sz a x)(H:Sz b y)(c:a+b+1<=2496):CX (Kp (k+10)) 105 [.agg #[CV sx,Y ax lx cx,CV dx,Y ex fx gx],.agg #[CV sy,Y ay ly cy,CV dy,Y ey fy gy]] h n (QV (x-y)):=by refine zw (fn:=Tryz.f105) R4<|zG ?_;refine sB [CV sx,Y ax lx cx,CV dx,Y ex fx gx] λh1 p1 x1=>?_;refine sB [CV sy,Y ay ly cy,CV dy,Y ey fy gy] λh2 p2 x2=>?_;refine sA λZ0 p3 x3=>?_;refine zG ?_;refine zl [0,0,2,7,15] rfl<|zH ?_;refine dC (negQ _ (K.x zx) (N.x zx)) ?_;rintro _ h4 n4⟨S,R,l4,T,Z4,V,W,Z3,rfl,I,L⟩ y4 x4;refine dC (addQ _ (g.x zx) (J.x zx) (M.x zx) I L hx H.neg c) ?_;rintro _ h5 n5⟨q,p,Z1,s,B,C,F,G,rfl,f,i⟩ y5 x5;refine dS [CV q,Y p Z1 s,CV B,Y C F G] λh6 p6 o6=>?_;refine zq ?_;rw[<-G7]at f i;exact⟨_,_,_,_,_,_,_,_,ω,f.t zt,i.t zt⟩
theorem pt{x y:Int}(a:0<y):(DT x y).num=x.tdiv ((Dh x.natAbs y.natAbs:Nat):Int)/\((DT x y).den:Int)=y.tdiv ((Dh x.natAbs y.natAbs:Nat):Int):=by grind [pd]
def PL{x y:Int}:DT x y=DT (-x) (-y):=by rw[Rat.neg_divInt_neg]
def iM{x y:Int}(a:y<0):(DT x y).num=(-x).tdiv ((Dh (-x).natAbs (-y).natAbs:Nat):Int)/\((DT x y).den:Int)=(-y).tdiv ((Dh (-x).natAbs (-y).natAbs:Nat):Int):=by rw[PL];exact pt Z
theorem OG{x y:Int}(b:0<y)(a:((Dh x.natAbs y.natAbs:Nat):Int)=1):(DT x y).num=x/\((DT x y).den:Int)=y:=by simp_all [pt,JC]
def qZ{x y:Int}(b:y<0)(a:((Dh (-x).natAbs (-y).natAbs:Nat):Int)=1):(DT x y).num= -x/\((DT x y).den:Int)= -y:=by rw[PL];exact OG Z a
def PM{x y:Int}(a:y=1):(DT x y).num=x/\denZ (DT x y)=0:=by have h:=OG (x:=x) (y:=y) Z (by rw[a];simp);exact⟨h.1,yr.2 (by have:=h.2;omega)⟩
def SS{x y:Int}(a: -y=1):(DT x y).num= -x/\denZ (DT x y)=0:=by rw[PL];exact PM a
def SU(k:Nat){x:Int}{y:Int}(g:GG h n)(f:IW h n sx ax lx cx x)(b:IW h n sy ay ly cy y)(hx:x.natAbs<BW)(hy:y.natAbs<BW)(c:y≠0):CX (Kp (k+10)) 69 [.agg #[CV sx,Y ax lx cx],.agg #[CV sy,Y ay ly cy]] h n (QV (DT x y)):=by
 have d6:(-x).natAbs<BW:=by rw[E7];exact hx
 have aw:(-y).natAbs<BW:=by rw[E7];exact hy
 have d4:((Dh (-x).natAbs (-y).natAbs:Nat):Int).natAbs<BW:=Py aw Z;have d5:((Dh x.natAbs y.natAbs:Nat):Int).natAbs<BW:=Py hy c;have bq:((Dh (-x).natAbs (-y).natAbs:Nat):Int)≠0:=Pz Z;have br:((Dh x.natAbs y.natAbs:Nat):Int)≠0:=Pz c;refine zw (fn:=Tryz.f69) R4<|zG ?_;refine sB [CV sx,Y ax lx cx] λbz e7 es=>?_;refine sB [CV sy,Y ay ly cy] λc0 e8 et=>?_;refine sA λc1 e9 eu=>?_;refine zG ?_;refine sC (yK _ (b.t zt)) ?_;rintro _ c2 d7⟨bs,rfl,v⟩ fh ev;obtain⟨rfl,u⟩|⟨rfl,u⟩:=Ky v;refine zG ?_;refine sC (yK _ (f.t zt)) ?_;rintro _ c3 d8⟨bt,rfl,w⟩ fi ew;obtain⟨rfl,s⟩|⟨rfl,s⟩:=Ky w;refine zG ?_;refine sC (Ng _ (b.t zt)) ?_;rintro _ c4 d9⟨er,rfl,a⟩ fj ey;obtain⟨rfl,a⟩|⟨rfl,a⟩|⟨rfl,a⟩:=a;refine zG ?_;refine zl [0,1,0,7,15,31] rfl<|zH ?_;refine dC (negX _ (f.t zt)) ?_;rintro _ c5 da⟨j,i,p,l,rfl,d⟩ fk ez;refine zH ?_;refine dC (negX _ (b.t zt)) ?_;rintro _ c6 db⟨R,F,bb,a3,rfl,e⟩ fl f0;refine dS [CV j,Y i p l] λc7 ea dr=>?_;refine dS [CV R,Y F bb a3] λc8 eb ds=>?_;refine zG ?_;refine sC (tU _ (e.t zt)) ?_;rintro _ c9 dc⟨bu,rfl,A⟩ fm f1;obtain⟨rfl,bm⟩|⟨rfl,bm⟩:=Ky A;refine zG ?_;refine sC (gcdX _ (g.t zt) (d.t zt) (e.t zt) Kv Kv) ?_;rintro _ ca dd⟨S,G,bc,a4,rfl,m⟩ fo f2;refine sA λcb ec f3=>?_;refine sS [CV S,Y G bc a4] λcc ed dt=>?_;refine zG ?_;refine sC (tU _ (m.t zt)) ?_;rintro _ cd de⟨bv,rfl,B⟩ fp f4;obtain⟨rfl,bn⟩|⟨rfl,bn⟩:=Ky B;refine zG ?_;refine zl [0,0,3,0,0,31,63,127] rfl<|zH ?_;refine dC (quoX _ (d.t zt) (m.t zt) Kv Kv LS) ?_;rintro _ ce df⟨T,H,bd,a5,rfl,az⟩ fq f5;refine zH ?_;refine dC (quoX _ (e.t zt) (m.t zt) Kv Kv LS) ?_;rintro _ cf dg⟨Z4,I,be,a6,rfl,b0⟩ fr f6;refine dS [CV T,Y H bd a5] λcg ee du=>?_;refine dS [CV Z4,Y I be a6] λch ef dv=>?_;refine zG ?_;refine sC (vE _ (az.t zt) (b0.t zt) (q:=DT x y) gS gU) ?_;rintro _ ci dh⟨V,J,bf,a7,ae,ai,am,aq,rfl,b1,b7⟩ fs f7;refine sS [CV V,Y J bf a7,CV ae,Y ai am aq] λcj eg dw=>?_;refine zq ?_;exact⟨_,_,_,_,_,_,_,_,ω,(b1.t zt),(b7.t zt)⟩;refine zG ?_;refine sC (vE _ (d.t zt) (e.t zt) (q:=DT x y) gS gU) ?_;rintro _ ck di⟨W,K,bg,a8,af,aj,an,ar,rfl,b2,b8⟩ ft f8;refine sS [CV W,Y K bg a8,CV af,Y aj an ar] λcl eh dy=>?_;refine zq ?_;exact⟨_,_,_,_,_,_,_,_,ω,(b2.t zt),(b8.t zt)⟩;refine zG ?_;refine sT #[CV j,Y i p l,CV χ,η] ?_;refine sS [CV j,Y i p l,CV χ,η] λcm ei dz=>?_;refine zq ?_;exact⟨_,_,_,_,_,_,_,_,ω,(d.t zt).as (A3),(E9 _ _).as (A4)⟩;exact CO a c;refine zG ?_;refine sC (tU _ (b.t zt)) ?_;rintro _ cn dj⟨bw,rfl,C⟩ fu f9;obtain⟨rfl,bo⟩|⟨rfl,bo⟩:=Ky C;refine zG ?_;refine sC (gcdX _ (g.t zt) (f.t zt) (b.t zt) Kv Kv) ?_;rintro _ co dk⟨Z3,L,bh,a9,rfl,o⟩ fv fa;refine sA λcp ej fb=>?_;refine sS [CV Z3,Y L bh a9] λcq ek e0=>?_;refine zG ?_;refine sC (tU _ (o.t zt)) ?_;rintro _ cr dl⟨bx,rfl,D⟩ fw fc;obtain⟨rfl,bp⟩|⟨rfl,bp⟩:=Ky D;refine zG ?_;refine zl [0,0,3,0,0,31,63,127] rfl<|zH ?_;refine dC (quoX _ (f.t zt) (o.t zt) Kv Kv LS) ?_;rintro _ cs dm⟨Z0,M,bi,aa,rfl,b3⟩ fy fd;refine zH ?_;refine dC (quoX _ (b.t zt) (o.t zt) Kv Kv LS) ?_;rintro _ ct dn⟨a0,N,bj,ab,rfl,b4⟩ fz fe;refine dS [CV Z0,Y M bi aa] λcu el e1=>?_;refine dS [CV a0,Y N bj ab] λcv em e2=>?_;refine zG ?_;refine sC (vE _ (b3.t zt) (b4.t zt) (q:=DT x y) gS gU) ?_;rintro _ cw dp⟨a1,Z1,bk,ac,ag,ak,ao,au,rfl,b5,b9⟩ g0 ff;refine sS [CV a1,Y Z1 bk ac,CV ag,Y ak ao au] λcz en e3=>?_;refine zq ?_;exact⟨_,_,_,_,_,_,_,_,ω,(b5.t zt),(b9.t zt)⟩;refine zG ?_;refine sC (vE _ (f.t zt) (b.t zt) (q:=DT x y) gS gU) ?_;rintro _ d0 dq⟨a2,P,bl,ad,ah,al,ap,av,rfl,b6,ba⟩ g1 fg;refine sS [CV a2,Y P bl ad,CV ah,Y al ap av] λd1 eo e4=>?_;refine zq ?_;exact⟨_,_,_,_,_,_,_,_,ω,(b6.t zt),(ba.t zt)⟩;refine zG ?_;refine sT #[CV sx,Y ax lx cx,CV χ,η] ?_;refine sS [CV sx,Y ax lx cx,CV χ,η] λd2 ep e5=>?_;refine zq ?_;exact⟨_,_,_,_,_,_,_,_,ω,(f.t zt).as (A3),(E9 _ _).as (A4)⟩;refine zG ?_;refine sT #[CV χ,η,CV χ,η] ?_;refine sS [CV χ,η,CV χ,η] λd3 eq e6=>?_;refine zq ?_;exact⟨_,_,_,_,_,_,_,_,ω,(E9 _ _).as (by rw[s,ag7];rfl),(E9 _ _).as (by rw[s,ag7];rfl)⟩;exact CO u c
def zmi(k:Nat){x:Rat}{y:Int}(o:IW h n sx ax lx cx x.num)(q:IW h n dx ex fx gx (denZ x))(p:IW h n sy ay ly cy y)(hx:x.num.natAbs<BW)(M:(denZ x).natAbs<BW)(hy:y.natAbs<BW):CX (Kp (k+9)) 66 [.agg #[CV sx,Y ax lx cx,CV dx,Y ex fx gx],.agg #[CV sy,Y ay ly cy]] h n (IV (x.num*y.tdiv (x.den:Int))):=by refine zw (fn:=Tryz.f66) R4<|zG ?_;refine sB [CV sx,Y ax lx cx,CV dx,Y ex fx gx] λC V a1=>?_;refine sB [CV sy,Y ay ly cy] λD W a2=>?_;refine sA λF Z3 a3=>?_;refine zG ?_;refine sC (yK _ (q.t zt)) ?_;rintro _ G Z1⟨w,rfl,b⟩ a8 a4;obtain⟨rfl,a⟩|⟨rfl,a⟩:=Ky b;refine zG ?_;refine zl [0,1,0,0,8,28,63,127] rfl<|zH ?_;refine dC (quoX _ (p.t zt) (q.t zt) Kv Kv LS) ?_;rintro _ H P⟨A,v,N,B,rfl,j⟩ a9 a5;refine dC (mulX _ (o.t zt) j Kv Kv) ?_;rintro _ I R⟨e,c,s,g,rfl,l⟩ aa a6;refine dS [CV e,Y c s g] λJ Z0 T=>?_;refine zq ?_;exact⟨_,_,_,_,ω,(l.t zt).as (by rw[wq a])⟩;refine zG ?_;refine sC (mulX _ (o.t zt) (p.t zt) Kv Kv) ?_;rintro _ K S⟨f,d,u,i,rfl,m⟩ ab a7;refine sS [CV f,Y d u i] λL a0 Z4=>?_;refine zq ?_;exact⟨_,_,_,_,ω,(m.t zt).as (by rw[show(x.den:Int)=1 from by have:=yr.1 a;omega,JC])⟩
def PN{x:Rat}(h:x.num<0):(x⁻¹).num= -((x.den:Int))/\((x⁻¹).den:Int)= -x.num:=by rw[ap8,af3,Int.sign_eq_neg_one_of_neg h,CP Z];omega
def PO{x:Rat}(h:0<x.num):(x⁻¹).num=(x.den:Int)/\((x⁻¹).den:Int)=x.num:=by rw[ap8,af3,Int.sign_eq_one_of_pos h,CP Z];omega
def SW{x:Rat}(h:x.num=0):x⁻¹ =0:=by rw[FJ.1 h,Rat.inv_zero]
def Sz.inv{x:Rat}(h:Sz m x):Sz m x⁻¹ :=by have d:=x.den_pos;refine⟨?_,?_⟩;obtain c|c|c:=Int.lt_trichotomy x.num 0;rw[(PN c).1,E7,Dk];exact h.2;rw[SW c];exact Dw CT h.2;rw[(PO c).1,Dk];exact h.2;rw[af3];split;exact Dw d h.2;exact h.1
def Sz.div{x y:Rat}(hx:Sz a x)(c:Sz b y):Sz (a+b) (x/y):=by rw[Hz];exact hx.mul c.inv
def invQ(k:Nat){x:Rat}(d:IW h n sx ax lx cx x.num)(K:IW h n dx ex fx gx (denZ x)):CX (Kp (k+4)) 70 [.agg #[CV sx,Y ax lx cx,CV dx,Y ex fx gx]] h n (QV x⁻¹):=by refine zw (fn:=Tryz.f70) R4<|zG ?_;refine sB [CV sx,Y ax lx cx,CV dx,Y ex fx gx] λa1 ar b1=>?_;refine sA λa2 au b2=>?_;refine zG ?_;refine sC (Ng _ (d.t zt)) ?_;rintro _ a3 ah⟨b0,rfl,c⟩ ba b3;obtain⟨rfl,c⟩|⟨rfl,c⟩|⟨rfl,c⟩:=c;refine zG ?_;refine zl [0,1,3,0,8,31,63,127] rfl<|zH ?_;refine dC (denQ _ (d.t zt) (K.t zt)) ?_;rintro _ a4 ai⟨S,N,ad,W,rfl,B⟩ bb b4;refine dC (negX _ B) ?_;rintro _ a5 aj⟨T,Z1,ae,Z3,rfl,C⟩ bc b5;refine zH ?_;refine dC (negX _ (d.t zt)) ?_;rintro _ a6 ak⟨Z4,P,af,Z0,rfl,D⟩ bd b6;refine dC (vE _ (C.t zt) D (q:=x⁻¹) (PN c).1 (PN c).2) ?_;rintro _ a7 al⟨g,e,L,j,o,s,v,y,rfl,F,I⟩ be b7;refine dS [CV g,Y e L j,CV o,Y s v y] λa8 av ao=>?_;refine zq ?_;exact⟨_,_,_,_,_,_,_,_,ω,(F.t zt),(I.t zt)⟩;refine zG ?_;refine sT #[CV χ,η,CV χ,η] ?_;refine sS [CV χ,η,CV χ,η] λa9 aw ap=>?_;refine zq ?_;exact(show x⁻¹ =0 from SW c)▸QV.zero _ _;refine zG ?_;refine zl [0,1,0,4,15,31] rfl<|zH ?_;refine dC (denQ _ (d.t zt) (K.t zt)) ?_;rintro _ aa am⟨V,R,ag,a0,rfl,G⟩ bf b8;refine zH ?_;refine dC (vE _ G (d.t zt) (q:=x⁻¹) (PO c).1 (PO c).2) ?_;rintro _ ab an⟨i,f,M,l,p,u,w,A,rfl,H,J⟩ bg b9;refine dS [CV i,Y f M l,CV p,Y u w A] λac az aq=>?_;refine zq ?_;exact⟨_,_,_,_,_,_,_,_,ω,(H.t zt),(J.t zt)⟩
def divQ(k:Nat){x:Rat}{y:Rat}(g:GG h n)(A:IW h n sx ax lx cx x.num)(C:IW h n dx ex fx gx (denZ x))(B:IW h n sy ay ly cy y.num)(D:IW h n dy ey fy gy (denZ y))(hx:Sz a x)(w:Sz b y)(o:a+b<=2496):CX (Kp (k+11)) 31 [.agg #[CV sx,Y ax lx cx,CV dx,Y ex fx gx],.agg #[CV sy,Y ay ly cy,CV dy,Y ey fy gy]] h n (QV (x/y)):=by refine zw (fn:=Tryz.f31) R4<|zG ?_;refine sB [CV sx,Y ax lx cx,CV dx,Y ex fx gx] λM Z3 a2=>?_;refine sB [CV sy,Y ay ly cy,CV dy,Y ey fy gy] λN Z0 a3=>?_;refine sA λZ1 a0 a4=>?_;refine zG ?_;refine zl [0,0,2,7,15] rfl<|zH ?_;refine dC (invQ _ (B.t zt) (D.t zt)) ?_;rintro _ P Z4⟨G,F,T,H,I,J,K,L,rfl,p,s⟩ a7 a5;refine dC (mulQ _ (g.t zt) (A.t zt) (C.t zt) p s hx w.inv o) ?_;rintro _ R V⟨d,c,v,e,f,i,j,l,rfl,q,u⟩ a8 a6;refine dS [CV d,Y c v e,CV f,Y i j l] λS a1 W=>?_;refine zq ?_;exact⟨_,_,_,_,_,_,_,_,ω,(q.t zt).as (by rw[Hz]),(u.t zt).as (by rw[Hz])⟩
section
variable {up:Bool}
section
variable {d:Sol}{A:Adr}
def aG(k:Nat)(s:SM l h n bs d A){v:Nat}{x:Rat}{p:Bool×Rat}(hv:d.va[v]?=ξ x)(hu:d.hi[v]?=ξ p)(F:Sz a x)(G:Sz b p.2)(f:a+b<=2496):CX (Kp (k+7)) 59 [ι bs,U .i64 (v:Int)] h n (BV (p.1=χ\/x<p.2)):=by have⟨M,J,u0,P,ty,st,i0⟩:=s.st;have I:=s.bs.1;have⟨k1,o1,N,K,l1,R,T,V,Z3,g1,e,g,m,o,u,y⟩:=BS.at s.hi.rs hu;have⟨k2,o2,Z1,L,l2,S,Z4,W,Z0,g2,q,C,D,H,w,B⟩:=ab7 s.va.rs hv;refine VF.cx (zO (fn:=Tryz.f59) R4 ?_);refine zG ?_;refine zl [0,1,3,7,0,31,63,127,255,511,1023,2047,4095,8191,1023,32767,65535,1023,132095,394239,918527,1023,4064255,8258559,16647167,33554431,67108863,134217727,268435455] rfl<|zH ?_;refine dI e m ?_;refine zH ?_;refine dL o g 0 ?_;have⟨x0,y0⟩:=p;cases x0;refine zH ?_;refine zf ?_;exact LK (.inl AL);refine zH ?_;refine dI q D ?_;refine dL H C 0 ?_;refine zH ?_;refine dI e m ?_;refine zH ?_;refine dL o g 1 ?_;refine dC (xp _ w B u y F G f).cx ?_;rintro _ h3 n3⟨s3,rfl,c⟩ y3 x3;obtain⟨rfl,c⟩|⟨rfl,c⟩|⟨rfl,c⟩:=c;refine zH ?_;refine zf ?_;exact LK (.inr c);exact CC;exact B6
def lg(k:Nat)(s:SM l h n bs d A){v:Nat}{x:Rat}{p:Bool×Rat}(hv:d.va[v]?=ξ x)(hu:d.lo[v]?=ξ p)(F:Sz a x)(G:Sz b p.2)(f:a+b<=2496):CX (Kp (k+7)) 60 [ι bs,U .i64 (v:Int)] h n (BV (p.1=χ\/p.2<x)):=by have⟨M,J,u0,P,ty,st,i0⟩:=s.st;have I:=s.bs.1;have⟨k1,o1,N,K,l1,R,T,V,Z3,g1,e,g,m,o,u,y⟩:=BS.at s.lo.rs hu;have⟨k2,o2,Z1,L,l2,S,Z4,W,Z0,g2,q,C,D,H,w,B⟩:=ab7 s.va.rs hv;refine VF.cx (zO (fn:=Tryz.f60) R4 ?_);refine zG ?_;refine zl [0,1,3,7,0,31,63,127,255,511,1023,2047,4095,8191,1023,32767,65535,1023,132095,394239,918527,1023,4064255,8258559,16647167,33554431,67108863,134217727,268435455] rfl<|zH ?_;refine dI e m ?_;refine zH ?_;refine dL o g 0 ?_;have⟨x0,y0⟩:=p;cases x0;refine zH ?_;refine zf ?_;exact LK (.inl AL);refine zH ?_;refine dI q D ?_;refine dL H C 0 ?_;refine zH ?_;refine dI e m ?_;refine zH ?_;refine dL o g 1 ?_;refine dC (xp _ w B u y F G f).cx ?_;rintro _ h3 n3⟨s3,rfl,c⟩ y3 x3;obtain⟨rfl,c⟩|⟨rfl,c⟩|⟨rfl,c⟩:=c;exact B6;exact CC;refine zH ?_;refine zf ?_;exact LK (.inr c)
def qd(x:Rat)(p q:Bool×Rat)(up:Bool):Bool×Rat:=if up then(q.1,q.2-x)else(p.1,x-p.2)
def SX(k:Nat)(g:GG h n)(s:SM l h n bs d A){v:Nat}{x:Rat}{p q:Bool×Rat}(hv:d.va[v]?=ξ x)(hp:d.lo[v]?=ξ p)(hq:d.hi[v]?=ξ q)(V:Sz a x)(sp:Sz b p.2)(sq:Sz b q.2)(a4:a+b+1<=2496){r:Int}(hr:up=φ↔0<r):CX (Kp (k+11)) 110 [ι bs,U .i64 (v:Int),U .i64 r] h n λw K R=>∃b a l c d e f g,w=.tuple #[.agg #[CV b,Y a l c,CV d,Y e f g],CV (qd x p q up).1]/\IW K R b a l c (qd x p q up).2.num/\IW K R d e f g (denZ (qd x p q up).2):=by
 have⟨b0,a0,u0,c0,ty,st,i0⟩:=s.st;have a6:=s.bs.1;have⟨k1,o1,b1,a1,l1,c1,d1,e1,f1,g1,I,Z1,T,Z3,iu,ju⟩:=BS.at s.hi.rs hq;have⟨k3,o3,b3,a3,l3,c3,d3,e3,f3,g3,H,N,S,W,ip,jp⟩:=BS.at s.lo.rs hp;have⟨k2,o2,b2,a2,l2,c2,d2,e2,f2,g2,J,P,Z4,Z0,L,M⟩:=ab7 s.va.rs hv;refine zw (fn:=Tryz.f110) R4<|Zd λh4 p4 x4=>?_;refine zG ?_;by_cases h0:0<r;obtain rfl:up=φ:=hr.2 h0;refine zG ?_;refine zl [0,1,3,7,0,31,63,127,0,256,768,1792,0,7936,16128,32767,0,65536,196608,458752,0,2031616,4128768,8323072,65535,33554431] rfl<|zH ?_;refine dI I T ?_;refine zH ?_;refine dL Z3 Z1 1 ?_;refine zH ?_;refine dI J Z4 ?_;refine dL Z0 P 0 ?_;refine dC (subQ _ (g.x zx) (iu.x zx) (ju.x zx) (L.x zx) (M.x zx) sq V Z) ?_;rintro _ h5 n5⟨o,m,l5,u,y,B,C,D,rfl,F,G⟩ y5 x5;refine zH ?_;refine dI I T ?_;refine zH ?_;refine dL Z3 Z1 0 ?_;exact BZ;obtain rfl:up=χ:=by cases up;rfl;exact CO (hr.1 ω) h0
 refine zG ?_;refine zl [0,1,3,7,0,31,63,0,128,384,896,0,3968,8064,16256,32767,0,65536,196608,458752,0,2031616,4128768,8323072,65535,33554431] rfl<|zH ?_;refine dI J Z4 ?_;refine dL Z0 P 0 ?_;refine zH ?_;refine dI H S ?_;refine zH ?_;refine dL W N 1 ?_;refine dC (subQ _ (g.x zx) (L.x zx) (M.x zx) (ip.x zx) (jp.x zx) V sp Z) ?_;rintro _ h5 n5⟨o,m,l5,u,y,B,C,D,rfl,F,G⟩ y5 x5;refine zH ?_;refine dI H S ?_;refine zH ?_;refine dL W N 0 ?_;exact BZ
def Nk(k:Nat)(g:GG h n)(s:SM l h n bs d A){r:Nat×List Int}{z:Int}(hi:d.ta[i]?=ξ r)(hj:r.2[j]?=ξ z)(w:z.natAbs<BW)(hd:d.den.natAbs<BW)(h0:d.den≠0):CX (Kp (k+11)) 30 [ι bs,U .i64 (i:Int),U .i64 (j:Int)] h n (QV (DT z d.den)):=by have⟨N,L,u0,P,ty,st,i0⟩:=s.st;have K:=s.bs.1;have⟨Z4,W,p,D,G,I⟩:=rwS.at s.ta.rs hi;have⟨zr,_⟩:=s.rw r (C0 hi);obtain⟨f,⟨Z1,M,l2,f,rfl,y⟩,_,J⟩:=zr.get hj (off:=0+j*2) (Dl _);have F:=zr.1;have H:=(C4.1 hj).1;refine zw (fn:=Tryz.f30) R4<|Zd λR Z0 x4=>?_;refine zG ?_;refine zl [0,1,3,7,0,31,63,0,255,511,0,1024,3072,7168,16383,32767] rfl<|zH ?_;refine dI p G ?_;refine dL I D 0 ?_;refine zH ?_;refine dI ω H ?_;refine dL J F 0 ?_;refine zH ?_;refine dC (SU _ (g.x zx) (y.x zx) (i0.x zx) w hd h0) ?_;rintro _ S V⟨e,c,l5,m,o,q,u,v,rfl,B,C⟩ y5 x5;refine dS [CV e,Y c l5 m,CV o,Y q u v] λT p6 Z3=>?_;refine zq ?_;exact⟨_,_,_,_,_,_,_,_,ω,B.t zt,C.t zt⟩
end
end
def canG(d:Sol)(v:Nat):Prop:=∃x p,d.va[v]?=ξ x/\d.hi[v]?=ξ p/\(p.1=χ\/x<p.2)
def canS(d:Sol)(v:Nat):Prop:=∃x p,d.va[v]?=ξ x/\d.lo[v]?=ξ p/\(p.1=χ\/p.2<x)
def impC(d:Sol)(zs:List Int)(c v:Nat):Prop:=∃z,zs[c]?=ξ z/\(z<0/\canG d v\/0<z/\canS d v)
def du{d:Sol}{v:Nat}{x:Rat}{p:Bool×Rat}(hv:d.va[v]?=ξ x)(c:d.hi[v]?=ξ p):canG d v↔(p.1=χ\/x<p.2):=
 ⟨λ⟨i,g,a,b,e⟩=>by rw[hv]at a;rw[c]at b;cases a;cases b;exact e,λh=>⟨x,p,hv,c,h⟩⟩
def dt{d:Sol}{v:Nat}{x:Rat}{p:Bool×Rat}(hv:d.va[v]?=ξ x)(c:d.lo[v]?=ξ p):canS d v↔(p.1=χ\/p.2<x):=
 ⟨λ⟨i,g,a,b,e⟩=>by rw[hv]at a;rw[c]at b;cases a;cases b;exact e,λh=>⟨x,p,hv,c,h⟩⟩
def Best(d:Sol)(zs:List Int)(k:Nat)(f r:Int):Prop:=
 f= -1/\r=0/\(∀c v:Nat,c<k->d.nb[c]?=ξ v->¬impC d zs c v)\/
 ∃(c v:Nat) (z:Int),f=(c:Int)/\c<k/\d.nb[c]?=ξ v/\zs[c]?=ξ z/\impC d zs c v/\r= -(if z<0 then -1 else 1)/\∀c' v':Nat,c'<k->d.nb[c']?=ξ v'->impC d zs c' v'->v<=v'
section
variable {d:Sol}{r:Int}
def Best.start:Best d zs 0 (-1) 0:=.inl ⟨ω,ω,λc v h=>CO h (Ed _)⟩
def Best.no(b:Best d zs k f r){v:Nat}(hv:d.nb[k]?=ξ v)(h:¬impC d zs k v):Best d zs (k+1) f r:=by obtain⟨i,o,j⟩|⟨c,w,z,i,o,j,q,s,u,y⟩:=b;refine .inl ⟨i,o,λg m B a=>?_⟩;by_cases e:g=k;subst e;rw[hv]at a;cases a;exact h;exact j g m Z a;refine .inr ⟨c,w,z,i,Z,j,q,s,u,λg m B a p=>?_⟩;by_cases e:g=k;subst e;rw[hv]at a;cases a;exact CO p h;exact y g m Z a p
def Best.skip{c w v:Nat}(b:Best d zs k (c:Int) r)(m:d.nb[c]?=ξ w)(hv:d.nb[k]?=ξ v)(h:w<=v):Best d zs (k+1) (c:Int) r:=by obtain⟨j,p,g⟩|⟨o,F,z,j,p,g,q,s,u,y⟩:=b;omega;obtain rfl:c=o:=Z;rw[m]at g;cases g;refine .inr ⟨c,w,z,j,Z,m,q,s,u,λi C D a B=>?_⟩;by_cases e:i=k;subst e;rw[hv]at a;cases a;exact h;exact y i C Z a B
def Best.take(b:Best d zs k f r){v:Nat}{z s:Int}(hv:d.nb[k]?=ξ v)(D:zs[k]?=ξ z)(hi:impC d zs k v)(h:f= -1\/∃c w:Nat,f=(c:Int)/\d.nb[c]?=ξ w/\v<=w)(C:s=if z<0 then -1 else 1):Best d zs (k+1) (k:Int) (-s):=by refine .inr ⟨k,v,z,ω,FD _,hv,D,hi,by rw[C],λj m K a i=>?_⟩;by_cases e:j=k;subst e;rw[hv]at a;cases a;exact Ez _;obtain⟨q,u,g⟩|⟨o,L,z2,q,u,g,G,H,I,y⟩:=b;exact CO i (g j m Z a);have:=y j m Z a i;obtain h|⟨p,M,F,B,J⟩:=h;omega;obtain rfl:p=o:=Z;rw[B]at g;cases g;omega
end
def EntV(d:Sol)(zs:List Int)(w:ψ):Prop:=
 (∃(c v:Nat) (z:Int),d.nb[c]?=ξ v/\zs[c]?=ξ z/\impC d zs c v/\(∀c' v':Nat,d.nb[c']?=ξ v'->impC d zs c' v'->v<=v')/\w=.tuple #[U .i64 ((c:Nat):Int),U .i64 (-(if z<0 then -1 else 1)),CV φ])\/
 ((∀c v:Nat,d.nb[c]?=ξ v->¬impC d zs c v)/\w=.tuple #[U .i64 0,U .i64 0,CV χ])
section
variable {d:Sol}{A:Adr}
theorem zfb(k:Nat)(s:SM l h n bs d A){a:Nat}(z:SZ d a)(S:a+a<=2496){r:Nat×List Int}(hr:d.ta[O d.ta-1]?=ξ r)(hl:O r.2=O d.nb):CX (Kp (k+8)) 63 [ι bs] h n λw _ _=>EntV d r.2 w:=by
 obtain⟨b0,a0,u0,c0,ty,st,i0⟩:=s.st;have a1:=s.bs.1;have a3:=z.ln;obtain⟨k1,o1,Z3,m1,r1,t1⟩:=rwS.at s.ta.rs hr;have hT:1<=O d.ta:=Z;have a4:=z.lt;refine VF.cx (zO (fn:=Tryz.f63) R4 ?_);refine zG ?_;refine zl [0,1,3,7,0,16,48,112,240,496,1023,2047,4095] rfl ?_;refine zH ?_;refine dI (j:=O d.ta-1) Z3 r1 ?_ (hj:=by exact congrArg (U .i64) (show((O d.ta:Nat):Int)-1=((O d.ta-1:Nat):Int)by omega));refine dL t1 m1 0 ?_;refine zH ?_;refine zG ?_;refine sF (α:=Nat×Int×Int) (λz=>[(0,ι bs),(5,Y (ξ ⟨r.1,0,θ⟩) (O r.2) (O r.2)),(6,U .i64 z.2.1),(7,U .i64 z.2.2),(26,Y A.nb (O d.nb) (O d.nb)),(27,U .i64 (O d.nb:Int)),(28,U .i64 (z.1:Int))]) (λz h' n' w'=>w'=[]/\n<=n'/\Ko n h h'/\z.1<=O d.nb/\Best d r.2 z.1 z.2.1 z.2.2) (λz=>O d.nb-z.1) (0,-1,0) ⟨rfl,CS,FI _ _,CT,Best.start⟩ ?_;rintro⟨j,f,q⟩ t h2 n2 _ ⟨rfl,K,J,hj,hb⟩;have K:n<=n2:=K;have J:Ko n h h2:=J;have hj:j<=O d.nb:=hj;have hb:Best d r.2 j f q:=hb;have u:=s.ext J K;obtain⟨b2,a2,u2,c2,a7,a5,i2⟩:=u.st;refine zG ?_;by_cases q3:(j:Int)<(O d.nb:Int)
 .refine zG ?_;obtain⟨v,g⟩:∃v,d.nb[j]?=ξ v:=⟨_,CW Z⟩;obtain⟨zc,m⟩:∃zc,r.2[j]?=ξ zc:=⟨_,CW Z⟩;have D:=z.nb v (C0 g);obtain⟨x,i⟩:∃x,d.va[v]?=ξ x:=⟨_,CW D⟩;obtain⟨pl,H⟩:∃x,d.lo[v]?=ξ x:=⟨_,CW (by rw[z.ll];exact D)⟩;obtain⟨ph,G⟩:∃x,d.hi[v]?=ξ x:=⟨_,CW (by rw[z.lh];exact D)⟩;obtain⟨k4,o4,Z0,m4,r4,t4⟩:=natS.at u.nb.rs g;refine sI Z0 r4 ?_;refine sL t4 m4 0 ?_;have go:(∃c w:Nat,f=(c:Int)/\d.nb[c]?=ξ w/\w<v)\/f= -1\/(∃c w:Nat,f=(c:Int)/\d.nb[c]?=ξ w/\v<=w):=by
   rcases hb with⟨h1,_⟩|⟨c,w,z,h1,h2,y,_⟩
   .exact .inr (.inl h1)
   by_cases hw:w<v
   .exact .inl ⟨c,w,h1,y,hw⟩
   exact .inr (.inr ⟨c,w,h1,y,Z⟩)
  rcases go with⟨c,w,rfl,I,hw⟩|go
  .refine zG ?_;obtain⟨k5,o5,M,Z1,P,R⟩:=natS.at u.nb.rs I;refine sI M P ?_;refine sL R Z1 0 ?_;refine zG ?_;exact sK (j+1,(c:Int),q) ⟨rfl,K,J,mu,hb.skip I g Z⟩
  have L:=go;rcases go with rfl|⟨c,w,rfl,I,hw⟩<;>refine zG ?_
  rotate_left
  obtain⟨k5,o5,M,Z1,P,R⟩:=natS.at u.nb.rs I;refine sI M P ?_;refine sL R Z1 0 ?_;refine zG ?_;all_goals
   obtain⟨zr,_⟩:=u.rw r (C0 hr);obtain⟨W,⟨b6,a6,l6,W,rfl,i6⟩,_,t6⟩:=zr.get m (off:=0+j*2) (Dl _);refine sI rfl (show j<O r.2 by omega) ?_;refine sL t6 zr.1 0 ?_;refine sC (Ng _ i6) ?_;rintro _ N n7⟨s7,rfl,o⟩ y7 x7;rcases o with⟨rfl,o⟩|⟨rfl,o⟩|⟨rfl,o⟩
   .refine zG ?_;refine sC (aG _ (u.x zx) i G (z.va _ (C0 i)) (z.hi _ (C0 G)) S) ?_;rintro _ C F⟨Z4,rfl,B⟩ y8 x8;rcases Ky B with⟨rfl,p⟩|⟨rfl,p⟩
    .refine zG ?_;exact sK (j+1,_,q) ⟨rfl,Z,(show Tx n h F C from zx).2,mu,hb.no g (λ⟨z',e,b⟩=>by
      rw[m]at e;cases e;rcases b with⟨_,b⟩|⟨b,_⟩
      .exact p ((du i G).1 b)
      .omega)⟩
    refine zG ?_;exact sK (j+1,(j:Int),_) ⟨rfl,Z,(show Tx n h F C from zx).2,mu,hb.take g m ⟨zc,m,.inl ⟨o,(du i G).2 p⟩⟩ L (by rw[CQ o])⟩
   .refine zG ?_;exact sK (j+1,_,q) ⟨rfl,Z,(show Tx n h n7 N from zx).2,mu,hb.no g (λ⟨z',e,b⟩=>by
      rw[m]at e;cases e;rcases b with⟨b,_⟩|⟨b,_⟩<;>omega)⟩
   refine zG ?_;refine sC (lg _ (u.x zx) i H (z.va _ (C0 i)) (z.lo _ (C0 H)) S) ?_;rintro _ C F⟨Z4,rfl,B⟩ y8 x8;rcases Ky B with⟨rfl,p⟩|⟨rfl,p⟩
   .refine zG ?_;exact sK (j+1,_,q) ⟨rfl,Z,(show Tx n h F C from zx).2,mu,hb.no g (λ⟨z',e,b⟩=>by
     rw[m]at e;cases e;rcases b with⟨b,_⟩|⟨_,b⟩
     .omega
     .exact p ((dt i H).1 b))⟩
   refine zG ?_;exact sK (j+1,(j:Int),_) ⟨rfl,Z,(show Tx n h F C from zx).2,mu,hb.take g m ⟨zc,m,.inr ⟨o,(dt i H).2 p⟩⟩ L (by rw[CP Z])⟩
 have T:j=O d.nb:=Z;subst T;rcases hb with⟨rfl,rfl,y⟩|⟨c,w,zc,rfl,h2,y,h4,h5,rfl,N⟩
 .refine zG ?_;refine st_I (ik:=.i64) (a:=0) R5 ?_;refine zG ?_;refine zf ?_;exact .inr ⟨λc v hv=>y c v (C4.1 hv).1 hv,rfl⟩
 refine zG ?_;refine st_I (ik:=.i64) (a:=(c:Int)) ⟨rfl,rfl,rfl,rfl,(by show ξ (U .i64 (if((c:Nat):Int)<0 then 0 else(c:Int)))=_;rw[CP Z])⟩ ?_;refine zG ?_;refine zf ?_;exact .inl ⟨c,w,zc,y,h4,h5,λV v' hv hi=>N V v' (C4.1 hv).1 hv hi,rfl⟩
end
def zna(a b:Nat):a*(b/Dh a b)=((Jf a b:Nat):Int).natAbs:=by rw[Dk,Jf,Nat.mul_div_assoc _ (Fs a b)]
def lcmX(k:Nat){x:Int}{y:Int}(g:GG h n)(b:IW h n sx ax lx cx x)(a:IW h n sy ay ly cy y)(hx:x.natAbs<BW)(hy:y.natAbs<BW):CX (Kp (k+8)) 113 [.agg #[CV sx,Y ax lx cx],.agg #[CV sy,Y ay ly cy]] h n (IV ((Jf x.natAbs y.natAbs:Nat):Int)):=by refine zw (fn:=Tryz.f113) R4<|zG ?_;refine sB [CV sx,Y ax lx cx] λA Z4 a1=>?_;refine sB [CV sy,Y ay ly cy] λB V a2=>?_;refine sA λC W a3=>?_;refine zG ?_;by_cases q14:(lx:Int)=0;refine zG ?_;refine sT #[CV χ,η] ?_;refine sS [CV χ,η] λD Z3 R=>?_;refine zq ?_;exact⟨_,_,_,_,ω,(E9 _ _).as Ak⟩;refine zG ?_;by_cases q16:(ly:Int)=0;refine zG ?_;refine sT #[CV χ,η] ?_;refine sS [CV χ,η] λF Z0 S=>?_;refine zq ?_;exact⟨_,_,_,_,ω,(E9 _ _).as Ak⟩;refine zG ?_;have f:y.natAbs≠0:=λe=>q16 (by have:=a.2.zero;omega);refine zl [0,1,0,4,0,16,60,127,255,511,511,1023,4095] rfl<|zH ?_;refine dC (Sg _ (g.t zt) (b.t zt).2 (a.t zt).2 Lc) ?_;rintro _ G N⟨o,L,q,rfl,j⟩ a7 a4;refine dC (Sf _ (a.t zt).2 j ⟨hy,Dw (Nat.gcd_le_right _ (Gr f)) hy⟩ (by have:=Nat.gcd_pos_of_pos_right x.natAbs (Gr f);omega)) ?_;rintro _ H Z1⟨p,M,s,u,v,w,rfl,l,K⟩ a8 a5;refine zJ ?_;refine sC (NG _ (b.t zt).2 l ⟨hx,Dw (EL _ _) hy⟩) ?_;rintro _ I P⟨c,i,d,rfl,m⟩ a9 a6;refine sT #[CV χ,Y c i d] ?_;refine sS [CV χ,Y c i d] λJ a0 T=>?_;refine zq ?_;exact⟨_,_,_,_,ω,AX,(m.t zt).as (zna _ _)⟩
def lcmD:List Rat->Nat->Nat
 |[],m=>m
 |q::l,m=>lcmD l (Jf m q.den)
def oO:∀{l:List Rat} {q:Rat} {m:Nat},lcmD (l++[q]) m=Jf (lcmD l m) q.den:=by
 intro l;induction l with
 |nil=>intro q m;rfl
 |cons x l ih=>intro q m;exact ih
def kv{D:Nat}:∀{l:List Rat} {m:Nat},(∀q∈l,q.den∣D)->m∣D->lcmD l m∣D:=by
 intro l;induction l with
 |nil=>intro m _ h;exact h
 |cons x l ih=>intro m b c;exact ih (λq d=>b q (E3 _ d)) (ap9 c (b x (EM ..)))
def zeq:∀{l:List Rat} {m:Nat},m∣lcmD l m:=by
 intro l;induction l with
 |nil=>intro m;exact Nat.dvd_refl m
 |cons x l ih=>intro m;exact Ji (Nat.dvd_lcm_left _ _) ih
def ku:∀{l:List Rat} {m:Nat} {q:Rat},q∈l->q.den∣lcmD l m:=by
 intro l;induction l with
 |nil=>intro m q h;cases h
 |cons x l ih=>
  intro m q h;obtain rfl|h:=DA.1 h;exact Ji (Nat.dvd_lcm_right _ _) zeq;exact ih h
def kt{l:List Rat}:∀{m:Nat},0<m->0<lcmD l m:=by
 induction l with
 |nil=>intro m h;exact h
 |cons x l ih=>intro m h;exact ih (aq0 h x.den_pos)
def za0(q:Rat):q*(q.den:Rat)=(q.num:Rat):=by
 have h:=Rat.num_divInt_den q;have c:((q.den:Int):Rat)≠0:=λe=>by have:=SE.1 e;have:=q.den_pos;omega
 rw[ES,Hz]at h;rw[<-EG];have b:(q.num:Rat)*((q.den:Int):Rat)⁻¹ *((q.den:Int):Rat)=q.num:=by rw[HR,Rat.inv_mul_cancel _ c,HA]
 rw[h]at b;exact b
def Nl(den:Nat)(x:Rat):Int:=x.num*(den:Int).tdiv (x.den:Int)
def SY{b:Nat}{x:Rat}(h:x.den∣b):((Nl b x:Int):Rat)=x*(b:Rat):=by obtain⟨m,rfl⟩:=h;have c:=x.den_pos;unfold Nl;rw[Int.natCast_mul,Jj _ Z,D4,<-za0 x,ag8,HR,EG]
def Lk(f:Nat->Int):Nat->Nat
 |0=>0
 |j+1=>Dh (Lk f j) (f j).natAbs
def S3{f:Nat->Int}:∀{m j:Nat},j<m->Lk f m∣(f j).natAbs:=by
 intro m;induction m with
 |zero=>intro j h;omega
 |succ m ih=>
  intro j h;obtain b|b:=En j m;exact Ji (Nat.gcd_dvd_left _ _) (ih b);rw[show j=m by omega];exact Fs _ _
def Ta{f:Nat->Int}(b:∀j,j<m->(f j).natAbs<=B):Lk f m<=B:=by
 induction m with
 |zero=>exact GA _
 |succ m ih=>
  have c:=ih λj e=>b j Z;have d:=b m Z;show Dh (Lk f m) (f m).natAbs<=B;by_cases h0:Lk f m=0;rw[h0,Nat.gcd_zero_left];exact d;exact Dy (Nat.gcd_le_left _ (Gr h0)) c
def MP(f:Nat->Int)(m:Nat):Nat:=if Lk f m=0 then 1 else Lk f m
theorem dr{f:Nat->Int}:0<MP f m:=by unfold MP;split;decide;omega
def zn5{f:Nat->Int}{j:Nat}(h:j<m):((MP f m:Nat):Int)∣f j:=by unfold MP;split;exact Int.one_dvd _;exact Int.ofNat_dvd_left.2 (S3 h)
def rowQ(N:Nat)(a:Nat->Nat->Rat)(i:Nat):List Rat:=(Ea N).map (a i)
def deni(N:Nat)(a:Nat->Nat->Rat)(i:Nat):Nat:=lcmD (rowQ N a i) 1
def KM(N:Nat)(a:Nat->Nat->Rat)(i j:Nat):Int:=Nl (deni N a i) (a i j)
def LB(N:Nat)(a:Nat->Nat->Rat)(i:Nat):Nat:=MP (KM N a i) N
def tT(N:Nat)(a:Nat->Nat->Rat)(i j:Nat):Int:=(KM N a i j).tdiv (LB N a i:Int)
def tS(N:Nat)(a:Nat->Nat->Rat)(i:Nat):Rat:=DT (deni N a i:Int) (LB N a i:Int)
section
variable {a:Nat->Nat->Rat}
def zmj(hj:j<N):a i j∈rowQ N a i:=D2.2 ⟨j,G2.2 hj,ω⟩
theorem bW:0<deni N a i:=kt zd
def bY(hj:j<N):(a i j).den∣deni N a i:=ku (zmj hj)
def zn6(h:0<m):((m:Int):Rat)≠0:=λe=>by have:=SE.1 e;omega
theorem Tc:tS N a i=(deni N a i:Int)/((LB N a i:Int):Rat):=by unfold tS;rw[ES]
theorem Td:0<tS N a i:=by grind [Tc,deni,bW,LB,dr,KM,Hz,FW.2,Fe,Rat.inv_pos.2]
def Te(hj:j<N):((tT N a i j:Int):Rat)=tS N a i*a i j:=by
 have l:=zn5 (f:=KM N a i) hj;have g:((LB N a i:Int):Rat)≠0:=zn6 (dr (f:=KM N a i) (m:=N));have⟨z,o⟩:=l;have c:KM N a i j=(LB N a i:Int)*z:=o;have d:(LB N a i:Int)≠0:=by have:=dr (f:=KM N a i) (m:=N);unfold LB;omega
 have e:=SY (bY (N:=N) (a:=a) (i:=i) hj);have b:((KM N a i j:Int):Rat)=a i j*(deni N a i:Rat):=e;unfold tT;rw[c,Jj _ d];rw[c,D4]at b;rw[Tc,Hz,HR,FL _ (a i j),<-HR,FL _ (a i j),EG (deni N a i),<-b,FL _ (z:Rat),HR,Rat.mul_inv_cancel _ g,HA]
end
def Tf{D:Nat}{l:List Rat}(a:0<D)(hb:D<BW)(b:∀q∈l,q.den∣D):((lcmD (l.take j) 1:Nat):Int).natAbs<BW:=by rw[Dk];exact Dw (Is a (kv (λq c=>b q (List.mem_of_mem_take c)) (af4 _))) hb
def aa{D:Nat}(a:0<D)(hb:D<BW)(b:q.den∣D):(denZ q).natAbs<BW:=by have h:=Dw (Is a b) hb;unfold denZ;split;exact Dw CT hb;rw[Dk];exact h
def zem{l:List Rat}(g:l[j]?=ξ q)(h:denZ q=0):((lcmD (l.take j) 1:Nat):Int)=((lcmD (l.take (j+1)) 1:Nat):Int):=by rw[xa g,oO,yr.1 h,Nat.lcm_one_right]
def zen{l:List Rat}(g:l[j]?=ξ q)(h0:¬denZ q=0)(h:denZ q=((lcmD (l.take j) 1:Nat):Int)):((lcmD (l.take j) 1:Nat):Int)=((lcmD (l.take (j+1)) 1:Nat):Int):=by rw[wq h0]at h;have h:q.den=lcmD (l.take j) 1:=al1 h;rw[xa g,oO,<-h,Nat.lcm_self]
def zeo{l:List Rat}(g:l[j]?=ξ q)(h0:¬denZ q=0):((Jf ((lcmD (l.take j) 1:Nat):Int).natAbs (denZ q).natAbs:Nat):Int)=((lcmD (l.take (j+1)) 1:Nat):Int):=by rw[wq h0,Dk,Dk,xa g,oO]
def zn3(k:Nat)(g:GG h n){s L:Nat}(V:QS h n (Y aq s L) qs){D:Nat}(u:0<D)(hb:D<BW)(hd:∀q∈qs,q.den∣D)(hl:O qs<1000000):CX (Kp (k+9)) 65 [Y aq s L] h n (IV ((lcmD qs 1:Nat):Int)):=by have ar:=V.len;refine zw (fn:=Tryz.f65) R4<|Zd λae b2 b7=>?_;refine zG ?_;refine sC (NH _ _ _) ?_;rintro _ af c⟨y,v,G,B,rfl,T⟩ be b8;refine sA λag b3 b9=>?_;refine sS [CV y,Y v G B] λS a1 ax=>?_;refine zG ?_;refine sF (α:=Nat×Bool×Option Addr×Nat×Nat) (λz=>[(2,ι (3*n+2)),(3,ι (3*c+2)),(7,Y aq s L),(8,U .i64 (s:Int)),(9,U .i64 (z.1:Int))]) (λz M Z0 w'=>w'=[]/\c+1<=Z0/\ExtB (c+1) [3*c+2] S M/\M (3*c+2)=ξ (.row [CV z.2.1,Y z.2.2.1 z.2.2.2.1 z.2.2.2.2] 75)/\IW M Z0 z.2.1 z.2.2.1 z.2.2.2.1 z.2.2.2.2 (((lcmD (qs.take z.1) 1:Nat):Int))/\z.1<=O qs) (λz=>O qs-z.1) (0,y,v,G,B) ⟨ω,CS,F7 _ _ _,a1,((T.t zt).as (by rw[List.take_zero];rfl)),CT⟩ ?_;rintro⟨j,l,i,p,o⟩ t F a0 _ ⟨rfl,bf,a9,e,a,hj⟩;dsimp only at e a hj;refine zG ?_;by_cases q16:(j:Int)<(s:Int);refine zG ?_;obtain⟨ad,b⟩:∃d,(qs)[j]?=ξ d:=⟨_,CW Z⟩;have⟨ap,ay,Z1,N,W,P,a5,a6,a7,a8,R,Z3,a3,a4,ao,m⟩:=ab7 V b;refine sI R a3 ?_;refine sL a4 Z3 0 ?_;refine sA λah b4 ba=>?_;refine sS [CV Z1,Y N W P,CV a5,Y a6 a7 a8] λai b5 az=>?_;refine zG ?_;refine sC (yK _ (m.x zx)) ?_;rintro _ aj au⟨ab,rfl,J⟩ bg bb;obtain⟨rfl,f⟩|⟨rfl,f⟩:=Ky J;refine zG ?_;refine sC ((ZC _ (m.x zx) (a.t zt) (aa u hb (hd _ (C0 b))) (Tf u hb hd)).cx) ?_;rintro _ ak av⟨ac,rfl,K⟩ bh bc;obtain⟨rfl,I⟩|⟨rfl,I⟩:=Ky K;refine zG ?_;refine sC (lcmX _ (g.x zx) (a.t zt) (m.x zx) (Tf u hb hd) (aa u hb (hd _ (C0 b)))) ?_;rintro _ al aw⟨A,w,H,C,rfl,Z4⟩ bi bd;refine sS [CV A,Y w H C] λam a2 b0=>?_;refine zG ?_;exact sK (j+1,A,w,H,C) ⟨ω,Z,zy,a2,((Z4.t zt).as (zeo b f)),Bh⟩;refine zG ?_;exact sK (j+1,l,i,p,o) ⟨ω,Z,zy,zp,((a.t zt).as (zen b f I)),Bh⟩;refine zG ?_;exact sK (j+1,l,i,p,o) ⟨ω,Z,zy,zp,((a.t zt).as (zem b f)),Bh⟩;refine zG ?_;refine sS [CV l,Y i p o] λan b6 b1=>?_;refine zq ?_;exact⟨_,_,_,_,ω,(a.t zt).as (by rw[show j=O qs by omega,Ds])⟩
end Go.Proofs.YteoagenjaemllaaGreatDoor
namespace Go.Proofs.YteoagenjaemllaaGreatDoor
variable {k M V P N obj DB B l E:Nat}{g δ ρ q:Rat}{y x σ:Nat->Rat}{α:Type}{cl ch rl rh:Nat->Option Rat}{T:Nat->Nat->Int}{d:Int}
section
variable {a i r:Nat}
def sm(n:Nat)(f:Nat->Int):Int:=match n with|0=>0|n+1=>sm n f+f n
theorem tf{f g:Nat->Int}:∀{n:Nat},(∀j,j<n->f j=g j)->sm n f=sm n g:=by
 intro n;induction n with
 |zero=>intro _;rfl
 |succ n ih=>intro h;show sm n f+f n=sm n g+g n;rw[ih λj b=>h j Z,h n Z]
theorem zma{f:Nat->Int}{n:Nat}(h:∀j,j<n->f j=0):sm n f=0:=by induction n<;>grind [sm]
theorem Tg(n:Nat)(f g:Nat->Int):sm n (λj=>f j+g j)=sm n f+sm n g:=by induction n<;>grind [sm]
theorem oj(n:Nat)(c:Int)(f:Nat->Int):sm n (λj=>c*f j)=c*sm n f:=by induction n<;>grind [sm]
theorem jF{f:Nat->Int}{n k:Nat}(b:k<n)(h:∀j,j<n->j≠k->f j=0):sm n f=f k:=by induction n<;>grind [sm,zma]
theorem zo7{f:Nat->Int}{n p:Nat}(b:p+1<n)(h:∀j,j<n->j≠p->j≠p+1->f j=0):sm n f=f p+f (p+1):=by induction n<;>grind [sm,jF]
theorem cD{f:Nat->Int}{n:Nat}(h:∀j,j<n->(f j).natAbs<=B):(sm n f).natAbs<=n*B:=by induction n<;>grind [sm]
def Mc(r:Nat):Int:=if r%2=0 then 1 else -1
def zhp(r:Nat):Mc (r+1)= -Mc r:=by unfold Mc;split<;>split<;>omega
def sk(r i:Nat):Nat:=if i<r then i else i+1
def Kx:Nat->(Nat->Nat->Int)->Int
 |0,_=>1
 |n+1,A=>sm (n+1) λr=>Mc r*A r 0*Kx n λi j=>A (sk r i) (j+1)
def rw'(A:Nat->Nat->Int)(k:Nat)(u:Nat->Int):Nat->Nat->Int:=λi j=>if i=k then u j else A i j
def Nm:∀{n:Nat} {A B:Nat->Nat->Int},(∀i j,i<n->j<n->A i j=B i j)->Kx n A=Kx n B:=by
 intro n;induction n with
 |zero=>intro A B _;rfl
 |succ n ih=>
  intro A B h;refine tf λr b=>?_;rw[h r 0 b Z,ih λi j hi c=>h _ _ AB Z]
def Th:sk r i≠r:=by unfold sk;split<;>omega
def ks(r k:Nat):Nat:=if k<r then k else k-1
def OH{k:Nat}(h:r≠k):sk r i=k↔i=ks r k:=by unfold sk ks;split<;>split<;>omega
theorem nj:∀{n:Nat} (A:Nat->Nat->Int) (k:Nat) (a b:Int) (u w:Nat->Int),k<n->Kx n (rw' A k λj=>a*u j+b*w j)=a*Kx n (rw' A k u)+b*Kx n (rw' A k w):=by
 intro n;induction n with
 |zero=>intro A k a b u w h;omega
 |succ n ih=>
  intro A k a b u w d;show sm (n+1) _=a*sm (n+1) _+b*sm (n+1) _;rw[<-oj,<-oj,<-Tg];refine tf λr g=>?_;by_cases h:r=k;subst h;have e:∀v:Nat->Int,Kx n (λi j=>rw' A r v (sk r i) (j+1))=Kx n λi j=>A (sk r i) (j+1):=λv=>Nm λi j _ _=>by unfold rw';rw[CP Th]
  rw[e,e,e];have c:∀v:Nat->Int,rw' A r v r 0=v 0:=λv=>by unfold rw';rw[CQ rfl]
  rw[c,c,c];grind;have e:∀v:Nat->Int,(λi j=>rw' A k v (sk r i) (j+1))=rw' (λi j=>A (sk r i) (j+1)) (ks r k) λj=>v (j+1):=λv=>(by funext i j;unfold rw';by_cases h2:sk r i=k;rw[CQ h2,CQ ((OH h).1 h2)];rw[CP h2,CP (mt (OH h).2 h2)]);have c:∀v:Nat->Int,rw' A k v r 0=A r 0:=λv=>by unfold rw';rw[CP h]
  rw[e,e,e,c,c,c,ih _ _ _ _ _ _ (by unfold ks;split<;>omega)];grind
theorem Ti:∀{n:Nat} {A:Nat->Nat->Int} {p:Nat},p+1<n->(∀j,A p j=A (p+1) j)->Kx n A=0:=by
 intro n;induction n with
 |zero=>intro A p h;omega
 |succ n ih=>
  intro A p g d;show sm (n+1) _=0;rw[zo7 g];have e:Kx n (λi j=>A (sk p i) (j+1))=Kx n λi j=>A (sk (p+1) i) (j+1):=by
   refine Nm λi j _ _=>?_;by_cases h:i=p;subst h;have b:sk i i=i+1:=by unfold sk;rw[CP Z]
   have c:sk (i+1) i=i:=by unfold sk;rw[CQ Z]
   rw[b,c,d];have:sk p i=sk (p+1) i:=by unfold sk;split<;>split<;>omega
   rw[this]
  rw[e,d 0,zhp];grind;intro r q m o;have e:Kx n (λi j=>A (sk r i) (j+1))=0:=by
   obtain h|h:=En r p;refine ih (p:=p-1) Z λj=>?_;have b:sk r (p-1)=p:=by unfold sk;rw[CP Z];omega
   have c:sk r (p-1+1)=p+1:=by unfold sk;rw[CP Z];omega
   rw[b,c,d];refine ih (p:=p) Z λj=>?_;have b:sk r p=p:=by unfold sk;rw[CQ Z]
   have c:sk r (p+1)=p+1:=by unfold sk;rw[CQ Z]
   rw[b,c,d]
  rw[e,G8]
theorem fG(A:Nat->Nat->Int)(k:Nat):rw' A k (A k)=A:=by grind [rw']
theorem fH(A:Nat->Nat->Int){k:Nat}(h:k≠l)(u w:Nat->Int):rw' (rw' A k u) l w=rw' (rw' A l w) k u:=by grind [rw']
def Tj{n:Nat}(A:Nat->Nat->Int)(k:Nat)(u w:Nat->Int)(b:k<n):Kx n (rw' A k λj=>u j+w j)=Kx n (rw' A k u)+Kx n (rw' A k w):=by have:=nj A k 1 1 u w b;simp only[Jd]at this;exact this
def zi0{n:Nat}{A:Nat->Nat->Int}{p:Nat}(d:p+1<n):Kx n (rw' (rw' A p (A (p+1))) (p+1) (A p))= -Kx n A:=by have b:p≠p+1:=Z;have g:∀u w:Nat->Int,Kx n (rw' (rw' A p u) (p+1) w)+Kx n (rw' (rw' A p w) (p+1) u)=0:=λu w=>(by have c:∀v:Nat->Int,Kx n (rw' (rw' A p v) (p+1) v)=0:=λv=>Ti d λj=>(by unfold rw';rw[CP Z,CQ ω,CQ rfl]);have e:∀v:Nat->Int,Kx n (rw' (rw' A p λj=>u j+w j) (p+1) v)=Kx n (rw' (rw' A p u) (p+1) v)+Kx n (rw' (rw' A p w) (p+1) v):=λv=>(by rw[fH A b,Tj (rw' A (p+1) v) p u w Z,<-fH A b u v,<-fH A b w v]);have m:=c λj=>u j+w j;rw[Tj _ _ _ _ d,e,e,c,c]at m;omega);have h:=g (A p) (A (p+1));rw[fG A p,fG A (p+1)]at h;omega
def Tk:∀{d n:Nat} {A:Nat->Nat->Int} {p:Nat},p+d+1<n->(∀j,A p j=A (p+d+1) j)->Kx n A=0:=by
 intro d;induction d with
 |zero=>intro n A p c b;exact Ti c b
 |succ d ih=>
  intro n A p c b;have h:=zi0 (A:=A) (p:=p+d+1) Z;have e:Kx n (rw' (rw' A (p+d+1) (A (p+d+1+1))) (p+d+1+1) (A (p+d+1)))=0:=(by refine ih (p:=p) Z λj=>?_;unfold rw';rw[CP Z,CP Z,CP Z,CQ rfl];exact b j);omega
def zi1{n:Nat}{A:Nat->Nat->Int}{p q:Nat}(c:p<n)(e:q<n)(g:p≠q)(h:∀j,A p j=A q j):Kx n A=0:=by obtain b|b:=En p q;obtain⟨d,rfl⟩:∃d,q=p+d+1:=⟨q-p-1,Z⟩;exact Tk e h;obtain⟨d,rfl⟩:∃d,p=q+d+1:=⟨p-q-1,Z⟩;exact Tk c λj=>(h j).symm
def znw{n:Nat}(A:Nat->Nat->Int)(s:Nat)(b:s<n)(t:Nat->Int)(V:Nat->Nat->Int):∀m,Kx n (rw' A s λj=>sm m λk=>t k*V k j)=sm m λk=>t k*Kx n (rw' A s (V k)):=by
 intro m;induction m with
 |zero=>
  have:=nj A s 0 0 (V 0) (V 0) b;simp only[GI,IJ]at this;exact this
 |succ m ih=>
  show Kx n (rw' A s λj=>sm m (λk=>t k*V k j)+t m*V m j)=_;have:=nj A s 1 (t m) (λj=>sm m λk=>t k*V k j) (V m) b;simp only[Jd]at this;rw[this,ih];rfl
def PQ{n:Nat}{A:Nat->Nat->Int}{s:Nat}(b:s<n){d:Int}{f t:Nat->Int}(h:∀j,j<n->d*f j=sm n λk=>t k*A k j):d*Kx n (rw' A s f)=t s*Kx n A:=by have g:=nj A s d 0 f f b;simp only[GI,IJ]at g;rw[<-g];have m:Kx n (rw' A s λj=>d*f j)=Kx n (rw' A s λj=>sm n λk=>t k*A k j):=Nm λi j hi o=>(by unfold rw';split;exact h j o;rfl);rw[m,znw A s b,jF b λk u c=>?_,fG];rw[zi1 (p:=s) (q:=k) b u (λe=>c e.symm) λj=>by unfold rw';rw[CQ ω,CP c],G8]
def K0:Nat->Nat
 |0=>1
 |n+1=>(n+1)*K0 n
def Tl(r:Nat):(Mc r).natAbs=1:=by unfold Mc;split<;>rfl
theorem df:∀{n:Nat} {A:Nat->Nat->Int} {M:Nat},(∀i j,i<n->j<n->(A i j).natAbs<=M)->(Kx n A).natAbs<=K0 n*M^n:=by
 intro n;induction n with
 |zero=>intro A M _;exact Ez _
 |succ n ih=>
  intro A M h;have b:(sm (n+1) λr=>Mc r*A r 0*Kx n λi j=>A (sk r i) (j+1)).natAbs<=(n+1)*(M*(K0 n*M^n)):=cD λr c=>(by rw[D6,D6,Tl,Et];exact DG (h r 0 c Z) (ih λi j hi d=>h _ _ AB Z));show(sm (n+1) _).natAbs<=(n+1)*K0 n*M^(n+1);refine Dy b (an8 ?_);rw[Dj];grind
def znx:∀n:Nat,Kx n (λi j=>if i=j then 1 else 0)=1:=by
 intro n;induction n with
 |zero=>rfl
 |succ n ih=>
  show sm (n+1) _=1;rw[jF (k:=0) Z λj c b=>by show Mc j*(if j=0 then(1:Int)else 0)*_=0;rw[CP b,G8,GI]];show Mc 0*(if 0=0 then(1:Int)else 0)*Kx n (λi j=>if sk 0 i=j+1 then(1:Int)else 0)=1;rw[CQ rfl];have e:Kx n (λi j=>if sk 0 i=j+1 then(1:Int)else 0)=Kx n (λi j=>if i=j then 1 else 0):=Nm λi j _ _=>by
   have:sk 0 i=i+1:=by unfold sk;rw[CP Z]
   rw[this];by_cases h:i=j;rw[CQ h,CQ Z];rw[CP h,CP Z]
  rw[e,ih];rfl
def Ks(n:Nat)(f:Nat->Rat):Rat:=match n with|0=>0|n+1=>Ks n f+f n
theorem yg{f g:Nat->Rat}:∀{n:Nat},(∀j,j<n->f j=g j)->Ks n f=Ks n g:=by
 intro n;induction n with
 |zero=>intro _;rfl
 |succ n ih=>intro h;show Ks n f+f n=Ks n g+g n;rw[ih λj b=>h j Z,h n Z]
theorem Tm(n:Nat)(f g:Nat->Rat):Ks n (λj=>f j-g j)=Ks n f-Ks n g:=by induction n<;>grind [Ks]
theorem zwx(n:Nat)(f g:Nat->Rat):Ks n (λj=>f j+g j)=Ks n f+Ks n g:=by induction n<;>grind [Ks]
theorem wL(n:Nat)(c:Rat)(f:Nat->Rat):Ks n (λj=>c*f j)=c*Ks n f:=by induction n<;>grind [Ks]
def fA{f:Nat->Rat}:∀{n:Nat},0<Ks n f->∃j,j<n/\0<f j:=by
 intro n;induction n with
 |zero=>intro h;exact CO h Gk
 |succ n ih=>
  intro h;have h:0<Ks n f+f n:=h;by_cases h1:0<f n;exact⟨n,Z,h1⟩;have⟨j,c,b⟩:=ih Ag;exact⟨j,Z,b⟩
theorem zhf{f:Nat->Rat}{n:Nat}(h:∀j,j<n->f j=0):Ks n f=0:=by induction n<;>grind [Ks]
theorem Tn{f:Nat->Rat}{n k:Nat}(b:k<n)(h:∀j,j<n->j≠k->f j=0):Ks n f=f k:=by induction n<;>grind [Ks,zhf]
theorem xY{t D:Rat}(h:0<t*D):0<t/\0<D\/t<0/\D<0:=by
 by_cases h1:0<t;refine .inl ⟨h1,F6.1 λb=>?_⟩;have c:=HB (Ft h1) (show 0<= -D by grind);grind;by_cases b:t<0;refine .inr ⟨b,F6.1 λc=>?_⟩;have d:=HB (show 0<= -t by grind) c;grind;have:t=0:=by grind
 rw[this]at h;grind
theorem yq{t D:Rat}(h:t*D<0):0<t/\D<0\/t<0/\0<D:=by have:=xY (t:=t) (D:= -D) Ag;grind
section
variable (lo hi:Nat->Option Rat)
def inBd(v:Nat)(x:Rat):Prop:=(∀l,lo v=ξ l->l<=x)/\(∀u,hi v=ξ u->x<=u)
def cG(v:Nat)(x:Rat):Prop:=∀u,hi v=ξ u->x<u
def cS(v:Nat)(x:Rat):Prop:=∀l,lo v=ξ l->l<x
end
def mP{hi:Nat->Option Rat}{v:Nat}{x:Rat}(h:¬cG hi v x):∃u,hi v=ξ u/\u<=x:=by refine Df λc=>h λu d=>F6.1 λb=>c ⟨u,d,b⟩
def mO{lo:Nat->Option Rat}{v:Nat}{x:Rat}(h:¬cS lo v x):∃l,lo v=ξ l/\x<=l:=by refine Df λd=>h λl c=>F6.1 λb=>d ⟨l,c,b⟩
structure RD where
 x:Nat->Rat
 B:Nat->Prop
 nv:Nat->Nat
 t:Nat->Rat
 d:Rat
 e:Nat
 w:Nat
 low:Bool
def suit(lo hi:Nat->Option Rat)(D:RD)(c:Nat):Prop:=
 if D.low then 0<D.t c/\cG hi (D.nv c) (D.x (D.nv c))\/D.t c<0/\cS lo (D.nv c) (D.x (D.nv c))
 else D.t c<0/\cG hi (D.nv c) (D.x (D.nv c))\/0<D.t c/\cS lo (D.nv c) (D.x (D.nv c))
structure StepR (n V:Nat)(L:(Nat->Rat)->Prop)(lo hi:Nat->Option Rat)(D D':RD):Prop where
 e:D.e<n
 nb:∀c,c<n->¬D.B (D.nv c)/\D.nv c<V
 inj:∀c c',c<n->c'<n->D.nv c=D.nv c'->c=c'
 w:D.B D.w/\D.w<V
 B':∀v,D'.B v↔v=D.nv D.e\/D.B v/\v≠D.w
 x':∀v,v<V->¬D.B v->v≠D.nv D.e->D'.x v=D.x v
 bd:∀v,v<V->¬D.B v->inBd lo hi v (D.x v)
 viol:if D.low then ∃l,lo D.w=ξ l/\D.x D.w<l/\D'.x D.w=l else ∃u,hi D.w=ξ u/\u<D.x D.w/\D'.x D.w=u
 sm:∀v,v<D.w->D.B v->inBd lo hi v (D.x v)
 dp:0<D.d
 row:∀y,L y->D.d*y D.w=Ks n λc=>D.t c*y (D.nv c)
 xL:L D.x
 su:suit lo hi D D.e
 sms:∀c,c<n->D.nv c<D.nv D.e->¬suit lo hi D c
def Nat.max_of{p:Nat->Prop}{V:Nat}(c:∀v,p v->v<V)(h:∃v,p v):∃v,p v/\∀u,p u->u<=v:=by
 induction V with
 |zero=>have⟨v,b⟩:=h;have:=c v b;omega
 |succ V ih=>
  by_cases h1:p V;exact⟨V,h1,λu d=>by have:=c u d;omega⟩;exact ih λv b=>by have:=c v b;have:v≠V:=λe=>h1 (e▸b);omega
theorem Tp{p:Nat->Prop}(g:p a):∀{b:Nat},a<=b->¬p b->∃c,a<=c/\c<b/\p c/\∀i,c<i->i<=b->¬p i:=by
 intro b;induction b with
 |zero=>intro h d;exact CO (show p 0 by rwa [show a=0 by omega]at g) d
 |succ b ih=>
  intro h d;by_cases h1:a=b+1
  .exact CO (h1▸g) d
  by_cases h2:p b
  .exact⟨b,Z,Z,h2,λi hi j=>by rwa [show i=b+1 by omega]⟩
  obtain⟨c,m,s,o,q⟩:=ih Z h2;refine⟨c,m,Z,o,λi hi j=>?_⟩;by_cases e:i=b+1
  .rwa [e]
  exact q i hi Z
section
variable {n:Nat}{L:(Nat->Rat)->Prop}{lo hi:Nat->Option Rat}{f:Nat->RD}
theorem zp3(hk:0<k)(hL:∀x y,L x->L y->L λv=>x v-y v)(d:∀i,StepR n V L lo hi (f i) (f (i+1)))(hp:∀i,f (i+k)=f i):False:=by
 have hV:∀v,(∃i,(f i).nv (f i).e=v)->v<V:=λv⟨i,h⟩=>h▸((d i).nb _ (d i).e).2;have⟨r,⟨I,N⟩,T⟩:=Nat.max_of hV ⟨_,0,ω⟩;have G:(f (I+k)).nv (f (I+k)).e=r:=by rw[hp];exact N
 generalize hbb:I+k=b at G;have a8:(f (I+1)).B r:=((d I).B' r).2 (.inl N.symm);have a1:¬(f b).B r:=G▸((d b).nb _ (d b).e).1;have⟨a,ad,a9,aa,S⟩:=Tp (p:=λi=>(f i).B r) a8 (b:=b) Z a1;have W:(f a).w=r:=(by refine Df λh=>S (a+1) Z Z ?_;exact((d a).B' r).2 (.inr ⟨aa,λe=>h e.symm⟩));have hx:∀i,a<i->i<=b->(f i).x r=(f (a+1)).x r:=by
  intro i;induction i with
  |zero=>intro h;omega
  |succ i ih=>
   intro g C;by_cases e:i=a;rw[e];have a5:r≠(f i).nv (f i).e:=λe2=>S (i+1) Z C (((d i).B' r).2 (.inl e2));rw[(d i).x' r (hV r ⟨I,N⟩) (S i Z Z) a5];exact ih Z Z
 have Z0:=hx b a9 CS;have a3:∀v,v<r->inBd lo hi v ((f a).x v):=λv hv=>(by by_cases h:(f a).B v;exact(d a).sm v (by rw[W];exact hv) h;exact(d a).bd v (by have:=hV r ⟨I,N⟩;omega) h);have a7:∀i,∃j,(f j).nv (f j).e=(f i).w:=λi=>by
  have g:¬(f (i+1)).B (f i).w:=λh=>(by rcases((d i).B' _).1 h with h|h;exact((d i).nb _ (d i).e).1 (h▸(d i).w.1);exact h.2 ω);refine Df λZ1=>?_;have C:∀j,¬(f (i+1+j)).B (f i).w:=λj=>by
   induction j with
   |zero=>exact g
   |succ j ih=>
    intro h;rcases((d (i+1+j)).B' _).1 h with h|h;exact Z1 ⟨_,h.symm⟩;exact ih h.1
  refine C (k-1) ?_;rw[show i+1+(k-1)=i+k by omega,hp];exact(d i).w.1
 have ab:(f b).w<r:=(by have⟨j,hj⟩:=a7 b;have g:=T _ ⟨j,hj⟩;have C:(f b).w≠r:=λe=>a1 (e▸(d b).w.1);omega);have a0:∀c,c<n->(¬∃j,(f j).nv (f j).e=(f b).nv c)->(f a).x ((f b).nv c)=(f b).x ((f b).nv c):=λc F Z1=>by
  have g:∀j,¬(f (b+j)).B ((f b).nv c)/\(f (b+j)).x ((f b).nv c)=(f b).x ((f b).nv c):=λj=>by
   induction j with
   |zero=>exact⟨((d b).nb c F).1,ω⟩
   |succ j ih=>
    refine⟨λh=>?_,?_⟩;rcases((d (b+j)).B' _).1 h with h|h;exact Z1 ⟨_,h.symm⟩;exact ih.1 h.1;rw[<-ih.2];exact(d (b+j)).x' _ ((d b).nb c F).2 ih.1 λe=>Z1 ⟨_,e.symm⟩
  have C:=(g (a+k-b)).2;rw[show b+(a+k-b)=a+k by omega,hp]at C;exact C
 have Z4:=(d b).row _ (hL _ _ (d a).xL (d b).xL);have Z3:=a3 _ ab;have A:=(d a).viol;have P:=(d b).viol;have q:=(d b).su;have a6:∀c,c<n->(f b).nv c≠r->∀s:Bool,s=(f b).low->(s=φ->0<(f b).t c*((f a).x ((f b).nv c)-(f b).x ((f b).nv c))->False)/\(s=χ->(f b).t c*((f a).x ((f b).nv c)-(f b).x ((f b).nv c))<0->False):=by
  intro c F a5 s ac;by_cases hf:∃j,(f j).nv (f j).e=(f b).nv c;have a4:(f b).nv c<r:=by have:=T _ hf;omega
  have g:=(d b).sms c F (by rw[G];exact a4);have C:=a3 _ a4;unfold suit at g;rw[<-ac]at g;constructor;intro e R;rw[CQ e]at g;obtain⟨m,D⟩|⟨m,D⟩:=xY R;have⟨u,hu,J⟩:=mP λh=>g (.inl ⟨m,h⟩);have:=C.2 u hu;grind;have⟨l,H,J⟩:=mO λh=>g (.inr ⟨m,h⟩);have:=C.1 l H;grind;intro e R;rw[CP (by rw[e];exact EN)]at g;obtain⟨m,D⟩|⟨m,D⟩:=yq R;have⟨l,H,J⟩:=mO λh=>g (.inr ⟨m,h⟩);have:=C.1 l H;grind;have⟨u,hu,J⟩:=mP λh=>g (.inl ⟨m,h⟩);have:=C.2 u hu;grind;rw[a0 c F hf];constructor<;>intro _ h<;>grind
 have a2:=(d b).dp;unfold suit at q;rw[G,Z0]at q;cases H:(f b).low with
 |true=>
  rw[H]at P q;obtain⟨l,g,C,_⟩:∃l,lo (f b).w=ξ l/\(f b).x (f b).w<l/\_:=P;have R:=Z3.1 l g;have⟨c,F,m⟩:=fA (show 0<Ks n λc=>(f b).t c*((f a).x ((f b).nv c)-(f b).x ((f b).nv c))by
   rw[<-Z4];exact Fe a2 Ag)
  by_cases hcr:(f b).nv c=r;obtain rfl:=(d b).inj c _ F (d b).e (hcr.trans G.symm);rw[G,Z0]at m;rw[CQ rfl]at q;rw[W]at A;cases hla:(f a).low with
  |true=>
   rw[hla]at A;obtain⟨l',D,J,h7⟩:∃l,lo r=ξ l/\(f a).x r<l/\(f (a+1)).x r=l:=A;obtain⟨K,M⟩|⟨K,M⟩:=xY m;grind;obtain⟨o,_⟩|⟨_,o⟩:=q;grind;have:=o l' D;grind
  |false=>
   rw[hla]at A;obtain⟨u',D,J,h7⟩:∃u,hi r=ξ u/\u<(f a).x r/\(f (a+1)).x r=u:=A;obtain⟨K,M⟩|⟨K,M⟩:=xY m;obtain⟨_,o⟩|⟨o,_⟩:=q;have:=o u' D;grind;grind;grind
  exact(a6 c F hcr φ H.symm).1 ω m
 |false=>
  rw[H]at P q;obtain⟨u,g,C,_⟩:∃u,hi (f b).w=ξ u/\u<(f b).x (f b).w/\_:=P;have R:=Z3.2 u g;have⟨c,F,m⟩:=fA (show 0<Ks n λc=>(-1)*((f b).t c*((f a).x ((f b).nv c)-(f b).x ((f b).nv c)))by
   rw[wL,<-Z4];have D:=Fe a2 (show 0<(f b).x (f b).w-(f a).x (f b).w by grind);grind)
  have m:(f b).t c*((f a).x ((f b).nv c)-(f b).x ((f b).nv c))<0:=by grind
  by_cases hcr:(f b).nv c=r;obtain rfl:=(d b).inj c _ F (d b).e (hcr.trans G.symm);rw[G,Z0]at m;rw[CP EN]at q;rw[W]at A;cases hla:(f a).low with
  |true=>
   rw[hla]at A;obtain⟨l',D,J,h7⟩:∃l,lo r=ξ l/\(f a).x r<l/\(f (a+1)).x r=l:=A;obtain⟨K,M⟩|⟨K,M⟩:=yq m;obtain⟨o,_⟩|⟨_,o⟩:=q;grind;have:=o l' D;grind;grind
  |false=>
   rw[hla]at A;obtain⟨u',D,J,h7⟩:∃u,hi r=ξ u/\u<(f a).x r/\(f (a+1)).x r=u:=A;obtain⟨K,M⟩|⟨K,M⟩:=yq m;grind;obtain⟨_,o⟩|⟨o,_⟩:=q;have:=o u' D;grind;grind
  exact(a6 c F hcr χ H.symm).2 ω m
end
structure OD where
 x:Nat->Rat
 B:Nat->Prop
 nv:Nat->Nat
 q:Nat->Rat
 d:Rat
 e:Nat
 w:Nat
 dv:Nat->Rat
def impr(lo hi:Nat->Option Rat)(D:OD)(c:Nat):Prop:=D.q c<0/\cG hi (D.nv c) (D.x (D.nv c))\/0<D.q c/\cS lo (D.nv c) (D.x (D.nv c))
structure StepO (n V obj:Nat)(L:(Nat->Rat)->Prop)(lo hi:Nat->Option Rat)(D D':OD):Prop where
 e:D.e<n
 nb:∀c,c<n->¬D.B (D.nv c)/\D.nv c<V
 cov:∀v,v<V->¬D.B v->∃c,c<n/\D.nv c=v
 inj:∀c c',c<n->c'<n->D.nv c=D.nv c'->c=c'
 w:D.B D.w/\D.w<V
 B':∀v,D'.B v↔v=D.nv D.e\/D.B v/\v≠D.w
 x':∀v,v<V->D'.x v=D.x v
 dp:0<D.d
 row:∀y,L y->D.d*y obj=Ks n λc=>D.q c*y (D.nv c)
 im:impr lo hi D D.e
 sm:∀c,c<n->D.nv c<D.nv D.e->¬impr lo hi D c
 dL:L D.dv
 de:D.q D.e*D.dv (D.nv D.e)<0
 d0:∀c,c<n->c≠D.e->D.dv (D.nv c)=0
 bl:(0<D.dv D.w->∃u,hi D.w=ξ u/\u<=D.x D.w)/\(D.dv D.w<0->∃l,lo D.w=ξ l/\D.x D.w<=l)
 mb:∀v,v<D.w->D.B v->(0<D.dv v->cG hi v (D.x v))/\(D.dv v<0->cS lo v (D.x v))
section
variable {n:Nat}{L:(Nat->Rat)->Prop}{lo hi:Nat->Option Rat}{f:Nat->OD}
theorem zp4(hk:0<k)(g:∀i,StepO n V obj L lo hi (f i) (f (i+1)))(hp:∀i,f (i+k)=f i):False:=by
 have hV:∀v,(∃i,(f i).nv (f i).e=v)->v<V:=λv⟨i,h⟩=>h▸((g i).nb _ (g i).e).2;have⟨r,⟨b,G⟩,Z0⟩:=Nat.max_of hV ⟨_,0,ω⟩;have D:∀i v,v<V->(f i).x v=(f 0).x v:=λi v hv=>by
  induction i with
  |zero=>rfl
  |succ i ih=>rw[(g i).x' v hv,ih]
 have a0:(f (b+1)).B r:=((g b).B' r).2 (.inl G.symm);have a1:¬(f (b+k)).B r:=by rw[hp];exact G▸((g b).nb _ (g b).e).1
 have⟨a,a7,a8,a2,a3⟩:=Tp (p:=λi=>(f i).B r) a0 (b:=b+k) Z a1;have P:(f a).w=r:=(by refine Df λh=>a3 (a+1) Z Z ?_;exact((g a).B' r).2 (.inr ⟨a2,λe=>h e.symm⟩));have T:r<V:=hV r ⟨b,G⟩;have h1:=(g a).row _ (g a).dL;rw[Tn (g a).e λj Z3 a6=>by rw[(g a).d0 j Z3 a6];grind]at h1;have h2:(f a).dv obj<0:=by
  have Z4:(f a).d*(f a).dv obj<0:=by rw[h1];exact(g a).de
  obtain h|h:=yq Z4;exact h.2;have:=(g a).dp;grind
 have Z4:=(g b).row _ (g a).dL;have h4:0<Ks n λc=>(-1)*((f b).q c*(f a).dv ((f b).nv c)):=(by rw[wL,<-Z4];have F:=Fe (g b).dp (show 0< -(f a).dv obj by grind);grind);have⟨c,W,F⟩:=fA h4;have F:(f b).q c*(f a).dv ((f b).nv c)<0:=by grind
 have⟨a5,K⟩:=(g b).nb c W;have M:(f a).x ((f b).nv c)=(f b).x ((f b).nv c):=by rw[D a _ K,D b _ K]
 have Z1:(f b).nv c=(f a).nv (f a).e\/(f a).B ((f b).nv c):=(by by_cases h:(f a).B ((f b).nv c);exact .inr h;have⟨c',a4,A⟩:=(g a).cov _ K h;by_cases s:c'=(f a).e;exact .inl (by rw[<-A,s]);have:=(g a).d0 c' a4 s;rw[A]at this;rw[this]at F;grind);have R:∃j,(f j).nv (f j).e=(f b).nv c:=by
  refine Df λS=>?_;have A:∀j,¬(f (b+j)).B ((f b).nv c):=λj=>by
   induction j with
   |zero=>exact a5
   |succ j ih=>
    intro h;rcases((g (b+j)).B' _).1 h with h|h;exact S ⟨_,h.symm⟩;exact ih h.1
  obtain h|h:=Z1;exact S ⟨a,h.symm⟩;have:=A (a-b);rw[show b+(a-b)=a by omega]at this;exact this h
 have a9:=Z0 _ R;by_cases Z3:(f b).nv c=r;obtain rfl:=(g b).inj c _ W (g b).e (Z3.trans G.symm);have o:=(g b).im;unfold impr at o;rw[G]at o F;have J:=(g a).bl;rw[P,D a r T,<-D b r T]at J;obtain⟨A,s⟩|⟨A,s⟩:=yq F;have⟨l,y,I⟩:=J.2 s;obtain⟨m,_⟩|⟨_,m⟩:=o;grind;have:=m l y;grind;have⟨u,y,I⟩:=J.1 s;obtain⟨_,m⟩|⟨m,_⟩:=o;have:=m u y;grind;grind;have N:=(g b).sm c W (by rw[G];omega);unfold impr at N;have o:=(g a).im;unfold impr at o;obtain⟨A,s⟩|⟨A,s⟩:=yq F;have⟨l,y,I⟩:=mO λh=>N (.inr ⟨A,h⟩);obtain ho|ho:=Z1;rw[ho]at s y I M;obtain⟨m,H⟩|⟨m,H⟩:=yq (g a).de;obtain⟨C,_⟩|⟨_,C⟩:=o;grind;have:=C l y;grind;grind;have:=((g a).mb _ (by rw[P];omega) ho).2 s l y;grind;have⟨u,y,I⟩:=mP λh=>N (.inl ⟨A,h⟩);obtain ho|ho:=Z1;rw[ho]at s y I M;obtain⟨m,H⟩|⟨m,H⟩:=yq (g a).de;grind;obtain⟨_,C⟩|⟨C,_⟩:=o;have:=C u y;grind;grind;have:=((g a).mb _ (by rw[P];omega) ho).1 s u y;grind
end
end
section
variable {c i r:Nat}
theorem kc{f:Nat->Int}{n e:Nat}(b:e<n):sm n f=sm n (λc=>if c=e then 0 else f c)+f e:=by induction n<;>grind [sm,tf]
theorem uM{f:Nat->Rat}{n e:Nat}(b:e<n):Ks n f=Ks n (λc=>if c=e then 0 else f c)+f e:=by induction n<;>grind [Ks,yg]
def Kt{α:Type}(f:Nat->α)(k:Nat)(v:α):Nat->α:=λc=>if c=k then v else f c
def sgn(t:Int):Int:=if t<0 then -1 else 1
def fF(t:Int):sgn t*t=(t.natAbs:Int):=by unfold sgn;split<;>omega
def zpc(t:Int):sgn t*sgn t=1:=by unfold sgn;split<;>rfl
def pT(T:Nat->Nat->Int)(d:Int)(r e:Nat):Nat->Nat->Int:=λi c=>sgn (T r e)*(if i=r then(if c=e then d else -T r c)else if c=e then T i e else(T i c*T r e-T i e*T r c).tdiv d)
structure TabI (n m:Nat)(a:Nat->Nat->Int)(nb bs:Nat->Nat)(T:Nat->Nat->Int)(d:Int):Prop where
 dp:0<d
 dd:Kx n (λc=>a (nb c))=d\/Kx n (λc=>a (nb c))= -d
 rep:∀i,i<=m->∀j,j<n->d*a (bs i) j=sm n λc=>T i c*a (nb c) j
section
variable {n m:Nat}{a:Nat->Nat->Int}{nb bs:Nat->Nat}
theorem TabI.ent(h:TabI n m a nb bs T d)(hi:i<=m)(g:c<n):T i c=Kx n (rw' (λc=>a (nb c)) c (a (bs i)))\/T i c= -Kx n (rw' (λc=>a (nb c)) c (a (bs i))):=by
 have b:=PQ (A:=λc=>a (nb c)) g (h.rep i hi);have:=h.dp;obtain e|e:=h.dd<;>rw[e]at b;left;exact(FZ Z (b.trans (ab2 _ _))).symm;right;have f:d*Kx n (rw' (λc=>a (nb c)) c (a (bs i)))=d* -T i c:=by rw[b];grind
 have:=FZ Z f;omega
def TabI.newdet(h:TabI n m a nb bs T d){e:Nat}(l:r<=m)(g:e<n):Kx n (λc=>a (Kt nb e (bs r) c))=T r e\/Kx n (λc=>a (Kt nb e (bs r) c))= -T r e:=by have b:(λc=>a (Kt nb e (bs r) c))=rw' (λc=>a (nb c)) e (a (bs r)):=(by funext c j;unfold Kt rw';split<;>rfl);rw[b];obtain f|f:=h.ent l g<;>omega
theorem TabI.newrow(h:TabI n m a nb bs T d){e:Nat}(p:r<=m)(o:e<n)(hi:i<=m)(j:Nat)(hj:j<n):T r e*d*a (bs i) j=sm n λc=>(if c=e then T i e*d else T i c*T r e-T i e*T r c)*a (Kt nb e (bs r) c) j:=by
 have g:=h.rep i hi j hj;have l:=h.rep r p j hj;rw[kc o]at g l⊢;have b:sm n (λc=>if c=e then 0 else(if c=e then T i e*d else T i c*T r e-T i e*T r c)*a (Kt nb e (bs r) c) j)=T r e*sm n (λc=>if c=e then 0 else T i c*a (nb c) j)+ -T i e*sm n (λc=>if c=e then 0 else T r c*a (nb c) j):=(by rw[<-oj,<-oj,<-Tg];refine tf λc q=>?_;by_cases hce:c=e;simp only[CQ hce];omega;simp only[CP hce,Kt];grind);rw[b,CQ rfl];have f:Kt nb e (bs r) e=bs r:=by unfold Kt;rw[CQ rfl]
 rw[f];generalize sm n (λc=>if c=e then 0 else T i c*a (nb c) j)=A at*;generalize sm n (λc=>if c=e then 0 else T r c*a (nb c) j)=R at*;grind
theorem TabI.exact(h:TabI n m a nb bs T d){e:Nat}(p:r<=m)(o:e<n)(hi:i<=m)(u:c<n)(q:T r e≠0)(l:c≠e):d∣T i c*T r e-T i e*T r c:=by
 have b:=PQ (A:=λc=>a (Kt nb e (bs r) c)) u (λj v=>h.newrow p o hi j v);rw[CP l]at b;generalize Kx n (rw' (λc=>a (Kt nb e (bs r) c)) c (a (bs i)))=D at b;obtain g|g:=h.newdet p o<;>rw[g]at b;have f:T r e*(d*D)=T r e*(T i c*T r e-T i e*T r c):=by rw[<-al2,b,ab2]
 exact⟨D,(FZ q f).symm⟩;have f:T r e*(d* -D)=T r e*(T i c*T r e-T i e*T r c):=by
  have:T r e*(d* -D)= -(T r e*d*D):=by grind
  rw[this,b];grind
 exact⟨-D,(FZ q f).symm⟩
def dY{x d:Int}(h:d∣x):d*x.tdiv d=x:=Int.mul_tdiv_cancel' h
theorem TabI.pivot(h:TabI n m a nb bs T d){e:Nat}(g:r<=m)(b:e<n)(A:T r e≠0):TabI n m a (Kt nb e (bs r)) (Kt bs r (nb e)) (pT T d r e) ((T r e).natAbs:Int):=by
 have B:=h.dp;refine⟨Z,?_,λi hi j p=>?_⟩;obtain f|f:=h.newdet g b<;>rw[f]<;>omega;have u:Kt nb e (bs r) e=bs r:=by unfold Kt;rw[CQ rfl]
 by_cases hir:i=r;subst hir;have y:=h.rep i g j p;have l:Kt bs i (nb e) i=nb e:=by unfold Kt;rw[CQ rfl]
 rw[l,kc b];rw[kc b]at y;have q:sm n (λc=>if c=e then 0 else pT T d i e i c*a (Kt nb e (bs i) c) j)= -sgn (T i e)*sm n (λc=>if c=e then 0 else T i c*a (nb c) j):=(by rw[<-oj];refine tf λc o=>?_;by_cases hce:c=e;simp only[CQ hce];omega;simp only[CP hce,Kt,pT,CQ];grind);rw[q,u];have v:pT T d i e i e=sgn (T i e)*d:=by unfold pT;rw[CQ ω,CQ rfl]
 rw[v,<-fF];generalize sm n (λc=>if c=e then 0 else T i c*a (nb c) j)=R at*;grind;have l:Kt bs r (nb e) i=bs i:=by unfold Kt;rw[CP hir]
 rw[l];have f:=h.newrow g b hi j p;refine FZ (a:=d) Z ?_;rw[<-oj,<-fF];have w:sm n (λc=>d*(pT T d r e i c*a (Kt nb e (bs r) c) j))=sgn (T r e)*sm n λc=>(if c=e then T i e*d else T i c*T r e-T i e*T r c)*a (Kt nb e (bs r) c) j:=(by rw[<-oj];refine tf λc o=>?_;by_cases hce:c=e;simp only[CQ hce,pT,CP hir];grind;have:=dY (h.exact g b hi o A hce);simp only[CP hce,pT,CP hir];generalize (T i c*T r e-T i e*T r c).tdiv d=Z0 at this⊢;rw[<-this];grind);rw[w,<-f];grind
def RepY(n m:Nat)(nb bs:Nat->Nat)(T:Nat->Nat->Int)(d:Int)(y:Nat->Rat):Prop:=∀i,i<=m->(d:Rat)*y (bs i)=Ks n λc=>(T i c:Rat)*y (nb c)
theorem wu{a b c:Rat}(h:a≠0)(e:a*b=a*c):b=c:=by grind
theorem RepY.pivot(h:TabI n m a nb bs T d){e:Nat}(w:r<=m)(u:e<n)(H:T r e≠0)(y:Nat->Rat):RepY n m (Kt nb e (bs r)) (Kt bs r (nb e)) (pT T d r e) ((T r e).natAbs:Int) y↔RepY n m nb bs T d y:=by
 have N:=h.dp;have F:(d:Rat)≠0:=λe=>by have:=EW.1 e;omega
 have I:(T r e:Rat)≠0:=λe=>H (EW.1 e);have P:((sgn (T r e):Int):Rat)*((sgn (T r e):Int):Rat)=1:=by rw[<-D4,zpc];rfl
 have f:(((T r e).natAbs:Int):Rat)=((sgn (T r e):Int):Rat)*(T r e:Rat):=by rw[<-fF,D4]
 have B:Kt nb e (bs r) e=bs r:=by unfold Kt;rw[CQ rfl]
 have q:∀i,Ks n (λc=>(T i c:Rat)*y (nb c))=Ks n (λc=>if c=e then 0 else(T i c:Rat)*y (nb c))+(T i e:Rat)*y (nb e):=λi=>uM u;have p:Ks n (λc=>(pT T d r e r c:Rat)*y (Kt nb e (bs r) c))= -((sgn (T r e):Int):Rat)*Ks n (λc=>if c=e then 0 else(T r c:Rat)*y (nb c))+((sgn (T r e):Int):Rat)*d*y (bs r):=by
  rw[uM u,B];have v:(pT T d r e r e:Rat)=((sgn (T r e):Int):Rat)*d:=by unfold pT;rw[CQ ω,CQ ω,D4]
  rw[v];congr 1;rw[<-wL];refine yg λc D=>?_;by_cases hce:c=e;simp only[CQ hce];grind;simp only[CP hce,Kt,pT,CQ];rw[D4,JH];grind
 have o:∀i,i<=m->i≠r->(d:Rat)*Ks n (λc=>(pT T d r e i c:Rat)*y (Kt nb e (bs r) c))=((sgn (T r e):Int):Rat)*((T r e:Rat)*Ks n (λc=>if c=e then 0 else(T i c:Rat)*y (nb c))-(T i e:Rat)*Ks n (λc=>if c=e then 0 else(T r c:Rat)*y (nb c))+(T i e:Rat)*d*y (bs r)):=λi hi b=>by
  rw[uM u,B];have v:(pT T d r e i e:Rat)=((sgn (T r e):Int):Rat)*(T i e:Rat):=by unfold pT;rw[CP b,CQ ω,D4]
  rw[v];have J:(d:Rat)*Ks n (λc=>if c=e then 0 else(pT T d r e i c:Rat)*y (Kt nb e (bs r) c))=((sgn (T r e):Int):Rat)*((T r e:Rat)*Ks n (λc=>if c=e then 0 else(T i c:Rat)*y (nb c))-(T i e:Rat)*Ks n (λc=>if c=e then 0 else(T r c:Rat)*y (nb c))):=(by rw[<-wL,<-wL,<-wL,<-Tm,<-wL];refine yg λc D=>?_;by_cases hce:c=e;simp only[CQ hce];grind;have K:=dY (h.exact w u hi D H hce);have M:(d:Rat)*(((T i c*T r e-T i e*T r c).tdiv d:Int):Rat)=(T i c:Rat)*T r e-(T i e:Rat)*T r c:=(by rw[<-D4,K,ag9,D4,D4]);simp only[CP hce,Kt,pT,CP b];rw[D4];generalize (((T i c*T r e-T i e*T r c).tdiv d:Int):Rat)=Z0 at M⊢;grind);rw[aq3,J];grind
 constructor;intro l;have j:=l r w;rw[p,f,show Kt bs r (nb e) r=nb e from by unfold Kt;rw[CQ rfl]]at j;generalize ((sgn (T r e):Int):Rat)=s at*;have G:(d:Rat)*y (bs r)=Ks n (λc=>if c=e then 0 else(T r c:Rat)*y (nb c))+(T r e:Rat)*y (nb e):=by
  have:s*(s*(T r e:Rat)*y (nb e))=s*(-s*Ks n (λc=>if c=e then 0 else(T r c:Rat)*y (nb c))+s*d*y (bs r)):=by rw[j]
  generalize Ks n (λc=>if c=e then 0 else(T r c:Rat)*y (nb c))=R at*;grind
 intro i hi;rw[q];by_cases b:i=r;rw[b];exact G;have g:=l i hi;rw[f,show Kt bs r (nb e) i=bs i from by unfold Kt;rw[CP b]]at g;have C:=o i hi b;rw[<-g]at C;generalize Ks n (λc=>if c=e then 0 else(T r c:Rat)*y (nb c))=R at*;generalize Ks n (λc=>if c=e then 0 else(T i c:Rat)*y (nb c))=A at*;refine wu I ?_;have Z1:s*((d:Rat)*(s*(T r e:Rat)*y (bs i)))=s*(s*((T r e:Rat)*A-(T i e:Rat)*R+(T i e:Rat)*d*y (bs r))):=by rw[C]
 grind;intro l i hi;have j:=l r w;rw[q]at j;by_cases b:i=r;subst b;rw[p,f,show Kt bs i (nb e) i=nb e from by unfold Kt;rw[CQ rfl]];generalize Ks n (λc=>if c=e then 0 else(T i c:Rat)*y (nb c))=R at*;grind;have g:=l i hi;rw[q]at g;rw[f,show Kt bs r (nb e) i=bs i from by unfold Kt;rw[CP b]];refine wu F ?_;rw[o i hi b];generalize Ks n (λc=>if c=e then 0 else(T r c:Rat)*y (nb c))=R at*;generalize Ks n (λc=>if c=e then 0 else(T i c:Rat)*y (nb c))=A at*;grind
end
structure PT where
 nb:Nat->Nat
 bs:Nat->Nat
 T:Nat->Nat->Int
 d:Int
structure PS extends PT where
 x:Nat->Rat
def PT.piv(t:PT)(r e:Nat):PT:=⟨Kt t.nb e (t.bs r),Kt t.bs r (t.nb e),pT t.T t.d r e,((t.T r e).natAbs:Int)⟩
section
variable (n m:Nat)(a:Nat->Nat->Int)(lo hi:Nat->Option Rat)(L:(Nat->Rat)->Prop)
def KX(m:Nat)(bs:Nat->Nat)(v:Nat):Prop:=∃i,i<m/\bs i=v
def LJ(v:Nat)(x:Rat):Prop:=lo v=ξ x\/hi v=ξ x\/lo v=θ/\hi v=θ/\x=0
structure PB (t:PT):Prop where
 tab:TabI n m a t.nb t.bs t.T t.d
 nv:∀c,c<n->t.nb c<n+m
 bv:∀i,i<m->t.bs i<n+m
 bm:t.bs m=n+m
 inj:∀c c',c<n->c'<n->t.nb c=t.nb c'->c=c'
 jnj:∀i i',i<m->i'<m->t.bs i=t.bs i'->i=i'
 dis:∀c i,c<n->i<m->t.nb c≠t.bs i
 cov:∀v,v<n+m->(∃c,c<n/\t.nb c=v)\/KX m t.bs v
 rep:∀y,L y↔RepY n m t.nb t.bs t.T t.d y
structure PInv (s:PS):Prop extends PB n m a L s.toPT where
 xL:L s.x
 bd:∀c,c<n->inBd lo hi (s.nb c) (s.x (s.nb c))/\LJ lo hi (s.nb c) (s.x (s.nb c))
open Classical in
noncomputable def LC(s:PS)(v:Nat):Nat:=if KX m s.bs v then 0 else if lo v=ξ (s.x v)then 1 else if hi v=ξ (s.x v)then 2 else 3
noncomputable def Lv(s:PS):Nat->Nat
 |0=>0
 |v+1=>Lv s v+LC m lo hi s v*4^v
end
section
variable {n m:Nat}{a:Nat->Nat->Int}{lo hi:Nat->Option Rat}{L:(Nat->Rat)->Prop}{s s':PS}
theorem zqr(v:Nat):LC m lo hi s v<=3:=by grind [LC]
def iI:∀v,Lv m lo hi s v<4^v
 |0=>JU
 |v+1=>by
  have h1:=iI v;have b:=C9 (4^v) (zqr (m:=m) (lo:=lo) (hi:=hi) (s:=s) v);show Lv m lo hi s v+LC m lo hi s v*4^v<4^(v+1);rw[Dj];omega
def znc:∀(V:Nat),Lv m lo hi s V=Lv m lo hi s' V->∀v,v<V->LC m lo hi s v=LC m lo hi s' v:=by
 intro V;induction V with
 |zero=>intro _ v h;exact CO h (Ed _)
 |succ V ih=>
  intro h v l;have h:Lv m lo hi s V+LC m lo hi s V*4^V=Lv m lo hi s' V+LC m lo hi s' V*4^V:=h;have g:=iI (m:=m) (lo:=lo) (hi:=hi) (s:=s) V;have j:=iI (m:=m) (lo:=lo) (hi:=hi) (s:=s') V;have e:LC m lo hi s V=LC m lo hi s' V:=(by have b:(Lv m lo hi s V+LC m lo hi s V*4^V)/4^V=LC m lo hi s V:=(by rw[Hi _ _ Z,EZ g,Dl]);have f:(Lv m lo hi s' V+LC m lo hi s' V*4^V)/4^V=LC m lo hi s' V:=(by rw[Hi _ _ Z,EZ j,Dl]);rw[<-b,<-f,h]);by_cases hV:v=V;rw[hV];exact e;refine ih ?_ v Z;rw[e]at h;omega
def PInv.nB(h:PInv n m a lo hi L s)(b:c<n):¬KX m s.bs (s.nb c):=λ⟨i,hi,e⟩=>h.dis c i b hi e.symm
def PInv.same(h:PInv n m a lo hi L s)(h':PInv n m a lo hi L s')(e:Lv m lo hi s (n+m)=Lv m lo hi s' (n+m)):(∀v,KX m s.bs v↔KX m s'.bs v)/\∀v,v<=n+m->s.x v=s'.x v:=by
 have f:=znc _ e;have G:∀v,v<n+m->(KX m s.bs v↔KX m s'.bs v):=λv b=>(by have:=f v b;unfold LC at this;by_cases h1:KX m s.bs v<;>by_cases h2:KX m s'.bs v;exact⟨λ_=>h2,λ_=>h1⟩;rw[CQ h1,CP h2]at this;split at this;cases this;split at this<;>cases this;rw[CP h1,CQ h2]at this;split at this;cases this;split at this<;>cases this;exact⟨λh=>CO h h1,λh=>CO h h2⟩);have j:∀v,KX m s.bs v↔KX m s'.bs v:=λv=>(by by_cases b:v<n+m;exact G v b;exact⟨λ⟨i,hi,e⟩=>CO (h.bv i hi) Z,λ⟨i,hi,e⟩=>CO (h'.bv i hi) Z⟩);refine⟨j,?_⟩;have w:∀c,c<n->s.x (s.nb c)=s'.x (s.nb c):=λc g=>(by have b:=h.nv c g;have B:=h.nB g;have C:¬KX m s'.bs (s.nb c):=λh=>B ((j _).2 h);have⟨D,q,F⟩:=(h'.cov _ b).resolve_right C;have o:=(h.bd c g).2;have l:=(h'.bd D q).2;rw[F]at l;have:=f _ b;unfold LC at this;rw[CP B,CP C]at this;unfold LJ at o l;by_cases l1:lo (s.nb c)=ξ (s.x (s.nb c));rw[CQ l1]at this;by_cases l2:lo (s.nb c)=ξ (s'.x (s.nb c));exact El (l1.symm.trans l2);rw[CP l2]at this;split at this<;>cases this;rw[CP l1]at this;by_cases l2:lo (s.nb c)=ξ (s'.x (s.nb c));rw[CQ l2]at this;split at this<;>cases this;rw[CP l2]at this;by_cases u1:hi (s.nb c)=ξ (s.x (s.nb c));rw[CQ u1]at this;by_cases u2:hi (s.nb c)=ξ (s'.x (s.nb c));exact El (u1.symm.trans u2);rw[CP u2]at this;cases this;rw[CP u1]at this;by_cases u2:hi (s.nb c)=ξ (s'.x (s.nb c));rw[CQ u2]at this;cases this;have z1:=(o.resolve_left l1).resolve_left u1;have z2:=(l.resolve_left l2).resolve_left u2;rw[z1.2.2,z2.2.2]);have y:=(h.rep _).1 h.xL;have A:=(h.rep _).1 h'.xL;have u:(s.d:Rat)≠0:=λe=>by have:=EW.1 e;have:=h.tab.dp;omega
 have p:∀i,i<=m->s.x (s.bs i)=s'.x (s.bs i):=λi hi=>(by refine wu u ?_;rw[y i hi,A i hi];exact yg λc f=>by rw[w c f]);intro v b;by_cases e:v=n+m;rw[e,<-h.bm];exact p m CS;obtain⟨c,f,rfl⟩|⟨i,hi,rfl⟩:=h.cov v Z;exact w c f;exact p i Z
end
def nT(S:PS->PS->Prop)(κ:PS->Nat)(k:Nat)(s:PS):Prop:=∃σ:Nat->PS,σ k=s/\(∀i,i<k->S (σ i) (σ (i+1)))/\∀i j,i<j->j<=k->κ (σ i)≠κ (σ j)
section
variable {S:PS->PS->Prop}{κ:PS->Nat}{s s':PS}
def nT.start:nT S κ 0 s:=⟨λ_=>s,ω,λi h=>CO h (Ed _),λi j b e=>Z⟩
def nT.next(l:∀(p:Nat) (τ:Nat->PS),0<p->(∀q,q<p->S (τ q) (τ (q+1)))->κ (τ p)=κ (τ 0)->False)(c:nT S κ k s)(h:S s s'):nT S κ (k+1) s':=by have⟨σ,o,u,v⟩:=c;have b:∀i,i<=k->(if i=k+1 then s' else σ i)=σ i:=λi hi=>CP Z;have f:∀i,i<k+1->S (if i=k+1 then s' else σ i) (if i+1=k+1 then s' else σ (i+1)):=λi hi=>(by rw[b i Z];by_cases h4:i=k;rw[h4,CQ ω,o];exact h;rw[CP Z];exact u i Z);refine⟨λi=>if i=k+1 then s' else σ i,CQ ω,f,λi j g w=>?_⟩;by_cases h4:j=k+1;subst h4;show κ (if i=k+1 then s' else σ i)≠κ (if k+1=k+1 then s' else σ (k+1));intro e;refine l (k+1-i) (λq=>if i+q=k+1 then s' else σ (i+q)) Z (λq y=>?_) ?_;have:=f (i+q) Z;rwa [show i+(q+1)=i+q+1 by omega];show κ (if i+(k+1-i)=k+1 then s' else _)=κ (if i+0=k+1 then s' else σ (i+0));rw[CQ Z,DV];rw[CQ rfl]at e;exact e.symm;show κ (if i=k+1 then s' else σ i)≠κ (if j=k+1 then s' else σ j);rw[b i Z,CP h4];exact v i j g Z
def PR:∀(K k:Nat) (f:Nat->Nat),(∀i,i<k->f i<K)->(∀i j,i<j->j<k->f i≠f j)->k<=K
 |0,k,f,h,_=>by
  by_cases h0:k=0
  .omega
  have:=h 0 Z;omega
 |K+1,k,f,h,hi=>by
  by_cases h1:∃p,p<k/\f p=K
  .obtain⟨p,q,u⟩:=h1;have:=PR K (k-1) (λi=>if i<p then f i else f (i+1)) (λi b=>?_) (λi j o v=>?_)
   .omega
   .show(if i<p then f i else f (i+1))<K;split
    .have g:=h i Z;have l:=hi i p Z q;omega
    have g:=h (i+1) Z;have l:=hi p (i+1) Z Z;omega
   show(if i<p then f i else f (i+1))≠(if j<p then f j else f (j+1));split
   .split
    .exact hi i j o Z
    exact hi i (j+1) Z Z
   rw[CP Z];exact hi (i+1) (j+1) Z Z
  have:=PR K k f (λi b=>by
   have g:=h i b;have l:f i≠K:=λe=>h1 ⟨i,b,e⟩;omega) hi
  omega
def nT.lt{K:Nat}(f:∀s,κ s<K)(c:nT S κ k s):k<K:=by have⟨σ,g,l,e⟩:=c;have:=PR K (k+1) (λi=>κ (σ i)) (λi _=>f _) (λi j b o=>e i j b Z);omega
end
end
section
variable {c i j:Nat}
def qM{f:Nat->α}{v:α}:Kt f k v k=v:=CQ rfl
def vi{f:Nat->α}{v:α}(h:c≠k):Kt f k v c=f c:=CP h
def KB(s:PS)(e:Nat)(δ:Rat):Nat->Nat->Rat
 |0=>Kt s.x (s.nb e) (s.x (s.nb e)+δ)
 |k+1=>Kt (KB s e δ k) (s.bs k) (KB s e δ k (s.bs k)+(s.T k e:Rat)/s.d*δ)
section
variable {n m e r:Nat}{a:Nat->Nat->Int}{lo hi:Nat->Option Rat}{L:(Nat->Rat)->Prop}{t:PT}{s:PS}
def PB.dN(h:PB n m a L t)(b:c<n)(hi:i<=m):t.nb c≠t.bs i:=by by_cases e:i=m;rw[e,h.bm];have:=h.nv c b;omega;exact h.dis c i b Z
def PB.jN(h:PB n m a L t)(hi:i<=m)(hj:j<=m)(e:t.bs i=t.bs j):i=j:=by by_cases e1:i=m<;>by_cases e2:j=m;omega;rw[e1,h.bm]at e;have:=h.bv j Z;omega;rw[e2,h.bm]at e;have:=h.bv i Z;omega;exact h.jnj i j Z Z e
def PB.d0(h:PB n m a L t):(t.d:Rat)≠0:=λe=>by have:=EW.1 e;have:=h.tab.dp;omega
def PB.dpos(h:PB n m a L t):0<(t.d:Rat):=FW.2 h.tab.dp
def oI{v:Nat}:∀{k:Nat},v≠s.nb e->(∀i,i<k->v≠s.bs i)->KB s e δ k v=s.x v
 |0,h,_=>vi h
 |k+1,h,h2=>(vi (h2 k Z)).trans (oI h λi hi=>h2 i Z)
def MQ(h:PB n m a L s.toPT)(he:e<n):∀{k:Nat},k<=m+1->KB s e δ k (s.nb e)=s.x (s.nb e)+δ
 |0,_=>qM
 |k+1,hk=>(vi (h.dN he Z)).trans (MQ h he Z)
def qT(h:PB n m a L s.toPT)(f:e<n)(b:c<n)(d:c≠e)(l:k<=m+1):KB s e δ k (s.nb c)=s.x (s.nb c):=
 oI (λq=>d (h.inj c e b f q)) λi hi=>h.dN b Z
def mQ(h:PB n m a L s.toPT)(b:e<n):∀{k:Nat},k<=m+1->i<k->KB s e δ k (s.bs i)=s.x (s.bs i)+(s.T i e:Rat)/s.d*δ
 |0,_,hi=>CO hi (Ed _)
 |k+1,hk,hi=>by
  show Kt (KB s e δ k) (s.bs k) _ (s.bs i)=_;by_cases q:i=k
  .subst q;rw[qM,oI (λq=>h.dN b Z q.symm) λj l q=>by have:=h.jN Z Z q;omega]
  rw[vi λf=>q (h.jN Z Z f)];exact mQ h b Z Z
theorem PInv.mvL(h:PInv n m a lo hi L s)(b:e<n):L (KB s e δ (m+1)):=by have u:=(h.rep _).1 h.xL;refine(h.rep _).2 λi hi=>?_;rw[mQ h.toPB b CS Z,aq3,u i hi];have p:=h.toPB.d0;rw[uM (f:=λc=>(s.T i c:Rat)*s.x (s.nb c)) b,uM (f:=λc=>(s.T i c:Rat)*KB s e δ (m+1) (s.nb c)) b,MQ h.toPB b CS];rw[yg (f:=λc=>if c=e then 0 else(s.T i c:Rat)*KB s e δ (m+1) (s.nb c)) (g:=λc=>if c=e then 0 else(s.T i c:Rat)*s.x (s.nb c)) λc o=>?_];have l:(s.d:Rat)*((s.T i e:Rat)/s.d*δ)=(s.T i e:Rat)*δ:=(by rw[<-HR,FL _ (_/_),Fj p]);rw[l];grind;by_cases q:c=e;rw[CQ q,CQ q];rw[CP q,CP q,qT h.toPB b o q CS]
theorem PB.piv(h:PB n m a L t)(l:r<m)(d:e<n)(A:t.T r e≠0):PB n m a L (t.piv r e):=by
 have u:=h.nv e d;have C:=h.bv r l;refine⟨h.tab.pivot Z d A,λc b=>?_,λi hi=>?_,?_,λc w b o q=>?_,λi B hi p q=>?_,λc i b hi q=>?_,λv u=>?_,λy=>(h.rep y).trans (RepY.pivot h.tab Z d A y).symm⟩
 .show Kt _ _ _ _<_;unfold Kt;split
  .exact C
  exact h.nv c b
 .show Kt _ _ _ _<_;unfold Kt;split
  .exact u
  exact h.bv i hi
 .exact(vi Z).trans h.bm
 .have q:Kt t.nb e (t.bs r) c=Kt t.nb e (t.bs r) w:=q;unfold Kt at q;split at q<;>split at q
  .omega
  .exact CO q.symm (h.dis _ _ o l)
  .exact CO q (h.dis _ _ b l)
  exact h.inj c w b o q
 .have q:Kt t.bs r (t.nb e) i=Kt t.bs r (t.nb e) B:=q;unfold Kt at q;split at q<;>split at q
  .omega
  .exact CO q (h.dis _ _ d p)
  .exact CO q.symm (h.dis _ _ d hi)
  exact h.jnj i B hi p q
 .have q:Kt t.nb e (t.bs r) c=Kt t.bs r (t.nb e) i:=q;unfold Kt at q;split at q<;>split at q
  .exact h.dis _ _ d l q.symm
  .next q1 f=>exact f (h.jnj _ _ l hi q).symm
  .next q1 f=>exact q1 (h.inj _ _ b d q)
  exact h.dis _ _ b hi q
 by_cases q:v=t.bs r
 .exact .inl ⟨e,d,qM.trans q.symm⟩
 rcases h.cov v u with⟨c,b,rfl⟩|⟨i,hi,rfl⟩
 .by_cases f:c=e
  .exact .inr ⟨r,l,qM.trans (by rw[f])⟩
  exact .inl ⟨c,b,vi f⟩
 exact .inr ⟨i,hi,vi λf=>q (by rw[f])⟩
theorem PB.Bpiv(h:PB n m a L t)(d:r<m)(v:Nat):KX m (t.piv r e).bs v↔v=t.nb e\/KX m t.bs v/\v≠t.bs r:=by
 constructor
 .rintro⟨i,hi,q⟩;have q:Kt t.bs r (t.nb e) i=v:=q;unfold Kt at q;split at q
  .exact .inl q.symm
  next b=>exact .inr ⟨⟨i,hi,q⟩,λf=>b (h.jnj i r hi d (q.trans f))⟩
 rintro(rfl|⟨⟨i,hi,rfl⟩,q⟩)
 .exact⟨r,d,qM⟩
 exact⟨i,hi,vi λb=>q (by rw[b])⟩
def PInv.step(h:PInv n m a lo hi L s)(l:r<m)(b:e<n)(o:s.T r e≠0)(hb:inBd lo hi (s.bs r) (KB s e δ (m+1) (s.bs r))/\LJ lo hi (s.bs r) (KB s e δ (m+1) (s.bs r))):PInv n m a lo hi L ⟨s.toPT.piv r e,KB s e δ (m+1)⟩:=by
 refine⟨h.toPB.piv l b o,h.mvL b,λc f=>?_⟩;show inBd lo hi ((PT.piv s.toPT r e).nb c) (KB s e δ (m+1) ((PT.piv s.toPT r e).nb c))/\LJ lo hi ((PT.piv s.toPT r e).nb c) (KB s e δ (m+1) ((PT.piv s.toPT r e).nb c));by_cases q:c=e;have d:Kt s.nb e (s.bs r) c=s.bs r:=by rw[q];exact qM
 rw[show(PT.piv s.toPT r e).nb c=s.bs r from d];exact hb;have d:Kt s.nb e (s.bs r) c=s.nb c:=vi q;rw[show(PT.piv s.toPT r e).nb c=s.nb c from d,qT h.toPB b f q CS];exact h.bd c f
def PInv.stay(h:PInv n m a lo hi L s)(b:e<n)(hb:inBd lo hi (s.nb e) (s.x (s.nb e)+δ)/\LJ lo hi (s.nb e) (s.x (s.nb e)+δ)):PInv n m a lo hi L ⟨s.toPT,KB s e δ (m+1)⟩:=by refine⟨h.toPB,h.mvL b,λc d=>?_⟩;show inBd lo hi (s.nb c) (KB s e δ (m+1) (s.nb c))/\LJ lo hi (s.nb c) (KB s e δ (m+1) (s.nb c));by_cases q:c=e;rw[q,MQ h.toPB b CS];exact hb;rw[qT h.toPB b d q CS];exact h.bd c d
end
section
variable (n m:Nat)(a:Nat->Nat->Int)(lo hi:Nat->Option Rat)(L:(Nat->Rat)->Prop)
def rdOf(s:PS)(r e:Nat)(low:Bool):RD:=⟨s.x,KX m s.bs,s.nb,λc=>(s.T r c:Rat),s.d,e,s.bs r,low⟩
def Viol(s:PS)(r:Nat)(low:Bool)(g:Rat):Prop:=if low then ∃l,lo (s.bs r)=ξ l/\s.x (s.bs r)<l/\g=l-s.x (s.bs r)else ∃u,hi (s.bs r)=ξ u/\u<s.x (s.bs r)/\g=u-s.x (s.bs r)
structure Vio (s:PS)(r:Nat)(low:Bool)(g:Rat):Prop where
 hr:r<m
 v:Viol lo hi s r low g
 sm:∀i,i<m->s.bs i<s.bs r->inBd lo hi (s.bs i) (s.x (s.bs i))
structure RepS (s:PS)(r e:Nat)(low:Bool)(g:Rat):Prop extends Vio m lo hi s r low g where
 he:e<n
 su:suit lo hi (rdOf m s r e low) e
 sms:∀c,c<n->s.nb c<s.nb e->¬suit lo hi (rdOf m s r e low) c
def repN(s:PS)(r e:Nat)(g:Rat):PS:=⟨s.toPT.piv r e,KB s e (g/((s.T r e:Rat)/s.d)) (m+1)⟩
def Tq(s s':PS):Prop:=PInv n m a lo hi L s/\∃r e low g,RepS n m lo hi s r e low g/\s'=repN m s r e g
end
section
variable {n m e r:Nat}{a:Nat->Nat->Int}{lo hi:Nat->Option Rat}{L:(Nat->Rat)->Prop}{s s':PS}{low:Bool}
theorem RepS.ne(h:RepS n m lo hi s r e low g):s.T r e≠0:=λq=>by
 have:=h.su;unfold suit rdOf at this;simp only[q]at this;have h0:¬(0:Rat)<((0:Int):Rat):=by decide
 have b:¬((0:Int):Rat)<0:=by decide
 grind
theorem repX(h:PB n m a L s.toPT)(o:e<n)(u:r<m)(p:s.T r e≠0):KB s e (g/((s.T r e:Rat)/s.d)) (m+1) (s.bs r)=s.x (s.bs r)+g:=by rw[mQ h o CS Z];have b:(s.T r e:Rat)≠0:=λq=>p (EW.1 q);have f:=h.d0;have l:(s.T r e:Rat)/s.d≠0:=λq=>b (by have:=Fj (a:=(s.T r e:Rat)) f;rw[q]at this;grind);rw[FL _ (g/_),Fj l]
theorem RepS.inv(h:RepS n m lo hi s r e low g)(f:∀v l u,lo v=ξ l->hi v=ξ u->l<=u)(o:PInv n m a lo hi L s):PInv n m a lo hi L (repN m s r e g):=by refine o.step h.hr h.he h.ne ?_;rw[repX o.toPB h.he h.hr h.ne];have d:=h.v;unfold Viol at d;split at d;obtain⟨l,b,p,rfl⟩:=d;rw[show s.x (s.bs r)+(l-s.x (s.bs r))=l by grind];exact⟨⟨λw q=>by rw[b]at q;cases q;exact Hy,λu q=>f _ _ _ b q⟩,.inl b⟩;obtain⟨u,b,p,rfl⟩:=d;rw[show s.x (s.bs r)+(u-s.x (s.bs r))=u by grind];exact⟨⟨λl q=>f _ _ _ q b,λy q=>by rw[b]at q;cases q;exact Hy⟩,.inr (.inl b)⟩
theorem RepS.stp(h:RepS n m lo hi s r e low g)(w:PInv n m a lo hi L s){f:RD}(H:∀v,f.B v↔KX m (repN m s r e g).bs v)(hx:∀v,v<n+m->f.x v=(repN m s r e g).x v):StepR n (n+m) L lo hi (rdOf m s r e low) f:=by
 have d:=w.toPB;have A:=d.bv r h.hr;refine⟨h.he,λc o=>⟨w.nB o,d.nv c o⟩,d.inj,⟨⟨r,h.hr,rfl⟩,A⟩,λv=>(H v).trans (d.Bpiv h.hr v),λv b p F=>?_,λv b p=>?_,?_,λv b p=>?_,d.dpos,λy I=>?_,w.xL,h.su,h.sms⟩
 .rw[hx v b];rcases d.cov v b with⟨c,o,rfl⟩|q
  .exact qT d h.he o (λq=>F (by rw[q];rfl)) CS
  exact CO q p
 .rcases d.cov v b with⟨c,o,rfl⟩|q
  .exact(w.bd c o).1
  exact CO q p
 .have b:=h.v;unfold Viol at b;show if low=φ then ∃l,lo (s.bs r)=ξ l/\s.x (s.bs r)<l/\f.x (s.bs r)=l else ∃u,hi (s.bs r)=ξ u/\u<s.x (s.bs r)/\f.x (s.bs r)=u
  have G:f.x (s.bs r)=s.x (s.bs r)+g:=(hx _ A).trans (repX d h.he h.hr h.ne);rw[G];split at b
  .next q=>
   rw[CQ q];obtain⟨l,C,D,rfl⟩:=b;exact⟨l,C,D,Ag⟩
  next q=>
  rw[CP q];obtain⟨l,C,D,rfl⟩:=b;exact⟨l,C,D,Ag⟩
 .obtain⟨i,hi,rfl⟩:=p;exact h.sm i hi b
 exact(d.rep y).1 I r (by have:=h.hr;omega)
theorem PU(h:PB n m a L s.toPT)(x y:Nat->Rat)(hx:L x)(l:L y):L λv=>x v-y v:=by have b:=(h.rep _).1 hx;have f:=(h.rep _).1 l;refine(h.rep _).2 λi hi=>?_;rw[show(s.d:Rat)*(x (s.bs i)-y (s.bs i))=s.d*x (s.bs i)-s.d*y (s.bs i)by grind,b i hi,f i hi,<-Tm];exact yg λc _=>by grind
def vz(i:Nat){p:Nat}(b:0<p):(i%p+1=p->(i+1)%p=0)/\(i%p+1≠p->(i+1)%p=i%p+1):=by have d:=Nat.div_add_mod i p;have f:=DS i b;refine⟨λh=>?_,λh=>?_⟩;rw[show i+1=p*(i/p+1)by rw[DW];omega,Nat.mul_mod_right];rw[show i+1=p*(i/p)+(i%p+1)by omega,Nat.mul_add_mod,Nat.mod_eq_of_lt Z]
def zmx(p:Nat)(τ:Nat->PS)(hp:0<p)(hs:∀q,q<p->Tq n m a lo hi L (τ q) (τ (q+1)))(hlh:∀v l u,lo v=ξ l->hi v=ξ u->l<=u)(hκ:Lv m lo hi (τ p) (n+m)=Lv m lo hi (τ 0) (n+m)):False:=by have hI:∀q,q<=p->PInv n m a lo hi L (τ q):=λq hq=>(by by_cases h:q=p;have⟨h1,r,e,low,g,h2,h3⟩:=hs (p-1) Z;rw[show p-1+1=q by omega]at h3;rw[h3];exact h2.inv hlh h1;exact(hs q Z).1);have hsame:=(hI p CS).same (hI 0 Z) hκ;have hc:∀i,∃D:RD,D.x=(τ (i%p)).x/\D.B=KX m (τ (i%p)).bs/\∀D':RD,(∀v,D'.B v↔KX m (τ (i%p+1)).bs v)->(∀v,v<n+m->D'.x v=(τ (i%p+1)).x v)->StepR n (n+m) L lo hi D D':=λi=>(by have⟨h1,r,e,low,g,h2,h3⟩:=hs (i%p) (DS _ hp);exact⟨_,ω,ω,λD' hB hx=>h2.stp h1 (by rw[<-h3];exact hB) (by rw[<-h3];exact hx)⟩);have⟨F,hF⟩:=Ge hc;let f:=λi=>F (i%p);have hf:∀i,(f i).x=(τ (i%p)).x/\(f i).B=KX m (τ (i%p)).bs/\∀D':RD,(∀v,D'.B v↔KX m (τ (i%p+1)).bs v)->(∀v,v<n+m->D'.x v=(τ (i%p+1)).x v)->StepR n (n+m) L lo hi (f i) D':=λi=>(by have:=hF (i%p);rw[aq4]at this;exact this);refine zp3 (n:=n) (V:=n+m) (lo:=lo) (hi:=hi) (f:=f) hp (PU (hI 0 Z).toPB) (λi=>?_) λi=>?_;have h1:=hf i;have h2:=hf (i+1);have hm:=DS i hp;refine h1.2.2 _ ?_ ?_;intro v;rw[h2.2.1];by_cases q:i%p+1=p;rw[q,(vz i hp).1 q];exact(hsame.1 v).symm;rw[(vz i hp).2 q];intro v hv;rw[h2.1];by_cases q:i%p+1=p;rw[q,(vz i hp).1 q];exact(hsame.2 v Z).symm;rw[(vz i hp).2 q];show F ((i+p)%p)=F (i%p);rw[ab8]
end
def ab(x:Rat):Rat:=if x<0 then -x else x
def rm(lo hi:Nat->Option Rat)(v:Nat)(x:Rat)(up:Bool):Option Rat:=if up then(hi v).map (· - x)else(lo v).map (x - ·)
def Kz(up:Bool):Rat:=if up then 1 else -1
section
variable (n m:Nat)(a:Nat->Nat->Int)(lo hi:Nat->Option Rat)(L:(Nat->Rat)->Prop)
def ent(s:PS)(up:Bool)(c:Nat):Prop:=if up then s.T m c<0/\cG hi (s.nb c) (s.x (s.nb c))else 0<s.T m c/\cS lo (s.nb c) (s.x (s.nb c))
structure Ent (s:PS)(e:Nat)(up:Bool):Prop where
 he:e<n
 im:ent m lo hi s up e
 sm:∀c,c<n->s.nb c<s.nb e->∀u,¬ent m lo hi s u c
def Lw(s:PS)(e:Nat)(up:Bool)(r:Option Nat)(ρ:Rat):Prop:=
 match r with
 |none=>rm lo hi (s.nb e) (s.x (s.nb e)) up=ξ ρ
 |some i=>i<m/\s.T i e≠0/\∃g,rm lo hi (s.bs i) (s.x (s.bs i)) (up==decide (0<s.T i e))=ξ g/\ρ=g/ab ((s.T i e:Rat)/s.d)
def OI(s:PS)(e:Nat)(r:Option Nat):Nat:=match r with|none=>s.nb e|some i=>s.bs i
structure OptS (s:PS)(e:Nat)(up:Bool)(r:Option Nat)(ρ:Rat):Prop extends Ent n m lo hi s e up where
 ch:Lw m lo hi s e up r ρ
 mn:∀r' ρ',Lw m lo hi s e up r' ρ'->ρ<ρ'\/ρ=ρ'/\OI s e r<=OI s e r'
def optN(s:PS)(e:Nat)(up:Bool)(r:Option Nat)(ρ:Rat):PS:=⟨match r with|none=>s.toPT|some i=>s.toPT.piv i e,KB s e (ρ*Kz up) (m+1)⟩
def Feas(s:PS):Prop:=∀i,i<m->inBd lo hi (s.bs i) (s.x (s.bs i))
def Ts(s s':PS):Prop:=PInv n m a lo hi L s/\Feas m lo hi s/\∃e up r ρ,OptS n m lo hi s e up r ρ/\s'=optN m s e up r ρ
end
section
variable {n m e:Nat}{a:Nat->Nat->Int}{lo hi:Nat->Option Rat}{L:(Nat->Rat)->Prop}{s s':PS}{up:Bool}{r:Option Nat}
theorem NK{v:Nat}{x g:Rat}(h:rm lo hi v x φ=ξ g):hi v=ξ (x+g):=by
 unfold rm at h;rw[CQ rfl]at h;cases q:hi v with
 |none=>rw[q]at h;cases h
 |some u=>rw[q]at h;cases h;rw[show x+(u-x)=u by grind]
theorem NL{v:Nat}{x g:Rat}(h:rm lo hi v x χ=ξ g):lo v=ξ (x-g):=by
 unfold rm at h;rw[CP EN]at h;cases q:lo v with
 |none=>rw[q]at h;cases h
 |some u=>rw[q]at h;cases h;rw[show x-(x-u)=u by grind]
def Tt{v:Nat}{x u:Rat}(h:hi v=ξ u):rm lo hi v x φ=ξ (u-x):=by unfold rm;rw[CQ ω,h];rfl
def Tu{v:Nat}{x l:Rat}(h:lo v=ξ l):rm lo hi v x χ=ξ (x-l):=by unfold rm;rw[CP EN,h];rfl
theorem Tv{v:Nat}{x g:Rat}(hb:inBd lo hi v x)(h:rm lo hi v x up=ξ g):0<=g:=by
 cases up with
 |true=>have:=hb.2 _ (NK h);grind
 |false=>have:=hb.1 _ (NL h);grind
def pO(x:Rat):(0:Rat)/x=0:=by rw[Hz,FK]
def ab_z{d:Rat}:ab (((0:Int):Rat)/d)=0:=by rw[show((0:Int):Rat)=0 from ω,pO];rfl
theorem lk{k:Rat}(h:k≠0):0<ab k:=by unfold ab;split<;>grind
theorem zrj{k:Rat}{b:Bool}(h:b=φ↔0<k):k*Kz up=ab k*Kz (up==b):=by have d:Kz φ=1:=rfl;have f:Kz χ= -1:=rfl;have l:k<0->ab k= -k:=λq=>CQ q;have o:¬k<0->ab k=k:=λq=>CP q;cases up<;>cases b<;>simp only[Bool.false_eq_true,beq_self_eq_true,Bool.false_beq,Bool.true_beq,Bool.not_true,false_iff,true_iff]at h⊢ <;>grind
theorem tE{g k:Rat}(h:k≠0):g/ab k*ab k=g:=Fj (by have:=lk h;grind)
theorem OJ{v:Nat}{x k:Rat}{u:Bool}(hb:inBd lo hi v x)(h0:0<=k)(h:∀g,rm lo hi v x u=ξ g->k<=g):inBd lo hi v (x+k*Kz u):=by
 cases u with
 |true=>
  show inBd lo hi v (x+k*1);exact⟨λl q=>by have:=hb.1 l q;grind,λu q=>by have:=h _ (Tt q);grind⟩
 |false=>
  show inBd lo hi v (x+k* -1);exact⟨λl q=>by have:=h _ (Tu q);grind,λu q=>by have:=hb.2 u q;grind⟩
theorem Tw{v:Nat}{x g:Rat}{u:Bool}(h:rm lo hi v x u=ξ g):LJ lo hi v (x+g*Kz u):=by
 cases u with
 |true=>exact .inr (.inl ((NK h).trans (by show ξ (x+g)=ξ (x+g*1);rw[HA])))
 |false=>exact .inl ((NL h).trans (by show ξ (x-g)=ξ (x+g* -1);congr 1;grind))
theorem PB.sgn(h:PB n m a L s.toPT){t:Int}:(decide (0<t)=φ↔0<(t:Rat)/s.d)/\(t≠0->(t:Rat)/s.d≠0)/\(t<0->(t:Rat)/s.d<0):=by
 have b:=Fj (a:=(t:Rat)) h.d0;have f:=h.dpos;generalize (t:Rat)/s.d=q at*;have l:(t:Rat)<0↔t<0:=by rw[show(0:Rat)=((0:Int):Rat)from rfl];exact G9
 rw[decide_eq_true_iff,<-FW (a:=t),<-l];refine⟨⟨λh=>?_,λh=>?_⟩,λh=>?_,λh=>?_⟩;obtain q|q:=xY (b▸h)<;>grind;rw[<-b];exact Fe h f;intro o;rw[o,FK]at b;exact h (EW.1 b.symm);obtain q|q:=yq (b▸h)<;>grind
def PInv.inb(b:PInv n m a lo hi L s)(d:Feas m lo hi s){v:Nat}(hv:v<n+m):inBd lo hi v (s.x v):=by obtain⟨c,f,rfl⟩|⟨i,hi,rfl⟩:=b.cov v hv;exact(b.bd c f).1;exact d i hi
theorem OptS.nn(h:OptS n m lo hi s e up r ρ)(f:PInv n m a lo hi L s)(A:Feas m lo hi s):0<=ρ:=by
 have l:=h.ch;cases r with
 |none=>exact Tv (f.bd e h.he).1 l
 |some i=>
  obtain⟨o,p,g,u,v⟩:i<m/\s.T i e≠0/\∃g,rm lo hi (s.bs i) (s.x (s.bs i)) (up==decide (0<s.T i e))=ξ g/\ρ=g/ab ((s.T i e:Rat)/s.d):=l;have B:=Tv (A i o) u;have b:=(f.toPB.sgn (t:=s.T i e)).2.1 p;have w:=tE (g:=g) b;have y:=lk b;rw[<-v]at w;refine Hx.1 λq=>?_;have:=Fe (show 0< -ρ by grind) y;grind
theorem OK(b:PInv n m a lo hi L s)(f:e<n)(hi:i<=m):KB s e (ρ*Kz up) (m+1) (s.bs i)=s.x (s.bs i)+ρ*ab ((s.T i e:Rat)/s.d)*Kz (up==decide (0<s.T i e)):=by rw[mQ b.toPB f CS Z];have:=zrj (up:=up) (b.toPB.sgn (t:=s.T i e)).1;grind
theorem OptS.row(h:OptS n m lo hi s e up r ρ)(l:PInv n m a lo hi L s)(f:Feas m lo hi s)(b:i<m):inBd lo hi (s.bs i) (KB s e (ρ*Kz up) (m+1) (s.bs i)):=by
 rw[OK l h.he Z];have w:=h.nn l f;by_cases q:s.T i e=0;rw[q,ab_z,H9,FK,II];exact f i b;have u:=(l.toPB.sgn (t:=s.T i e)).2.1 q;have v:=lk u;refine OJ (f i b) (HB w (Ft v)) λg y=>?_;have A:=h.mn (ξ i) (g/ab ((s.T i e:Rat)/s.d)) ⟨b,q,g,y,ω⟩;have o:=tE (g:=g) u;generalize g/ab ((s.T i e:Rat)/s.d)=ρ' at*;have p:ρ<=ρ':=by grind
 rw[<-o];exact Rat.mul_le_mul_of_nonneg_right p (Ft v)
theorem OptS.own(h:OptS n m lo hi s e up r ρ)(b:PInv n m a lo hi L s)(d:Feas m lo hi s):inBd lo hi (s.nb e) (s.x (s.nb e)+ρ*Kz up):=
 OJ (b.bd e h.he).1 (h.nn b d) λg f=>by have:=h.mn θ g f;grind
def OptS.inv(h:OptS n m lo hi s e up r ρ)(b:PInv n m a lo hi L s)(f:Feas m lo hi s):PInv n m a lo hi L (optN m s e up r ρ)/\Feas m lo hi (optN m s e up r ρ):=by
 have p:=h.ch;cases r with
 |none=>exact⟨b.stay h.he ⟨h.own b f,Tw p⟩,λi u=>h.row b f u⟩
 |some i=>
  obtain⟨l,o,g,v,w⟩:i<m/\s.T i e≠0/\∃g,rm lo hi (s.bs i) (s.x (s.bs i)) (up==decide (0<s.T i e))=ξ g/\ρ=g/ab ((s.T i e:Rat)/s.d):=p;refine⟨b.step l h.he o ⟨h.row b f l,?_⟩,λj y=>?_⟩;rw[OK b h.he Z,w,tE ((b.toPB.sgn (t:=s.T i e)).2.1 o)];exact Tw v;show inBd lo hi (Kt s.bs i (s.nb e) j) (KB s e (ρ*Kz up) (m+1) (Kt s.bs i (s.nb e) j));by_cases q:j=i;rw[q,qM,MQ b.toPB h.he CS];exact h.own b f;rw[vi q];exact h.row b f y
theorem OptS.desc(h:OptS n m lo hi s e up r ρ)(l:PInv n m a lo hi L s):∃k,k<0/\KB s e (ρ*Kz up) (m+1) (n+m)=s.x (n+m)+k*ρ:=by
 have f:=mQ (δ:=ρ*Kz up) l.toPB h.he (Ez (m+1)) (FD m);rw[l.bm]at f;have b:=h.im;unfold ent at b;have o:=l.toPB.sgn (t:=s.T m e);cases up with
 |true=>
  rw[CQ rfl]at b;exact⟨_,o.2.2 b.1,f.trans (by show _+_*(ρ*1)=_;rw[HA])⟩
 |false=>
  rw[CP EN]at b;have:=o.1.1 (by rw[decide_eq_true_iff];exact b.1);exact⟨-((s.T m e:Rat)/s.d),Ag,f.trans (by show _+_*(ρ* -1)=_;grind)⟩
def mvx0:∀k,KB s e 0 k=s.x
 |0=>by
  funext v;show Kt _ _ _ v=_;unfold Kt;split
  .next h=>rw[h,II]
  rfl
 |k+1=>by
  show Kt (KB s e 0 k) _ _=_;rw[mvx0 k];funext v;unfold Kt;split
  .next h=>rw[h,H9,II]
  rfl
def odOf(m:Nat)(s:PS)(e:Nat)(up:Bool)(i:Nat):OD:=⟨s.x,KX m s.bs,s.nb,λc=>(s.T m c:Rat),s.d,e,s.bs i,λv=>KB s e (Kz up) (m+1) v-s.x v⟩
def bn:impr lo hi (odOf m s e up i) c↔∃u,ent m lo hi s u c:=by
 have f:((s.T m c:Rat)<0↔s.T m c<0):=by rw[show(0:Rat)=((0:Int):Rat)from rfl];exact G9
 have l:((0:Rat)<(s.T m c:Rat)↔0<s.T m c):=FW;constructor;rintro(⟨b,d⟩|⟨b,d⟩);exact⟨φ,f.1 b,d⟩;exact⟨χ,l.1 b,d⟩;rintro⟨u,q⟩;cases u with
 |true=>exact .inl ⟨f.2 q.1,q.2⟩
 |false=>exact .inr ⟨l.2 q.1,q.2⟩
theorem OptS.stp(h:OptS n m lo hi s e up (ξ i) 0)(w:PInv n m a lo hi L s)(K:Feas m lo hi s){G:OD}(Z0:∀v,G.B v↔KX m (optN m s e up (ξ i) 0).bs v)(hx:∀v,v<n+m->G.x v=s.x v):StepO n (n+m) (n+m) L lo hi (odOf m s e up i) G:=by
 have b:=w.toPB;obtain⟨D,J,g,H,V⟩:i<m/\s.T i e≠0/\∃g,rm lo hi (s.bs i) (s.x (s.bs i)) (up==decide (0<s.T i e))=ξ g/\0=g/ab ((s.T i e:Rat)/s.d):=h.ch;have M:=b.bv i D;have Z1:KB s e (Kz up) (m+1) (s.nb e)-s.x (s.nb e)=Kz up:=by rw[MQ b h.he CS];grind
 have F:∀j,j<m->KB s e (Kz up) (m+1) (s.bs j)-s.x (s.bs j)=ab ((s.T j e:Rat)/s.d)*Kz (up==decide (0<s.T j e)):=λj A=>(by have:=OK (ρ:=1) (up:=up) w h.he (i:=j) Z;rw[Jg,Jg]at this;rw[this];grind);have P:g=0:=(by have:=tE (g:=g) ((b.sgn (t:=s.T i e)).2.1 J);rw[<-V,FK]at this;exact this.symm);subst P;refine⟨h.he,λc o=>⟨w.nB o,b.nv c o⟩,λv p I=>(b.cov v p).resolve_right I,b.inj,⟨⟨i,D,ω⟩,M⟩,λv=>(Z0 v).trans (b.Bpiv D v),λv p=>hx v p,b.dpos,λy hy=>?_,(bn).2 ⟨up,h.im⟩,λc o S q=>?_,PU b _ _ (w.mvL h.he) w.xL,?_,λc o N=>?_,?_,λv p I=>?_⟩;have:=(b.rep y).1 hy m CS;rw[b.bm]at this;exact this;have⟨u,q⟩:=(bn).1 q;exact h.sm c o S u q;show(s.T m e:Rat)*(KB s e (Kz up) (m+1) (s.nb e)-s.x (s.nb e))<0;rw[Z1];have f:=h.im;unfold ent at f;cases up with
 |true=>
  rw[CQ rfl]at f;have:(s.T m e:Rat)<0:=by rw[show(0:Rat)=((0:Int):Rat)from rfl];exact G9.2 f.1
  show _*(1:Rat)<0;grind
 |false=>
  rw[CP EN]at f;have:(0:Rat)<(s.T m e:Rat):=FW.2 f.1;show _*(-1:Rat)<0;grind
 show KB s e (Kz up) (m+1) (s.nb c)-s.x (s.nb c)=0;rw[qT b h.he o N CS];grind;show(0<KB s e (Kz up) (m+1) (s.bs i)-s.x (s.bs i)->_)/\(KB s e (Kz up) (m+1) (s.bs i)-s.x (s.bs i)<0->_);rw[F i D];have hk:=lk ((b.sgn (t:=s.T i e)).2.1 J);generalize (up==decide (0<s.T i e))=u at H;cases u with
 |true=>exact⟨λ_=>⟨_,NK H,by show _<=s.x (s.bs i);grind⟩,λq=>by have:ab ((s.T i e:Rat)/s.d)*1<0:=q;grind⟩
 |false=>exact⟨λq=>by have:0<ab ((s.T i e:Rat)/s.d)* -1:=q;grind,λ_=>⟨_,NL H,by show s.x (s.bs i)<=_;grind⟩⟩
 obtain⟨j,A,rfl⟩:=I;show(0<KB s e (Kz up) (m+1) (s.bs j)-s.x (s.bs j)->cG hi (s.bs j) (s.x (s.bs j)))/\(KB s e (Kz up) (m+1) (s.bs j)-s.x (s.bs j)<0->cS lo (s.bs j) (s.x (s.bs j)));rw[F j A];have p:s.bs j<s.bs i:=p;by_cases q:s.T j e=0;rw[q,ab_z,FK];exact⟨λq=>CO q Gk,λq=>CO q Gk⟩;have hk:=lk ((b.sgn (t:=s.T j e)).2.1 q);have C:∀g,rm lo hi (s.bs j) (s.x (s.bs j)) (up==decide (0<s.T j e))=ξ g->g≠0:=λg hg q0=>(by have:=h.mn (ξ j) 0 ⟨A,q,g,hg,by rw[q0,pO]⟩;obtain q|⟨_,q⟩:=this;exact CO q Gk;have:s.bs i<=s.bs j:=q;omega);generalize (up==decide (0<s.T j e))=u at C;cases u with
 |true=>
  refine⟨λ_ u Z4=>?_,λq=>by have:ab ((s.T j e:Rat)/s.d)*1<0:=q;grind⟩;have W:=C _ (Tt Z4);have Z3:=(K j A).2 u Z4;grind
 |false=>
  refine⟨λq=>by have:0<ab ((s.T j e:Rat)/s.d)* -1:=q;grind,λ_ l R=>?_⟩;have W:=C _ (Tu R);have Z3:=(K j A).1 l R;grind
theorem OptS.own0(h:OptS n m lo hi s e up θ 0):False:=by
 have b:=h.im;have d:rm lo hi (s.nb e) (s.x (s.nb e)) up=ξ 0:=h.ch;unfold ent at b;cases up with
 |true=>have:=b.2 _ (NK d);grind
 |false=>have:=b.2 _ (NL d);grind
theorem zmy(p:Nat)(τ:Nat->PS)(hp:0<p)(hs:∀q,q<p->Ts n m a lo hi L (τ q) (τ (q+1)))(hκ:Lv m lo hi (τ p) (n+m)=Lv m lo hi (τ 0) (n+m)):False:=by
 have hI:∀q,q<=p->PInv n m a lo hi L (τ q):=λq hq=>(by by_cases h:q=p;have⟨h1,hF,e,up,r,ρ,h2,h3⟩:=hs (p-1) Z;rw[show p-1+1=q by omega]at h3;rw[h3];exact(h2.inv h1 hF).1;exact(hs q Z).1);have hsame:=(hI p CS).same (hI 0 Z) hκ;have hdesc:∀q,q<p->(τ (q+1)).x (n+m)<=(τ q).x (n+m):=λq hq=>(by have⟨h1,hF,e,up,r,ρ,h2,h3⟩:=hs q hq;have⟨k,hk,h4⟩:=h2.desc h1;have h5:=h2.nn h1 hF;rw[h3];show KB (τ q) e (ρ*Kz up) (m+1) (n+m)<=_;rw[h4];have:=HB (show 0<= -k by grind) h5;grind);have hle:∀q,q<=p->(τ q).x (n+m)<=(τ 0).x (n+m)/\(τ p).x (n+m)<=(τ (p-q)).x (n+m):=λq=>by
  induction q with
  |zero=>intro _;exact⟨Hy,Hy⟩
  |succ q ih=>
   intro hq;have h1:=ih Z;have h2:=hdesc q Z;have h3:=hdesc (p-(q+1)) Z;rw[show p-(q+1)+1=p-q by omega]at h3;exact⟨Ag,Ag⟩
 have hall:∀q,q<=p->(τ q).x (n+m)=(τ 0).x (n+m):=λq hq=>(by have h1:=(hle q hq).1;have h2:=(hle (p-q) Z).2;rw[show p-(p-q)=q by omega,hsame.2 _ CS]at h2;grind);have hc:∀i,∃D:OD,D.x=(τ (i%p)).x/\D.B=KX m (τ (i%p)).bs/\(∀v,(τ (i%p+1)).x v=(τ (i%p)).x v)/\∀D':OD,(∀v,D'.B v↔KX m (τ (i%p+1)).bs v)->(∀v,v<n+m->D'.x v=(τ (i%p)).x v)->StepO n (n+m) (n+m) L lo hi D D':=λi=>by
  have hm:=DS i hp;have⟨h1,hF,e,up,r,ρ,h2,h3⟩:=hs (i%p) hm;have⟨k,hk,h4⟩:=h2.desc h1;have h5:=h2.nn h1 hF;have h6:(τ (i%p+1)).x (n+m)=(τ (i%p)).x (n+m)+k*ρ:=by rw[h3];exact h4
  rw[hall _ Z,hall _ Z]at h6;have h7:ρ=0:=(by refine Df λq=>?_;have:=Fe (show 0< -k by grind) (show 0<ρ by grind);grind);subst h7;cases r with
  |none=>exact CO h2.own0 id
  |some j=>
   refine⟨_,ω,ω,λv=>?_,λD' hB hx=>h2.stp h1 hF (by rw[<-h3];exact hB) hx⟩;rw[h3];show KB (τ (i%p)) e (0*Kz up) (m+1) v=_;rw[FK,mvx0]
 have⟨F,hF⟩:=Ge hc;let f:=λi=>F (i%p);have hf:∀i,(f i).x=(τ (i%p)).x/\(f i).B=KX m (τ (i%p)).bs/\(∀v,(τ (i%p+1)).x v=(τ (i%p)).x v)/\∀D':OD,(∀v,D'.B v↔KX m (τ (i%p+1)).bs v)->(∀v,v<n+m->D'.x v=(τ (i%p)).x v)->StepO n (n+m) (n+m) L lo hi (f i) D':=λi=>(by have:=hF (i%p);rw[aq4]at this;exact this);refine zp4 (n:=n) (V:=n+m) (obj:=n+m) (L:=L) (lo:=lo) (hi:=hi) (f:=f) hp (λi=>?_) λi=>?_;have h1:=hf i;have h2:=hf (i+1);have hm:=DS i hp;refine h1.2.2.2 _ ?_ ?_;intro v;rw[h2.2.1];by_cases q:i%p+1=p;rw[q,(vz i hp).1 q];exact(hsame.1 v).symm;rw[(vz i hp).2 q];intro v hv;rw[h2.1,<-h1.2.2.1 v];by_cases q:i%p+1=p;rw[q,(vz i hp).1 q];exact(hsame.2 v Z).symm;rw[(vz i hp).2 q];show F ((i+p)%p)=F (i%p);rw[ab8]
end
end
theorem PV{n:Nat}{f:Nat->Rat}(h:∀c,c<n->0<=f c):0<=Ks n f:=by induction n<;>grind [Ks]
section
variable {n m e r:Nat}{a:Nat->Nat->Int}{lo hi:Nat->Option Rat}{L:(Nat->Rat)->Prop}{s:PS}{up low:Bool}
theorem oK{t D:Rat}(b:0<t->0<=D)(c:t<0->D<=0):0<=t*D:=by grind [yq,Hx.1]
def PB.rowD(h:PB n m a L s.toPT)(hx:L s.x)(b:L y){i:Nat}(hi:i<=m):(s.d:Rat)*(y (s.bs i)-s.x (s.bs i))=Ks n λc=>(s.T i c:Rat)*(y (s.nb c)-s.x (s.nb c)):=
 (h.rep _).1 (PU h _ _ b hx) i hi
def aE{t:Int}:(t:Rat)<0↔t<0:=by rw[show(0:Rat)=((0:Int):Rat)from rfl];exact G9
theorem PInv.opt(b:PInv n m a lo hi L s)(w:∀c u,c<n->¬ent m lo hi s u c)(D:L y)(hb:∀v,v<n+m->inBd lo hi v (y v)):s.x (n+m)<=y (n+m):=by have p:=b.toPB.rowD b.xL D (Ez m);rw[b.bm]at p;have F:0<=(s.d:Rat)*(y (n+m)-s.x (n+m)):=(by rw[p];refine PV λc f=>oK (λq=>?_) λq=>?_;have⟨l,B,A⟩:=mO λo=>w c χ f ⟨FW.1 q,o⟩;have:=(hb _ (b.nv c f)).1 l B;grind;have⟨u,C,A⟩:=mP λo=>w c φ f ⟨aE.1 q,o⟩;have:=(hb _ (b.nv c f)).2 u C;grind);refine Hx.1 λq=>?_;have:=Fe b.toPB.dpos (show 0<s.x (n+m)-y (n+m)by grind);grind
theorem Vio.inf(d:PInv n m a lo hi L s)(hv:Vio m lo hi s r low g)(p:∀c,c<n->¬suit lo hi (rdOf m s r e low) c)(K:L y)(hb:∀v,v<n+m->inBd lo hi v (y v)):False:=by
 have F:=d.toPB.rowD d.xL K (EB hv.hr);have H:=hb _ (d.bv r hv.hr);have o:=hv.v;have G:=d.toPB.dpos;unfold Viol at o;unfold suit rdOf at p;cases low with
 |true=>
  rw[CQ rfl]at o;have⟨l,w,I,_⟩:=o;have J:=H.1 l w;have A:0<=Ks n λc=> -1*((s.T r c:Rat)*(y (s.nb c)-s.x (s.nb c))):=PV λc b=>by
   have:0<=(s.T r c:Rat)*(s.x (s.nb c)-y (s.nb c)):=oK (λq=>by
    have⟨u,D,B⟩:=mP λf=>p c b (.inl ⟨q,f⟩);have:=(hb _ (d.nv c b)).2 u D;grind) λq=>by
    have⟨l,C,B⟩:=mO λf=>p c b (.inr ⟨q,f⟩);have:=(hb _ (d.nv c b)).1 l C;grind
   grind
  rw[wL,<-F]at A;have:=Fe G (show 0<y (s.bs r)-s.x (s.bs r)by grind);grind
 |false=>
  rw[CP EN]at o;have⟨l,w,I,_⟩:=o;have J:=H.2 l w;have A:0<=Ks n λc=>(s.T r c:Rat)*(y (s.nb c)-s.x (s.nb c)):=PV λc b=>oK (λq=>by
   have⟨l,C,B⟩:=mO λf=>p c b (.inr ⟨q,f⟩);have:=(hb _ (d.nv c b)).1 l C;grind) λq=>by
   have⟨u,D,B⟩:=mP λf=>p c b (.inl ⟨q,f⟩);have:=(hb _ (d.nv c b)).2 u D;grind
  rw[<-F]at A;have:=Fe G (show 0<s.x (s.bs r)-y (s.bs r)by grind);grind
def rayV(t:PT)(e:Nat)(up:Bool)(k:Nat):Nat->Rat:=KB ⟨t,λ_=>0⟩ e (Kz up) k
theorem qt(q:Rat):∀k v,KB s e (q*Kz up) k v=s.x v+q*rayV s.toPT e up k v
 |0,v=>by
  show Kt s.x (s.nb e) (s.x (s.nb e)+q*Kz up) v=s.x v+q*Kt (λ_=>(0:Rat)) (s.nb e) (0+Kz up) v;unfold Kt;split
  .next h=>rw[h];grind
  grind
 |k+1,v=>by
  have h1:=qt q k (s.bs k);have b:=qt q k v;show Kt (KB s e (q*Kz up) k) (s.bs k) (KB s e (q*Kz up) k (s.bs k)+(s.T k e:Rat)/s.d*(q*Kz up)) v=s.x v+q*Kt (rayV s.toPT e up k) (s.bs k) (rayV s.toPT e up k (s.bs k)+(s.T k e:Rat)/s.d*Kz up) v;unfold Kt;split
  .next h=>rw[h,h1];grind
  exact b
theorem Ent.unb(b:PInv n m a lo hi L s)(A:Feas m lo hi s)(l:Ent n m lo hi s e up)(C:∀r ρ,¬Lw m lo hi s e up r ρ){q:Rat}(p:0<q):L (λv=>s.x v+q*rayV s.toPT e up (m+1) v)/\(∀v,v<n+m->inBd lo hi v (s.x v+q*rayV s.toPT e up (m+1) v))/\s.x (n+m)+q*rayV s.toPT e up (m+1) (n+m)<s.x (n+m):=by
 have F:(λv=>s.x v+q*rayV s.toPT e up (m+1) v)=KB s e (q*Kz up) (m+1):=(by funext v;exact(qt q (m+1) v).symm);refine⟨F▸b.mvL l.he,λv I=>?_,?_⟩;rw[<-qt];obtain⟨c,B,rfl⟩|⟨i,o,rfl⟩:=b.cov v I;by_cases hce:c=e;rw[hce,MQ b.toPB l.he CS];exact OJ (b.bd e l.he).1 (Ft p) λg u=>CO u (C θ g);rw[qT b.toPB l.he B hce CS];exact(b.bd c B).1;rw[OK b l.he Z];by_cases q0:s.T i e=0;rw[q0,ab_z,H9,FK,II];exact A i o;have H:=lk ((b.toPB.sgn (t:=s.T i e)).2.1 q0);exact OJ (A i o) (HB (Ft p) (Ft H)) λg u=>CO ⟨o,q0,g,u,ω⟩ (C (ξ i) _);rw[<-qt];have w:=mQ (δ:=q*Kz up) b.toPB l.he (Ez (m+1)) (FD m);rw[b.bm]at w;rw[w];have f:=l.im;have D:=b.toPB.sgn (t:=s.T m e);unfold ent at f;cases up with
 |true=>
  rw[CQ rfl]at f;have G:=Fe (show 0< -((s.T m e:Rat)/s.d)by have:=D.2.2 f.1;grind) p;show _+_*(q*1)<_;grind
 |false=>
  rw[CP EN]at f;have G:=Fe (D.1.1 (by rw[decide_eq_true_iff];exact f.1)) p;show _+_*(q* -1)<_;grind
end
theorem bV:∀{n:Nat} {A:Nat->Nat->Int} {M P k:Nat},k<n->(∀i j,i<n->j<n->i≠k->(A i j).natAbs<=M)->(∀j,j<n->(A k j).natAbs<=P)->(Kx n A).natAbs<=K0 n*(M^(n-1)*P):=by
 intro n;induction n with
 |zero=>intro A M P k h;omega
 |succ n ih=>
  intro A M P k p h c;have l:(sm (n+1) λr=>Mc r*A r 0*Kx n λi j=>A (sk r i) (j+1)).natAbs<=(n+1)*(K0 n*(M^n*P)):=cD λr o=>(by rw[D6,D6,Tl,Et];by_cases e:r=k;subst e;have b:(Kx n λi j=>A (sk r i) (j+1)).natAbs<=K0 n*M^n:=df λi j hi d=>h _ _ AB Z Th;have:=DG (c 0 Z) b;rw[show K0 n*(M^n*P)=P*(K0 n*M^n)by grind];exact this;have u:0<n:=Z;have b:(Kx n λi j=>A (sk r i) (j+1)).natAbs<=K0 n*(M^(n-1)*P):=ih (k:=ks r k) (by unfold ks;split<;>omega) (λi j hi d f=>h _ _ AB Z λq=>f ((OH e).1 q)) λj d=>(by have q:sk r (ks r k)=k:=(OH e).2 rfl;show(A (sk r (ks r k)) (j+1)).natAbs<=P;rw[q];exact c _ Z);have:=DG (h r 0 o Z e) b;refine Dy this (an8 ?_);rw[show M^n=M^(n-1)*M by rw[<-Dj];congr 1;omega];grind);show(sm (n+1) _).natAbs<=(n+1)*K0 n*(M^n*P);rw[Dp];exact l
def pr(κ:Nat->Int):Nat->Int
 |0=>1
 |n+1=>pr κ n*κ n
def TC{κ:Nat->Int}:∀{n:Nat},(∀c,c<n->0<κ c)->0<pr κ n
 |0,_=>show(0:Int)<1 by decide
 |n+1,h=>G3 (TC λc hc=>h c Z) (h n Z)
def TE{n:Nat}(A:Nat->Nat->Int){k:Nat}(b:k<n)(q:Int)(u:Nat->Int):Kx n (rw' A k λj=>q*u j)=q*Kx n (rw' A k u):=by have h:=nj A k q 0 u u b;simp only[GI,IJ]at h;exact h
theorem ni{n:Nat}(A:Nat->Nat->Int)(κ:Nat->Int):Kx n (λi j=>κ i*A i j)=pr κ n*Kx n A:=by
 have h:∀p,p<=n->Kx n (λi j=>if i<p then κ i*A i j else A i j)=pr κ p*Kx n A:=by
  intro p;induction p with
  |zero=>intro _;simp only[Ed,if_false];show _=1*_;rw[Jd]
  |succ p ih=>
   intro f;have d:=TE (n:=n) (λi j=>if i<p then κ i*A i j else A i j) (k:=p) Z (κ p) (A p);have b:(λi j=>if i<p+1 then κ i*A i j else A i j)=rw' (λi j=>if i<p then κ i*A i j else A i j) p (λj=>κ p*A p j):=(by funext i j;unfold rw';by_cases q:i=p;rw[CQ q,CQ Z,q];rw[CP q];show _=if i<p then _ else _;by_cases q2:i<p;rw[CQ q2,CQ Z];rw[CP q2,CP Z]);have c:rw' (λi j=>if i<p then κ i*A i j else A i j) p (A p)=λi j=>if i<p then κ i*A i j else A i j:=(by funext i j;unfold rw';by_cases q:i=p;rw[CQ q];show _=if i<p then _ else _;rw[CP Z,q];rw[CP q]);rw[b,d,c,ih Z];show _=pr κ p*κ p*_;grind
 rw[<-h n CS];exact Nm λi j hi _=>(CQ hi).symm
theorem TG{n:Nat}{f:Nat->Int}:((sm n f:Int):Rat)=Ks n λc=>(f c:Rat):=by induction n<;>simp_all [sm,Ks,Rat.intCast_add]
theorem vert{n:Nat}{A:Nat->Nat->Int}{d:Int}{k z:Nat->Int}{x:Nat->Rat}{f t:Nat->Int}{y:Rat}(G:d≠0)(H:∀c,c<n->(k c:Rat)*x c=z c)(u:∀j,j<n->d*f j=sm n λc=>t c*A c j)(w:(d:Rat)*y=Ks n λc=>(t c:Rat)*x c):((Kx n λc j=>k c*A c j:Int):Rat)*y=((sm n λc=>Kx n (rw' (λc j=>k c*A c j) c f)*z c:Int):Rat):=by
 have o:(d:Rat)≠0:=λe=>G (EW.1 e);refine wu o ?_;rw[ni,TG,<-wL,show(d:Rat)*(((pr k n*Kx n A:Int):Rat)*y)=((pr k n*Kx n A:Int):Rat)*((d:Rat)*y)by grind,w,<-wL];refine yg λc b=>?_;have B:=PQ (A:=A) b u;have l:=TE (λc j=>k c*A c j) b (k c) f;have p:rw' (λc j=>k c*A c j) c (λj=>k c*f j)=λi j=>k i*rw' A c f i j:=(by funext i j;unfold rw';by_cases q:i=c;rw[CQ q,CQ q,q];rw[CP q,CP q]);rw[p,ni]at l;have C:=H c b;have D:((pr k n*Kx n (rw' A c f):Int):Rat)=((k c*Kx n (rw' (λc j=>k c*A c j) c f):Int):Rat):=by rw[l]
 have F:((d*Kx n (rw' A c f):Int):Rat)=((t c*Kx n A:Int):Rat):=by rw[B]
 rw[D4,D4]at D F;rw[D4,D4,<-C];generalize ((Kx n (rw' (λc j=>k c*A c j) c f):Int):Rat)=X at*;generalize ((Kx n (rw' A c f):Int):Rat)=Z3 at*;generalize ((Kx n A:Int):Rat)=Z0 at*;generalize ((pr k n:Int):Rat)=K at*;grind
section
variable {n m:Nat}{a:Nat->Nat->Int}{L:(Nat->Rat)->Prop}{t:PT}
structure Vtx (n m:Nat)(a:Nat->Nat->Int)(x:Nat->Rat)(M:Nat)(D:Int):Prop where
 pos:0<D
 le:D.natAbs<=K0 n*M^n
 val:∀v,v<=n+m->∀P,(∀j,j<n->(a v j).natAbs<=P)->∃N:Int,(D:Rat)*x v=N/\N.natAbs<=n*(K0 n*(M^(n-1)*P)*M)
theorem PB.vtx(h:PB n m a L t)(hx:L x){k z:Nat->Int}(hk:∀c,c<n->0<k c)(hz:∀c,c<n->(k c:Rat)*x (t.nb c)=z c)(hM:∀c,c<n->∀j,j<n->(k c*a (t.nb c) j).natAbs<=M)(hzM:∀c,c<n->(z c).natAbs<=M):∃D,Vtx n m a x M D:=by
 have hd:t.d≠0:=by have:=h.tab.dp;omega
 let R:Nat->Nat->Int:=λc j=>k c*a (t.nb c) j;have hR:Kx n R≠0:=(by show Kx n (λc j=>k c*a (t.nb c) j)≠0;rw[ni (λc=>a (t.nb c)) k];have h1:=TC hk;intro q;obtain q|q:=Int.mul_eq_zero.1 q;omega;have:=h.tab.dd;omega);have hv:∀v,v<=n+m->∃f:Nat->Int,(∀j,j<n->t.d*a v j=sm n λc=>f c*a (t.nb c) j)/\(t.d:Rat)*x v=Ks n λc=>(f c:Rat)*x (t.nb c):=λv hv=>(by have hb:∀i,i<=m->t.bs i=v->∃f:Nat->Int,(∀j,j<n->t.d*a v j=sm n λc=>f c*a (t.nb c) j)/\(t.d:Rat)*x v=Ks n λc=>(f c:Rat)*x (t.nb c):=λi hi q=>(by subst q;exact⟨t.T i,h.tab.rep i hi,(h.rep x).1 hx i hi⟩);by_cases q:v=n+m;exact hb m CS (h.bm.trans q.symm);obtain⟨c,hc,rfl⟩|⟨i,hi,q⟩:=h.cov v Z;refine⟨λc'=>if c'=c then t.d else 0,λj hj=>?_,?_⟩;rw[jF hc λc' _ hne=>by show(if c'=c then t.d else 0)*_=_;rw[CP hne,GI]];show _=(if c=c then t.d else 0)*_;rw[CQ rfl];rw[Tn hc λc' _ hne=>by show(((if c'=c then t.d else 0:Int)):Rat)*_=0;rw[CP hne];show(0:Rat)*_=0;grind];show _=((if c=c then t.d else 0:Int):Rat)*_;rw[CQ rfl];exact hb i Z q);have hcD:(Kx n R).natAbs<=K0 n*M^n:=df λi j hi hj=>hM i hi j hj;have hval:∀v,v<=n+m->∀P,(∀j,j<n->(a v j).natAbs<=P)->∃N:Int,((Kx n R:Int):Rat)*x v=N/\N.natAbs<=n*(K0 n*(M^(n-1)*P)*M):=λv hvv P hP=>(by have⟨f,h1,h2⟩:=hv v hvv;refine⟨_,vert (A:=λc=>a (t.nb c)) (x:=λc=>x (t.nb c)) hd hz h1 h2,cD λc hc=>?_⟩;rw[D6];refine DG (bV hc (λi j hi hj hne=>?_) λj hj=>?_) (hzM c hc);show(rw' R c (a v) i j).natAbs<=M;unfold rw';rw[CP hne];exact hM i hi j hj;show(rw' R c (a v) c j).natAbs<=P;unfold rw';rw[CQ rfl];exact hP j hj);by_cases hp:0<Kx n R;exact⟨Kx n R,hp,hcD,hval⟩;refine⟨-Kx n R,Z,Z,λv hvv P hP=>?_⟩;have⟨N,h1,h2⟩:=hval v hvv P hP;refine⟨-N,?_,Z⟩;rw[JH,JH,<-h1];grind
def PB.bT(h:PB n m a L t)(o:∀v,v<n+m->∀j,j<n->(a v j).natAbs<=M){i c:Nat}(hi:i<=m)(d:c<n)(p:∀j,j<n->(a (t.bs i) j).natAbs<=P):(t.T i c).natAbs<=K0 n*(M^(n-1)*P):=by
 have w:(Kx n (rw' (λc=>a (t.nb c)) c (a (t.bs i)))).natAbs<=K0 n*(M^(n-1)*P):=bV d (λu j f b l=>by unfold rw';rw[CP l];exact o _ (h.nv u f) j b) λj b=>by unfold rw';rw[CQ rfl];exact p j b
 obtain e|e:=h.tab.ent hi d<;>rw[e]<;>omega
def PB.bD(h:PB n m a L t)(f:∀v,v<n+m->∀j,j<n->(a v j).natAbs<=M):t.d.natAbs<=K0 n*M^n:=by have o:(Kx n (λc=>a (t.nb c))).natAbs<=K0 n*M^n:=df λp j b l=>f _ (h.nv _ b) j l;obtain e|e:=h.tab.dd<;>omega
end
def L0(n m:Nat)(a:Nat->Nat->Int)(y:Nat->Rat):Prop:=∀i,i<=m->y (n+i)=Ks n λj=>(a (n+i) j:Rat)*y j
def PB.ini{n m:Nat}{a:Nat->Nat->Int}(hu:∀v j,v<n->j<n->a v j=if v=j then 1 else 0):PB n m a (L0 n m a) ⟨λc=>c,λi=>n+i,λi c=>a (n+i) c,1⟩:=by refine⟨⟨Int.one_pos,.inl ?_,λi hi j b=>?_⟩,λc d=>?_,λi hi=>?_,ω,λc o _ _ h=>h,λi l _ _ h=>?_,λc i d hi h=>?_,λv p=>?_,λy=>⟨λh i hi=>?_,λh i hi=>?_⟩⟩;exact(Nm λi j hi b=>hu i j hi b).trans (znx n);show 1*a (n+i) j=sm n λc=>a (n+i) c*a c j;rw[jF b λc d f=>by rw[hu c j d b,CP f,G8],hu j j b b,CQ rfl];omega;show c<n+m;omega;show n+i<n+m;omega;have h:n+i=n+l:=h;omega;have h:c=n+i:=h;omega;by_cases q:v<n;exact .inl ⟨v,q,ω⟩;exact .inr ⟨v-n,Z,show n+(v-n)=v by omega⟩;show(1:Rat)*y (n+i)=_;rw[Jg];exact h i hi;have h:(1:Rat)*y (n+i)=Ks n λc=>(a (n+i) c:Rat)*y c:=h i hi;rw[Jg]at h;exact h
structure Bnd (n m:Nat)(a:Nat->Nat->Int)(lo hi:Nat->Option Rat)(M N:Nat):Prop where
 aM:∀v,v<n+m->∀j,j<n->(a v j).natAbs<=M
 bq:∀v,v<n+m->∀q,(lo v=ξ q\/hi v=ξ q\/q=0)->∃k z:Int,0<k/\(k:Rat)*q=z/\k.natAbs<=N/\z.natAbs<=N/\∀j,j<n->(k*a v j).natAbs<=N
def vN(n M N:Nat):Nat:=n*(K0 n*(N^(n-1)*M)*N)
def vD(n N:Nat):Nat:=K0 n*N^n
section
variable {n m e i:Nat}{a:Nat->Nat->Int}{lo hi:Nat->Option Rat}{L:(Nat->Rat)->Prop}{t:PT}{s:PS}
def PB.vtxB(h:PB n m a L t)(b:Bnd n m a lo hi M N)(hx:L x)(hb:∀c,c<n->lo (t.nb c)=ξ (x (t.nb c))\/hi (t.nb c)=ξ (x (t.nb c))\/x (t.nb c)=0):∃D,Vtx n m a x N D:=by have l:∀c,∃kz:Int×Int,c<n->0<kz.1/\(kz.1:Rat)*x (t.nb c)=kz.2/\kz.1.natAbs<=N/\kz.2.natAbs<=N/\∀j,j<n->(kz.1*a (t.nb c) j).natAbs<=N:=λc=>(by by_cases d:c<n;have⟨k,z,l,o,p,u,w⟩:=b.bq _ (h.nv c d) _ (hb c d);exact⟨(k,z),λ_=>⟨l,o,p,u,w⟩⟩;exact⟨(1,0),λq=>CO q d⟩);have⟨F,f⟩:=Ge l;exact h.vtx hx (k:=λc=>(F c).1) (z:=λc=>(F c).2) (λc d=>(f c d).1) (λc d=>(f c d).2.1) (λc d=>(f c d).2.2.2.2) λc d=>(f c d).2.2.2.1
theorem LJ.b{v:Nat}{q:Rat}(h:LJ lo hi v q):lo v=ξ q\/hi v=ξ q\/q=0:=by cases h<;>grind
def PInv.vtx(h:PInv n m a lo hi L s)(b:Bnd n m a lo hi M N):∃D,Vtx n m a s.x N D:=
 h.toPB.vtxB b h.xL λc d=>(h.bd c d).2.b
def QB(A B:Nat)(q:Rat):Prop:=∃x y:Int,0<y/\(y:Rat)*q=x/\x.natAbs<=A/\y.natAbs<=B
def Vtx.qb{D:Int}(h:Vtx n m a x N D){v:Nat}(hv:v<=n+m)(d:∀j,j<n->(a v j).natAbs<=P):QB (vN n P N) (vD n N) (x v):=by have⟨z,b,c⟩:=h.val v hv P d;exact⟨z,D,h.pos,b,c,h.le⟩
theorem QB.sub{A B f c:Nat}{p q:Rat}(h:QB A B p)(h':QB f c q):QB (A*c+f*B) (B*c) (p-q):=by have⟨x,y,D,F,G,w⟩:=h;have⟨C,d,l,o,u,b⟩:=h';refine⟨x*d-C*y,y*d,G3 D l,?_,?_,?_⟩;rw[D4,ag9,D4,D4,<-F,<-o];grind;have:=ab9 (x*d) (C*y);have H:=DG G b;have I:=DG u w;rw[D6,D6]at this;omega;rw[D6];exact DG w b
def Bnd.qb(b:Bnd n m a lo hi M N){v:Nat}(hv:v<n+m)(o:lo v=ξ q\/hi v=ξ q\/q=0):QB N N q:=by have⟨k,z,c,d,f,l,p⟩:=b.bq v hv q o;exact⟨z,k,c,d,l,f⟩
theorem PInv.stp(h:PInv n m a lo hi L s)(b:Bnd n m a lo hi M N)(f:e<n)(o:i<m)(u:s.T i e≠0)(l:lo (s.bs i)=ξ q\/hi (s.bs i)=ξ q):QB (vN n M N*N+N*vD n N) (vD n N*N) ((q-s.x (s.bs i))/((s.T i e:Rat)/s.d)):=by have F:=h.toPB.piv o f u;have⟨D,C⟩:=F.vtxB (x:=KB s e ((q-s.x (s.bs i))/((s.T i e:Rat)/s.d)) (m+1)) b (h.mvL f) λc w=>(by by_cases hce:c=e;rw[show(s.toPT.piv i e).nb c=s.bs i from by rw[hce];exact qM,repX h.toPB f o u,show s.x (s.bs i)+(q-s.x (s.bs i))=q by grind];obtain l|l:=l;exact .inl l;exact .inr (.inl l);rw[show(s.toPT.piv i e).nb c=s.nb c from vi hce,qT h.toPB f w hce CS];exact(h.bd c w).2.b);have A:=C.qb (v:=s.nb e) (by have:=h.nv e f;omega) (b.aM _ (h.nv e f));have B:=b.qb (h.nv e f) ((h.bd e f).2.b);have p:=A.sub B;rw[MQ h.toPB f CS]at p;rw[show(q-s.x (s.bs i))/((s.T i e:Rat)/s.d)=s.x (s.nb e)+(q-s.x (s.bs i))/((s.T i e:Rat)/s.d)-s.x (s.nb e)by grind];exact p
theorem Vtx.sum{D:Int}(h:Vtx n m a x N D){c:Nat->Rat}{K:Int}(o:0<K){w:Nat->Int}(A:∀j,(K:Rat)*c j=w j){W:Nat}(u:∀j,(w j).natAbs<=W)(p:∀v,v<n+m->∀j,j<n->(a v j).natAbs<=M):∀k,k<=n->QB (k*(W*vN n M N)) (K.natAbs*vD n N) (Ks k λj=>c j*x j):=by have b:∀j,∃z:Int,j<n->(D:Rat)*x j=z/\z.natAbs<=vN n M N:=λj=>(by by_cases d:j<n;have⟨z,b,l⟩:=h.val j Z M (p j Z);exact⟨z,λ_=>⟨b,l⟩⟩;exact⟨0,λq=>CO q d⟩);have⟨F,f⟩:=Ge b;intro k B;refine⟨sm k λj=>w j*F j,K*D,G3 o h.pos,?_,cD λj d=>?_,?_⟩;rw[TG,<-wL];refine yg λj d=>?_;rw[D4,D4,<-A j,<-(f j Z).1];grind;rw[D6];exact DG (u j) (f j Z).2;rw[D6];exact DG CS h.le
end
def aF(n:Nat)(z:Nat->Nat->Int)(v j:Nat):Int:=if v<n then(if v=j then 1 else 0)else z (v-n) j
def xF(n:Nat)(z:Nat->Nat->Int)(y:Nat->Rat)(v:Nat):Rat:=if v<n then y v else Ks n λj=>(z (v-n) j:Rat)*y j
def bF(n:Nat)(c r:Nat->Option Rat)(σ:Nat->Rat)(v:Nat):Option Rat:=if v<n then c v else(r (v-n)).map λq=>q*σ (v-n)
section
variable {n m i j v:Nat}{z:Nat->Nat->Int}{lo hi:Nat->Option Rat}
def nQ:aF n z (n+i) j=z i j:=by unfold aF;rw[CP Z,E6]
def PW(h:v<n):aF n z v j=if v=j then 1 else 0:=by unfold aF;rw[CQ h]
def jo(h:v<n):xF n z y v=y v:=by unfold xF;rw[CQ h]
def TH:xF n z y (n+i)=Ks n λj=>(z i j:Rat)*y j:=by unfold xF;rw[CP Z,E6]
def nD{c r:Nat->Option Rat}(h:v<n):bF n c r σ v=c v:=by unfold bF;rw[CQ h]
def gn{c r:Nat->Option Rat}:bF n c r σ (n+i)=(r i).map λq=>q*σ i:=by unfold bF;rw[CP Z,E6]
def xF_L:L0 n m (aF n z) (xF n z y):=λi _=>by
 rw[TH];exact yg λj b=>by rw[nQ,jo b]
def iniS(n:Nat)(z:Nat->Nat->Int)(y:Nat->Rat):PS:=⟨⟨λc=>c,λi=>n+i,z,1⟩,xF n z y⟩
def zih(hb:∀c,c<n->inBd lo hi c (y c)/\LJ lo hi c (y c)):PInv n m (aF n z) lo hi (L0 n m (aF n z)) (iniS n z y):=by
 have h:=PB.ini (n:=n) (m:=m) (a:=aF n z) λv j d _=>PW d;have e:(λi c=>aF n z (n+i) c)=z:=by funext i c;exact nQ
 rw[e]at h;refine⟨h,xF_L,λc b=>?_⟩;show inBd lo hi c (xF n z y c)/\LJ lo hi c (xF n z y c);rw[jo b];exact hb c b
structure ScF (n DB M:Nat)(f:Nat->Rat)(z:Nat->Int)(σ:Rat):Prop where
 pos:0<σ
 eq:∀j,j<n->(z j:Rat)=σ*f j
 ex:∃D g:Nat,0<D/\0<g/\σ*(g:Rat)=(D:Rat)/\D<=DB/\g<=M/\∀j,j<n->g*(z j).natAbs<=M
structure NE (E P:Nat)(q:Rat):Prop where
 den:q.den<=E
 num:q.num.natAbs<=P
def NM(q:Rat):(q.den:Rat)*q=(q.num:Rat):=by
 have c:(q.den:Rat)≠0:=λe=>q.den_nz (H2.1 e);have d:q=(q.num:Rat)/(q.den:Rat):=by rw[<-Rat.mkRat_eq_div,Rat.mkRat_self]
 have b:=Fj (a:=(q.num:Rat)) c;rw[<-d]at b;rw[FL];exact b
theorem zn8{P:Nat}{f:Nat->Nat->Rat}(Z1:∀i,i<m->ScF n DB M (f i) (z i) (σ i))(hM:1<=M)(H:1<=E)(l:E*M<=N)(I:P*DB<=N)(V:E<=N)(Z3:P<=N)(J:∀v,v<n->∀q,cl v=ξ q\/ch v=ξ q->NE E P q)(R:∀i,i<m->∀q,rl i=ξ q\/rh i=ξ q->NE E P q):Bnd n m (aF n z) (bF n cl rl σ) (bF n ch rh σ) M N:=by
 have W:M<=N:=Dy (G5 M H) l;refine⟨λv Z4 j o=>?_,λv Z4 q u=>?_⟩;by_cases h:v<n;rw[PW h];split<;>omega;obtain⟨i,rfl⟩:∃i,v=n+i:=⟨v-n,Z⟩;have⟨D,g,_,K,_,_,_,c⟩:=(Z1 i Z).ex;rw[nQ];exact Dy (G5 _ K) (c j o);have w:∀q,NE E P q\/q=0->∃k s:Int,0<k/\(k:Rat)*q=s/\k.natAbs<=E/\s.natAbs<=P:=λq h=>(by obtain h|rfl:=h;refine⟨q.den,q.num,by have:=q.den_pos;omega,?_,by have:=h.den;omega,h.num⟩;rw[EG];exact NM q;exact⟨1,0,by decide,H9 _,H,CT⟩);by_cases h:v<n;rw[nD h,nD h]at u;have⟨k,s,A,B,C,F⟩:=w q (by
  obtain b|b|b:=u;exact .inl (J v h q (.inl b));exact .inl (J v h q (.inr b));exact .inr b)
 refine⟨k,s,A,B,Z,Z,λj o=>?_⟩;rw[PW h];split;rw[Int.mul_one];omega;rw[G8];exact GA _;obtain⟨i,rfl⟩:∃i,v=n+i:=⟨v-n,Z⟩;have hi:i<m:=Z;rw[gn,gn]at u;have⟨D,g,Z0,K,A,B,C,F⟩:=(Z1 i hi).ex;obtain⟨p,T,rfl⟩:∃p,(NE E P p\/p=0)/\q=p*σ i:=(by obtain b|b|b:=u;have⟨p,c,d⟩:=Ev.1 b;exact⟨p,.inl (R i hi p (.inl c)),d.symm⟩;have⟨p,c,d⟩:=Ev.1 b;exact⟨p,.inl (R i hi p (.inr c)),d.symm⟩;exact⟨0,.inr ω,by rw[b,FK]⟩);have⟨k,s,c,d,G,S⟩:=w p T;refine⟨k*g,s*D,G3 c Z,?_,?_,?_,λj o=>?_⟩;rw[D4,D4,<-d,EG,EG,<-A];grind;rw[D6,Dk];exact Dy (DG G C) l;rw[D6,Dk];exact Dy (DG S B) I;rw[nQ,al2,D6,D6,Dk];exact Dy (DG G (F j o)) l
theorem PX{f:Nat->Rat}{ζ:Nat->Int}{s:Rat}(h:∀j,j<n->(ζ j:Rat)=s*f j):(Ks n λj=>(ζ j:Rat)*y j)=s*Ks n λj=>f j*y j:=by grind [wL,yg]
theorem zrl{l u:Option Rat}{s x:Rat}(A:0<s):((∀a,(l.map λq=>q*s)=ξ a->a<=s*x)/\∀a,(u.map λq=>q*s)=ξ a->s*x<=a)↔(∀a,l=ξ a->a<=x)/\∀a,u=ξ a->x<=a:=by
 have d:∀{p q:Rat},p<=q↔s*p<=s*q:=λ{p q}=>⟨λh=>Rat.mul_le_mul_of_nonneg_left h (Ft A),λh=>Hx.1 λf=>by
  have o:=Fe A (show 0<p-q by grind);grind⟩
 constructor;rintro⟨w,f⟩;refine⟨λa c=>?_,λa c=>?_⟩;have:=w (a*s) AF;rw[FL a s]at this;exact d.2 this;have:=f (a*s) AF;rw[FL a s]at this;exact d.2 this;rintro⟨w,f⟩;refine⟨λa c=>?_,λa c=>?_⟩;obtain⟨b,o,rfl⟩:=Ev.1 c;rw[FL b s];exact d.1 (w b o);obtain⟨b,o,rfl⟩:=Ev.1 c;rw[FL b s];exact d.1 (f b o)
def zqa{f:Nat->Nat->Rat}{w:Nat->Rat}(p:L0 n m (aF n z) w)(u:∀i,i<m->0<σ i)(A:∀i,i<m->∀j,j<n->(z i j:Rat)=σ i*f i j):(∀v,v<n+m->inBd (bF n cl rl σ) (bF n ch rh σ) v (w v))↔(∀v,v<n->inBd cl ch v (w v))/\∀i,i<m->inBd rl rh i (Ks n λj=>f i j*w j):=by have c:∀v,v<n->(inBd (bF n cl rl σ) (bF n ch rh σ) v (w v)↔inBd cl ch v (w v)):=λv h=>(by unfold inBd;rw[nD h,nD h]);have d:∀i,i<m->(inBd (bF n cl rl σ) (bF n ch rh σ) (n+i) (w (n+i))↔inBd rl rh i (Ks n λj=>f i j*w j)):=λi hi=>(by have e:w (n+i)=σ i*Ks n λj=>f i j*w j:=(by rw[p i Z,<-PX (A i hi)];exact yg λj _=>by rw[nQ]);unfold inBd;rw[gn,gn,e];exact zrl (u i hi));constructor;exact λh=>⟨λv b=>(c v b).1 (h v Z),λi hi=>(d i hi).1 (h (n+i) Z)⟩;rintro⟨l,o⟩ v b;by_cases q:v<n;exact(c v q).2 (l v q);have:=(d (v-n) Z).2 (o (v-n) Z);rw[show n+(v-n)=v by omega]at this;exact this
def zp0{f:Nat->Rat}{w:Nat->Rat}{s:Rat}(b:L0 n m (aF n z) w)(c:∀j,j<n->(z m j:Rat)=s*f j):w (n+m)=s*Ks n λj=>f j*w j:=by rw[b m CS,<-PX c];exact yg λj _=>by rw[nQ]
end
end Go.Proofs.YteoagenjaemllaaGreatDoor
namespace Go.Proofs.YteoagenjaemllaaGreatDoor
open Go Go.GL
variable {m n0 bs l Z1 V D c N r P b n' bS len cx lx c1 c2 l1 l2 BB Mo M fx gx c' cX m' l4 c4 l5 c5 l6 c6 l7 c7 l9 c9 p E:Nat}{h h':HF}{L:(Nat->Rat)->Prop}{q g y:Rat}{lo hi:Nat->Option Rat}{e ty:TypeId}{low b1 b2 dx sx b8:Bool}{ops:List Oper}{v v0:ψ}{w Z0 ms S:List Nat}{qs sc:List Rat}{ax a1 a2 asc alo ahi aq ex a4 a5 a6 a7 a9:Option Addr}{X:CtxF}{t:TF}{Q:SV->Prop}{o:Oper}{d:Tmp}{s:List UInt8}{bf f:Int}{α:Type}{U':Nat->Nat->Int}{al ld:List (Nat×Nat)}{ef:List (Nat×HF×List Nat)}
section
variable {i k:Nat}
def Kr(l:List (Bool×Rat))(v:Nat):Option Rat:=match l[v]? with|some (φ,q)=>ξ q|_=>θ
def xI{l:List (Bool×Rat)}{v:Nat}(h:l[v]?=ξ (φ,q)):Kr l v=ξ q:=by unfold Kr;rw[h]
def pj{l:List (Bool×Rat)}{v:Nat}(h:l[v]?=ξ (χ,q)):Kr l v=θ:=by unfold Kr;rw[h]
structure SolP (n m:Nat)(d:Sol)(s:PS):Prop where
 nl:O d.nb=n
 nb:∀c,c<n->d.nb[c]?=ξ (s.nb c)
 bl:O d.ba=m
 ba:∀i,i<m->d.ba[i]?=ξ (s.bs i)
 vl:O d.va=n+m
 va:∀v,v<n+m->d.va[v]?=ξ (s.x v)
 tl:O d.ta=m+1
 ta:∀i,i<=m->∃r,d.ta[i]?=ξ r/\O r.2=n/\∀c,c<n->r.2[c]?=ξ (s.T i c)
 de:d.den=s.d
 ll:O d.lo=n+m
 lh:O d.hi=n+m
 nm:n+m<900
 ls:O d.sc=n+m
 dn:d.n=n
structure Lim (V T Z1 D B:Nat):Prop where
 l1:V+B+1<=D
 l2:T+D+V+1<=2400
 l3:D+D<=2400
 l4:T<=Z1
 l5:T+Z1+1<=2400
structure SzP (n m V T Z1 B:Nat)(d:Sol)(s:PS):Prop where
 va:∀v,v<n+m->Sz V (s.x v)
 lo:∀p∈d.lo,Sz B p.2
 hi:∀p∈d.hi,Sz B p.2
 tT:∀i,i<m->∀c,c<n->(s.T i c).natAbs<2^T
 tO:∀c,c<n->(s.T m c).natAbs<2^Z1
 dd:s.d.natAbs<2^T
section
variable {n T B:Nat}{d:Sol}{s:PS}{a:Nat->Nat->Int}
def VioP(lo hi:Nat->Option Rat)(s:PS)(k:Nat)(f:Int)(g:Rat):Prop:=
 (f= -1/\∀i,i<k->inBd lo hi (s.bs i) (s.x (s.bs i)))\/∃i low,f=((i:Nat):Int)/\i<k/\Viol lo hi s i low g/\∀i',i'<k->s.bs i'<s.bs i->inBd lo hi (s.bs i') (s.x (s.bs i'))
def VioP.skip(h:VioP lo hi s k (i:Int) g)(w:s.bs i<=s.bs k):VioP lo hi s (k+1) (i:Int) g:=by obtain⟨h,_⟩|⟨o,low,p,u,c,f⟩:=h;omega;obtain rfl:i=o:=Z;refine .inr ⟨i,low,ω,Z,c,λj v b=>?_⟩;by_cases e:j=k;subst e;omega;exact f j Z b
def VioP.no{f:Int}(h:VioP lo hi s k f g)(y:inBd lo hi (s.bs k) (s.x (s.bs k))):VioP lo hi s (k+1) f g:=by have c:∀j,(j<k->inBd lo hi (s.bs j) (s.x (s.bs j)))->j<k+1->inBd lo hi (s.bs j) (s.x (s.bs j)):=λj h b=>(by by_cases e:j=k;rw[e];exact y;exact h Z);obtain⟨h,o⟩|⟨C,low,u,o,v,w⟩:=h;exact .inl ⟨h,λj=>c j (o j)⟩;exact .inr ⟨C,low,u,Z,v,λj b p=>c j (λb=>w j b p) b⟩
def VioP.take{f:Int}{g':Rat}(h:VioP lo hi s k f g)(o:f= -1\/∃i:Nat,f=(i:Int)/\s.bs k<=s.bs i)(hv:Viol lo hi s k low g'):VioP lo hi s (k+1) (k:Int) g':=by refine .inr ⟨k,low,ω,FD _,hv,λj b v=>?_⟩;have b:j<k:=(by by_cases e:j=k;subst e;omega;omega);obtain⟨h,c⟩|⟨u,low,w,c,y,p⟩:=h;exact c j b;obtain o|⟨i,e,hi⟩:=o;omega;obtain rfl:i=u:=Z;exact p j b Z
def Viol.mkL{l:Rat}(h:lo (s.bs i)=ξ l)(hx:s.x (s.bs i)<l):Viol lo hi s i φ (l-s.x (s.bs i)):=by unfold Viol;rw[CQ rfl];exact⟨l,h,hx,ω⟩
theorem Viol.mkH{u:Rat}(h:hi (s.bs i)=ξ u)(hx:u<s.x (s.bs i)):Viol lo hi s i χ (u-s.x (s.bs i)):=by unfold Viol;grind
end
section
variable {n T B:Nat}{d:Sol}{A:Adr}{s:PS}
def zcl(k:Nat)(g:GG h n0)(sm:SM l h n0 bs d A)(R:SolP n m d s)(bv:∀i,i<m->s.bs i<n+m)(sz:SzP n m V T Z1 B d s)(lm:Lim V T Z1 D B):CX (Kp (k+11)) 56 [ι bs] h n0 λw u v=>∃f q g b a l c d1 e1 f1 g1 fd,w=.tuple #[U .i64 q,.agg #[CV b,Y a l c,CV d1,Y e1 f1 g1],CV fd]/\IW u v b a l c g.num/\IW u v d1 e1 f1 g1 (denZ g)/\VioP (Kr d.lo) (Kr d.hi) s m f g/\(fd=φ/\0<=f/\q=f\/fd=χ/\f= -1):=by have⟨b0,a0,u0,c0,ty,st,i0⟩:=sm.st;have be:=sm.bs.1;have bf:=R.nm;have:=lm.l1;have:=lm.l3;have vl:=R.vl;have bl:=R.bl;have ll:=R.ll;have lh:=R.lh;refine zw (fn:=Tryz.f56) R4<|Zd λh1 p1 x1=>?_;refine Zd λh2 p2 x2=>?_;refine zG ?_;refine sF (α:=Nat×Int×Rat×Bool×Option Addr×Nat×Nat×Bool×Option Addr×Nat×Nat) (λz=>[(0,ι bs),(3,ι (3*n0+2)),(5,U .i64 z.2.1),(6,ι (3*(n0+1)+2)),(13,Y A.ba (O d.ba) (O d.ba)),(14,U .i64 (O d.ba:Int)),(15,U .i64 (z.1:Int))]) (λz u v w'=>w'=[]/\n0+1+1<=v/\ExtB (n0+1+1) [3*(n0+1)+2] h2 u/\u (3*(n0+1)+2)=ξ (.row [CV z.2.2.2.1,Y z.2.2.2.2.1 z.2.2.2.2.2.1 z.2.2.2.2.2.2.1,CV z.2.2.2.2.2.2.2.1,Y z.2.2.2.2.2.2.2.2.1 z.2.2.2.2.2.2.2.2.2.1 z.2.2.2.2.2.2.2.2.2.2] 81)/\IW u v z.2.2.2.1 z.2.2.2.2.1 z.2.2.2.2.2.1 z.2.2.2.2.2.2.1 z.2.2.1.num/\IW u v z.2.2.2.2.2.2.2.1 z.2.2.2.2.2.2.2.2.1 z.2.2.2.2.2.2.2.2.2.1 z.2.2.2.2.2.2.2.2.2.2 (denZ z.2.2.1)/\VioP (Kr d.lo) (Kr d.hi) s z.1 z.2.1 z.2.2.1/\z.1<=m) (λz=>m-z.1) (0,-1,0,χ,θ,0,0,χ,θ,0,0) ⟨ω,CS,F7 _ _ _,p2,(E9 _ _).as ω,(E9 _ _).as ω,.inl ⟨ω,λi hi=>CO hi (Ed _)⟩,CT⟩ ?_;rintro⟨j,f,r,bS,aS,lS,kS,uS,vS,wS,xS⟩ t P n3 _ ⟨rfl,y3,Y3,p3,i3,j3,hv,hj⟩;have p3:P (3*(n0+1)+2)=ξ (.row [CV bS,Y aS lS kS,CV uS,Y vS wS xS] 81):=p3;have i3:IW P n3 bS aS lS kS r.num:=i3;have j3:IW P n3 uS vS wS xS (denZ r):=j3;have hv:VioP (Kr d.lo) (Kr d.hi) s j f r:=hv;have hj:j<=m:=hj;have y3:n0+1+1<=n3:=y3;have X3:Exo n0 h P:=⟨λc hc=>(Y3 c Z (λe=>by have:=Dc.1 e;omega)).trans ((x2 c Z).trans (x1 c hc))⟩;have s3:=sm.ext (n':=n3) X3.go Z;refine zG ?_;by_cases q3:(j:Int)<(O d.ba:Int);refine zG ?_;have G:j<m:=Z;have gv:=R.ba j G;have ai:=bv j G;have gx:=R.va _ ai;have aa:=sz.va _ ai;obtain⟨pl,N⟩:∃x,d.lo[s.bs j]?=ξ x:=⟨_,CW Z⟩;obtain⟨ph,M⟩:∃x,d.hi[s.bs j]?=ξ x:=⟨_,CW Z⟩;have⟨k4,o4,e4,m4,r4,t4⟩:=natS.at s3.ba.rs gv;refine sI e4 r4 ?_;refine sL t4 m4 0 ?_;have go:(∃i:Nat,f=(i:Int)/\i<m/\s.bs i<s.bs j)\/f= -1\/(∃i:Nat,f=(i:Int)/\i<m/\s.bs j<=s.bs i):=(by obtain⟨h1,_⟩|⟨i,low,h1,h2,P,_⟩:=hv;exact .inr (.inl h1);by_cases hw:s.bs i<s.bs j;exact .inl ⟨i,h1,Z,hw⟩;exact .inr (.inr ⟨i,h1,Z,Z⟩));refine mZ ?_;simp only[yu,xg,zK,yY];refine yj (α:=Bool) (λz=>[(0,ι bs),(3,ι (3*n0+2)),(5,U .i64 f),(6,ι (3*(n0+1)+2)),(7,U .i64 (j:Int)),(8,U .i64 (s.bs j:Int)),(13,Y A.ba (O d.ba) (O d.ba)),(14,U .i64 (O d.ba:Int)),(15,U .i64 (j:Int)),(32,CV z)]) (λz u v w'=>w'=[]/\P=u/\n3=v/\(z=φ/\(∃i:Nat,f=(i:Int)/\i<m/\s.bs i<s.bs j)\/z=χ/\(f= -1\/∃i:Nat,f=(i:Int)/\s.bs j<=s.bs i))) ?_ ?_;obtain⟨i,rfl,a4,hw⟩|rfl|⟨i,rfl,a4,hw⟩:=go;refine zG ?_;have⟨k5,o5,e5,m5,r5,t5⟩:=natS.at s3.ba.rs (R.ba i a4);refine sI e5 r5 ?_;refine sL t5 m5 0 ?_;refine zG ?_;exact zA φ (by(repeat (first|exact trivial|refine⟨ω,?_⟩))) ⟨ω,ω,ω,.inl ⟨ω,i,ω,a4,hw⟩⟩;refine zG ?_;exact zA χ (by(repeat (first|exact trivial|refine⟨ω,?_⟩))) ⟨ω,ω,ω,.inr ⟨ω,.inl AL⟩⟩;refine zG ?_;have⟨k5,o5,e5,m5,r5,t5⟩:=natS.at s3.ba.rs (R.ba i a4);refine sI e5 r5 ?_;refine sL t5 m5 0 ?_;refine zG ?_;exact zA χ (by(repeat (first|exact trivial|refine⟨ω,?_⟩))) ⟨ω,ω,ω,.inr ⟨ω,.inr ⟨i,ω,hw⟩⟩⟩;rintro z t _ _ _⟨rfl,rfl,rfl,⟨rfl,i,rfl,a4,hw⟩|⟨rfl,ag⟩⟩;refine zG ?_;exact sK (j+1,(i:Int),r,bS,aS,lS,kS,uS,vS,wS,xS) ⟨ω,y3,Y3,p3,i3,j3,hv.skip Z,G⟩;refine zG ?_;have⟨k6,o6,b6,a6,l6,c6,d6,e6,f6,u6,ev,mv,rv,tv,iv,jv⟩:=ab7 s3.va.rs gx;refine sI ev rv ?_;refine sL tv mv 0 ?_;refine sA λh7 p7 x7=>?_;refine zG ?_;refine sS [CV b6,Y a6 l6 c6,CV d6,Y e6 f6 u6] λh8 p8 o8=>?_;have al:=sz.lo _ (C0 N);have ak:=sz.hi _ (C0 M);have⟨k9,o9,b9,a9,l9,c9,d9,e9,f9,g9,el,ml,rl,tl,il,jl⟩:=BS.at s3.lo.rs N;have⟨bg,bh,b5,b4,l10,b7,b8,bb,bc,bd,eh,mh,rh,th,ih,jh⟩:=BS.at s3.hi.rs M;have T8:Tr n3 P (n3+1) h8:=zt;have g8:=(g.ext X3.go (by omega:n0<=n3)).t T8;have a7:=iv.t T8;have a8:=jv.t T8;refine zG ?_;refine yj (α:=Bool) (λz=>[(0,ι bs),(3,ι (3*n0+2)),(5,U .i64 f),(6,ι (3*(n0+1)+2)),(7,U .i64 (j:Int)),(8,U .i64 (s.bs j:Int)),(9,ι (3*n3+2)),(13,Y A.ba (O d.ba) (O d.ba)),(14,U .i64 (O d.ba:Int)),(15,U .i64 (j:Int)),(40,CV z)]) (λz u v w'=>w'=[]/\n3+1<=v/\Ko (n3+1) h8 u/\(z=φ/\(∃q,Kr d.lo (s.bs j)=ξ q/\s.x (s.bs j)<q)\/z=χ/\∀q,Kr d.lo (s.bs j)=ξ q->q<=s.x (s.bs j))) ?_ ?_;refine zl [0,1,3,7,0,31,63,127,255,511,511,1535,3583,7679,511,32255,65023,130559,262143,524287,1048575,2097151] rfl<|zH ?_;refine dI el rl ?_;refine zH ?_;refine dL tl ml 0 ?_;have⟨xl,ql⟩:=pl;cases xl;refine zJ ?_;exact zA χ (by(repeat (first|exact trivial|refine⟨ω,?_⟩))) ⟨ω,CS,FI _ _,.inr ⟨ω,λq o=>by rw[pj N]at o;cases o⟩⟩;refine zH ?_;refine dI el rl ?_;refine zH ?_;refine dL tl ml 1 ?_;refine dC (xp _ a7 a8 (il.t zt) (jl.t zt) aa al Z).cx ?_;rintro _ ao av⟨b1,rfl,p⟩ F C;obtain⟨rfl,p⟩|⟨rfl,p⟩|⟨rfl,p⟩:=p;refine zJ ?_;exact zA φ (by(repeat (first|exact trivial|refine⟨ω,?_⟩))) ⟨ω,F,C,.inl ⟨ω,_,xI N,p⟩⟩;refine zJ ?_;exact zA χ (by(repeat (first|exact trivial|refine⟨ω,?_⟩))) ⟨ω,F,C,.inr ⟨ω,λq o=>by rw[xI N]at o;cases o;exact Hx.1 λh=>Gk (p▸h)⟩⟩;refine zJ ?_;exact zA χ (by(repeat (first|exact trivial|refine⟨ω,?_⟩))) ⟨ω,F,C,.inr ⟨ω,λq o=>by rw[xI N]at o;cases o;exact Ft p⟩⟩;rintro z t a3 y _⟨rfl,K,J,⟨rfl,H⟩|⟨rfl,H⟩⟩;have K:n3+1<=y:=K;have J:Ko (n3+1) h8 a3:=J;have⟨xl,ql⟩:=pl;cases xl;exfalso;have⟨q,o,_⟩:=H;rw[pj N]at o;cases o;have⟨q,o,H⟩:=H;rw[xI N]at o;cases o;refine zG ?_;refine zl [0,0,2,6,14,0,62,126,254,0,1022,2047,4095] rfl<|zH ?_;refine dI el rl ?_;refine zH ?_;refine dL tl ml 1 ?_;refine zH ?_;refine dC (subQ _ (g8.x zx) (il.t zt) (jl.t zt) (a7.t zt) (a8.t zt) al aa Z) ?_;rintro _ ap aw⟨Z4,S,a5,W,Z3,Z0,a1,a2,rfl,ad,ae⟩ b3 b2;refine zH ?_;refine dS [CV Z4,Y S a5 W,CV Z3,Y Z0 a1 a2] λaq af ax=>?_;refine zJ ?_;exact sK (j+1,(j:Int),ql-s.x (s.bs j),Z4,S,a5,W,Z3,Z0,a1,a2) ⟨ω,Z,zy,af,ad.t zt,ae.t zt,hv.take ag (Viol.mkL (xI N) H),G⟩;have K:n3+1<=y:=K;have J:Ko (n3+1) h8 a3:=J;have am:=a7.ext J K;have an:=a8.ext J K;refine zG ?_;refine yj (α:=Bool) (λz=>[(0,ι bs),(3,ι (3*n0+2)),(5,U .i64 f),(6,ι (3*(n0+1)+2)),(7,U .i64 (j:Int)),(8,U .i64 (s.bs j:Int)),(9,ι (3*n3+2)),(13,Y A.ba (O d.ba) (O d.ba)),(14,U .i64 (O d.ba:Int)),(15,U .i64 (j:Int)),(73,CV z)]) (λz u v w'=>w'=[]/\y<=v/\Ko y a3 u/\(z=φ/\(∃q,Kr d.hi (s.bs j)=ξ q/\q<s.x (s.bs j))\/z=χ/\∀q,Kr d.hi (s.bs j)=ξ q->s.x (s.bs j)<=q)) ?_ ?_;refine zl [0,1,3,7,0,31,63,127,255,511,511,1535,3583,7679,511,32255,65023,130559,262143,524287,1048575,2097151] rfl<|zH ?_;refine dI eh rh ?_;refine zH ?_;refine dL th mh 0 ?_;have⟨xh,qh⟩:=ph;cases xh;refine zJ ?_;exact zA χ (by(repeat (first|exact trivial|refine⟨ω,?_⟩))) ⟨ω,CS,FI _ _,.inr ⟨ω,λq o=>by rw[pj M]at o;cases o⟩⟩;refine zH ?_;refine dI eh rh ?_;refine zH ?_;refine dL th mh 1 ?_;refine dC (xp _ am an (ih.t zt) (jh.t zt) aa ak Z).cx ?_;rintro _ ao av⟨b1,rfl,p⟩ F C;obtain⟨rfl,p⟩|⟨rfl,p⟩|⟨rfl,p⟩:=p;refine zJ ?_;exact zA χ (by(repeat (first|exact trivial|refine⟨ω,?_⟩))) ⟨ω,F,C,.inr ⟨ω,λq o=>by rw[xI M]at o;cases o;exact Ft p⟩⟩;refine zJ ?_;exact zA χ (by(repeat (first|exact trivial|refine⟨ω,?_⟩))) ⟨ω,F,C,.inr ⟨ω,λq o=>by rw[xI M]at o;cases o;exact Hx.1 λh=>Gk (p▸h)⟩⟩;refine zJ ?_;exact zA φ (by(repeat (first|exact trivial|refine⟨ω,?_⟩))) ⟨ω,F,C,.inl ⟨ω,_,xI M,p⟩⟩;rintro z t ah aj _⟨rfl,ac,ab,⟨rfl,I⟩|⟨rfl,I⟩⟩;have ac:y<=aj:=ac;have ab:Ko y a3 ah:=ab;have⟨xh,qh⟩:=ph;cases xh;exfalso;have⟨q,o,_⟩:=I;rw[pj M]at o;cases o;have⟨q,o,I⟩:=I;rw[xI M]at o;cases o;refine zG ?_;refine zl [0,0,2,6,14,0,62,126,254,0,1022,2047,4095] rfl<|zH ?_;refine dI eh rh ?_;refine zH ?_;refine dL th mh 1 ?_;refine zH ?_;refine dC (subQ _ (g8.x zx) (ih.t zt) (jh.t zt) (a7.t zt) (a8.t zt) ak aa Z) ?_;rintro _ ap aw⟨Z4,S,a5,W,Z3,Z0,a1,a2,rfl,ad,ae⟩ b3 b2;refine zH ?_;refine dS [CV Z4,Y S a5 W,CV Z3,Y Z0 a1 a2] λaq af ax=>?_;refine zJ ?_;exact sK (j+1,(j:Int),qh-s.x (s.bs j),Z4,S,a5,W,Z3,Z0,a1,a2) ⟨ω,Z,zy,af,ad.t zt,ae.t zt,hv.take ag (Viol.mkH (xI M) I),G⟩;have ac:y<=aj:=ac;have ab:Ko y a3 ah:=ab;refine zG ?_;exact sK (j+1,f,r,bS,aS,lS,kS,uS,vS,wS,xS) ⟨ω,Z,zy,zp,i3.t zt,j3.t zt,hv.no ⟨H,I⟩,G⟩;have au:j=m:=Z;subst au;refine zG ?_;refine zl [0,1,0,0,8,3,39,127] ω ?_;obtain⟨rfl,h2⟩|⟨i,low,rfl,h2,P,h4⟩:=hv;refine zH ?_;refine dr_I (ik:=.i64) (a:=0) R5<|zH ?_;refine dS [CV bS,Y aS lS kS,CV uS,Y vS wS xS] λar az ay=>?_;refine zq ?_;exact⟨-1,0,r,_,_,_,_,_,_,_,_,χ,ω,i3.t zt,j3.t zt,.inl ⟨ω,h2⟩,.inr ⟨ω,ω⟩⟩;refine zH ?_;refine dr_I (ik:=.i64) (a:=(i:Int)) ⟨ω,ω,ω,ω,(by show ξ (U .i64 (if((i:Nat):Int)<0 then 0 else(i:Int)))=_;rw[CP Z])⟩ ?_;refine zH ?_;refine dS [CV bS,Y aS lS kS,CV uS,Y vS wS xS] λar az ay=>?_;refine zq ?_;exact⟨i,i,r,_,_,_,_,_,_,_,_,φ,ω,i3.t zt,j3.t zt,.inr ⟨i,low,ω,h2,P,h4⟩,.inl ⟨ω,Z,ω⟩⟩
end
end
def xz{x y:Int}{m:Nat}(f:0<y)(hx:x.natAbs<2^m)(c:y.natAbs<2^m):Sz m (DT x y):=by have⟨d,e⟩:=pt (x:=x) f;refine⟨?_,?_⟩;rw[d];exact vh hx;have b:=vh (y:=((Dh x.natAbs y.natAbs:Nat):Int)) c;rw[<-e,Dk]at b;exact b
structure LdZ (n P k:Nat)(T:Nat->Nat->Int)(bf:Int):Prop where
 t:∀i j,i<n->j<n->(T i j).natAbs<2^(3*P+3)
 b:bf.natAbs<2^(2*P+1)
 t1:k<=1->∀i j,i<n->j<n->(T i j).natAbs<2^(2*P+1)
 b1:k<=1->bf.natAbs<2^P
structure LdP (n P:Nat)(D:Nat)(a0:Nat->Nat->Rat)(k:Nat)(T:Nat->Nat->Int)(bf:Int)(a:Nat->Nat->Rat):Prop where
 i:LdI n (tT n a0) (tS n a0) a0 k T bf a
 v:∃V0 V bv,(∀i j,i<n->j<n->(V0 i j).natAbs<2^P)/\LdI n V0 (λ_=>((D:Int):Rat)) a0 k V bv a
section
variable {n k:Nat}{a0 a:Nat->Nat->Rat}{T:Nat->Nat->Int}
end
section
variable {i j n:Nat}
def aQ(qs:List Rat):Nat->Nat->Rat:=λ_ j=>(qs[j]?).getD 0
def NN{qs:List Rat}(h:qs[j]?=ξ q):aQ qs i j=q:=by unfold aQ;rw[h];rfl
def zmk(qs:List Rat):rowQ (O qs) (aQ qs) 0=qs:=by refine ER λj=>?_;unfold rowQ;rw[Dz];by_cases h:j<O qs;rw[GV h,CW h];show ξ (aQ qs 0 j)=_;rw[NN (CW h)];rw[Dn (by rw[Fa];omega),Dn Z];rfl
def mixF{α:Type}(f g:Nat->α)(j N:Nat):List α:=(Ea N).map λi=>if i<j then f i else g i
def xE{f g:Nat->α}:O (mixF f g j N)=N:=by unfold mixF;rw[Da,Fa]
theorem xG{f g:Nat->α}(h:i<N):(mixF f g j N)[i]?=ξ (if i<j then f i else g i):=by grind [mixF]
def pE{f g:Nat->α}(h:j<N):(mixF f g j N).set j (f j)=mixF f g (j+1) N:=by refine ER λi=>?_;rw[Jh,xE];by_cases h1:j=i;subst h1;rw[CQ ω,CQ h,xG h,CQ (FD _)];rw[CP h1];by_cases h2:i<N;rw[xG h2,xG h2];by_cases h3:i<j;rw[CQ h3,CQ Z];rw[CP h3,CP Z];rw[Dn As,Dn As]
def iA{f:Nat->α}{z:α}:C3 N z=mixF f (λ_=>z) 0 N:=by refine ER λi=>?_;rw[List.getElem?_replicate];by_cases h:i<N;rw[CQ h,xG h,CP (Ed _)];rw[CP h,Dn As]
def cW{f g g':Nat->α}:mixF f g N N=mixF g' f 0 N:=by refine ER λi=>?_;by_cases h:i<N;rw[xG h,xG h,CQ h,CP (Ed _)];rw[Dn As,Dn As]
def eg{a:Nat}:∀{l:List Rat} {m:Nat},(∀q∈l,q.den<2^a)->0<m->lcmD l m<=m*2^(a*O l)
 |[],m,_,_=>by
  show m<=m*2^(a*0);rw[EJ,Nat.pow_zero,D1];exact Ez _
 |q::l,m,h,hm=>by
  have h1:Jf m q.den<=m*2^a:=Dy (Is (Fv hm q.den_pos) (ap9 (ac0 _ _) (ad5 _ _))) (Do _ (EB (h q EM)));have b:=eg (l:=l) (m:=Jf m q.den) (λx c=>h x (E3 _ c)) (aq0 hm q.den_pos);show lcmD l (Jf m q.den)<=_;refine Dy b (Dy (C9 _ h1) ?_);rw[DM,DW,D1,EE,Ef,Dp];exact Ez _
section
variable {a:Nat}
def nk:deni (O qs) (aQ qs) 0=lcmD qs 1:=by unfold deni;rw[zmk]
def kW(d:∀q∈qs,Sz a q)(e:a*O qs+a+1<=P):deni (O qs) (aQ qs) 0<2^P:=by rw[nk];have b:=eg (l:=qs) (m:=1) (λq c=>(d q c).2) zd;rw[Et]at b;exact Dw b (Nat.pow_lt_pow_right zd Z)
def cO(d:∀q∈qs,Sz a q)(g:a*O qs+a+1<=P)(hj:j<O qs):(KM (O qs) (aQ qs) 0 j).natAbs<2^P:=by have c:=eg (l:=qs) (m:=1) (λq b=>(d q b).2) zd;rw[Et,<-nk]at c;have b:=d _ (List.getElem_mem hj);unfold KM Nl;rw[NN (CW hj),D6];have e:((deni (O qs) (aQ qs) 0:Nat):Int).tdiv ((qs[j]).den:Int)=((deni (O qs) (aQ qs) 0/(qs[j]).den:Nat):Int):=rfl;rw[e,Dk];have f:deni (O qs) (aQ qs) 0/(qs[j]).den<=2^(a*O qs):=Dy (EL _ _) c;refine Dm (Dw (Do _ f) (Nat.mul_lt_mul_of_pos_right b.1 (He _))) ?_;rw[<-Ef];exact Dd zd Z
def TI(c:∀q∈qs,Sz a q)(b:a*O qs+a+1<=P)(hj:j<=O qs):Lk (KM (O qs) (aQ qs) 0) j<2^P:=by have h:=Ta (f:=KM (O qs) (aQ qs) 0) (m:=j) (B:=2^P-1) λi d=>(by have:=cO c b (j:=i) Z;omega);have:=He P;omega
end
def scS(qs:List Rat):Rat:=if Lk (KM (O qs) (aQ qs) 0) (O qs)=0 then 1 else tS (O qs) (aQ qs) 0
structure ScR (qs:List Rat)(P:Nat)(zs:List Int)(s:Rat):Prop where
 len:O zs=O qs
 pos:0<s
 sz:Sz P s
 zb:∀z∈zs,z.natAbs<2^P
 eq:∀(j:Nat) (q:Rat) (z:Int),qs[j]?=ξ q->zs[j]?=ξ z->(z:Rat)=s*q
 fr:(s=1/\∀z∈zs,z=0)\/∃g:Nat,0<g/\s*(g:Rat)=(lcmD qs 1:Rat)/\∃z∈zs,z≠0
 ds:s=scS qs
def zik{f:Nat->Int}:∀{m:Nat},(∀j,j<m->f j=0)->Lk f m=0:=λ{m} h=>by
 have:=Ta (f:=f) (m:=m) (B:=0) λj b=>by rw[h j b];exact Ez _
 omega
def ScR.mk0{qs:List Rat}{a P:Nat}(u:∀q∈qs,Sz a q)(p:a*O qs+a+1<=P)(h0:Lk (KM (O qs) (aQ qs) 0) (O qs)=0):ScR qs P (mixF (tT (O qs) (aQ qs) 0) (KM (O qs) (aQ qs) 0) 0 (O qs)) 1:=by have c:∀j,j<O qs->KM (O qs) (aQ qs) 0 j=0:=λj b=>(by have:=S3 (f:=KM (O qs) (aQ qs) 0) b;rw[h0,Nat.zero_dvd]at this;omega);refine⟨xE,by decide,⟨by show 1<2^P;exact IS Z,by show 1<2^P;exact IS Z⟩,λz g=>?_,λj q z m o=>?_,.inl ⟨ω,λz g=>?_⟩,(CQ h0).symm⟩;obtain⟨i,d,rfl⟩:=D2.1 g;rw[CP (Ed _),c i (G2.1 d)];exact He _;have b:=(C4.1 m).1;rw[xG b,CP (Ed _),c j b]at o;cases o;have e:=SY (bY (N:=O qs) (a:=aQ qs) (i:=0) b);have l:((KM (O qs) (aQ qs) 0 j:Int):Rat)=aQ qs 0 j*(deni (O qs) (aQ qs) 0:Rat):=e;rw[c j b,NN m]at l;rw[Jg];obtain h|h:=ah0.1 l.symm;rw[h];rfl;have s:=bW (N:=O qs) (a:=aQ qs) (i:=0);have:=H2.1 h;omega;obtain⟨i,d,rfl⟩:=D2.1 g;rw[CP (Ed _),c i (G2.1 d)]
def ScR.mk1{qs:List Rat}{a P:Nat}(l:∀q∈qs,Sz a q)(f:a*O qs+a+1<=P)(h0:¬Lk (KM (O qs) (aQ qs) 0) (O qs)=0):ScR qs P (mixF (tT (O qs) (aQ qs) 0) (KM (O qs) (aQ qs) 0) (O qs) (O qs)) (tS (O qs) (aQ qs) 0):=by
 have g:LB (O qs) (aQ qs) 0=Lk (KM (O qs) (aQ qs) 0) (O qs):=by unfold LB MP;rw[CP h0]
 have p:LB (O qs) (aQ qs) 0<2^P:=by rw[g];exact TI l f CS
 refine⟨xE,Td,xz (by rw[g];omega) (by rw[Dk];exact kW l f) (by rw[Dk];exact p),λz y=>?_,λj q z c o=>?_,.inr ⟨LB (O qs) (aQ qs) 0,by rw[g];omega,?_,?_⟩,(CP h0).symm⟩;obtain⟨i,d,rfl⟩:=D2.1 y;have d:=G2.1 d;rw[CQ d];exact vh (cO l f d);have b:=(C4.1 c).1;rw[xG b,CQ b]at o;cases o;rw[Te b,NN c];have c:((LB (O qs) (aQ qs) 0:Nat):Rat)≠0:=λe=>by have:=H2.1 e;omega
 rw[<-nk];unfold tS;rw[ES,EG,EG];exact Fj c;refine Df λu=>h0 (zik λj b=>?_);have m:=Te (N:=O qs) (a:=aQ qs) (i:=0) b;have v:tT (O qs) (aQ qs) 0 j=0:=Df λs=>u ⟨_,C0 ((xG b).trans (congrArg ξ (CQ b))),s⟩;rw[v]at m;have w:aQ qs 0 j=0:=(ah0.1 m.symm).resolve_left λe=>by have:=Td (N:=O qs) (a:=aQ qs) (i:=0);rw[e]at this;exact Gk this
 unfold KM Nl;rw[w];exact GI _
def qa(k:Nat)(g:GG h n){lq cq:Nat}{qs:List Rat}(iq:QS h n (Y aq lq cq) qs){a P:Nat}(hz:∀q∈qs,Sz a q)(hP:a*O qs+a+1<=P)(bx:P<=2496)(hL:O qs<=1000):
  CX (Kp (k+12)) 29 [Y aq lq cq] h n λw v J=>∃B zs s b a l c d e f u,w=.tuple #[Y (ξ ⟨B,0,θ⟩) lq lq,.agg #[CV b,Y a l c,CV d,Y e f u]]/\3*n<=B/\gro B=χ/\OZ v J B zs/\Ld v B 75/\ScR qs P zs s/\IW v J b a l c s.num/\IW v J d e f u (denZ s):=by
 have c6:=iq.len;subst c6;have T:∀{x:Nat},x<2^P->x<BW:=λh=>yU h bx;refine zw (fn:=Tryz.f29) R4<|Zd λh1 p1 x1=>?_;refine zG ?_;refine sC (zn3 _ (g.x zx) (iq.x zx) (D:=lcmD qs 1) (kt zd) (by rw[<-nk];exact T (kW hz hP)) (λq hq=>ku hq) Z) ?_;rintro _ h2 A⟨b2,a2,l2,c2,rfl,i2⟩ y2 x2;rw[<-nk]at i2;refine sA λh3 p3 x3=>?_;refine sS [CV b2,Y a2 l2 c2] λh4 p4 o4=>?_;refine zG ?_;refine NJ (L:=O qs) [CV χ,η] ?_ hL;intro h5 p5 x5;refine Zd λI p6 x6=>?_;refine zG ?_;obtain⟨V,b1⟩:∃B,B=3*A+2:=⟨_,ω⟩;obtain⟨m,ad⟩:∃B,B=3*(A+1)+2:=⟨_,ω⟩;obtain⟨H,b3⟩:∃B,B=3*(A+1+1)+2:=⟨_,ω⟩;have gB:gro m=χ:=by rw[ad];exact zB _
 have o5:OZ I (A+1+1+1) m (C3 (O qs) 0):=(by rw[ad];exact(OR.fill (n:=A+1+1) Z p5 FE ⟨_,_,_,_,ω,E9 _ _⟩).xx FE zx);have t5:Ld I m 75:=⟨_,by rw[ad];exact zp⟩;have cg:I V=ξ (.row [CV b2,Y a2 l2 c2] 75):=by rw[b1];exact zp
 have ce:I (3*n+2)=_:=(zp:I (3*n+2)=_);have c0:=i2.t (show Tr A h2 (A+1+1+1) I from zt);have cu:=iq.x (show Tx n h (A+1+1+1) I from zx);have g6:=g.x (show Tx n h (A+1+1+1) I from zx);have cp:Exo n h I:=⟨(show Tx n h (A+1+1+1) I from zx).2⟩;rw[<-b1,<-ad,<-b3];rw[<-b3]at p6;refine sF (α:=Nat×Bool×Option Addr×Nat×Nat) (λz=>[(3,ι (3*n+2)),(4,ι V),(5,Y (ξ ⟨m,0,θ⟩) (O qs) (O qs)),(6,ι H),(16,Y aq (O qs) cq),(17,U .i64 (O qs:Int)),(18,U .i64 (z.1:Int))]) (λz v J w'=>w'=[]/\(A+1+1+1)<=J/\ExtB (A+1+1+1) [m,H] I v/\OZ v J m (mixF (KM (O qs) (aQ qs) 0) (λ_=>0) z.1 (O qs))/\Ld v m 75/\v H=ξ (.row [CV z.2.1,Y z.2.2.1 z.2.2.2.1 z.2.2.2.2] 75)/\IW v J z.2.1 z.2.2.1 z.2.2.2.1 z.2.2.2.2 ((Lk (KM (O qs) (aQ qs) 0) z.1:Nat):Int)/\Tr (A+1+1+1) I J v/\z.1<=O qs) (λz=>O qs-z.1) (0,χ,θ,0,0) ⟨ω,CS,F7 _ _ _,o5.as iA,t5,p6,E9 _ _,Er _ _,CT⟩ ?_;rintro⟨j,bC,aC,lC,cC⟩ t o F _ ⟨rfl,y7,Y7,R,a5,p7,i7,T7,hj⟩;have y7:(A+1+1+1)<=F:=y7;have R:OZ o F m (mixF (KM (O qs) (aQ qs) 0) (λ_=>0) j (O qs)):=R;have a5:Ld o m _:=a5;have p7:o H=ξ (.row [CV bC,Y aC lC cC] 75):=p7;have i7:IW o F bC aC lC cC ((Lk (KM (O qs) (aQ qs) 0) j:Nat):Int):=i7;have T7:Tr (A+1+1+1) I F o:=T7;have hj:j<=O qs:=hj;have ch:o V=_:=(Y7 V Z dO).trans cg;have be:o (3*n+2)=_:=(Y7 (3*n+2) Z dO).trans ce;have X7:Exo n h o:=⟨λc hc=>(Y7 c Z dO).trans (cp.go c hc)⟩;have b7:=c0.t T7;have af:Lk (KM (O qs) (aQ qs) 0) j<BW:=T (TI hz hP hj);refine zG ?_;by_cases q7:(j:Int)<(O qs:Int);refine zG ?_;have G:j<O qs:=Z;obtain⟨q,gq⟩:∃q,qs[j]?=ξ q:=⟨_,CW G⟩;have⟨k8,o8,b8,a8,l8,c8,d8,e8,f8,u8,bu,m8,r8,t8,i8,j8⟩:=ab7 (iq.ext (n':=F) X7.go Z) gq;have sq:=hz q (C0 gq);refine sI bu r8 ?_;refine sL t8 m8 0 ?_;refine sA λy p9 x9=>?_;refine zG ?_;refine sS [CV b8,Y a8 l8 c8,CV d8,Y e8 f8 u8] λZ0 cb ai=>?_;refine zG ?_;refine sC (zmi _ (i8.t zt) (j8.t zt) (b7.t zt) (yU sq.1 Z) (yU sq.z Z) (by rw[Dk];exact T (kW hz hP))) ?_;rintro _ K ah⟨bo,bn,l11,bq,rfl,b6⟩ d0 cs;have bt:q.num*((deni (O qs) (aQ qs) 0:Nat):Int).tdiv (q.den:Int)=KM (O qs) (aQ qs) 0 j:=by unfold KM Nl;rw[NN gq]
 rw[bt]at b6;refine sI ω G ?_;have p:∀c,c<3*F->K c=o c:=λc hc=>(by have e0:o c=o c:=rfl;exact zp);have a1:=R.go FE (show Tr F o ah K from zt) (p _ R.1);refine OF (n0:=n) (j:=j) (q:=KM (O qs) (aQ qs) 0 j) [CV bo,Y bn l11 bq] a1 FE (by rw[xE];exact G) (Dl _) ⟨_,_,_,_,ω,b6⟩ Z ?_;rw[pE G];intro a0 a3 aw cn;refine zG ?_;refine zl [0,0,0,6,14,31,63] ω ?_;have ct:a0 H=_:=(aw.1 H Z).trans ((p H Z).trans p7);refine zH ?_;obtain⟨ab,⟨ap,an,au,ab,rfl,Z4⟩,_,cl⟩:=a3.get (xG G) (off:=0+j*2) (Dl _);rw[CQ (FD _)]at Z4;refine dI ω G ?_;refine dL cl a3.1 0 ?_;have al:Tr F o ah a0:=FN aw (show Tr F o ah K from zt);refine dC (gcdX _ ((g.ext X7.go Z).t al) (i7.t al) Z4 AP (T (cO hz hP G))) ?_;rintro _ bw bd⟨ay,ax,bb,az,rfl,bz⟩ bg ak;refine dS [CV ay,Y ax bb az] λac cd a4=>?_;refine zG ?_;have bh:∀c,c<3*F->c≠m->c≠H->ac c=o c:=λc hc h1 h2=>(a4.1 c h2).trans ((ak c Z).trans ((aw.1 c h1).trans (p c hc)));have bk:Tr F o bd ac:=FN a4 (Tr.e ak bg al);have b0:ac m=a0 m:=(a4.1 m Z).trans (ak m a3.1);exact sK (j+1,ay,ax,bb,az) ⟨ω,Z,λc hc hn=>(by
  simp only[DA,C6,or_false,not_or]at hn;exact(bh c Z hn.1 hn.2).trans (Y7 c hc (by simp[hn]))),a3.go FE (show Tr ah a0 bd ac from FN a4 (Tr.e ak bg (Er _ _))) b0,(by
   have⟨C,W⟩:=a5;have⟨C2,h2⟩:=cn _ ⟨C,(p _ R.1).trans W⟩;exact⟨C2,b0.trans h2⟩),cd,(bz.t (FN a4 (Er _ _))).as (by show _=((Dh _ _:Nat):Int);rw[Dk]),T7.trans bk,mu⟩
 have G:j=O qs:=Z;subst G;refine zG ?_;refine sC (yK _ i7) ?_;rintro _ Z1 n8⟨b8,rfl,bp⟩ y8 x8;obtain⟨rfl,q8⟩|⟨rfl,q8⟩:=Ky bp;have ae:¬Lk (KM (O qs) (aQ qs) 0) (O qs)=0:=λe=>q8 AG;have b4:LB (O qs) (aQ qs) 0=Lk (KM (O qs) (aQ qs) 0) (O qs):=by unfold LB MP;rw[CP ae]
 rw[<-b4]at i7 af;have b5:((LB (O qs) (aQ qs) 0:Nat):Int)≠0:=by rw[b4];omega
 have X8:Exo n h Z1:=⟨λc hc=>(x8 c Z).trans (X7.go c hc)⟩;have ci:Z1 V=_:=(x8 V Z).trans ch;have av:Z1 (3*n+2)=_:=(x8 _ Z).trans be;have cj:Z1 H=_:=(x8 H Z).trans p7;have c1:=b7.t (show Tr F o n8 Z1 from zt);have c4:=i7.t (show Tr F o n8 Z1 from zt);refine zG ?_;refine sF (α:=Nat) (λz=>[(3,ι (3*n+2)),(4,ι V),(5,Y (ξ ⟨m,0,θ⟩) (O qs) (O qs)),(6,ι H),(40,Y (ξ ⟨m,0,θ⟩) (O qs) (O qs)),(41,U .i64 (O qs:Int)),(42,U .i64 (z:Int))]) (λz v J w'=>w'=[]/\n8<=J/\ExtB n8 [m] Z1 v/\OZ v J m (mixF (tT (O qs) (aQ qs) 0) (KM (O qs) (aQ qs) 0) z (O qs))/\Ld v m 75/\Tr n8 Z1 J v/\z<=O qs) (λz=>O qs-z) 0 ⟨ω,CS,F7 _ _ _,(R.xx FE zx).as cW,(by have⟨C,W⟩:=a5;exact⟨C,(x8 _ R.1).trans W⟩),Er _ _,CT⟩ ?_;rintro i t y Z3 _⟨rfl,y9,Y9,S,aj,T9,hi⟩;have y9:n8<=Z3:=y9;have S:OZ y Z3 m (mixF (tT (O qs) (aQ qs) 0) (KM (O qs) (aQ qs) 0) i (O qs)):=S;have aj:Ld y m _:=aj;have T9:Tr n8 Z1 Z3 y:=T9;have hi:i<=O qs:=hi;have X9:Exo n h y:=⟨λc hc=>(Y9 c Z dO).trans (X8.go c hc)⟩;have cw:y V=_:=(Y9 V Z dO).trans ci;have cf:y (3*n+2)=_:=(Y9 _ Z dO).trans av;have cx:y H=_:=(Y9 H Z dO).trans cj;have c3:=c1.t T9;have ba:=c4.t T9;refine zG ?_;by_cases q9:(i:Int)<(O qs:Int);have M:i<O qs:=Z;refine zG ?_;obtain⟨aa,⟨ao,am,l10,aa,rfl,ag⟩,_,ck⟩:=S.get (xG M) (off:=0+i*2) (Dl _);rw[CP (Nat.lt_irrefl _)]at ag;refine sI ω M ?_;refine sL ck S.1 0 ?_;refine sA λK cc cs=>?_;refine zG ?_;refine sS [CV ao,Y am l10 aa] λa0 cv a3=>?_;refine zG ?_;refine sC (quoX _ (ag.t zt) (ba.t zt) (T (cO hz hP M)) AP b5) ?_;rintro _ ar bc⟨ap,an,au,ab,rfl,Z4⟩ d1 cy;have Z4:IW ar bc ap an au ab (tT (O qs) (aQ qs) 0 i):=Z4;refine sI ω M ?_;have a7:∀c,c<3*Z3->ar c=y c:=λc hc=>(by have e0:y c=y c:=rfl;exact zp);refine OF (n0:=n) (j:=i) (q:=tT (O qs) (aQ qs) 0 i) [CV ap,Y an au ab] (S.go FE (show Tr Z3 y bc ar from zt) (a7 _ S.1)) FE (by rw[xE];exact M) (Dl _) ⟨_,_,_,_,ω,Z4⟩ Z ?_;rw[pE M];intro bw ca bf co;refine zG ?_;exact sK (i+1) ⟨ω,Z,λc hc hn=>(by
  simp only[DA,C6,or_false]at hn;exact(bf.1 c hn).trans ((a7 c Z).trans (Y9 c hc (by simp[hn])))),ca,(by
  have⟨C,W⟩:=aj;exact co _ ⟨C,(a7 _ S.1).trans W⟩),T9.trans (FN bf zt),An⟩
 have M:i=O qs:=Z;subst M;refine zG ?_;refine sC (SU _ (g.ext X9.go Z) c3 ba (by rw[Dk];exact T (kW hz hP)) AP b5) ?_;rintro _ Z0 c7⟨ao,am,l10,aa,br,bs,bv,cm,rfl,ag,c5⟩ cz cr;refine zG ?_;refine sS [CV ao,Y am l10 aa,CV br,Y bs bv cm] λK cc a1=>?_;have p:∀c,c<3*Z3->c≠3*n+2->K c=y c:=λc hc hn=>(a1.1 c hn).trans (cr c hc);have bj:Tr Z3 y c7 K:=zt;have bm:Exo n h K:=⟨λc hc=>(p c Z Z).trans (X9.go c hc)⟩;refine zq ?_ (hx:=⟨Z,bm.go⟩);exact⟨m,_,_,_,_,_,_,_,_,_,_,ω,Z,gB,S.go FE bj (p m S.1 Z),(by have⟨C,W⟩:=aj;exact⟨C,(p m S.1 Z).trans W⟩),ScR.mk1 hz hP ae,ag.t (FN a1 (Er _ _)),c5.t (FN a1 (Er _ _))⟩;have ae:Lk (KM (O qs) (aQ qs) 0) (O qs)=0:=al1 q8;refine zG ?_;refine sC (SG _ _ _) ?_;rintro _ y Z3⟨b9,a9,l9,c9,d9,e9,f9,u9,rfl,i9,j9⟩ y9 x9;have av:Z1 (3*n+2)=_:=(x8 _ Z).trans be;have cf:y (3*n+2)=_:=(x9 _ Z).trans av;refine zG ?_;refine sS [CV b9,Y a9 l9 c9,CV d9,Y e9 f9 u9] λZ0 cb ai=>?_;have a6:∀c,c<3*F->c≠3*n+2->Z0 c=o c:=λc hc hn=>(ai.1 c hn).trans ((x9 c Z).trans (x8 c hc));have bi:Tr F o Z3 Z0:=zt;have bl:Exo n h Z0:=⟨λc hc=>(a6 c Z Z).trans (X7.go c hc)⟩;refine zq ?_ (hx:=⟨Z,bl.go⟩);exact⟨m,_,_,_,_,_,_,_,_,_,_,ω,Z,gB,(R.go FE bi (a6 m R.1 Z)).as cW,(by have⟨C,W⟩:=a5;exact⟨C,(a6 m R.1 Z).trans W⟩),ScR.mk0 hz hP ae,i9.t (FN ai (Er _ _)),j9.t (FN ai (Er _ _))⟩
end
theorem TJ{va:List Rat}{f:Nat->Rat}{N w:Nat}{x:Rat}(h:∀v,v<N->va[v]?=ξ (f v))(hl:O va=N):∀v,v<N->(va.set w x)[v]?=ξ (Kt f w x v):=by grind [hv,Kt]
def SolP.mv{n m:Nat}{d:Sol}{s:PS}(b:SolP n m d s){va:List Rat}{x:Nat->Rat}(hl:O va=n+m)(h:∀v,v<n+m->va[v]?=ξ (x v)):SolP n m {d with va:=va} ⟨s.toPT,x⟩:=
 ⟨b.nl,b.nb,b.bl,b.ba,hl,h,b.tl,b.ta,b.de,b.ll,b.lh,b.nm,b.ls,b.dn⟩
section
variable {n T B:Nat}{d:Sol}{A:Adr}{s:PS}{a:Nat->Nat->Int}
def TK(k:Nat)(g:GG h n0)(N:SM l h n0 bs d A)(F:SolP n m d s)(pb:PB n m a L s.toPT)(sz:SzP n m V T Z1 B d s)(lm:Lim V T Z1 D B)(hc:c<n){r:Rat}{b1 d1:Bool}{a1 e1:Option Addr}{l1 c1 f1 u1:Nat}(i1:IW h n0 b1 a1 l1 c1 r.num)(j1:IW h n0 d1 e1 f1 u1 (denZ r))(sr:Sz D r):
  CF (Kp (k+12)) 61 [ι bs,U .i64 (c:Int),.agg #[CV b1,Y a1 l1 c1,CV d1,Y e1 f1 u1]] h n0 λ_ P u w=>n0<=u/\∃f,O f=n+m/\(∀v,v<n+m->f[v]?=ξ (KB s c r m v))/\SM l P u bs {d with va:=f} A/\Tr n0 h u P/\(∀b,b<3*n0->¬BkOf (Y A.va (O d.va) (O d.va)) b->P b=h b)/\(∀c∈w,3*l<=c)/\(r=0\/∀b,BkOf (Y A.va (O d.va) (O d.va)) b->b∈w):=by
 have⟨b0,a0,u0,c0,ty,st,i0⟩:=N.st;have ax:=N.bs.1;have ck:=F.nm;have:=lm.l1;have:=lm.l2;have vl:=F.vl;have bl:=F.bl;have gc:=F.nb c hc;have aa:=pb.nv c hc;have gx:=F.va _ aa;have sx:=sz.va _ aa;have⟨k4,o4,e4,m4,r4,t4⟩:=natS.at N.nb.rs gc;have⟨k2,o2,b2,a2,l2,c2,d2,e2,f2,g2,ev,mv,rv,tv,iv,jv⟩:=ab7 N.va.rs gx;refine rT (fn:=Tryz.f61) R4<|zG ?_;refine sB [CV b1,Y a1 l1 c1,CV d1,Y e1 f1 u1] λh1 p1 x1=>?_;refine zG ?_;refine sC (kD _ (i1.x zx) (j1.x zx)) ?_;rintro _ h3 n3⟨b3,rfl,an⟩ y3 x3;obtain⟨rfl,q3⟩|⟨rfl,q3⟩:=Ky an;have⟨bv,p,gv,lv,ov,bi⟩:=N.va.or ω (show O d.va≠0 from Z);injection p with p;refine zG ?_;refine sI e4 r4 ?_;refine sL t4 m4 0 ?_;refine zG ?_;refine zl [0,1,3,7,0,0,32,96,224,0,992,2016,0,8160,16383,32767] rfl<|zH ?_;refine dI ev rv ?_;refine dL tv mv 0 ?_;refine zH ?_;refine dC (addQ _ (g.x zx) (iv.x zx) (jv.x zx) (i1.x zx) (j1.x zx) sx sr Z) ?_;rintro _ h5 Z4⟨b5,a5,l5,c5,d5,e5,f5,u5,rfl,i5,j5⟩ y5 x5;have K:Exo n0 h h5:=⟨(show Tx n0 h Z4 h5 from zx).2⟩;have ae:h5 (3*n0+2)=_:=(zp:h5 (3*n0+2)=_);have cl:=i1.ext (n':=Z4) K.go Z;have cm:=j1.ext (n':=Z4) K.go Z;refine dI (j:=s.nb c) p Z ?_;refine dZ (n0:=n0) (j:=s.nb c) [CV b5,Y a5 l5 c5,CV d5,Y e5 f5 u5] (ov.ext Es K.go Z) Es Z (Dl _) ⟨_,_,_,_,_,_,_,_,ω,i5,j5⟩ λh6 o6 Z3 T6=>?_;have s6:=(N.ext (n':=Z4) K.go Z).mv p Z3 (DX ..) (o6.gr Es (T6 _ (by
  have⟨C,hC⟩:=bi;exact⟨C,(K.go _ ov.1).trans hC⟩)) gv lv ω |> λq=>by rw[p];exact q)
 have az:bv∈addW n0 [bv] []:=wQ ov.1 cA;have ak:Tr n0 h Z4 h6:=FN Z3 ⟨Z,λc hc=>.inl (K.go c hc)⟩;have ai:∀b,b<3*n0->¬BkOf (Y A.va (O d.va) (O d.va)) b->h6 b=h b:=λb hb hn=>(Z3.1 b (λe=>hn ⟨0,O d.va,O d.va,by rw[p,e]⟩)).trans (K.go b hb);have cs:h6 bs=_:=(Z3.1 bs (λe=>by have:=N.bs.2;rw[e,gv]at this;cases this)).trans ((K.go bs ax).trans st);have bg:h6 (3*n0+2)=_:=(Z3.1 (3*n0+2) (λe=>by have:=zB n0;rw[e,gv]at this;cases this)).trans ae;have b6:=TJ (w:=s.nb c) (x:=s.x (s.nb c)+r) F.va vl;refine zG ?_;refine sF (α:=Nat×List Rat) (λz=>[(0,ι bs),(1,U .i64 (c:Int)),(5,ι (3*n0+2)),(36,Y A.ba (O d.ba) (O d.ba)),(37,U .i64 (O d.ba:Int)),(38,U .i64 (z.1:Int))]) (λz P u w'=>Z4<=u/\SM l P u bs {d with va:=z.2} A/\O z.2=n+m/\(∀v,v<n+m->z.2[v]?=ξ (KB s c r z.1 v))/\Tr n0 h u P/\(∀b,b<3*n0->¬BkOf (Y A.va (O d.va) (O d.va)) b->P b=h b)/\P (3*n0+2)=ξ (.row [CV b1,Y a1 l1 c1,CV d1,Y e1 f1 u1] 81)/\bv∈w'/\(∀c∈w',3*l<=c)/\z.1<=m) (λz=>m-z.1) (0,d.va.set (s.nb c) (s.x (s.nb c)+r)) ⟨CS,s6,by rw[DX];exact vl,b6,ak,ai,bg,az,yL (λc hc=>by rw[Dc.1 hc];exact lv) (λc hc=>CO hc C6),CT⟩ ?_;rintro⟨j,f⟩ t Z0 n7 w7 ⟨y7,y,S,R,J,K7,p7,M,ab,hj⟩;have y7:Z4<=n7:=y7;have y:SM l Z0 n7 bs {d with va:=f} A:=y;have S:O f=n+m:=S;have R:∀v,v<n+m->f[v]?=ξ (KB s c r j v):=R;have J:Tr n0 h n7 Z0:=J;have K7:∀b,b<3*n0->¬BkOf (Y A.va (O d.va) (O d.va)) b->Z0 b=h b:=K7;have p7:Z0 (3*n0+2)=ξ (.row [CV b1,Y a1 l1 c1,CV d1,Y e1 f1 u1] 81):=p7;have hj:j<=m:=hj;have⟨b8,a8,u8,c8,cu,ct,i8⟩:=y.st;have cj:=y.bs.1;refine zG ?_;by_cases q7:(j:Int)<(O d.ba:Int);refine zG ?_;have I:j<m:=Z;have gw:=F.ba j I;have ac:=pb.bv j I;have aw:=R _ ac;have ex:KB s c r j (s.bs j)=s.x (s.bs j):=oI (λq=>pb.dis c j hc I q.symm) λi hi q=>by have:=pb.jnj j i I Z q;omega
 have af:=sz.va _ ac;rw[<-ex]at af;have⟨r0,g0,_,au⟩:=F.ta j Z;have hT:=sz.tT j I c hc;have hd:=sz.dd;have ay:=pb.tab.dp;have a3:=F.de;have⟨k9,o9,e9,m9,r9,t9⟩:=natS.at y.ba.rs gw;refine sI e9 r9 ?_;refine sL t9 m9 0 ?_;have⟨cn,cr,br,bo,l10,bx,c4,c9,cc,cf,ew,mw,ah,tw,iw,jw⟩:=ab7 y.va.rs aw;have⟨bw,H,av,be,ow,bj⟩:=y.va.or ω (show O f≠0 from Z);injection H with H;obtain rfl:bw=bv:=by have e:=H.symm.trans p;cases e;rfl
 refine zG ?_;refine zl [0,1,3,7,0,0,32,96,224,0,992,2016,0,0,0,28672,0,126976,262112,524287,1048575] rfl<|zH ?_;refine dI ew ah ?_;refine dL tw mw 0 ?_;refine zH ?_;refine dC (Nk _ (g.t J) y g0 (au c hc) (yU hT Z) (by show d.den.natAbs<BW;rw[a3];exact yU hd Z) (by show d.den≠0;rw[a3];omega)) ?_;rintro _ cg cp⟨bt,bp,l11,bz,c6,ca,cd,cv,rfl,a4,a6⟩ bn bm;have sc:Sz T (DT (s.T j c) s.d):=xz ay hT hd;rw[show({d with va:=f}:Sol).den=s.d from a3]at a4 a6;rw[ES]at a4 a6 sc;refine zH ?_;refine dC (mulQ _ (g.t (J.e bm bn)) a4 a6 ((i1.t J).x zx) ((j1.t J).x zx) sc sr Z) ?_;rintro _ ch cq⟨bu,bq,co,c3,c7,cb,ce,cw,rfl,b7,bb⟩ cz cx;refine dC (addQ _ ((g.t J).x zx) (iw.x zx) (jw.x zx) b7 bb af (sc.mul sr) Z) ?_;rintro _ a7 ad⟨am,al,bd,ao,ap,aq,ar,bk,rfl,b9,bc⟩ d0 cy;have G:Exo n7 Z0 a7:=⟨(show Tx n7 Z0 ad a7 from zx).2⟩;refine dI (j:=s.bs j) H Z ?_;refine dZ (n0:=n0) (j:=s.bs j) [CV am,Y al bd ao,CV ap,Y aq ar bk] (ow.ext Es G.go Z) Es Z (Dl _) ⟨_,_,_,_,_,_,_,_,ω,b9,bc⟩ λci bf W aj=>?_;have bh:=(y.ext (n':=ad) G.go Z).mv H W (DX ..) (bf.gr Es (aj _ (by
  have⟨C,hC⟩:=bj;exact⟨C,(G.go _ ow.1).trans hC⟩)) av be ω |> λq=>by rw[H];exact q)
 have ag:=TJ (w:=s.bs j) (x:=KB s c r j (s.bs j)+(s.T j c:Rat)/s.d*r) R S;refine zJ ?_;exact sK (j+1,f.set (s.bs j) (KB s c r j (s.bs j)+(s.T j c:Rat)/s.d*r)) ⟨Z,bh,by show(f.set _ _).length=_;rw[DX];exact S,ag,FN W (J.trans ⟨Z,λc hc=>.inl (G.go c hc)⟩),λb hb hn=>(W.1 b (λe=>hn ⟨0,O d.va,O d.va,by rw[p,e]⟩)).trans ((G.go b Z).trans (K7 b hb hn)),(W.1 (3*n0+2) (λe=>by have:=zB n0;rw[e,gv]at this;cases this)).trans ((G.go _ Z).trans p7),nM _ _ _ M,yL (λc hc=>by rw[Dc.1 hc];exact lv) ab,I⟩;have b4:j=m:=Z;subst b4;refine zG ?_;refine⟨ω,[],ω,⟨Z,f,S,R,y,J,K7,ab,.inr λb hb=>by
  have⟨o,l',c',e⟩:=hb;rw[p]at e;injection e with e;injection e with e;injection e with e;exact e▸M⟩,λhw=>by rw[show w7=[]from hw]at M;cases M⟩
 subst q3;have X3:Exo n0 h h3:=⟨(show Tx n0 h n3 h3 from zx).2⟩;have y3:n0+1<=n3:=y3;have a9:∀v,v<n+m->d.va[v]?=ξ (KB s c 0 m v):=λv hv=>by rw[mvx0];exact F.va v hv
 refine zG ?_;exact⟨ω,[],ω,⟨Z,d.va,vl,a9,N.ext X3.go Z,⟨Z,λc hc=>.inl (X3.go c hc)⟩,λb hb _=>X3.go b hb,λc hc=>CO hc C6,.inl AL⟩,λ_=>⟨CS,d.va,vl,a9,N,Er _ _,AY,λc hc=>CO hc C6,.inl AL⟩⟩
end
section
variable {a n:Nat}
def absX(k:Nat){x:Int}(d:IW h n sx ax lx cx x):CX (Kp (k+1)) 140 [.agg #[CV sx,Y ax lx cx]] h n (IV (x.natAbs:Int)):=by refine zw (fn:=Tryz.f140) R4<|zG ?_;refine sB [CV sx,Y ax lx cx] λh1 i o=>?_;refine sA λe j p=>?_;refine zG ?_;refine sT #[CV χ,Y ax lx cx] ?_;refine sS [CV χ,Y ax lx cx] λf l g=>?_;refine zq ?_;exact⟨_,_,_,_,ω,⟨(CM Z).symm,(d.t zt).2⟩⟩
theorem OL(x:Rat):(ab x).num=(x.num.natAbs:Int)/\(ab x).den=x.den:=by grind [ab,Gc,F6.2,GH,H1,Hx.1]
def zr4(k:Nat){x:Rat}(j:IW h n sx ax lx cx x.num)(l:IW h n dx ex fx gx (denZ x)):CX (Kp (k+2)) 111 [.agg #[CV sx,Y ax lx cx,CV dx,Y ex fx gx]] h n (QV (ab x)):=by refine zw (fn:=Tryz.f111) R4<|zG ?_;refine sB [CV sx,Y ax lx cx,CV dx,Y ex fx gx] λh1 v A=>?_;refine sA λh2 w B=>?_;refine zG ?_;refine zl [0,1,3,0,8,31,63] rfl<|zH ?_;refine dC (absX _ (j.x zx)) ?_;rintro _ o q⟨e,d,g,f,rfl,i⟩ D C;refine zH ?_;refine dT #[CV e,Y d g f,CV dx,Y ex fx gx] ?_;refine dS [CV e,Y d g f,CV dx,Y ex fx gx] λp y u=>?_;refine zq ?_;exact⟨_,_,_,_,_,_,_,_,ω,(i.t zt).as (OL x).1.symm,(l.t zt).as (by unfold denZ;rw[(OL x).2])⟩
def Sz.ab{x:Rat}(h:Sz a x):Sz a (ab x):=⟨by rw[(OL x).1];have:=h.1;omega,by rw[(OL x).2];exact h.2⟩
def Sz.subT{x y:Rat}(hx:Sz a x)(d:Sz b y):Sz (a+b+1) (x-y):=by rw[G7];exact hx.add d.neg
def cJ{f g:List (Bool×Rat)}{v:Nat}{x:Rat}{p q:Bool×Rat}{up:Bool}(d:f[v]?=ξ p)(e:g[v]?=ξ q):rm (Kr f) (Kr g) v x up=if(qd x p q up).1 then ξ (qd x p q up).2 else θ:=by have⟨i,l⟩:=p;have⟨j,o⟩:=q;unfold rm qd;cases up;rw[CP EN,CP EN];cases i;rw[pj d];rfl;rw[xI d];rfl;rw[CQ ω,CQ rfl];cases j;rw[pj e];rfl;rw[xI e];rfl
section
variable {k:Nat}{s:PS}{up:Bool}
def cndK(m k:Nat)(lo hi:Nat->Option Rat)(s:PS)(c:Nat)(up:Bool)(r:Option Nat)(ρ:Rat):Prop:=Lw m lo hi s c up r ρ/\∀i,r=ξ i->i<k
def LG(m:Nat)(lo hi:Nat->Option Rat)(s:PS)(c:Nat)(up:Bool)(k:Nat)(b:Int)(f:Nat)(fd:Bool)(ρ:Rat):Prop:=
 (fd=χ/\∀r ρ',¬cndK m k lo hi s c up r ρ')\/(fd=φ/\∃r,cndK m k lo hi s c up r ρ/\(r=θ/\b= -1\/∃i:Nat,r=ξ i/\b=(i:Int))/\f=OI s c r/\∀r' ρ',cndK m k lo hi s c up r' ρ'->ρ<ρ'\/ρ=ρ'/\f<=OI s c r')
def cndK.inc{r:Option Nat}{ρ:Rat}(h:cndK m k lo hi s c up r ρ):cndK m (k+1) lo hi s c up r ρ:=⟨h.1,λi e=>by have:=h.2 i e;omega⟩
def cndK.dn{r:Option Nat}{ρ:Rat}(h:cndK m (k+1) lo hi s c up r ρ):cndK m k lo hi s c up r ρ\/r=ξ k:=by
 by_cases e:r=ξ k;exact .inr e;exact .inl ⟨h.1,λi d=>by
  have:=h.2 i d;have:i≠k:=λf=>e (by rw[d,f]);omega⟩
def LG.no{b:Int}{f:Nat}{j:Bool}{ρ:Rat}(h:LG m lo hi s c up k b f j ρ)(v:∀d,¬Lw m lo hi s c up (ξ k) d):LG m lo hi s c up (k+1) b f j ρ:=by have l:∀{r d},cndK m (k+1) lo hi s c up r d->cndK m k lo hi s c up r d:=λ{r d} q=>q.dn.resolve_right λe=>v d (e▸q.1);obtain⟨g,i⟩|⟨g,r,i,o,p,u⟩:=h;exact .inl ⟨g,λr d q=>i r d (l q)⟩;exact .inr ⟨g,r,i.inc,o,p,λw d q=>u w d (l q)⟩
def PY{r:Option Nat}{ρ e:Rat}(h:Lw m lo hi s c up r ρ)(h':Lw m lo hi s c up r e):ρ=e:=by
 cases r with
 |none=>exact El (Eq.trans (Eq.symm h) h')
 |some i=>
  obtain⟨_,_,g,f,rfl⟩:=h;obtain⟨_,_,j,d,rfl⟩:=h';rw[f]at d;cases d;rfl
def LG.take{b:Int}{f:Nat}{l:Bool}{ρ j:Rat}(h:LG m lo hi s c up k b f l ρ)(u:Lw m lo hi s c up (ξ k) j)(g:l=χ\/j<ρ\/j=ρ/\s.bs k<f):LG m lo hi s c up (k+1) (k:Int) (s.bs k) φ j:=by refine .inr ⟨ω,ξ k,⟨u,λi e=>by cases e;omega⟩,.inr ⟨k,ω,ω⟩,ω,λw y q=>?_⟩;obtain v|rfl:=q.dn;obtain⟨o,p⟩|⟨o,r,p,B,C,A⟩:=h;exact CO v (p w y);have d:=A w y v;obtain g|g|⟨g,F⟩:=g;rw[o]at g;cases g;obtain d|⟨d,_⟩:=d;exact .inl Ag;exact .inl Ag;obtain d|⟨d,D⟩:=d;exact .inl (by rw[g];exact d);exact .inr ⟨g.trans d,Z⟩;exact .inr ⟨PY u q.1,CS⟩
def LG.keep{b:Int}{f:Nat}{e:Bool}{ρ g:Rat}(h:LG m lo hi s c up k b f e ρ)(u:Lw m lo hi s c up (ξ k) g)(v:e=φ)(i:ρ<g\/ρ=g/\f<=s.bs k):LG m lo hi s c up (k+1) b f e ρ:=by obtain⟨d,_⟩|⟨d,r,j,l,o,p⟩:=h;rw[v]at d;cases d;refine .inr ⟨d,r,j.inc,l,o,λw y q=>?_⟩;obtain q|rfl:=q.dn;exact p w y q;rw[<-PY u q.1];exact i
def LG.start{f:Bool}{ρ:Rat}(h:rm lo hi (s.nb c) (s.x (s.nb c)) up=if f then ξ ρ else θ):LG m lo hi s c up 0 (-1) (s.nb c) f ρ:=by
 have g:∀{r d},cndK m 0 lo hi s c up r d->r=θ:=λ{r d} q=>by
  cases r with
  |none=>rfl
  |some i=>have:=q.2 i rfl;omega
 cases f with
 |false=>
  refine .inl ⟨ω,λr d q=>?_⟩;obtain rfl:=g q;have q:rm lo hi (s.nb c) (s.x (s.nb c)) up=ξ d:=q.1;rw[h]at q;cases q
 |true=>
  refine .inr ⟨ω,θ,⟨h,λi e=>by cases e⟩,.inl ⟨ω,ω⟩,ω,λj d q=>?_⟩;obtain rfl:=g q;exact .inr ⟨PY (r:=θ) h q.1,CS⟩
end
end
def KO(up:Bool):Int:=if up then 1 else -1
theorem zr5{x y k:Rat}(b:k≠0)(h:x=y\/x= -y):x/ab k=y/k\/x/ab k= -(y/k):=by grind [ab,only]
def zmg(b c:Bool): -9223372036854775808<=KO b*KO c/\KO b*KO c<9223372036854775808:=by cases b<;>cases c<;>decide
def zmh(b c:Bool):(c==b)=φ↔0<KO b*KO c:=by cases b<;>cases c<;>decide
theorem zmd{t:Int}{d:Int}{s:Int}(f:0<(d:Rat))(h0:¬(t:Rat)/d=0)(h:s= -1/\((t:Rat)/d).num<0\/s=0/\((t:Rat)/d).num=0\/s=1/\0<((t:Rat)/d).num):s=KO (decide (0<t)):=by
 have g:=Fj (a:=(t:Rat)) (show(d:Rat)≠0 by grind);generalize (t:Rat)/d=q at*;obtain⟨rfl,h⟩|⟨rfl,h⟩|⟨rfl,h⟩:=h;have e:q<0:=F6.1 λe=>by have:=(Gc (q:=q)).2 e;omega
 have b:¬0<t:=λb=>(by have i:(0:Rat)<t:=FW.2 b;have:=Fe (show 0< -q by grind) f;grind);rw[CM b];rfl;exact CO (FJ.1 h) h0;have e:0<q:=F6.1 λe=>by
  have:=mt (Gc (q:= -q)).1;have b:0<= -q:=by grind
  have:=(Gc (q:= -q)).2 b;rw[GH]at this;omega
 have b:0<t:=FW.1 (by rw[<-g];exact Fe e f);rw[CN b];rfl
section
variable {n T B:Nat}{d:Sol}{A:Adr}{s:PS}{a:Nat->Nat->Int}{up:Bool}
def zia(k:Nat)(g:GG h n0)(sm:SM l h n0 bs d A)(H:SolP n m d s)(pb:PB n m a L s.toPT)(sz:SzP n m V T Z1 B d s)(lm:Lim V T Z1 D B)(hc:c<n)(hD:∀i,i<m->s.T i c≠0->∀q,(Kr d.lo (s.bs i)=ξ q\/Kr d.hi (s.bs i)=ξ q)->Sz D ((q-s.x (s.bs i))/((s.T i c:Rat)/s.d))):
  CX (Kp (k+13)) 64 [ι bs,U .i64 (c:Int),U .i64 (KO up)] h n0 λw I J=>∃b f ρ b1 a1 l1 c1 d1 e1 f1 g1 F,w=.tuple #[U .i64 b,.agg #[CV b1,Y a1 l1 c1,CV d1,Y e1 f1 g1],CV F]/\IW I J b1 a1 l1 c1 ρ.num/\IW I J d1 e1 f1 g1 (denZ ρ)/\LG m (Kr d.lo) (Kr d.hi) s c up m b f F ρ/\Sz D ρ:=by
 have⟨b0,a0,u0,c0,ty,st,i0⟩:=sm.st;have bh:=sm.bs.1;have cj:=H.nm;have:=lm.l1;have:=lm.l2;have:=lm.l3;have vl:=H.vl;have bl:=H.bl;have ll:=H.ll;have lh:=H.lh;have gc:=H.nb c hc;have ar:=pb.nv c hc;have gx:=H.va _ ar;have bp:up=φ↔0<KO up:=by cases up<;>decide
 obtain⟨pl,R⟩:∃x,d.lo[s.nb c]?=ξ x:=⟨_,CW Z⟩;obtain⟨ph,P⟩:∃x,d.hi[s.nb c]?=ξ x:=⟨_,CW Z⟩;have al:=sz.va _ ar;have N:=sz.lo _ (C0 R);have M:=sz.hi _ (C0 P);have G:=cJ (x:=s.x (s.nb c)) (up:=up) R P;have bn:Sz D (qd (s.x (s.nb c)) pl ph up).2:=(by unfold qd;split;exact(Sz.subT M al).mono Z;exact(Sz.subT al N).mono Z);have⟨k4,o4,e4,m4,r4,t4⟩:=natS.at sm.nb.rs gc;refine zw (fn:=Tryz.f64) R4<|Zd λh1 p1 x1=>?_;refine zG ?_;refine sI e4 r4 ?_;refine sL t4 m4 0 ?_;refine zG ?_;refine sC (SX _ (g.x zx) (sm.x zx) gx R P al N M Z bp) ?_;rintro _ h2 p⟨b2,a2,l2,c2,d2,e2,f2,g2,rfl,i2,j2⟩ y2 x2;generalize hρ:(qd (s.x (s.nb c)) pl ph up).2=ρ0 at*;generalize hfd:(qd (s.x (s.nb c)) pl ph up).1=fd0 at*;refine Zd λh3 p3 x3=>?_;refine sS [CV b2,Y a2 l2 c2,CV d2,Y e2 f2 g2] λo p4 o4=>?_;have X4:Exo n0 h o:=⟨(show Tx n0 h (p+1) o from zx).2⟩;have T4:Tr n0 h (p+1) o:=zt;have i4:=i2.t (zt:Tr p h2 (p+1) o);have j4:=j2.t (zt:Tr p h2 (p+1) o);have cs:o (3*n0+2)=_:=(zp:o (3*n0+2)=_);have y2:n0+1<=p:=y2;have cy:o bs=_:=(X4.go bs bh).trans st;refine zG ?_;refine sF (α:=Nat×Int×Nat×Bool×Rat×Bool×Option Addr×Nat×Nat×Bool×Option Addr×Nat×Nat) (λz=>[(0,ι bs),(1,U .i64 (c:Int)),(2,U .i64 (KO up)),(7,ι (3*n0+2)),(9,U .i64 (z.2.2.1:Int)),(10,ι (3*p+2)),(11,CV z.2.2.2.1),(12,U .i64 z.2.1),(36,Y A.ba (O d.ba) (O d.ba)),(37,U .i64 (O d.ba:Int)),(38,U .i64 (z.1:Int))]) (λz I J w'=>w'=[]/\p+1<=J/\ExtB (p+1) [3*p+2] o I/\I (3*p+2)=ξ (.row [CV z.2.2.2.2.2.1,Y z.2.2.2.2.2.2.1 z.2.2.2.2.2.2.2.1 z.2.2.2.2.2.2.2.2.1,CV z.2.2.2.2.2.2.2.2.2.1,Y z.2.2.2.2.2.2.2.2.2.2.1 z.2.2.2.2.2.2.2.2.2.2.2.1 z.2.2.2.2.2.2.2.2.2.2.2.2] 81)/\IW I J z.2.2.2.2.2.1 z.2.2.2.2.2.2.1 z.2.2.2.2.2.2.2.1 z.2.2.2.2.2.2.2.2.1 z.2.2.2.2.1.num/\IW I J z.2.2.2.2.2.2.2.2.2.1 z.2.2.2.2.2.2.2.2.2.2.1 z.2.2.2.2.2.2.2.2.2.2.2.1 z.2.2.2.2.2.2.2.2.2.2.2.2 (denZ z.2.2.2.2.1)/\LG m (Kr d.lo) (Kr d.hi) s c up z.1 z.2.1 z.2.2.1 z.2.2.2.1 z.2.2.2.2.1/\Sz D z.2.2.2.2.1/\z.1<=m) (λz=>m-z.1) (0,-1,s.nb c,fd0,ρ0,b2,a2,l2,c2,d2,e2,f2,g2) ⟨ω,CS,F7 _ _ _,p4,i4,j4,.start G,bn,CT⟩ ?_;rintro⟨j,b,f,F,ρ,bS,aS,lS,kS,uS,vS,wS,xS⟩ t h5 n5 _ ⟨rfl,y5,Y5,p5,W,Z3,hv,S,hj⟩;dsimp only at p5 W Z3 hv S hj y5;have X5:Exo n0 h h5:=⟨λc hc=>(Y5 c Z (λe=>by have:=Dc.1 e;omega)).trans (X4.go c hc)⟩;have s5:=sm.ext (n':=n5) X5.go Z;have g5:=g.ext X5.go (by omega:n0<=n5);refine zG ?_;by_cases q5:(j:Int)<(O d.ba:Int);refine zG ?_;have v:j<m:=Z;have gw:=H.ba j v;have au:=pb.bv j v;have bg:=H.va _ au;have ak:=sz.va _ au;have⟨r0,g0,_,be⟩:=H.ta j Z;have hT:=sz.tT j v c hc;have hd:=sz.dd;have bi:=pb.tab.dp;have af:=H.de;have⟨k9,o9,e9,m9,r9,t9⟩:=natS.at s5.ba.rs gw;refine sI e9 r9 ?_;refine sL t9 m9 0 ?_;refine zG ?_;refine sC (Nk _ g5 s5 g0 (be c hc) (yU hT Z) (by rw[af];exact yU hd Z) (by rw[af];omega)) ?_;rintro _ h6 n6⟨b6,a6,l6,c6,d6,e6,f6,g6,rfl,i6,j6⟩ y6 x6;have sc:Sz T (DT (s.T j c) s.d):=xz bi hT hd;rw[af]at i6 j6;rw[ES]at i6 j6 sc;refine Zd λh7 p7 x7=>?_;refine zG ?_;refine sS [CV b6,Y a6 l6 c6,CV d6,Y e6 f6 g6] λh8 p8 o8=>?_;refine zG ?_;refine sC (kD _ (i6.t zt) (j6.t zt)) ?_;rintro _ h9 n9⟨b9,rfl,b7⟩ y9 x9;obtain⟨rfl,q9⟩|⟨rfl,q9⟩:=Ky b7;refine zG ?_;refine sC (fD _ (i6.t zt) (j6.t zt)) ?_;rintro _ ce cl⟨ay,rfl,c4⟩ d8 cz;have ag:ay=KO (decide (0<s.T j c)):=zmd pb.dpos q9 c4;obtain⟨pl,R⟩:∃x,d.lo[s.bs j]?=ξ x:=⟨_,CW Z⟩;obtain⟨ph,P⟩:∃x,d.hi[s.bs j]?=ξ x:=⟨_,CW Z⟩;have N:=sz.lo _ (C0 R);have M:=sz.hi _ (C0 P);refine zG ?_;refine st_mul (a:=ay) (b:=KO up) ω ω ω ω ω ω (by rw[ag];exact zmg _ _) ?_;subst ag;refine sC (SX (up:=(up==decide (0<s.T j c))) _ (g5.x zx) (s5.x zx) bg R P ak N M Z (zmh _ _)) ?_;rintro _ an y⟨b5,b4,l11,b8,bb,bc,bd,bf,rfl,ah,ai⟩ d9 d0;have G:=cJ (x:=s.x (s.bs j)) (up:=(up==decide (0<s.T j c))) R P;generalize hρ:(qd (s.x (s.bs j)) pl ph (up==decide (0<s.T j c))).2=ρ1 at*;generalize hfd:(qd (s.x (s.bs j)) pl ph (up==decide (0<s.T j c))).1=fd1 at*;refine Zd λcf cq d3=>?_;refine zG ?_;refine sS [CV b5,Y b4 l11 b8,CV bb,Y bc bd bf] λad cr cn=>?_;refine zG ?_;cases fd1;refine zG ?_;exact sK (j+1,b,f,F,ρ,bS,aS,lS,kS,uS,vS,wS,xS) ⟨ω,Z,zy,zp,W.t zt,Z3.t zt,hv.no (λρ' hq=>by
  have⟨_,_,g',h1,_⟩:=hq;rw[G]at h1;cases h1),S,v⟩
 have Z4:s.T j c≠0:=λe=>q9 (by rw[e];exact pO _);have az:=(pb.sgn (t:=s.T j c)).2.1 Z4;obtain⟨ap,aq,bo⟩:Lw m (Kr d.lo) (Kr d.hi) s c up (ξ j) (ρ1/ab ((s.T j c:Rat)/s.d))/\Sz D (ρ1/ab ((s.T j c:Rat)/s.d))/\Sz D ρ1:=(by have hb:∃q,(Kr d.lo (s.bs j)=ξ q\/Kr d.hi (s.bs j)=ξ q)/\(ρ1=q-s.x (s.bs j)\/ρ1= -(q-s.x (s.bs j))):=(by generalize (up==decide (0<s.T j c))=u at G;cases u;exact⟨_,.inl (NL G),.inr Ag⟩;exact⟨_,.inr (NK G),.inl Ag⟩);have⟨q,bk,bm⟩:=hb;have h1:=hD j v Z4 q bk;have h0:Sz D ρ1:=(by rw[<-hρ];unfold qd;split;exact(Sz.subT M ak).mono Z;exact(Sz.subT ak N).mono Z);refine⟨⟨v,Z4,ρ1,G,ω⟩,?_,h0⟩;have o:ρ1/ab ((s.T j c:Rat)/s.d)=(q-s.x (s.bs j))/((s.T j c:Rat)/s.d)\/ρ1/ab ((s.T j c:Rat)/s.d)= -((q-s.x (s.bs j))/((s.T j c:Rat)/s.d)):=zr5 az bm;obtain o|o:=o;rw[o];exact h1;rw[o];exact h1.neg);have b3:Tr n5 h5 (y+1) ad:=zt;have ah:=ah.t (zt:Tr y an (y+1) ad);have ai:=ai.t (zt:Tr y an (y+1) ad);refine zG ?_;refine zl [0,0,2,7,15] rfl<|zH ?_;refine dC (zr4 _ (i6.t zt) (j6.t zt)) ?_;rintro _ cg cm⟨c8,c7,ck,c9,ca,cb,cc,cd,rfl,bq,bu⟩ da d4;refine dC (divQ _ ((g5.t b3).x zx) (ah.t zt) (ai.t zt) bq bu bo sc.ab Z) ?_;rintro _ ae K⟨a5,a4,aj,a7,a8,a9,aa,ac,rfl,av,aw⟩ db d5;refine dS [CV a5,Y a4 aj a7,CV a8,Y a9 aa ac] λao ct co=>?_;have br:=av.t (zt:Tr K ae K ao);have bw:=aw.t (zt:Tr K ae K ao);refine zJ ?_;refine sC (xp _ br bw (W.t zt) (Z3.t zt) aq S Z).cx ?_;rintro _ Z0 ax⟨cw,rfl,C⟩ dc d7;generalize hr1:ρ1/ab ((s.T j c:Rat)/s.d)=ρ2 at*;have am:Tr K ae ax Z0:=zt;have cu:Z0 (3*y+2)=_:=(zp:Z0 (3*y+2)=_);have bt:=av.t am;have bx:=aw.t am;refine zM ?_;simp only[yu,xg,zK,yY];refine yj (α:=Bool) (λz=>[(0,ι bs),(1,U .i64 (c:Int)),(2,U .i64 (KO up)),(7,ι (3*n0+2)),(9,U .i64 (f:Int)),(10,ι (3*p+2)),(11,CV F),(12,U .i64 b),(13,U .i64 (j:Int)),(14,U .i64 (s.bs j:Int)),(16,ι (3*y+2)),(36,Y A.ba (O d.ba) (O d.ba)),(37,U .i64 (O d.ba:Int)),(38,U .i64 (j:Int)),(82,CV z)]) (λz I J w'=>w'=[]/\Z0=I/\ax=J/\(z=φ/\(F=χ\/ρ2<ρ\/ρ2=ρ/\s.bs j<f)\/z=χ/\F=φ/\(ρ<ρ2\/ρ=ρ2/\f<=s.bs j))) ?_ ?_;cases F;refine zG ?_;exact zA φ (by(repeat (first|exact trivial|refine⟨ω,?_⟩))) ⟨ω,ω,ω,.inl ⟨ω,.inl AL⟩⟩;obtain⟨rfl,C⟩|⟨rfl,C⟩|⟨rfl,C⟩:=C;refine zG ?_;exact zA φ (by(repeat (first|exact trivial|refine⟨ω,?_⟩))) ⟨ω,ω,ω,.inl ⟨ω,.inr (.inl C)⟩⟩;by_cases a3:(s.bs j:Int)<(f:Int);refine zG ?_;exact zA φ (by(repeat (first|exact trivial|refine⟨ω,?_⟩))) ⟨ω,ω,ω,.inl ⟨ω,.inr (.inr ⟨C,Z⟩)⟩⟩;refine zG ?_;exact zA χ (by(repeat (first|exact trivial|refine⟨ω,?_⟩))) ⟨ω,ω,ω,.inr ⟨ω,AL,.inr ⟨C.symm,Z⟩⟩⟩;refine zG ?_;exact zA χ (by(repeat (first|exact trivial|refine⟨ω,?_⟩))) ⟨ω,ω,ω,.inr ⟨ω,AL,.inl C⟩⟩;rintro z t _ _ _⟨rfl,rfl,rfl,⟨rfl,a3⟩|⟨rfl,a3,c5⟩⟩;refine zG ?_;refine zl [0,0,0,1,11,31,63] rfl<|zH ?_;refine dS [CV a5,Y a4 aj a7,CV a8,Y a9 aa ac] λch c3 cp=>?_;refine zJ ?_;exact sK (j+1,(j:Int),s.bs j,φ,ρ2,a5,a4,aj,a7,a8,a9,aa,ac) ⟨ω,Z,zy,c3,bt.t zt,bx.t zt,hv.take ap a3,aq,v⟩;refine zG ?_;exact sK (j+1,b,f,F,ρ,bS,aS,lS,kS,uS,vS,wS,xS) ⟨ω,Z,zy,zp,W.t zt,Z3.t zt,hv.keep ap a3 c5,S,v⟩;refine zG ?_;exact sK (j+1,b,f,F,ρ,bS,aS,lS,kS,uS,vS,wS,xS) ⟨ω,Z,zy,zp,W.t zt,Z3.t zt,hv.no λρ' hq=>(pb.sgn (t:=s.T j c)).2.1 hq.2.1 q9,S,v⟩;have bj:j=m:=Z;subst bj;refine zG ?_;refine zl [0,0,0,1,11,31] rfl<|zH ?_;refine dS [CV bS,Y aS lS kS,CV uS,Y vS wS xS] λci cv bz=>?_;refine zq ?_ (hx:=⟨Z,λc hc=>(bz.1 c Z).trans (X5.go c hc)⟩);exact⟨_,_,_,_,_,_,_,_,_,_,_,_,ω,W.t zt,Z3.t zt,hv,S⟩
end
section
variable {h0:HF}{B Z4:Nat}{L T:List Nat}
def AU.ext{h:HF}{n:Nat}{w:List Nat}(a:AU h0 n0 v0 h n w v T)(x:Ko n h h')(f:n<=n'):AU h0 n0 v0 h' n' w v T:=
 ⟨Dy a.hn f,λb j i=>(x b (by have:=a.hn;omega)).trans (a.keep b j i),a.hw,Gro.ext a.g x f,a.or,a.wd⟩
theorem zjo{x s d:Nat}(a:V+c*P=Z4)(b:s+B*c'=d+c)(h3:x+d*P=V+s*P):x+c'*(P*B)=Z4:=by grind
theorem zog{P X:List Nat}{w:Nat}(a:O L=O Z0)(b:wv L+c*18446744073709551616^O Z0=wv Z0+wv X*w):wv (P++(L++S))+c*18446744073709551616^(O P+O Z0)=wv (P++(Z0++S))+wv X*(18446744073709551616^O P*w):=by grind [wZ,only,wv]
section
variable {r:List Oper}{n:Nat}
def TM(cs:List ψ)(a:qu X ops t o d (Ku o.op=2/\KD X.E o.op (Kn t)=ξ ⟨cs,e,χ,ξ (l,c)⟩))
  (k:∀h',h' (3*n+2)=ξ (.row cs e)->Ko n h h'->EO X ops r ⟨upd t d (Y (ξ ⟨3*n+2,0,θ⟩) l c),h',n+1,w⟩ Q):EO X ops (o::r) ⟨t,h,n,w⟩ Q:=by have⟨a,f,i,b,g⟩:=a;exact pZ ⟨a,f,i,b,g⟩ (k _ (zg _ _ _) (Ko.upd Z))
end
def rQ(k:Nat){h:HF}{n:Nat}{F:ψ}{X Z3:List Nat}{aX aY:Option Addr}{lX lY cY:Nat}(g:GroU h n F T)(hT:Kq T)(hX:Sl h n 1 (Y aX lX cX) (u64s X))(hY:Sl h n 1 (Y aY lY cY) (u64s Z3))(wX:Kq X)(wY:Kq Z3)(oX:∀b,BkOf F b->KL b (Y aX lX cX))(oY:∀b,BkOf F b->KL b (Y aY lY cY))(hb:O T<1000000/\O X<1000000/\O Z3<1000000)(aq:O X<40\/O Z3<40):
  CF (Kp (k+3)) 138 [F,Y aX lX cX,Y aY lY cY] h n λv h' n' w=>∃T',AU h n F h' n' w v T'/\wv T'=wv T+wv X*wv Z3/\O T'<=max (O T) (O X+O Z3)+40:=by
 refine zw (fn:=Tryz.f138) R4 ?_;have e1:=hX.lenW;have e2:=hY.lenW;subst e1 e2;refine mM ?_;refine zM ?_;refine st_I (ik:=.i64) (a:=(O X:Int)) R5<|zM ?_;refine st_I (ik:=.i64) (a:=(O Z3:Int)) R5<|lW R6 ?_;simp only[yu,xg,zK,yY];refine yj (α:=(Option Addr×Nat×List Nat)×(Option Addr×Nat×List Nat)) (λz=>[(0,F),(1,Y z.1.1 (O z.1.2.2) z.1.2.1),(2,Y z.2.1 (O z.2.2.2) z.2.2.1)]) (λz h' n' w=>h=h'/\n=n'/\w=[]/\Sl h n 1 (Y z.1.1 (O z.1.2.2) z.1.2.1) (u64s z.1.2.2)/\Sl h n 1 (Y z.2.1 (O z.2.2.2) z.2.2.1) (u64s z.2.2.2)/\Kq z.1.2.2/\Kq z.2.2.2/\(∀b,BkOf F b->KL b (Y z.1.1 (O z.1.2.2) z.1.2.1))/\(∀b,BkOf F b->KL b (Y z.2.1 (O z.2.2.2) z.2.2.1))/\O z.2.2.2<40/\O z.1.2.2<1000000/\wv z.1.2.2*wv z.2.2.2=wv X*wv Z3/\O z.1.2.2+O z.2.2.2=O X+O Z3) ?_ ?_;by_cases hlt:O X<O Z3;rw[ze eU];refine mM ?_;exact zA ((aY,cY,Z3),(aX,cX,X)) P3 ⟨ω,ω,ω,hY,hX,wY,wX,oY,oX,by show O X<40;omega,by show O Z3<_;omega,C5 _ _,EE _ _⟩;rw[za eS];refine zN ?_;exact zA ((aX,cX,X),(aY,cY,Z3)) P3 ⟨ω,ω,ω,hX,hY,wX,wY,oX,oY,by show O Z3<40;omega,by show O X<_;omega,ω,ω⟩;rintro⟨⟨a,c,A⟩,⟨a',c',C⟩⟩ t _ _ _ ⟨rfl,rfl,rfl,hA,hC,wA,wC,oA,oC,ap,ar,N,R⟩;simp only at hA hC wA wC oA oC ap ar N R;rw[<-N,<-R];rw[<-R]at*;have b4:=hb.1;refine Za ?_;refine st_I (ik:=.i64) (a:=(O C:Int)) R5<|Zb ?_;refine ye (α:=ψ×List Nat) (λz=>[(0,z.1),(1,Y a (O A) c),(2,Y a' (O C) c')]) (λz h' n' w=>AU h n F h' n' w z.1 z.2/\wv z.2=wv T/\O z.2<=max (O T) (O A+O C)) (λz=>O A+O C-O z.2) (F,T) P3 ⟨.refl g hT,ω,Nat.le_max_left _ _⟩ (by show O A+O C-O T<LL;unfold LL;omega) ?_;rintro⟨v1,q⟩ t h1 n1 w1 ⟨p,u,a6⟩;simp only at p u a6;obtain⟨ae,rfl,_⟩:=Jr p.g;refine Za ?_;refine st_I (ik:=.i64) (a:=(O q:Int)) R5<|zM ?_;refine st_I (ik:=.i64) (a:=(O A:Int)) R5<|zM ?_;refine st_I (ik:=.i64) (a:=(O C:Int)) R5 ?_;by_cases hlt:O q<O A+O C;refine Zx ?_;refine TM [U .u64 0] (l:=1) (c:=1) R5 λh2 p2 x2=>?_;refine SF (p.ext x2 Zq) R9 (yp p2 R2) Z λv3 h3 w3 a3=>?_;refine zS (v:=v3) R4 rfl<|zN ?_;refine goOn (v3,q++[0]) (by show _-O (q++[0])<_-O q;rw[C1,Db];omega) P3 ⟨a3,?_,?_⟩;simp only;rw[yO,EJ,DV,u];exact B3;refine Zr ?_;refine st_I (ik:=.i64) (a:=(O C:Int)) R5<|oQ ?_;refine ye (α:=ψ×List Nat×Nat) (λz=>[(0,z.1),(1,Y a (O A) c),(36,Y a' (O C) c'),(37,U .i64 (O C:Int)),(38,U .i64 (z.2.2:Int))]) (λz h' n' w=>AU h n F h' n' w z.1 z.2.1/\wv z.2.1=wv T+wv A*wv (C.take z.2.2)/\O A+O C<=O z.2.1/\O z.2.1<=max (O T) (O A+O C)+z.2.2/\z.2.2<=O C) (λz=>O C-z.2.2) (Y ae (O q) (O q),q,0) P5 ⟨p,by simp[wv,dv]at u⊢;exact u,by show _<=O q;omega,a6,CT⟩ AH ?_;rintro⟨v1,q,i⟩ t h1 n1 w1 ⟨p,u,az,a6,hi⟩;simp only at p u az a6 hi;refine zN ?_;by_cases hiC:i=O C;subst hiC;rw[Ds]at u;obtain⟨ae,rfl,_⟩:=Jr p.g;refine Zj ?_;exact retH _ ⟨ω,(zi ω),ω⟩ ⟨q,p,u,Z⟩;obtain⟨y,hy⟩:∃x,C[i]?=ξ x:=⟨C[i]'Z,CW Z⟩;have b2:=wC.get hy;obtain⟨b,rfl,a9,a0,Z1⟩:=GroU.row p.g Z;obtain⟨P,Z0,S,H,hP,hZ⟩:∃P Z0 S,q=P++(Z0++S)/\O P=i/\O Z0=O A:=⟨q.take i,(q.drop i).take (O A),(q.drop i).drop (O A),by rw[Eb,Eb],gQ,pe⟩;have af:=p.sl hA oA;have ag:=p.sl hC oC;have ad:=p.off hA oA b ⟨_,_,_,ω⟩;refine Zk ?_;refine yE (f:=λd:Nat=>U .u64 (d:Int)) (j:=i) R7 ag R2 hy (λ_=>rfl) R4 λ_=>?_;refine Zc ?_;refine rt i (i+O A) R9 ω ω Z ?_;rw[show 0+i*1=O P from Z,show i+O A-i=O Z0 from Z];repeat refine zR ?_
 have ak:=li k (h:=h1) (n:=n1) (b:=b) (cZ:=O q-i) (P:=P) (Z0:=Z0) (S:=S) a0 (by rw[<-H];exact Z1) Z (λd I=>p.wd d (by rw[H];simp[I])) af wA ad hZ Z b2;refine zF _ R5 ak ?_;rintro _ h2 n2 w2⟨L,cc,rfl,ay,⟨an,rfl,ao,am⟩,ah,aa,ai⟩;have a7:O (P++(L++S))=O q:=by rw[H];simp[aa]
 have a2:=p.trans (AU.row a9 a0 ao an am a7 (Kq.append (λd I=>p.wd d (by rw[H];simp[I])) (Kq.append ah (λd I=>p.wd d (by rw[H];simp[I])))));have M:=zog (S:=S) (P:=P) aa ai;rw[<-H,hP,hZ,u]at M;generalize hT2:P++(L++S)=T2 at a2 M a7;have M:wv T2+cc*18446744073709551616^(i+O A)=wv T+wv A*wv (C.take (i+1)):=(by rw[zQ hy,DW,M];omega);refine Zv ?_;refine st_I (ik:=.i64) (a:=(O A:Int)) R5<|oQ ?_;rw[<-a7];refine ye (α:=ψ×List Nat×Nat×Nat) (λz=>[(0,z.1),(1,Y a (O A) c),(9,U .u64 (z.2.2.1:Int)),(10,U .i64 (z.2.2.2:Int)),(36,Y a' (O C) c'),(37,U .i64 (O C:Int)),(38,U .i64 (i:Int))]) (λz h' n' w=>AU h n F h' n' w z.1 z.2.1/\wv z.2.1+z.2.2.1*18446744073709551616^z.2.2.2=wv T+wv A*wv (C.take (i+1))/\O A+O C<=O z.2.1/\(O z.2.1<=max (O T) (O A+O C)+i\/(O z.2.1<=max (O T) (O A+O C)+i+1/\z.2.2.1=0))/\z.2.2.1<18446744073709551616/\z.2.2.2<=O z.2.1) (λz=>(O z.2.1-z.2.2.2)+(if z.2.2.1=0 then 0 else 1)) (Y (ξ ⟨b,0,θ⟩) (O T2) (O T2),T2,cc,i+O A) ⟨ω,ω,ω,by show U .i64 _=U .i64 _;rfl,ω,ω,ω,CR⟩ ⟨by rw[a7];exact a2,M,by show _<=O T2;omega,.inl (by show O T2<=_;omega),ay,by show i+O A<=O T2;omega⟩ (by show(O T2-(i+O A))+_<LL;unfold LL;split<;>omega) ?_;rintro⟨v3,D,c3,m⟩ t h3 n3 w3 ⟨a3,W,ac,al,aw,au⟩;simp only at a3 W ac al aw au;refine zN ?_;by_cases hc0:c3=0;subst hc0;rw[Nat.zero_mul,DV]at W;refine Zj ?_;refine goOn (v3,D,i+1) (by show O C-(i+1)<O C-i;omega) P5 ⟨a3,W,ac,by show O D<=_+(i+1);omega,An⟩;have al:O D<=max (O T) (O A+O C)+i:=Z;refine Zh ?_;obtain⟨b3,rfl,_⟩:=Jr a3.g;refine mZ ?_;refine st_I (ik:=.i64) (a:=(O D:Int)) R5<|Mu R6 ?_;simp only[yu,xg,zK,yY];refine yj (α:=ψ×List Nat) (λz=>[(0,z.1),(1,Y a (O A) c),(9,U .u64 (c3:Int)),(10,U .i64 (m:Int)),(36,Y a' (O C) c'),(37,U .i64 (O C:Int)),(38,U .i64 (i:Int))]) (λz h' n' w=>AU h n F h' n' w z.1 z.2/\wv z.2=wv D/\m<O z.2/\O A+O C<=O z.2/\(O z.2=O D\/(O z.2=O D+1/\m=O D/\z.2[m]?=ξ 0))) ?_ ?_;by_cases hat:m=O D;rw[ze eU];refine Za ?_;refine TM [U .u64 0] (l:=1) (c:=1) R5 λh4 p4 x4=>?_;refine SF (a3.ext x4 Zq) R9 (yp p4 R2) Z λv5 h5 w5 a5=>?_;refine zS (v:=v5) R4 rfl<|zN ?_;refine zA (v5,D++[0]) P7 ⟨a5,?_,?_,?_,.inr ⟨?_,hat,?_⟩⟩;simp only;rw[yO,EJ,DV];exact B3;exact B3;simp only;rw[C1,Db];simp only;rw[hat,List.getElem?_append_right CS,Nat.sub_self];rfl;rw[za eS];refine zN ?_;exact zA (_,D) P7 ⟨a3,ω,by show m<O D;omega,ac,.inl ω⟩;rintro⟨v4,G⟩ t h4 n4 w4 ⟨a4,aj,ab,b0,K⟩;simp only at a4 aj ab b0 K;rw[<-aj]at W;obtain⟨b,rfl,a9,a0,Z1⟩:=GroU.row a4.g Z;obtain⟨d,I⟩:∃x,G[m]?=ξ x:=⟨G[m]'Z,CW Z⟩;have b5:=a4.wd.get I;refine kG ?_;refine yE (f:=λd:Nat=>U .u64 (d:Int)) (j:=m) R7 (Gro.sl a4.g) R2 I (λ_=>rfl) R4 λ_=>?_;repeat refine zR ?_
 refine vt (x:=d) (y:=c3) (c:=0) R5 zd ?_;obtain⟨s,hs⟩:∃x,x=(d+c3+0)%18446744073709551616:=⟨_,ω⟩;obtain⟨c5,ax⟩:∃x,x=(d+c3+0)/18446744073709551616:=⟨_,ω⟩;rw[<-hs,<-ax];repeat refine zR ?_
 refine zl6 (j:=m) (v:=U .u64 (s:Int)) R9 ⟨ab,by rw[zL];exact ab⟩ Z1 (λ_=>rfl) ω ω ω (λ_=>rfl) ω λ_=>?_;rw[yk];refine Zg ?_;have a8:O (G.set m s)=O G:=DX;have a5:=a4.trans (AU.row (h':=upd h4 b (ξ (.row (u64s (G.set m s)) 164))) (w:=[b]) (L:=G.set m s) a9 a0 (λk hk b1=>zm b1) (λc hc=>Dc.1 hc) (zg _ _ _) a8 (Kq.set a4.wd Z));refine goOn (_,G.set m s,c5,m+1) ?_ P7 ⟨a5,?_,?_,?_,?_,?_⟩;show(O (G.set m s)-(m+1))+(if c5=0 then 0 else 1)<(O D-m)+(if c3=0 then 0 else 1);rw[a8,CP hc0];obtain K|⟨K,av,J⟩:=K;split<;>omega;rw[I]at J;injection J with J;rw[CQ Z];omega;simp only;rw[Dj];exact zjo W Z (Mx s I);show _<=O (G.set m s);omega;show(G.set m s).length<=_\/_;rw[a8];obtain K|⟨K,av,J⟩:=K;exact .inl Z;rw[I]at J;injection J with J;exact .inr ⟨Z,by show c5=0;omega⟩;show c5<_;omega;show m+1<=O (G.set m s);omega
end
section
variable {lo n:Nat}{h0:HF}{T:List Nat}
def SumO(lo:Nat)(h:HF)(n bS:Nat)(z:Int)(m:Nat):Prop:=∃vP vN P N e,3*lo<=bS/\bS<3*n/\gro bS=χ/\h bS=ξ (.row [vP,vN] e)/\Gro h lo n 164 1 vP (O P) (u64s P)/\Gro h lo n 164 1 vN (O N) (u64s N)/\Kq P/\Kq N/\(∀b,BkOf vP b->¬BkOf vN b)/\z=(wv P:Int)-wv N/\O P<=m/\O N<=m
def SumO.ext{z:Int}(s:SumO lo h n bS z m)(x:Ko n h h')(a:n<=n'):SumO lo h' n' bS z m:=by have⟨o,l,P,N,e,b,c,d,f,g,i,j⟩:=s;exact⟨o,l,P,N,e,b,Z,d,(x _ c).trans f,g.ext x a,i.ext x a,j⟩
def SumO.start(a:3*lo<=bS)(c:bS<3*n)(h3:gro bS=χ)(d:h bS=ξ (.row [η,η] e)):SumO lo h n bS 0 0:=
 ⟨_,_,[],[],e,a,c,h3,d,.nil,.nil,Kq.nil,Kq.nil,λb⟨_,_,_,h⟩=>AI,ω,CS,CS⟩
def AU.gro(a:AU h0 n0 v0 h n w v T)(f:lo<=n0)(hv:∀b,BkOf v0 b->3*lo<=b):Gro h lo n 164 1 v (O T) (u64s T):=by
 have g:Gro h 0 n 164 1 v (O T) (u64s T):=a.g;have d:=a.or;generalize (O T)=tl at g;generalize u64s T=tc at g;cases g with
 |nil=>exact .nil
 | @at_ b _ _ hg _ hb hr hl ho2=>
  refine .at_ hg ?_ hb hr hl ho2;obtain e|c:=d;exact hv _ ⟨_,_,_,e.symm⟩;have c:3*n0<=b:=c;omega
def Gro.bk{C:List ψ}(g:Gro h lo n e 1 v len C):∀b,BkOf v b->3*lo<=b/\b<3*n/\gro b=φ:=by
 rintro b⟨o,l,c,e⟩;cases g with
 |nil=>cases e
 |at_ hg hlo hb hr hl ho=>cases e;exact⟨hlo,hb,hg⟩
def Gro.weak{C:List ψ}(g:Gro h lo n e 1 v len C):Gro h 0 n e 1 v len C:=by
 cases g with
 |nil=>exact .nil
 |at_ hg hlo hb hr hl ho=>exact .at_ hg Z hb hr hl ho
def Gro.beside{u:ψ}{C:List ψ}(g:Gro h0 lo n0 e 1 u len C)(d:Keep v n0 h0 h)(a:∀b,BkOf u b->¬BkOf v b)(f:n0<=n):Gro h lo n e 1 u len C:=by
 cases g with
 |nil=>exact .nil
 |at_ hg hlo hb hr hl ho=>exact .at_ hg hlo Z ((d _ hb λo l c e=>a _ ⟨_,_,_,ω⟩ ⟨o,l,c,e⟩).trans hr) hl ho
def SumO.mono{z:Int}(s:SumO lo h n bS z m)(hm:m<=m'):SumO lo h n bS z m':=by have⟨q,p,P,N,e,b,c,d,f,g,i,j,l,o,a,u,y⟩:=s;exact⟨q,p,P,N,e,b,c,d,f,g,i,j,l,o,a,Z,Z⟩
def Gro.off{C:List ψ}{x:Option BF}(g:Gro h lo n e 1 v len C)(hb:gro bS=χ):Gro (upd h bS x) lo n e 1 v len C:=by
 cases g with
 |nil=>exact .nil
 |at_ hg hlo hbn hr hl ho=>exact .at_ hg hlo hbn ((zm λe=>by rw[e,hb]at hg;cases hg).trans hr) hl ho
theorem zl1{x y:Int}{p:Nat}(h:(decide (x<0)==decide (y<0))=φ):(p:Int)-n+x*y=((p+x.natAbs*y.natAbs:Nat):Int)-n:=by grind
theorem zl2{x y:Int}{p:Nat}(h:¬(decide (x<0)==decide (y<0))=φ):(p:Int)-n+x*y=(p:Int)-((n+x.natAbs*y.natAbs:Nat):Int):=by grind
theorem nO(k:Nat){z:Int}{x y:Int}(hs:SumO lo h n bS z m)(a3:lo<=n)(ix:IW h lo b1 a1 l1 c1 x)(iy:IW h lo b2 a2 l2 c2 y)(sx:l1<40)(sy:l2<40)(hm:m<=1000):
  CF (Kp (k+4)) 106 [ι bS,.agg #[CV b1,Y a1 l1 c1],.agg #[CV b2,Y a2 l2 c2]] h n λ_ h' n' w=>SumO lo h' n' bS (z+x*y) (m+130)/\n<=n'/\Ko lo h h'/\(x*y=0\/bS∈w)/\∀c∈w,3*lo<=c:=by
 obtain⟨rfl,X,sX,nX,vX⟩:=ix;obtain⟨rfl,Z3,sY,nY,vY⟩:=iy;have eX:=sX.lenW;have eY:=sY.lenW;subst eX eY;refine rT (fn:=aw5) R4 ?_;have Z4:x*y=0->SumO lo h n bS (z+x*y) (m+130):=λe=>by rw[e,IJ];exact hs.mono Z
 refine zN ?_;refine tK [CV (decide (x<0)),Y a1 (O X) c1] R5 ?_;intro h5 p5 x5;refine tK [CV (decide (y<0)),Y a2 (O Z3) c2] R5 ?_;intro h6 p6 x6;have q5:=(x6 (3*n+2) Z).trans p5;have p:Ko n h h6:=x5.trans x6 (Du n);have I:∀(t:TF),x*y=0->(rI .ret=φ/\∃vs,resF Kw ⟨t,h6,n+1+1,[]⟩ (aw5).results.toList=ξ vs/\(SumO lo h6 (n+1+1) bS (z+x*y) (m+130)/\n<=n+1+1/\Ko lo h h6/\(x*y=0\/bS∈([]:List Nat))/\∀c∈([]:List Nat),3*lo<=c)/\(True->SumO lo h n bS (z+x*y) (m+130)/\n<=n/\Ko lo h h/\(x*y=0\/bS∈([]:List Nat))/\∀c∈([]:List Nat),3*lo<=c)):=λt e=>
  ⟨rfl,[],rfl,⟨(Z4 e).ext p Z,Z,p.mono a3,.inl e,λc M=>CO M C6⟩,λ_=>⟨Z4 e,CS,FI _ _,.inl e,λc M=>CO M C6⟩⟩
 refine Za ?_;refine zT R6 q5 R2 ?_;refine zM ?_;by_cases hX0:O X=0
 .have hx:x=0:=by rw[De.1 hX0]at vX;have:wv []=0:=rfl;omega
  refine Zh ?_;exact I _ (by rw[hx,GI])
 repeat refine zR ?_
 refine zT R6 p6 R2 ?_;refine zM ?_;by_cases hY0:O Z3=0
 .have hy:y=0:=by rw[De.1 hY0]at vY;have:wv []=0:=rfl;omega
  refine Zh ?_;exact I _ (by rw[hy,G8])
 refine Zr ?_;refine zT R6 q5 R2 ?_;refine zM ?_;refine zT R6 p6 R2 ?_;refine st_B (a:= !(decide (x<0)==decide (y<0))) R5 ?_;obtain⟨Z0,V,P,N,e,h1,h2,G,h4,D,B,wP,wN,hd,hz,lP,lN⟩:=hs;have q6:=(p bS h2).trans h4;have a5:=sX.ext (p.mono a3) (show lo<=n+1+1 by omega);have a6:=sY.ext (p.mono a3) (show lo<=n+1+1 by omega);have F:∀{v:ψ} {len:Nat} {C:List ψ} {e:TypeId} (_:Gro h lo n e 1 v len C) (a:Option Addr) (l c:Nat) {cs:List ψ} (_:Sl h lo 1 (Y a l c) cs),∀b,BkOf v b->KL b (Y a l c):=λg a l c _ s b L=>s.below.off (g.bk b L).1;clear I Z4;refine zN ?_;by_cases hsg:(decide (x<0)==decide (y<0))=φ
 .rw[za (by show CV _=_;rw[hsg];rfl)];refine zl [0,0,2,6,14,0,32,0,128,510,1023,2047,4095] rfl ?_;refine dr_P R5 ?_;refine dr_P R5 ?_;refine dr_P R5 ?_;refine dr_P R5 ?_;refine yd R6 (zX rfl q6 R2) R2 ?_;refine dr_P R5 ?_;refine yd R6 (zX rfl q5 R2) R2 ?_;refine dr_P R5 ?_;refine yd R6 (zX rfl p6 R2) R2 ?_;refine wa _ R7 (rQ k (D.weak.ext p Z) wP a5 a6 nX.1 nY.1 (F D a1 (O X) c1 sX) (F D a2 (O Z3) c2 sY) Z Z) ?_;rintro v7 h7 S w7⟨d,f,e7,l7⟩;obtain⟨j,rfl,_⟩:=Jr f.g;have H:=f.hn;refine⟨rfl,H,?_⟩;have q7:h7 bS=ξ (.row [Z0,V] e):=(f.keep bS Z λo l c i=>by
   have:=(D.bk bS ⟨o,l,c,i⟩).2.2;rw[G]at this;cases this).trans q6
  refine dr_P R5 ?_;refine dr_P R5 ?_;refine mX (W:=[bS]) rfl rfl rfl (xn (h:=h7) (n:=S) rfl rfl rfl rfl q7 zb) rfl rfl rfl CS ?_;rw[lz];refine zN ?_;have g7:=f.gro (lo:=lo) Z λb L=>(D.bk b L).1;have g8:=g7.off G (x:=ξ (.row [Y j (O d) (O d),V] e));have a0:=((B.ext p Z).beside (n:=S) f.keep (λb u A=>hd b A u) H).off G (x:=ξ (.row [Y j (O d) (O d),V] e));have q:bS∈addW n [bS] (addW n w7 []):=wQ h2 (Dc.2 rfl);refine⟨rfl,[],rfl,⟨⟨_,V,d,N,e,h1,Z,G,zg _ _ _,g8,a0,f.wd,wN,?_,?_,Z,Z⟩,by show n<=S;omega,λb L=>?_,.inr q,λc M=>?_⟩,λR=>?_⟩
  .intro b u A;have q1:=B.bk b A;have a4:Y j (O d) (O d)=Z0\/xC (n+1+1) (Y j (O d) (O d)):=f.or;rcases a4 with i|Z1
   .exact hd b (i▸u) A
   obtain⟨o,l,c,i⟩:=u;have i:Y j (O d) (O d)=Y (ξ ⟨b,o,θ⟩) l c:=i;rw[i]at Z1;have Z1:3*(n+1+1)<=b:=Z1;omega
  .rw[e7,vX,vY,hz];exact zl1 hsg
  .refine(zm Z).trans ((f.keep b Z λo l c i=>?_).trans (p b Z));have:=(D.bk b ⟨o,l,c,i⟩).1;omega
  .rcases tI _ _ c M with⟨J,_⟩|J
   .rw[Dc.1 J];exact h1
   rcases tI _ _ c J with⟨K,_⟩|K
   .exact(D.bk c (f.hw c K)).1
   exact CO K C6
  have R:addW n [bS] (addW n w7 [])=[]:=R;rw[R]at q;exact CO q C6
 rw[ze (by show CV _=_;rw[Bool.eq_false_iff.2 hsg];rfl)];refine zl [0,0,2,6,14,0,32,0,128,510,1023,2047,4095] rfl ?_;refine dr_P R5 ?_;refine dr_P R5 ?_;refine dr_P R5 ?_;refine dr_P R5 ?_;refine yd R6 (zX rfl q6 R2) R2 ?_;refine dr_P R5 ?_;refine yd R6 (zX rfl q5 R2) R2 ?_;refine dr_P R5 ?_;refine yd R6 (zX rfl p6 R2) R2 ?_;refine wa _ R7 (rQ k (B.weak.ext p Z) wN a5 a6 nX.1 nY.1 (F B a1 (O X) c1 sX) (F B a2 (O Z3) c2 sY) Z Z) ?_;rintro v7 h7 S w7⟨d,f,e7,l7⟩;obtain⟨j,rfl,_⟩:=Jr f.g;have H:=f.hn;refine⟨rfl,H,?_⟩;have q7:h7 bS=ξ (.row [Z0,V] e):=(f.keep bS Z λo l c i=>by
  have:=(B.bk bS ⟨o,l,c,i⟩).2.2;rw[G]at this;cases this).trans q6
 refine dr_P R5 ?_;refine dr_P R5 ?_;refine mX (W:=[bS]) rfl rfl rfl (xn (h:=h7) (n:=S) rfl rfl rfl rfl q7 zb) rfl rfl rfl CS ?_;rw[lz];refine zN ?_;have g7:=f.gro (lo:=lo) Z λb L=>(B.bk b L).1;have g8:=g7.off G (x:=ξ (.row [Z0,Y j (O d) (O d)] e));have a0:=((D.ext p Z).beside (n:=S) f.keep (hd) H).off G (x:=ξ (.row [Z0,Y j (O d) (O d)] e));have q:bS∈addW n [bS] (addW n w7 []):=wQ h2 (Dc.2 rfl);refine⟨rfl,[],rfl,⟨⟨Z0,_,P,d,e,h1,Z,G,zg _ _ _,a0,g8,wP,f.wd,?_,?_,Z,Z⟩,by show n<=S;omega,λb L=>?_,.inr q,λc M=>?_⟩,λR=>?_⟩
 .intro b u A;have q1:=D.bk b u;have a4:Y j (O d) (O d)=V\/xC (n+1+1) (Y j (O d) (O d)):=f.or;rcases a4 with i|Z1
  .exact hd b u (i▸A)
  obtain⟨o,l,c,i⟩:=A;have i:Y j (O d) (O d)=Y (ξ ⟨b,o,θ⟩) l c:=i;rw[i]at Z1;have Z1:3*(n+1+1)<=b:=Z1;omega
 .rw[e7,vX,vY,hz];exact zl2 hsg
 .refine(zm Z).trans ((f.keep b Z λo l c i=>?_).trans (p b Z));have:=(B.bk b ⟨o,l,c,i⟩).1;omega
 .rcases tI _ _ c M with⟨J,_⟩|J
  .rw[Dc.1 J];exact h1
  rcases tI _ _ c J with⟨K,_⟩|K
  .exact(B.bk c (f.hw c K)).1
  exact CO K C6
 have R:addW n [bS] (addW n w7 [])=[]:=R;rw[R]at q;exact CO q C6
end
section
variable {lo n:Nat}
def zmz(k:Nat)(h:HF)(n:Nat)(b:Bool)(a:Option Addr)(l c:Nat):CF (Kp (k+2)) 109 [.agg #[CV b,Y a l c]] h n λv g j w=>v=.agg #[CV (!b&&decide (0<l)),Y a l c]/\n<=j/\w=[]/\Ko n h g:=by refine zw (fn:=Tryz.f109) R4<|zN ?_;refine tK [CV b,Y a l c] R5 λA p y=>?_;refine wt [CV χ,η] R6 λi q e=>?_;have d:=(e (3*n+2) Z).trans p;refine Za ?_;refine zT R6 d R2<|st_B (a:= !b) R5<|zM ?_;refine zT R6 d R2<|zF _ R5 (rx k i (n+1+1) (!b) a l c) ?_;rintro _ B D _⟨rfl,rfl,rfl,f⟩;have u:=(f (3*(n+1)+2) Z).trans q;refine mq [CV (!b&&decide (0<l)),Y a l c] R5 u R3 zb ω dG λC s o=>?_;refine zN ?_;exact uq R5 s ω ⟨ω,by show n<=n+1+1+1;omega,ω,Ko.st ((y.trans e (Du n)).trans f Z) o Z⟩
theorem ff(k:Nat){z:Int}{x y:Int}(l:SumO lo h n bS z m)(d:lo<=n)(q:IW h lo b1 a1 l1 c1 x)(M:IW h lo b2 a2 l2 c2 y)(S:l1<40)(T:l2<40)(hm:m<=1000):
  CF (Kp (k+5)) 107 [ι bS,.agg #[CV b1,Y a1 l1 c1],.agg #[CV b2,Y a2 l2 c2]] h n λ_ u D w=>SumO lo u D bS (z-x*y) (m+130)/\n<=D/\Ko lo h u/\(x*y=0\/bS∈w)/\∀c∈w,3*lo<=c:=by
 have p:x=0↔l1=0:=by rw[q.2.zero];omega
 have s:=q.1;have L:∀{g:HF} (_:Ko lo h g),IW g lo (!b1&&decide (0<l1)) a1 l1 c1 (-x):=λZ4=>⟨by
  rw[s];by_cases a:l1=0
  .rw[a,p.2 a];rfl
  .have:x≠0:=λe=>a (p.1 e);rw[CN (show 0<l1 by omega),Bool.and_true];by_cases hx:x<0
   .rw[CN hx,CM (show ¬ -x<0 by omega)];rfl
   .rw[CM hx,CN (show -x<0 by omega)];rfl,by rw[E7];exact q.2.ext Z4 CS⟩
 clear s p;refine rT (fn:=Tryz.f107) R4 ?_;refine zN ?_;refine tK [CV b1,Y a1 l1 c1] R5 ?_;intro h5 Z1 V;refine tK [CV b2,Y a2 l2 c2] R5 ?_;intro v P I;have R:=(I (3*n+2) Z).trans Z1;have H:Ko n h v:=V.trans I (Du n);refine zN ?_;refine zl [0,0,2,0,15] rfl ?_;refine dr_P R5 ?_;refine yd R6 (yw R2 R rfl zb rfl) R2 ?_;refine wa _ R7 (zmz (k+2) v (n+1+1) b1 a1 l1 c1) ?_;rintro _ K n7 _⟨rfl,Z0,rfl,W⟩;refine⟨rfl,Z0,?_⟩;have b:Ko n h K:=H.trans W Z;refine yd R6 (yw R2 P rfl zb rfl) R2 ?_;refine wa _ R7 (nO k (l.ext b Z) Z (L (b.mono d)) (M.ext (b.mono d) CS) S T hm) ?_;rintro v8 h8 N G⟨F,y8,Z3,A,C⟩;refine⟨rfl,y8,?_⟩;rw[lz];have J:z+ -x*y=z-x*y:=by rw[JS,Int.sub_eq_add_neg]
 rw[J]at F;have B:bS<3*n:=by
  obtain⟨_,_,_,_,_,_,g,_⟩:=l;exact g
 have f:x*y=0\/bS∈addW n G []:=by
  rcases A with a|a
  .left;rw[JS]at a;omega
  exact .inr (wQ B a)
 refine⟨rfl,[],rfl,⟨F,by show n<=N;omega,(b.mono d).trans Z3 CS,f,λc j=>?_⟩,λo=>?_⟩
 .rcases tI _ _ c j with⟨i,_⟩|i
  .exact C c i
  exact CO i C6
 have o:addW n G []=[]:=o;rw[o]at f;have a:x*y=0:=f.resolve_right C6;exact⟨by rw[a,Int.sub_zero];exact l.mono Z,CS,FI _ _,.inl a,λc j=>CO j C6⟩
end
def TN(k:Nat){h:HF}{n:Nat}{p q:Option Addr}{N s Z1 u:Nat}{A C:List Nat}(B:Sl h n 1 (Y p N s) (u64s A))(i:Sl h n 1 (Y q Z1 u) (u64s C))(P:NW A)(R:NW C)(hb:O A<100000000)(G:wv C<=wv A):
  CF (Kp (k+2)) 139 [Y p N s,Y q Z1 u] h n λv Z4 n' w=>∃L,ResW n h v Z4 n' w L/\wv L=wv A-wv C:=by
 refine zw (fn:=Tryz.f139) R4 ?_;have S:=B.lenW;have T:=i.lenW;subst S T;have o:O C<=O A:=(by obtain j|j:=En (O A) (O C);have:=P.len_lt R j;omega;exact j);refine mM ?_;refine zM ?_;refine st_I (ik:=.i64) (a:=(O A:Int)) R5<|vB (len:=O A) (cap:=O A) R9 Z ?_;rw[show zn (U .u64 0)=[U .u64 0]from ω,xO];generalize hh:upd h (3*n+2) _=h1;have d:∃e,h1 (3*n+2)=ξ (.row (u64s (C3 (O A) 0)) e):=⟨_,mp⟩;have⟨e,d⟩:=d;have f:Ko n h h1:=by rw[<-hh];exact Cy
 refine Zv ?_;refine lZ (m:=O A) (cs:=u64s A) R7 (uX (B.ext f (Du n))) CS d (by rw[zL,zL,DI];omega) (xW _) aD ?_;rw[List.drop_eq_nil_of_le (by rw[zL,zL,DI];omega),List.append_nil];generalize hh:upd h1 (3*n+2) _=h2;have H:h2 (3*n+2)=ξ (.row (u64s A) e):=by rw[<-hh,zg]
 have g:Ko n h h2:=λb hb=>by rw[<-hh,zm Z];exact f b hb
 refine Zv ?_;refine zF _ R5 (mB k (n:=n+1) (cX:=O A) Z H CS P.1 (i.ext g (Du n)) R.1 (i.below.off Z) o Z G) ?_;rintro _ V n3 w3⟨L,⟨K,rfl,M,I⟩,D,F,a0⟩;try simp only[tH]
 rw[zV (w:=[]) λy Z0=>by rw[K y Z0];show 3*n<=3*n+2;omega];refine oQ ?_;refine zM ?_;have J:=xi k (h:=V) (n:=n+1) (a:=ξ ⟨3*n+2,0,θ⟩) (len:=O A) (cap:=O A) (l:=L) Z (λ_ e=>by injection e with e;rw[<-e]) (xr Z I F);refine zF _ R5 J ?_;rintro _ _ _ _⟨rfl,rfl,rfl,rfl,Z3⟩;refine oQ ?_;have⟨t1,t2⟩:=xD D;exact retH _ ⟨ω,(zi ω),ω⟩ ⟨_,⟨ω,Du n,λc W=>(M c Z Z).trans (g c W),Z3,t1⟩,by rw[t2];omega⟩
section
variable {lo n:Nat}
def Gro.form{C:List ψ}(g:Gro h lo n e 1 v len C):∃a,v=Y a len len/\(∀b,a=ξ b->b.spot=θ):=by
 cases g with
 |nil=>exact⟨θ,ω,λb h=>by cases h⟩
 |at_ hg hlo hb hr hl ho=>exact⟨_,ω,λb h=>by injection h with h;rw[<-h]⟩
def zot(k:Nat){z:Int}(T:SumO lo h n bS z m)(hm:m<=10000):CX (Kp (k+4)) 108 [ι bS] h n (IV z):=by
 have⟨vP,vN,P,N,e,h1,K,h3,M,C,B,wP,wN,hd,hz,lP,lN⟩:=T;obtain⟨aP,rfl,Z0⟩:=C.form;obtain⟨aN,rfl,Z3⟩:=B.form;refine zw (fn:=Tryz.f108) R4<|zN ?_;refine wt [CV χ,η] R6 λh5 F o=>?_;have G:=(o bS K).trans M;have W:=C.sl.ext o (Du n);have V:=B.sl.ext o (Du n);have⟨w,I⟩:=xD wP;have⟨u,H⟩:=xD wN;have tP:=xU P;have tN:=xU N;refine zN ?_;refine zl [0,1,3,7,15,0,32,96,224,511,1023,2047] rfl<|dr_P R5<|dr_P R5<|dr_P R5<|yd R6 (zX ω G R2) R2<|wa _ R7 (xi (k+2) (l:=P) Z Z0 W) ?_;rintro _ _ _ _⟨rfl,rfl,rfl,rfl,zP⟩;refine⟨ω,CS,?_⟩;refine dr_P R5<|dr_P R5<|dr_P R5<|yd R6 (zX ω G R2) R2<|wa _ R7 (xi (k+2) (l:=N) Z Z3 V) ?_;rintro _ _ _ _⟨rfl,rfl,rfl,rfl,zNg⟩;refine⟨ω,CS,?_⟩;refine dr_S R5<|dr_S R5 ?_;rw[lz];refine Zl ?_;refine yi _ R5 (uF k zP zNg w u Z) ?_;rintro _ rfl;rw[I,H];by_cases hle:wv N<=wv P;have S:0<=cmpZ (wv P) (wv N):=by unfold cmpZ;split<;>(try split)<;>omega
 refine Zp ?_;refine zF _ R5 (TN (k+1) zP zNg w u Z Z) ?_;rintro v6 q a _⟨L,⟨rfl,y6,p,d,s⟩,A⟩;obtain⟨f,c,g,rfl,_⟩:=d.len;refine zF _ R5 (rx (k+2) q a χ f c g) ?_;rintro _ Z1 Z4 _⟨rfl,rfl,rfl,b⟩;have j:=(b (3*n+2) Z).trans ((p (3*n+2) Z).trans F);refine mq [CV χ,Y f c g] R5 j R3 zb ω dG λR y i=>?_;refine zN ?_;refine uq R5 y ω ⟨ω,by show n<=a+1;omega,Ko.st ((o.trans p (Du n)).trans b Z) i Z,_,_,_,_,ω,?_,?_⟩;rw[CM Z];exact Cg;have S:cmpZ (wv P) (wv N)<0:=by unfold cmpZ;split<;>(try split)<;>omega
 refine Zy ?_;refine zF _ R5 (TN (k+1) zNg zP u w Z Z) ?_;rintro v6 q a _⟨L,⟨rfl,y6,p,d,s⟩,A⟩;obtain⟨f,c,g,rfl,_⟩:=d.len;refine zF _ R5 (rx (k+2) q a φ f c g) ?_;rintro _ Z1 Z4 _⟨rfl,rfl,rfl,b⟩;have D:0<c:=(by have:=d.lenW;subst this;refine Gr λJ=>?_;rw[De.1 J]at A;have:wv []=0:=rfl;omega);rw[CN D];have j:=(b (3*n+2) Z).trans ((p (3*n+2) Z).trans F);refine mq [CV φ,Y f c g] R5 j R3 zb ω dG λR y i=>?_;refine zN ?_;refine uq R5 y ω ⟨ω,by show n<=a+1;omega,Ko.st ((o.trans p (Du n)).trans b Z) i Z,_,_,_,_,ω,?_,?_⟩;rw[CN Z];exact Cg
end
def rowL(N:Nat)(f:Nat->Int):List Int:=(Ea N).map f
def yv{N:Nat}{f:Nat->Int}:O (rowL N f)=N:=by unfold rowL;rw[Da,Fa]
def vu{N j:Nat}{f:Nat->Int}(h:j<N):(rowL N f)[j]?=ξ (f j):=by unfold rowL;rw[Dz,GV h];rfl
def fI{N:Nat}{f:Nat->Int}{zs:List Int}(hl:O zs=N)(h:∀j,j<N->zs[j]?=ξ (f j)):zs=rowL N f:=by refine ER λj=>?_;by_cases hj:j<N;rw[h j hj,vu hj];rw[Dn Z,Dn (by rw[yv];omega)]
def zht{N j:Nat}{f:Nat->Int}{q:Int}:(rowL N f).set j q=rowL N (Kt f j q):=by refine fI (by rw[DX,yv]) λi c=>?_;rw[Jh,yv];unfold Kt;by_cases e:j=i;subst e;rw[CQ ω,CQ c,CQ rfl];rw[CP e,CP λq=>e q.symm,vu c]
def LU(Z4:Nat->Nat->Int)(i j:Nat)(q:Int):Nat->Nat->Int:=λa=>if a=i then Kt (Z4 i) j q else Z4 a
structure Tb (h:HF)(n m N:Nat)(B:Nat->Nat)(Z4:Nat->Nat->Int):Prop where
 o:∀a,a<=m->OZ h n (B a) (rowL N (Z4 a))
 g:∀a,a<=m->gro (B a)=χ
 j:∀a b,a<=m->b<=m->B a=B b->a=b
section
variable {n i j:Nat}{B:Nat->Nat}{Z4:Nat->Nat->Int}{q:Int}
def Tb.go(t:Tb h n m N B Z4)(T:Tr n h n' h')(e:∀a,a<=m->h' (B a)=h (B a)):Tb h' n' m N B Z4:=⟨λa c=>(t.o a c).go FE T (e a c),t.g,t.j⟩
def Tb.x(t:Tb h n m N B Z4)(T:Tx n h n' h'):Tb h' n' m N B Z4:=⟨λa c=>(t.o a c).xx FE T,t.g,t.j⟩
def Tb.as(t:Tb h n m N B Z4)(e:∀a b,a<=m->b<N->Z4 a b=U' a b):Tb h n m N B U':=⟨λa c=>(t.o a c).as (fI yv λj f=>by rw[vu f,e a j c f]),t.g,t.j⟩
theorem Tb.set(t:Tb h n m N B Z4)(hi:i<=m)(o:OZ h' n (B i) ((rowL N (Z4 i)).set j q))(S:KS (B i) h h'):Tb h' n m N B (LU Z4 i j q):=by
 refine⟨λa c=>?_,t.g,t.j⟩;unfold LU;split
 .next e=>rw[e,<-zht];exact o
 next e=>exact(t.o a c).go FE (FN S (Er _ _)) (S.1 _ λf=>e (t.j a i c hi f))
def Tb.el(t:Tb h n m N B Z4)(hi:i<=m)(hj:j<N):∃b1 a1 l1 c1,At h (B i) (0+j*2) [CV b1,Y a1 l1 c1]/\IW h n b1 a1 l1 c1 (Z4 i j):=by obtain⟨c,⟨g,f,u,c,rfl,p⟩,_,v⟩:=(t.o i hi).get (vu hj) (off:=0+j*2) (Dl _);exact⟨g,f,u,c,v,p⟩
end
def KY(T:Nat->Nat->Int)(d:Int)(r e i j:Nat):Nat->Nat->Int:=λa b=>if(a<i\/a=i/\b<j)/\a≠r/\b≠e then(T a b*T r e-T a e*T r b).tdiv d else T a b
section
variable {T:Nat->Nat->Int}{d:Int}{e i j a:Nat}
def zgz:KY T d r e 0 0=T:=by funext a b;unfold KY;rw[CP Z]
def pS(h:a=r\/b=e\/a=i/\j<=b):KY T d r e i j a b=T a b:=by unfold KY;rw[CP Z]
theorem TO(hi:i≠r)(hj:j≠e):LU (KY T d r e i j) i j ((T i j*T r e-T i e*T r j).tdiv d)=KY T d r e i (j+1):=by unfold LU Kt KY;grind
theorem zlp:KY T d r e i e=KY T d r e i (e+1):=by grind [KY]
theorem zg0(hi:i≠r)(hj:j≠e)(h:T i j=0)(h':T i e=0\/T r j=0):KY T d r e i j=KY T d r e i (j+1):=by
 rw[<-TO hi hj];have c:(T i j*T r e-T i e*T r j).tdiv d=0:=by rcases h' with h'|h'<;>rw[h,h']<;>simp
 rw[c];funext a b;unfold LU Kt;split
 .next q=>
  show _=if b=j then _ else _
  split
  .next q2=>rw[q,q2,pS (.inr (.inr ⟨rfl,CS⟩)),h]
  rw[q]
 rfl
theorem zlm(hb:b<N):KY T d r e i N a b=KY T d r e (i+1) 0 a b:=by grind [KY]
theorem zln:KY T d r e r 0 a b=KY T d r e (r+1) 0 a b:=by grind [KY]
end
structure Apa (l m bs:Nat)(d:Sol)(A:Adr)(B:Nat->Nat):Prop where
 bs:3*l<=bs
 lo:∀i,i<=m->3*l<=B i
 inj:∀i j,i<=m->j<=m->B i=B j->i=j
 ta:∀i,i<=m->∃zs,d.ta[i]?=ξ (B i,zs)
 dj:∀b,BkOf (Y A.nb (O d.nb) (O d.nb)) b->¬BkOf (Y A.ba (O d.ba) (O d.ba)) b
section
variable {n:Nat}{d:Sol}{A:Adr}{s:PS}{B:Nat->Nat}
def Apa.at(f:Apa l m bs d A B)(p:SolP n m d s){i:Nat}(hi:i<=m):d.ta[i]?=ξ (B i,rowL n (s.T i)):=by have⟨zs,e⟩:=f.ta i hi;have⟨r,c,g,o⟩:=p.ta i hi;rw[e]at c;cases c;have q:zs=rowL n (s.T i):=fI g o;rw[e,q]
def Apa.tb(c:Apa l m bs d A B)(g:SM l h n0 bs d A)(o:SolP n m d s):Tb h n0 m n B s.T:=
 ⟨λa f=>(g.rw _ (C0 (c.at o f))).1,λa f=>(g.rw _ (C0 (c.at o f))).2,c.inj⟩
def Apa.ne(v:Apa l m bs d A B)(o:SM l h n0 bs d A)(D:SolP n m d s)(C:0<n){i:Nat}(hi:i<=m):B i≠bs:=λe=>by
 have⟨b,a,u,c,L,F,_⟩:=o.st;have⟨H,G,K,I,p,_⟩:=(v.tb o D).el hi C;rw[e]at p;have⟨f,J,g,w,_,y⟩:=p;rw[F]at g;cases g;cases w;cases y
end
def Rec.key{C:List ψ}{p:List (Nat×List Int)}{h h':HF}{n n':Nat}(g:Rec 1 (λc d=>Lb c d h n) C p):∀{f:List (Nat×List Int)},f.map (λr=>(r.1,O r.2))=p.map (λr=>(r.1,O r.2))->Rec 1 (λc d=>Lb c d h' n') C f:=by
 induction g with
 |nil=>
  intro f e;cases f with
  |nil=>exact .nil
  |cons x y=>cases e
 |cons hl o hr ih=>
  intro f e;cases f with
  |nil=>cases e
  |cons x y=>
   injection e with e1 e2;injection e1 with e3 e4;refine .cons hl ?_ (ih e2);show _=_;have o:_=_:=o;rw[o,e3,e4]
def GR.key{lo n:Nat}{h:HF}{e:TypeId}{v:ψ}{f c:List (Nat×List Int)}(g:GR 1 Lb lo h n e v f)(k:c.map (λr=>(r.1,O r.2))=f.map (λr=>(r.1,O r.2))):GR 1 Lb lo h n e v c:=by
 have⟨C,o,p,u⟩:=g;have w:O c=O f:=by have:=congrArg O k;rw[Da,Da]at this;exact this
 exact⟨C,by rw[w];exact o,p.key k,u⟩
def SM.piv{l n0 n' bs m bv H:Nat}{h h':HF}{d:Sol}{A:Adr}{B:Nat->Nat}{J:Int}{p w:List Nat}{o:List (Nat×List Int)}{b:Bool}{a:Option Addr}{u c:Nat}{ty:TypeId}(f:SM l h n0 bs d A)(V:∀a,a<=m->gro (B a)=χ)(hv:A.ba=ξ ⟨bv,0,θ⟩)(Z3:A.nb=ξ ⟨H,0,θ⟩)(T:Tr n0 h n' h')(K:∀b,b<3*n0->b≠bs->(∀a,a<=m->b≠B a)->b≠bv->b≠H->h' b=h b)
  (st:h' bs=ξ (.row [U .i64 (d.n:Int),Y A.sc (O d.sc) (O d.sc),Y A.lo (O d.lo) (O d.lo),Y A.hi (O d.hi) (O d.hi),Y A.va (O d.va) (O d.va),Y A.ba (O d.ba) (O d.ba),Y A.nb (O d.nb) (O d.nb),Y A.ta (O d.ta) (O d.ta),CV b,Y a u c] ty))(i:IW h' n' b a u c J)(M:O p=O d.ba)(Z1:O w=O d.nb)(Z0:GR 1 natP l h' n' 3 (Y A.ba (O d.ba) (O d.ba)) p)(on:GR 1 natP l h' n' 3 (Y A.nb (O d.nb) (O d.nb)) w)(k:o.map (λr=>(r.1,O r.2))=d.ta.map (λr=>(r.1,O r.2)))(S:∀r∈o,OZ h' n' r.1 r.2/\gro r.1=χ):SM l h' n' bs {d with den:=J,ba:=p,nb:=w,ta:=o} A:=by
 have R:O o=O d.ta:=by have:=congrArg O k;rw[Da,Da]at this;exact this
 have F:∀{sz:Nat} {D:Type} {P:List ψ->D->HF->Nat->Prop} {ds:List D} {v:ψ} {e:TypeId},GR sz P l h n0 e v ds->(∀b,BkOf v b->b≠bv/\b≠H)->∀b,BkOf v b->h' b=h b:=λg I b y=>(by have C:=g.bk b y;exact K b C.2.1 (λq=>by rw[q,f.bs.2]at C;cases C.2.2.1) (λa W q=>by rw[q,V a W]at C;cases C.2.2.1) (I b y).1 (I b y).2);have G:∀{sz:Nat} {D:Type} {P:List ψ->D->HF->Nat->Prop} {ds:List D} {v:ψ} {e:TypeId},GR sz P l h n0 e v ds->e≠3->∀b,BkOf v b->b≠bv/\b≠H:=λg L b y=>
  ⟨λq=>g.ne f.ba L b y ⟨0,O d.ba,O d.ba,by rw[hv,q]⟩,λq=>g.ne f.nb L b y ⟨0,O d.nb,O d.nb,by rw[Z3,q]⟩⟩
 refine⟨⟨b,a,u,c,ty,?_,i⟩,⟨by have:=f.bs.1;have:=T.1;omega,f.bs.2⟩,f.sc.go Es T (F f.sc (G f.sc zd)),f.lo.go bndZ.kp T (F f.lo (G f.lo zd)),f.hi.go bndZ.kp T (F f.hi (G f.hi zd)),f.va.go Es T (F f.va (G f.va zd)),?_,?_,?_,S,f.dj⟩;show h' bs=ξ (.row [_,_,_,_,_,Y A.ba (O p) (O p),Y A.nb (O w) (O w),Y A.ta (O o) (O o),_,_] ty);rw[M,Z1,R];exact st;show GR _ _ _ _ _ _ (Y A.ba (O p) (O p)) _;rw[M];exact Z0;show GR _ _ _ _ _ _ (Y A.nb (O w) (O w)) _;rw[Z1];exact on;show GR _ _ _ _ _ _ (Y A.ta (O o) (O o)) _;rw[R];exact(f.ta.go Lb.kp T (F f.ta (G f.ta zd))).key k
section
variable {i:Nat}
def WW.l39P{h:HF}{n:Nat}{a:Option Addr}{l m:Nat}(i:WW h n a l c m)(hm:m<BW):l<40:=by obtain⟨L,f,g,rfl⟩:=i;have:=g.len39 hm;have:=f.lenW;omega
def za9{a b c f:Int}{Z1 T:Nat}(p:a.natAbs<2^Z1)(q:b.natAbs<2^T)(h3:c.natAbs<2^Z1)(u:f.natAbs<2^T)(h:Z1+T+1<=2496):(0+a*b-c*f).natAbs<BW:=by have g:=G1 p q;have o:=G1 h3 u;rw[<-Ef]at g o;refine yU (e:=Z1+T+1) ?_ h;have:=ab9 (a*b) (c*f);rw[D6,D6]at this;rw[an9,Dj];omega
def At.k{h:HF}{b o:Nat}{c:List ψ}(a:At h b o c)(e:h' b=h b):At h' b o c:=by have⟨y,f,g,p⟩:=a.ex;exact⟨y,f,e.trans g,p⟩
def LP(T:Nat->Nat->Int)(d:Int)(m r e j:Nat):Nat->Nat->Int:=λa b=>if a=r/\b<j then -T r b else KY T d r e (m+1) 0 a b
section
variable {T:Nat->Nat->Int}{d:Int}{e j a:Nat}
def zg3:LP T d m r e 0=KY T d r e (m+1) 0:=by funext a b;unfold LP;rw[CP Z]
def zlt:LP T d m r e j r j=T r j:=by unfold LP;rw[CP Z,pS (.inl ω)]
theorem zg4:LU (LP T d m r e j) r j (-T r j)=LP T d m r e (j+1):=by unfold LU Kt LP;grind
def MA(T:Nat->Nat->Int)(d:Int)(m r e j:Nat):Nat->Nat->Int:=LU (LP T d m r e j) r e d
def LD(Z4:Nat->Nat->Int)(i j:Nat):Nat->Nat->Int:=λa b=>if a<i\/a=i/\b<j then -Z4 a b else Z4 a b
def zg1{Z4:Nat->Nat->Int}:LD Z4 0 0=Z4:=by funext a b;unfold LD;rw[CP Z]
def zlr{Z4:Nat->Nat->Int}:LD Z4 i j i j=Z4 i j:=by unfold LD;rw[CP Z]
theorem zg2{Z4:Nat->Nat->Int}:LU (LD Z4 i j) i j (-Z4 i j)=LD Z4 i (j+1):=by unfold LU Kt LD;grind
theorem zlq{Z4:Nat->Nat->Int}(hb:b<N):LD Z4 i N a b=LD Z4 (i+1) 0 a b:=by grind [LD]
def zls{Z4:Nat->Nat->Int}(f:a<=m):LD Z4 (m+1) 0 a b= -Z4 a b:=by unfold LD;rw[CQ Z]
def TP(f:a<=m)(hb:b<N):sgn (T r e)*MA T d m r e N a b=pT T d r e a b:=by unfold MA pT LU Kt;by_cases h:a=r;rw[CQ h,CQ h];show _*(if b=e then _ else _)=_;by_cases h2:b=e;rw[CQ h2,CQ h2];rw[CP h2,CP h2];unfold LP;rw[CQ ⟨ω,hb⟩];rw[CP h,CP h];unfold LP KY;rw[CP Z];by_cases h2:b=e;rw[CP Z,CQ h2,h2];rw[CQ Z,CP h2]
end
def MC(m N:Nat)(B:Nat->Nat)(Z4:Nat->Nat->Int):List (Nat×List Int):=(Ea (m+1)).map λi=>(B i,rowL N (Z4 i))
def TQ{m:Nat}{B:Nat->Nat}{Z4:Nat->Nat->Int}:O (MC m N B Z4)=m+1:=by unfold MC;rw[Da,Fa]
theorem PZ{m:Nat}{B:Nat->Nat}{Z4:Nat->Nat->Int}(h:i<=m):(MC m N B Z4)[i]?=ξ (B i,rowL N (Z4 i)):=by grind [MC]
def zl0{l n m bs:Nat}{d:Sol}{A:Adr}{s:PS}{B:Nat->Nat}{Z4:Nat->Nat->Int}(f:SolP n m d s)(g:Apa l m bs d A B):(MC m n B Z4).map (λr=>(r.1,O r.2))=d.ta.map (λr=>(r.1,O r.2)):=by refine ER λi=>?_;rw[Dz,Dz];by_cases h:i<=m;rw[PZ h,g.at f h];show ξ (B i,O (rowL n (Z4 i)))=ξ (B i,O (rowL n (s.T i)));rw[yv,yv];rw[Dn (by rw[TQ];omega),Dn (by have:=f.tl;omega)]
section
variable {n T e:Nat}{d:Sol}{A:Adr}{s:PS}{a:Nat->Nat->Int}{B:Nat->Nat}
def TS(k:Nat)(sm:SM l h n0 bs d A)(sp:SolP n m d s)(pb:PB n m a L s.toPT)(sz:SzP n m V T Z1 BB d s)(lm:Lim V T Z1 D BB)(ap:Apa l m bs d A B)(hr:r<m)(he:e<n)(ht:s.T r e≠0):
  CF (Kp (k+12)) 62 [ι bs,U .i64 (r:Int),U .i64 (e:Int)] h n0 λ_ h' u w=>n0<=u/\SM l h' u bs {d with den:=((s.T r e).natAbs:Int),ba:=d.ba.set r (s.nb e),nb:=d.nb.set e (s.bs r),ta:=MC m n B (pT s.T s.d r e)} A/\Tr n0 h u h'/\(∀b,b<3*n0->b≠bs->(∀a,a<=m->b≠B a)->¬BkOf (Y A.ba (O d.ba) (O d.ba)) b->¬BkOf (Y A.nb (O d.nb) (O d.nb)) b->h' b=h b)/\(∀c∈w,3*l<=c)/\(∀b,BkOf (Y A.nb (O d.nb) (O d.nb)) b->b∈w):=by
 have⟨b0,a0,u0,c0,ty,st,i0⟩:=sm.st;have bg:=sm.bs.1;have ik:=sp.nm;have tl:=sp.tl;have nl:=sp.nl;have bl:=sp.bl;have tb:=ap.tb sm sp;have bh:=λi hi=>ap.ne sm sp (i:=i) Z hi;have e6:=sp.de;have ig:=pb.tab.dp;have g0:=sz.dd;have ii:=lm.l2;have g1:=lm.l4;have ij:=lm.l5;have av:∀i c,i<=m->c<n->(s.T i c).natAbs<2^Z1:=λi c hi hc=>(by by_cases q:i=m;rw[q];exact sz.tO c hc;exact Dm (sz.tT i Z c hc) (Dd zd g1));have⟨bt,aq,lt,ct,tt,it⟩:=tb.el (EB hr) he;have fz:=(tb.o r (EB hr)).1;have⟨k1,o1,e1,m1,r1,t1⟩:=rwS.at sm.ta.rs (ap.at sp (EB hr));refine rT (fn:=Tryz.f62) R4<|zG ?_;refine sI e1 r1 ?_;refine sL t1 m1 0 ?_;refine zG ?_;refine sI ω (show e<O (rowL n (s.T r)) by rw[yv];exact he) ?_;refine sL tt fz 0 ?_;refine Zd λh1 p1 x1=>?_;refine zG ?_;refine sS [CV bt,Y aq lt ct] λh2 p2 o2=>?_;have T2:Tr n0 h (n0+1) h2:=zt;have K2:∀b,b<3*n0->(∀a,a<=m->b≠B a)->h2 b=h b:=λb hb _=>(o2.1 b Z).trans (x1 b hb);have gt:Tb h2 (n0+1) m n B (KY s.T s.d r e 0 0):=by rw[zgz];exact tb.go T2 λa ha=>(o2.1 _ (by have:=(tb.o a ha).1;omega)).trans (x1 _ (tb.o a ha).1)
 have e7:∀{b},BkOf (Y A.ta (O d.ta) (O d.ta)) b->∀a,a<=m->b≠B a:=λhb a ha q=>(by have:=(sm.ta.bk _ hb).2.2.1;rw[q,tb.g a ha]at this;cases this);have iu:h2 bs=_:=(K2 bs bg λa ha q=>bh a ha q.symm).trans st;refine zG ?_;refine sF (α:=Nat) (λz=>[(0,ι bs),(1,U .i64 (r:Int)),(2,U .i64 (e:Int)),(6,Y (ξ ⟨B r,0,θ⟩) (O (rowL n (s.T r))) (O (rowL n (s.T r)))),(7,ι (3*n0+2)),(34,Y A.ta (O d.ta) (O d.ta)),(35,U .i64 (O d.ta:Int)),(36,U .i64 (z:Int))]) (λz h' u Z0=>n0+1<=u/\Tb h' u m n B (KY s.T s.d r e z 0)/\Tr n0 h u h'/\(∀b,b<3*n0->(∀a,a<=m->b≠B a)->h' b=h b)/\h' (3*n0+2)=ξ (.row [CV bt,Y aq lt ct] 75)/\(∀c∈Z0,∃a,a<=m/\c=B a)/\z<=m+1) (λz=>m+1-z) 0 ⟨CS,gt,T2,K2,p2,λc hc=>CO hc C6,CT⟩ ?_;rintro i t h3 n3 w3⟨y3,ac,T3,K3,p3,d1,hi⟩;have y3:n0+1<=n3:=y3;have ac:Tb h3 n3 m n B (KY s.T s.d r e i 0):=ac;have T3:Tr n0 h n3 h3:=T3;have K3:∀b,b<3*n0->(∀a,a<=m->b≠B a)->h3 b=h b:=K3;have p3:h3 (3*n0+2)=ξ (.row [CV bt,Y aq lt ct] 75):=p3;have hi:i<=m+1:=hi;refine zG ?_;by_cases q3:(i:Int)<(O d.ta:Int);have y:i<=m:=Z;have⟨k4,o4,e4,m4,r4,t4⟩:=rwS.at sm.ta.rs (ap.at sp y);have t4:=t4.k (K3 k4 m4 (e7 ⟨o4,_,_,by rw[e4]⟩));have⟨b5,a5,l5,c5,t5,i5⟩:=ac.el y he;have fx:=(ac.o i y).1;refine zG ?_;refine sI e4 r4 ?_;refine sL t4 (show k4<3*n3 from Z) 0 ?_;refine zG ?_;refine sI ω (show e<O (rowL n (s.T i)) by rw[yv];exact he) ?_;refine sL t5 fx 0 ?_;refine Zd λh6 p6 x6=>?_;refine zG ?_;refine sS [CV b5,Y a5 l5 c5] λh7 p7 o7=>?_;have T7:Tr n3 h3 (n3+1) h7:=zt;have k7:Exo n3 h3 h7:=⟨λb hb=>(o7.1 b Z).trans (x6 b hb)⟩;have ep:=ac.go T7 λa ha=>k7.go _ (ac.o a ha).1;have ej:=(k7.go (3*n0+2) Z).trans p3;have dy:Tr n0 h (n3+1) h7:=T3.trans T7;have du:∀b,b<3*n0->(∀a,a<=m->b≠B a)->h7 b=h b:=λb hb hn=>(k7.go b Z).trans (K3 b hb hn);have g7:=i5.t T7;by_cases q4:(i:Int)=(r:Int);refine zG ?_;exact sK (i+1) ⟨Z,ep.as λa b _ _=>by rw[show i=r by omega];exact zln,dy,du,ej,d1,An⟩;have e8:i≠r:=Z;refine zG ?_;refine sF (α:=Nat) (λz=>[(0,ι bs),(1,U .i64 (r:Int)),(2,U .i64 (e:Int)),(6,Y (ξ ⟨B r,0,θ⟩) (O (rowL n (s.T r))) (O (rowL n (s.T r)))),(7,ι (3*n0+2)),(9,Y (ξ ⟨B i,0,θ⟩) (O (rowL n (s.T i))) (O (rowL n (s.T i)))),(10,ι (3*n3+2)),(34,Y A.ta (O d.ta) (O d.ta)),(35,U .i64 (O d.ta:Int)),(36,U .i64 (i:Int)),(48,Y (ξ ⟨B i,0,θ⟩) (O (rowL n (s.T i))) (O (rowL n (s.T i)))),(49,U .i64 (O (rowL n (s.T i)):Int)),(50,U .i64 (z:Int))]) (λz h' u Z0=>n3+1<=u/\Tb h' u m n B (KY s.T s.d r e i z)/\Tr (n3+1) h7 u h'/\(∀b,b<3*(n3+1)->b≠B i->h' b=h7 b)/\(∀c∈Z0,∃a,a<=m/\c=B a)/\z<=n) (λz=>n-z) 0 ⟨CS,ep,Er _ _,λ_ _ _=>rfl,d1,CT⟩ ?_;rintro j t Z3 v w8⟨y8,I,T8,K8,aw,hj⟩;have y8:n3+1<=v:=y8;have I:Tb Z3 v m n B (KY s.T s.d r e i j):=I;have T8:Tr (n3+1) h7 v Z3:=T8;have K8:∀b,b<3*(n3+1)->b≠B i->Z3 b=h7 b:=K8;have hj:j<=n:=hj;have fy:B i<3*n0:=(tb.o i y).1;have be:Tr n0 h v Z3:=dy.trans T8;have bc:∀b,b<3*n0->(∀a,a<=m->b≠B a)->Z3 b=h b:=λb hb hn=>(K8 b Z (hn i y)).trans (du b hb hn);have bj:=(K8 (3*n0+2) Z Z).trans ej;have gj:=(K8 (3*n3+2) Z (by have:=fy;omega)).trans p7;have eL:O (rowL n (s.T i))=n:=yv;refine zG ?_;by_cases q8:(j:Int)<(O (rowL n (s.T i)):Int);have H:j<n:=Z;have⟨b9,a9,l9,c9,t9,i9⟩:=I.el y H;rw[pS (.inr (.inr ⟨ω,CS⟩))]at i9;have cv:=(I.o i y).1;refine zG ?_;refine sI ω (show j<O (rowL n (s.T i))from Z) ?_;refine sL t9 cv 0 ?_;refine Zd λar b1 bm=>?_;refine zG ?_;refine sS [CV b9,Y a9 l9 c9] λJ gf bi=>?_;have an:Tr v Z3 (v+1) J:=zt;have ay:Exo v Z3 J:=⟨λb hb=>(bi.1 b Z).trans (bm b hb)⟩;have c1:=I.go an λa ha=>ay.go _ (I.o a ha).1;have i1:=(ay.go (3*n0+2) Z).trans bj;have i2:=(ay.go (3*n3+2) Z).trans gj;have b7:=i9.t an;have bq:=g7.t (T8.trans an);rw[pS (.inr (.inl ω))]at bq;have⟨cp,co,d5,cr,eo,ab⟩:=c1.el (EB hr) H;rw[pS (.inl ω)]at ab;have cu:=(c1.o r (EB hr)).1;simp only[yu,xg,zK,yY];refine yj (α:=Bool) (λz=>[(0,ι bs),(1,U .i64 (r:Int)),(2,U .i64 (e:Int)),(6,Y (ξ ⟨B r,0,θ⟩) (O (rowL n (s.T r))) (O (rowL n (s.T r)))),(7,ι (3*n0+2)),(9,Y (ξ ⟨B i,0,θ⟩) (O (rowL n (s.T i))) (O (rowL n (s.T i)))),(10,ι (3*n3+2)),(11,U .i64 (j:Int)),(12,ι (3*v+2)),(34,Y A.ta (O d.ta) (O d.ta)),(35,U .i64 (O d.ta:Int)),(36,U .i64 (i:Int)),(48,Y (ξ ⟨B i,0,θ⟩) (O (rowL n (s.T i))) (O (rowL n (s.T i)))),(49,U .i64 (O (rowL n (s.T i)):Int)),(50,U .i64 (j:Int)),(72,CV z)]) (λz h' u Z0=>w8=Z0/\v+1<=u/\Ko (v+1) J h'/\(z=φ/\(j=e\/j≠e/\s.T i j=0/\(s.T i e=0\/s.T r j=0))\/z=χ/\j≠e)) ?_ ?_;have ce:(j:Int)≠(e:Int)->j≠e:=λh q=>h (by rw[q]);by_cases q9:(j:Int)=(e:Int);refine zG ?_;exact zA φ (by(repeat (first|exact trivial|refine⟨ω,?_⟩))) ⟨ω,CS,FI _ _,.inl ⟨ω,.inl Z⟩⟩;refine zG ?_;refine sC (yK _ b7) ?_;rintro _ c4 a2⟨cq,rfl,ey⟩ b6 bn;obtain⟨rfl,da⟩|⟨rfl,da⟩:=Ky ey;refine zG ?_;exact zA χ (by(repeat (first|exact trivial|refine⟨ω,?_⟩))) ⟨ω,b6,bn,.inr ⟨ω,ce q9⟩⟩;refine zG ?_;refine sC (yK _ (bq.x zx)) ?_;rintro _ a6 eg⟨i6,rfl,ez⟩ j1 iz;obtain⟨rfl,em⟩|⟨rfl,em⟩:=Ky ez;refine zG ?_;refine sI ω (show j<O (rowL n (s.T r)) by rw[yv];exact H) ?_;refine sL eo cu 0 ?_;refine zG ?_;refine sC (yK _ (ab.x zx)) ?_;rintro _ R F⟨i7,rfl,f0⟩ dq j0;obtain⟨rfl,db⟩|⟨rfl,db⟩:=Ky f0;refine zG ?_;exact zA χ (by(repeat (first|exact trivial|refine⟨ω,?_⟩))) ⟨ω,(show Tx (v+1) J F R from zx).1,(show Tx (v+1) J F R from zx).2,.inr ⟨ω,ce q9⟩⟩;refine zG ?_;exact zA φ (by(repeat (first|exact trivial|refine⟨ω,?_⟩))) ⟨ω,(show Tx (v+1) J F R from zx).1,(show Tx (v+1) J F R from zx).2,.inl ⟨ω,.inr ⟨ce q9,da,.inr db⟩⟩⟩;refine zG ?_;exact zA φ (by(repeat (first|exact trivial|refine⟨ω,?_⟩))) ⟨ω,(show Tx (v+1) J eg a6 from zx).1,(show Tx (v+1) J eg a6 from zx).2,.inl ⟨ω,.inr ⟨ce q9,da,.inl em⟩⟩⟩;rintro z t G f _⟨rfl,a3,b2,hz⟩;have a3:v+1<=f:=a3;have b2:Ko (v+1) J G:=b2;have aa:Tr v Z3 f G:=an.e b2 a3;have c3:Exo (v+1) J G:=⟨b2⟩;have P:=c1.x ⟨a3,b2⟩;have d3:Exo v Z3 G:=⟨λb hb=>(b2 b Z).trans (ay.go b hb)⟩;have ex:∀b,b<3*n0->(∀a,a<=m->b≠B a)->G b=h b:=λb hb hn=>(d3.go b Z).trans (bc b hb hn);obtain⟨rfl,hz⟩|⟨rfl,hz⟩:=hz;refine zG ?_;exact sK (j+1) ⟨Z,P.as λa b _ _=>by obtain rfl|⟨hz,h1,h2⟩:=hz;rw[zlp];rw[zg0 e8 hz h1 h2],T8.trans aa,λb (hb:b<3*(n3+1)) hn=>(d3.go b Z).trans (K8 b hb hn),aw,rp⟩;have e3:Tr n0 h f G:=be.trans aa;refine Zd λM gi ae=>?_;have gk:SumO f M (f+1) (3*f+2) 0 0:=SumO.start Z Z (zB f) gi;have ax:IW M f b9 a9 l9 c9 (s.T i j):=(b7.x ⟨a3,c3.go⟩).ext ae CS;have az:IW M f bt aq lt ct (s.T r e):=(it.t e3).ext ae CS;have ec:IW M f b5 a5 l5 c5 (s.T i e):=(bq.x ⟨a3,c3.go⟩).ext ae CS;have ed:IW M f cp co d5 cr (s.T r j):=(ab.x ⟨a3,c3.go⟩).ext ae CS;refine zG ?_;refine zF _ R5 (nO _ gk Zq ax az (ax.2.l39P (yU (av _ _ y H) Z)) (az.2.l39P (yU (av _ _ (EB hr) he) Z)) Z) ?_;rintro _ ag io ix⟨gl,j2,b3,_,f4⟩;rw[zV (λb hb=>by have:=f4 b hb;show 3*n0<=b;omega)];have b3:Ko f M ag:=b3;have bz:ag bs=_:=(b3 bs Z).trans ((ae bs Z).trans ((ex bs bg λa ha q=>bh a ha q.symm).trans st));have fa:=eo.ext c3.go cu;refine zG ?_;refine zl [0,0,0,6,14,31] rfl<|zH ?_;refine dI ω (show j<O (rowL n (s.T r)) by rw[yv];exact H) ?_;refine dL fa (show B r<3*f from Z) 0 ?_;refine zH ?_;refine wa _ R7 (ff _ gl Z (ec.ext b3 CS) (ed.ext b3 CS) (ec.2.l39P (yU (av _ _ y he) Z)) (ed.2.l39P (yU (av _ _ (EB hr) H) Z)) Z) ?_;rintro _ fw ip iy⟨gm,gy,ci,_,f5⟩;refine⟨ω,gy,?_⟩;have ci:Ko f ag fw:=ci;rw[lz,zV (λb hb=>by have:=f5 b hb;show 3*n0<=b;omega)];refine zG ?_;refine zl [0,0,0,0,8,24,56,124,255,511] rfl<|zH ?_;refine dC (zot _ gm Z) ?_;rintro _ c6 eh⟨i8,i4,il,ic,rfl,g5⟩ j3 et;have i3:c6 bs=_:=(et bs Z).trans ((ci bs Z).trans bz);refine zH ?_;have ee:Exo f G c6:=⟨λb hb=>(et b Z).trans ((ci b Z).trans ((b3 b Z).trans (ae b hb)))⟩;have f6:IW c6 eh b0 a0 u0 c0 s.d:=((i0.t e3).ext ee.go Z).as e6;refine dC (quoX _ g5 f6 (za9 (av _ _ y H) (sz.tT r hr e he) (av _ _ y he) (sz.tT r hr j H) Z) (yU g0 Z) Z) ?_;rintro _ cs d6⟨fo,fk,gb,fr,rfl,g6⟩ j4 dn;have dn:Ko eh c6 cs:=dn;have d7:f<=d6:=Z;have d4:Exo f G cs:=⟨λb hb=>(dn b Z).trans (ee.go b hb)⟩;have dk:=P.x (n':=d6) ⟨d7,d4.go⟩;have fh:Tr f G d6 cs:=⟨d7,λc hc=>.inl (d4.go c hc)⟩;have ou:=dk.o i y;refine zH ?_;refine dI ω (show j<O (rowL n (s.T i))from Z) ?_;refine dZ (n0:=n0) (j:=j) [CV fo,Y fk gb fr] ou FE (by rw[yv];exact H) (Dl _) ⟨_,_,_,_,ω,g6⟩ ?_;intro ie ge cl _;have dl:=dk.set y ge cl;rw[an9,TO e8 hz]at dl;refine zG ?_;exact sK (j+1) ⟨Z,dl,FN cl (T8.trans (aa.trans fh)),λb (hb:b<3*(n3+1)) hn=>(cl.1 b hn).trans ((d4.go b Z).trans ((d3.go b Z).trans (K8 b hb hn))),yL (λc hc=>⟨i,y,Dc.1 hc⟩) aw,rp⟩;have H:j=n:=Z;subst H;refine zG ?_;exact sK (i+1) ⟨Z,I.as λa b _ hb=>zlm hb,be,bc,bj,aw,An⟩;have cx:i=m+1:=Z;subst cx;rw[<-zg3]at ac;refine zG ?_;have eR:O (rowL n (s.T r))=n:=yv;refine sF (α:=Nat) (λz=>[(0,ι bs),(1,U .i64 (r:Int)),(2,U .i64 (e:Int)),(6,Y (ξ ⟨B r,0,θ⟩) (O (rowL n (s.T r))) (O (rowL n (s.T r)))),(7,ι (3*n0+2)),(93,Y (ξ ⟨B r,0,θ⟩) (O (rowL n (s.T r))) (O (rowL n (s.T r)))),(94,U .i64 (O (rowL n (s.T r)):Int)),(95,U .i64 (z:Int))]) (λz h' u Z0=>n3<=u/\Tb h' u m n B (LP s.T s.d m r e z)/\Tr n3 h3 u h'/\(∀b,b<3*n3->b≠B r->h' b=h3 b)/\(∀c∈Z0,∃a,a<=m/\c=B a)/\z<=n) (λz=>n-z) 0 ⟨CS,ac,Er _ _,λ_ _ _=>rfl,d1,CT⟩ ?_;rintro j t Z3 v w8⟨y8,I,T8,K8,aw,hj⟩;have y8:n3<=v:=y8;have I:Tb Z3 v m n B (LP s.T s.d m r e j):=I;have T8:Tr n3 h3 v Z3:=T8;have K8:∀b,b<3*n3->b≠B r->Z3 b=h3 b:=K8;have hj:j<=n:=hj;have W:=EB hr;have be:Tr n0 h v Z3:=T3.trans T8;have bc:∀b,b<3*n0->(∀a,a<=m->b≠B a)->Z3 b=h b:=λb hb hn=>(K8 b Z (hn r W)).trans (K3 b hb hn);have bj:=(K8 (3*n0+2) Z Z).trans p3;refine zG ?_;by_cases q8:(j:Int)<(O (rowL n (s.T r)):Int);have H:j<n:=Z;have⟨b9,a9,l9,c9,t9,i9⟩:=I.el W H;rw[zlt]at i9;have cv:=(I.o r W).1;refine zG ?_;refine sI ω (show j<O (rowL n (s.T r))from Z) ?_;refine sL t9 cv 0 ?_;refine Zd λar b1 bm=>?_;refine zG ?_;refine sS [CV b9,Y a9 l9 c9] λJ gf bi=>?_;have an:Tr v Z3 (v+1) J:=zt;have ay:Exo v Z3 J:=⟨λb hb=>(bi.1 b Z).trans (bm b hb)⟩;have b7:=i9.t an;refine zG ?_;refine sC (negX _ b7) ?_;rintro _ au a7⟨cp,co,d5,cr,rfl,ab⟩ b4 ch;have a1:Exo v Z3 au:=⟨λb hb=>(ch b Z).trans (ay.go b hb)⟩;have a8:=I.x (n':=a7) ⟨Z,a1.go⟩;refine sI ω (show j<O (rowL n (s.T r))from Z) ?_;refine sZ (n0:=n0) (j:=j) [CV cp,Y co d5 cr] (a8.o r W) FE (by rw[yv];exact H) (Dl _) ⟨_,_,_,_,ω,ab⟩ ?_;intro c4 gc ck;have df:=a8.set W gc ck;rw[zg4]at df;refine zG ?_;exact sK (j+1) ⟨Z,df,FN ck (T8.trans ⟨Z,λc hc=>.inl (a1.go c hc)⟩),λb (hb:b<3*n3) hn=>(ck.1 b hn).trans ((a1.go b Z).trans (K8 b hb hn)),yL (λc hc=>⟨r,W,Dc.1 hc⟩) aw,rp⟩;have H:j=n:=Z;subst H;have cw:∀a,a<=m->bs≠B a:=λa ha q=>bh a ha q.symm;have gn:=(bc bs bg cw).trans st;refine zG ?_;refine sI ω (show e<O (rowL j (s.T r))from Z) ?_;refine sZ (n0:=n0) (j:=e) [CV b0,Y a0 u0 c0] (I.o r W) FE (by rw[yv];exact he) (Dl _) ⟨_,_,_,_,ω,i0.t be⟩ ?_;intro h9 o9 S9;have eq:=I.set W o9 S9;have en:=(S9.1 bs (cw r W)).trans gn;have ek:=(S9.1 (3*n0+2) (by have:=(tb.o r W).1;omega)).trans bj;have fd:=FN S9 be;refine zG ?_;refine OC (n0:=n0) [U .i64 (d.n:Int),Y A.sc (O d.sc) (O d.sc),Y A.lo (O d.lo) (O d.lo),Y A.hi (O d.hi) (O d.hi),Y A.va (O d.va) (O d.va),Y A.ba (O d.ba) (O d.ba),Y A.nb (O d.nb) (O d.nb),Y A.ta (O d.ta) (O d.ta),CV bt,Y aq lt ct] en λar b1 al=>?_;have cm:=FN al fd;have d2:=it.t cm;have dv:∀b,b<3*n0->b≠bs->(∀a,a<=m->b≠B a)->ar b=h b:=λb hb h1 h2=>(al.1 b h1).trans ((S9.1 b (h2 r W)).trans (bc b hb h2));have d9:=(al.1 (3*n0+2) Z).trans ek;have aj:=eq.go (FN al (Er _ _)) λa ha=>al.1 _ (bh a ha);have bp:∀c∈addW n0 [bs] (addW n0 [B r] w8),c=bs\/∃a,a<=m/\c=B a:=yL (λc hc=>.inl (Dc.1 hc)) (yL (λc hc=>.inr ⟨r,W,Dc.1 hc⟩) λc hc=>.inr (aw c hc));have c8:bs∈addW n0 [bs] (addW n0 [B r] w8):=wQ bg cA;generalize addW n0 [bs] (addW n0 [B r] w8)=w10 at bp c8⊢;rw[e6]at aj;have aj:Tb ar v m j B (MA s.T s.d m r e j):=aj;simp only[yu,xg,zK,yY];refine yj (α:=Bool) (λz=>[(0,ι bs),(1,U .i64 (r:Int)),(2,U .i64 (e:Int)),(7,ι (3*n0+2)),(119,CV z)]) (λz h' u Z0=>w10=Z0/\v<=u/\Ko v ar h'/\(z=φ/\s.T r e<0\/z=χ/\0<s.T r e)) ?_ ?_;refine zG ?_;refine sC (Ng _ (d2.t zt)) ?_;rintro _ J im⟨ir,rfl,ai⟩ eu er;obtain⟨rfl,ai⟩|⟨rfl,ai⟩|⟨rfl,ai⟩:=ai;refine zG ?_;exact zA φ (by(repeat (first|exact trivial|refine⟨ω,?_⟩))) ⟨ω,eu,er,.inl ⟨ω,ai⟩⟩;exact CO ai ht;refine zG ?_;exact zA χ (by(repeat (first|exact trivial|refine⟨ω,?_⟩))) ⟨ω,eu,er,.inr ⟨ω,ai⟩⟩;rintro z t au a7 _⟨rfl,b4,ch,hz⟩;have b4:v<=a7:=b4;have a1:Exo v ar au:=⟨ch⟩;have cn:Tr n0 h a7 au:=cm.trans ⟨b4,λc hc=>.inl (a1.go c hc)⟩;have cj:∀b,b<3*n0->b≠bs->(∀a,a<=m->b≠B a)->au b=h b:=λb hb h1 h2=>(a1.go b Z).trans (dv b hb h1 h2);have f8:=(a1.go (3*n0+2) Z).trans d9;have bx:=(a1.go bs Z).trans b1;have a8:=aj.x ⟨b4,a1.go⟩;have ab:=d2.ext a1.go b4;refine yj (α:=Bool×Option Addr×Nat×Nat) (λ_=>[(0,ι bs),(1,U .i64 (r:Int)),(2,U .i64 (e:Int))]) (λz h' u Z0=>a7<=u/\h' bs=ξ (.row [U .i64 (d.n:Int),Y A.sc (O d.sc) (O d.sc),Y A.lo (O d.lo) (O d.lo),Y A.hi (O d.hi) (O d.hi),Y A.va (O d.va) (O d.va),Y A.ba (O d.ba) (O d.ba),Y A.nb (O d.nb) (O d.nb),Y A.ta (O d.ta) (O d.ta),CV z.1,Y z.2.1 z.2.2.1 z.2.2.2] ty)/\IW h' u z.1 z.2.1 z.2.2.1 z.2.2.2 ((s.T r e).natAbs:Int)/\Tb h' u m j B (pT s.T s.d r e)/\Tr n0 h u h'/\(∀b,b<3*n0->b≠bs->(∀a,a<=m->b≠B a)->h' b=h b)/\(∀c∈Z0,c=bs\/∃a,a<=m/\c=B a)/\bs∈Z0) ?_ ?_;obtain⟨rfl,hz⟩|⟨rfl,hz⟩:=hz;refine zG ?_;refine sC (negX _ ab) ?_;rintro _ c4 a2⟨cq,e0,ef,e2,rfl,ea⟩ b6 bn;have cg:Exo a7 au c4:=⟨bn⟩;have b6:a7<=a2:=b6;have dc:=(bn bs Z).trans bx;refine zG ?_;refine OC (n0:=n0) [U .i64 (d.n:Int),Y A.sc (O d.sc) (O d.sc),Y A.lo (O d.lo) (O d.lo),Y A.hi (O d.hi) (O d.hi),Y A.va (O d.va) (O d.va),Y A.ba (O d.ba) (O d.ba),Y A.nb (O d.nb) (O d.nb),Y A.ta (O d.ta) (O d.ta),CV cq,Y e0 ef e2] dc λa6 gg am=>?_;have fe:Tr n0 h a2 a6:=FN am (cn.trans ⟨b6,λc hc=>.inl (cg.go c hc)⟩);have dw:∀b,b<3*n0->b≠bs->(∀a,a<=m->b≠B a)->a6 b=h b:=λb hb h1 h2=>(am.1 b h1).trans ((cg.go b Z).trans (cj b hb h1 h2));have dg:=(a8.x ⟨b6,cg.go⟩).go (FN am (Er _ _)) λa ha=>am.1 _ (bh a ha);rw[<-zg1 (Z4:=MA s.T s.d m r e j)]at dg;have g3:=ea.t (FN am (Er a2 c4));have cy:∀c∈addW n0 [bs] w10,c=bs\/∃a,a<=m/\c=B a:=yL (λc hc=>.inl (Dc.1 hc)) bp;have ca:bs∈addW n0 [bs] w10:=wQ bg cA;generalize addW n0 [bs] w10=w14 at cy ca⊢;refine zG ?_;refine sF (α:=Nat) (λz=>[(0,ι bs),(1,U .i64 (r:Int)),(2,U .i64 (e:Int)),(128,Y A.ta (O d.ta) (O d.ta)),(129,U .i64 (O d.ta:Int)),(130,U .i64 (z:Int))]) (λz h' u Z0=>a2<=u/\Tb h' u m j B (LD (MA s.T s.d m r e j) z 0)/\Tr a2 a6 u h'/\(∀b,b<3*a2->(∀a,a<=m->b≠B a)->h' b=a6 b)/\(∀c∈Z0,c=bs\/∃a,a<=m/\c=B a)/\bs∈Z0/\z<=m+1) (λz=>m+1-z) 0 ⟨CS,dg,Er _ _,λ_ _ _=>rfl,cy,ca,CT⟩ ?_;rintro i t R F iv⟨dq,b8,bf,ak,cz,cb,hi⟩;have dq:a2<=F:=dq;have b8:Tb R F m j B (LD (MA s.T s.d m r e j) i 0):=b8;have bf:Tr a2 a6 F R:=bf;have ak:∀b,b<3*a2->(∀a,a<=m->b≠B a)->R b=a6 b:=ak;have hi:i<=m+1:=hi;refine zG ?_;by_cases db:(i:Int)<(O d.ta:Int);have y:i<=m:=Z;have⟨k4,o4,e4,m4,r4,t4⟩:=rwS.at sm.ta.rs (ap.at sp y);have e9:=e7 ⟨o4,_,_,by rw[e4]⟩;have f2:k4≠bs:=λq=>(by have h1:=(sm.ta.bk k4 ⟨o4,_,_,by rw[e4]⟩).2.2.1;rw[q,sm.bs.2]at h1;cases h1);have t4:=t4.k ((ak k4 Z e9).trans (dw k4 m4 f2 e9));refine zG ?_;refine sI e4 r4 ?_;refine sL t4 (show k4<3*F from Z) 0 ?_;refine zG ?_;have eL:O (rowL j (s.T i))=j:=yv;refine sF (α:=Nat) (λz=>[(0,ι bs),(1,U .i64 (r:Int)),(2,U .i64 (e:Int)),(17,Y (ξ ⟨B i,0,θ⟩) (O (rowL j (s.T i))) (O (rowL j (s.T i)))),(128,Y A.ta (O d.ta) (O d.ta)),(129,U .i64 (O d.ta:Int)),(130,U .i64 (i:Int)),(134,Y (ξ ⟨B i,0,θ⟩) (O (rowL j (s.T i))) (O (rowL j (s.T i)))),(135,U .i64 (O (rowL j (s.T i)):Int)),(136,U .i64 (z:Int))]) (λz h' u Z0=>F<=u/\Tb h' u m j B (LD (MA s.T s.d m r e j) i z)/\Tr F R u h'/\(∀b,b<3*F->b≠B i->h' b=R b)/\(∀c∈Z0,c=bs\/∃a,a<=m/\c=B a)/\bs∈Z0/\z<=j) (λz=>j-z) 0 ⟨CS,b8,Er _ _,λ_ _ _=>rfl,cz,cb,CT⟩ ?_;rintro c t G f iw⟨a3,P,aa,c2,d0,cc,hc⟩;have a3:F<=f:=a3;have P:Tb G f m j B (LD (MA s.T s.d m r e j) i c):=P;have aa:Tr F R f G:=aa;have c2:∀b,b<3*F->b≠B i->G b=R b:=c2;have hc:c<=j:=hc;refine zG ?_;by_cases q16:(c:Int)<(O (rowL j (s.T i)):Int);have c7:c<j:=Z;have⟨fl,fi,g9,fp,gp,eb⟩:=P.el y c7;rw[zlr]at eb;have f1:=(P.o i y).1;refine zG ?_;refine sI ω (show c<O (rowL j (s.T i))from Z) ?_;refine sL gp f1 0 ?_;refine Zd λid gh es=>?_;refine zG ?_;refine sS [CV fl,Y fi g9 fp] λe5 iq ei=>?_;have fg:Tr f G (f+1) e5:=zt;have g8:Exo f G e5:=⟨λb hb=>(ei.1 b Z).trans (es b hb)⟩;have g4:=eb.t fg;refine zG ?_;refine sC (negX _ g4) ?_;rintro _ M ah⟨fm,fj,ga,fq,rfl,ax⟩ dr ae;have az:Exo f G M:=⟨λb hb=>(ae b Z).trans (g8.go b hb)⟩;have bb:=P.x (n':=ah) ⟨Z,az.go⟩;refine sI ω (show c<O (rowL j (s.T i))from Z) ?_;refine sZ (n0:=n0) (j:=c) [CV fm,Y fj ga fq] (bb.o i y) FE (by rw[yv];exact c7) (Dl _) ⟨_,_,_,_,ω,ax⟩ ?_;intro fv d8 K;have dh:=bb.set y d8 K;rw[zg2]at dh;refine zG ?_;exact sK (c+1) ⟨Z,dh,FN K (aa.trans ⟨Z,λc hc=>.inl (az.go c hc)⟩),λb (hb:b<3*F) hn=>(K.1 b hn).trans ((az.go b Z).trans (c2 b hb hn)),yL (λc hc=>.inr ⟨i,y,Dc.1 hc⟩) d0,nM _ _ _ cc,by show c+1<=j;omega⟩;have c7:c=j:=Z;subst c7;refine zG ?_;exact sK (i+1) ⟨Z,P.as λa b _ hb=>zlq hb,bf.trans aa,λb (hb:b<3*a2) hn=>(c2 b Z (hn i y)).trans (ak b hb hn),d0,cc,An⟩;have cx:i=m+1:=Z;subst cx;refine zG ?_;have e1:sgn (s.T r e)= -1:=CQ hz;exact zA (cq,e0,ef,e2) (by(repeat (first|exact trivial|refine⟨ω,?_⟩))) ⟨(show a7<=F from Z),(ak bs Z cw).trans gg,(g3.t bf).as Z,b8.as λa b ha hb=>by rw[zls ha,<-TP ha hb,e1];omega,fe.trans bf,λb hb h1 h2=>(ak b Z h2).trans (dw b hb h1 h2),cz,cb⟩;refine zG ?_;have e1:sgn (s.T r e)=1:=CP Z;exact zA (bt,aq,lt,ct) (by(repeat (first|exact trivial|refine⟨ω,?_⟩))) ⟨CS,bx,ab.as Z,a8.as λa b ha hb=>by rw[<-TP ha hb,e1,Jd],cn,cj,bp,c8⟩;rintro⟨bd,ad,ud,cd⟩ t M ah dm ⟨dr,f9,ax,bb,ao,af,f3,gz⟩;have dr:a7<=ah:=dr;have ao:Tr n0 h ah M:=ao;have af:∀b,b<3*n0->b≠bs->(∀a,a<=m->b≠B a)->M b=h b:=af;have S:∀{b},gro b=φ->b≠bs/\∀a,a<=m->b≠B a:=λhb=>⟨λq=>(by rw[q,sm.bs.2]at hb;cases hb),λa ha q=>(by rw[q,tb.g a ha]at hb;cases hb)⟩;have fu:=sp.nb e he;have ft:=sp.ba r hr;have⟨bv,ev,gv,lv,ov,gu⟩:=sm.ba.or ω (show O d.ba≠0 from Z);have⟨bw,ew,gw,lw,ow,gx⟩:=sm.nb.or ω (show O d.nb≠0 from Z);injection ev with ev;injection ew with ew;have cf:bv≠bw:=λq=>ap.dj bw ⟨0,O d.nb,O d.nb,by rw[ew]⟩ ⟨0,O d.ba,O d.ba,by rw[ev,q]⟩;have br:=ov.go natP.kp ao (af bv ov.1 (S gv).1 (S gv).2);have bu:=ow.go natP.kp ao (af bw ow.1 (S gw).1 (S gw).2);obtain⟨ia,rfl,_,gq⟩:=bu.get fu (off:=0+e*1) Z;obtain⟨ib,rfl,_,gs⟩:=br.get ft (off:=0+r*1) Z;have f7:n0<=ah:=ao.1;refine zG ?_;refine zl [0,1,3,7,0,0,32,96,224,0,0,1024,3072,7168,0,31744,64512,0,131072,393216,917504,0,4063232,8257536,16776703,33553919,67108863,134217727] rfl<|zH ?_;refine dI ew (show e<O d.nb from Z) ?_;refine dL gq bu.1 0 ?_;refine zH ?_;refine dI ev (show r<O d.ba from Z) ?_;refine dL gs br.1 0 ?_;refine dI ev (show r<O d.ba from Z) ?_;refine dZ (n0:=n0) (j:=r) [U .i64 (s.nb e:Int)] br natP.kp Z (Dl _) ω λfv d8 K fb=>?_;refine zH ?_;refine dI ew (show e<O d.nb from Z) ?_;refine dZ (n0:=n0) (j:=e) [U .i64 (s.bs r:Int)] (bu.go natP.kp (FN K (Er _ _)) (K.1 bw (λq=>cf q.symm))) natP.kp Z (Dl _) ω λag gd a4 fc=>?_;refine zG ?_;have dz:Tr n0 h ah ag:=FN a4 (FN K ao);have di:=bb.go (FN a4 (FN K (Er _ _))) λa ha=>(a4.1 _ λq=>(S gw).2 a ha q.symm).trans (K.1 _ λq=>(S gv).2 a ha q.symm);have dx:∀b,b<3*n0->b≠bs->(∀a,a<=m->b≠B a)->b≠bv->b≠bw->ag b=h b:=λb hb h1 h2 h3 h4=>(a4.1 b h4).trans ((K.1 b h3).trans (af b hb h1 h2));have bz:=(a4.1 bs λq=>(S gw).1 q.symm).trans ((K.1 bs λq=>(S gv).1 q.symm).trans f9);have ds:Ld M bv 3:=(by have⟨C,hC⟩:=gu;exact⟨C,(af bv ov.1 (S gv).1 (S gv).2).trans hC⟩);have dt:Ld M bw 3:=(by have⟨C,hC⟩:=gx;exact⟨C,(af bw ow.1 (S gw).1 (S gw).2).trans hC⟩);have ob:=(d8.go natP.kp (FN a4 (Er _ _)) (a4.1 bv cf)).gr natP.kp (by
  have⟨C,hC⟩:=fb _ ds;exact⟨C,(a4.1 bv cf).trans hC⟩) gv lv (L:=O d.ba) (DX ..)
 have on:=gd.gr natP.kp (fc _ (by
  have⟨C,hC⟩:=dt;exact⟨C,(K.1 bw λq=>cf q.symm).trans hC⟩)) gw lw (L:=O d.nb) (DX ..)
 rw[<-ev]at ob;rw[<-ew]at on;have fs:SM l ag ah bs {d with den:=((s.T r e).natAbs:Int),ba:=d.ba.set r (s.nb e),nb:=d.nb.set e (s.bs r),ta:=MC m j B (pT s.T s.d r e)} A:=sm.piv tb.g ev ew dz dx bz (ax.t (FN a4 (FN K (Er _ _)))) (DX ..) (DX ..) ob on (zl0 sp ap) λp hp=>(by obtain⟨q,hq,rfl⟩:=D2.1 hp;have hq:=G2.1 hq;exact⟨di.o q Z,di.g q Z⟩);have g2:∀c∈addW n0 [bw] (addW n0 [bv] dm),3*l<=c:=yL (λc hc=>by rw[Dc.1 hc];exact lw) (yL (λc hc=>by rw[Dc.1 hc];exact lv) λc hc=>by
  obtain rfl|⟨a,ha,rfl⟩:=f3 c hc;exact ap.bs;exact ap.lo a ha)
 have bo:bw∈addW n0 [bw] (addW n0 [bv] dm):=wQ ow.1 cA;refine⟨ω,[],ω,⟨f7,fs,dz,λb hb h1 h2 h3 h4=>dx b hb h1 h2 (λq=>h3 ⟨0,O d.ba,O d.ba,by rw[ev,q]⟩) (λq=>h4 ⟨0,O d.nb,O d.nb,by rw[ew,q]⟩),g2,λb hb=>?_⟩,λhw=>by rw[show addW n0 [bw] (addW n0 [bv] dm)=[]from hw]at bo;cases bo⟩;have⟨o,l',c',q⟩:=hb;rw[ew]at q;injection q with q;injection q with q;injection q with q;exact q▸bo
end
end
theorem cF{l:List Nat}{f:Nat->Nat}{N w x:Nat}(h:∀v,v<N->l[v]?=ξ (f v))(hl:O l=N):∀v,v<N->(l.set w x)[v]?=ξ (Kt f w x v):=by grind [hv,Kt]
def Sol.piv(d:Sol)(m n:Nat)(B:Nat->Nat)(t:PT)(r e:Nat):Sol:={d with den:=((t.T r e).natAbs:Int),ba:=d.ba.set r (t.nb e),nb:=d.nb.set e (t.bs r),ta:=MC m n B (pT t.T t.d r e)}
section
variable {n e:Nat}{d:Sol}{A:Adr}{s:PS}{B:Nat->Nat}
def SolP.piv(a:SolP n m d s):SolP n m (d.piv m n B s.toPT r e) ⟨s.toPT.piv r e,s.x⟩:=
 ⟨(DX ..).trans a.nl,cF a.nb a.nl,(DX ..).trans a.bl,cF a.ba a.bl,a.vl,a.va,TQ,λi f=>⟨_,PZ f,yv,λc b=>vu b⟩,ω,a.ll,a.lh,a.nm,a.ls,a.dn⟩
def Apa.piv(a:Apa l m bs d A B){t:PT}:Apa l m bs (d.piv m n B t r e) A B:=
 ⟨a.bs,a.lo,a.inj,λi c=>⟨_,PZ c⟩,by
  show ∀b,BkOf (Y A.nb (O (d.nb.set e (t.bs r))) (O (d.nb.set e (t.bs r)))) b->¬BkOf (Y A.ba (O (d.ba.set r (t.nb e))) (O (d.ba.set r (t.nb e)))) b;rw[DX,DX];exact a.dj⟩
def Apa.mv(a:Apa l m bs d A B){va:List Rat}:Apa l m bs {d with va:=va} A B:=⟨a.bs,a.lo,a.inj,a.ta,a.dj⟩
end
def TT{l:List (Bool×Rat)}{v:Nat}{x:Rat}{p:Bool×Rat}(h:l[v]?=ξ p):cG (Kr l) v x↔(p.1=χ\/x<p.2):=by have⟨b,q⟩:=p;unfold cG;cases b;rw[pj h];exact⟨λ_=>.inl ω,λ_ u a=>by cases a⟩;exact B7
def TU{l:List (Bool×Rat)}{v:Nat}{x:Rat}{p:Bool×Rat}(h:l[v]?=ξ p):cS (Kr l) v x↔(p.1=χ\/p.2<x):=by have⟨b,q⟩:=p;unfold cS;cases b;rw[pj h];exact⟨λ_=>.inl ω,λ_ u a=>by cases a⟩;exact B7
section
variable {n k:Nat}{s:PS}
theorem zg7{e:Nat}(hv:Viol lo hi s r low g):suit lo hi (rdOf m s r e low) c↔(0<KO (decide (0<s.T r c))*g.num/\s.T r c≠0/\cG hi (s.nb c) (s.x (s.nb c))\/KO (decide (0<s.T r c))*g.num<0/\s.T r c≠0/\cS lo (s.nb c) (s.x (s.nb c))):=by
 have j:((s.T r c:Rat)<0↔s.T r c<0):=aE;have o:((0:Rat)<(s.T r c:Rat)↔0<s.T r c):=FW;unfold suit rdOf;dsimp only;rw[j,o];unfold Viol at hv;have v:KO (decide (0<s.T r c))=if 0<s.T r c then 1 else -1:=(by unfold KO;by_cases q:0<s.T r c;rw[CN q,CQ ω,CQ q];rw[CM q,CP zd,CP q]);rw[v];cases low with
 |true=>
  rw[CQ rfl]at hv⊢;obtain⟨l,p,u,rfl⟩:=hv;have d:0<(l-s.x (s.bs r)).num:=by
   have b:0<l-s.x (s.bs r):=by grind
   have:=(Gc (q:=l-s.x (s.bs r))).2 (Ft b);have:(l-s.x (s.bs r)).num≠0:=λq=>by rw[FJ.1 q]at b;exact Gk b
   omega
  generalize (l-s.x (s.bs r)).num=z at d;split<;>constructor<;>rintro(⟨i,a⟩|⟨i,a⟩);exact .inl ⟨Z,Z,a⟩;omega;exact .inl ⟨Z,a.2⟩;omega;omega;exact .inr ⟨Z,Z,a⟩;omega;exact .inr ⟨Z,a.2⟩
 |false=>
  rw[CP EN]at hv⊢;obtain⟨l,p,u,rfl⟩:=hv;have d:(l-s.x (s.bs r)).num<0:=by
   have b:l-s.x (s.bs r)<0:=by grind
   have:=mt (Gc (q:=l-s.x (s.bs r))).1 (F6.2 b);omega
  generalize (l-s.x (s.bs r)).num=z at d;split<;>constructor<;>rintro(⟨i,a⟩|⟨i,a⟩);omega;exact .inr ⟨Z,Z,a⟩;omega;exact .inr ⟨Z,a.2⟩;exact .inl ⟨Z,Z,a⟩;omega;exact .inl ⟨Z,a.2⟩;omega
def LV(n m:Nat)(lo hi:Nat->Option Rat)(s:PS)(r:Nat)(low:Bool)(k:Nat)(f:Int):Prop:=
 (f= -1/\∀c,c<k->¬suit lo hi (rdOf m s r 0 low) c)\/∃c:Nat,f=(c:Int)/\c<k/\suit lo hi (rdOf m s r 0 low) c/\∀c',c'<k->s.nb c'<s.nb c->¬suit lo hi (rdOf m s r 0 low) c'
def LV.no(h:LV n m lo hi s r low k f)(d:¬suit lo hi (rdOf m s r 0 low) k):LV n m lo hi s r low (k+1) f:=by obtain⟨h,b⟩|⟨c,j,b,l,o⟩:=h;refine .inl ⟨h,λc p=>?_⟩;by_cases e:c=k;rw[e];exact d;exact b c Z;refine .inr ⟨c,j,Z,l,λa p i=>?_⟩;by_cases e:a=k;rw[e];exact d;exact o a Z i
def LV.skip(h:LV n m lo hi s r low k (c:Int))(q:s.nb c<=s.nb k):LV n m lo hi s r low (k+1) (c:Int):=by obtain⟨h,i⟩|⟨d,o,i,j,l⟩:=h;omega;obtain rfl:c=d:=Z;refine .inr ⟨c,ω,Z,j,λa p b=>?_⟩;by_cases e:a=k;subst e;omega;exact l a Z b
def LV.take(h:LV n m lo hi s r low k f)(o:suit lo hi (rdOf m s r 0 low) k)(i:f= -1\/∃c:Nat,f=(c:Int)/\s.nb k<=s.nb c):LV n m lo hi s r low (k+1) (k:Int):=by refine .inr ⟨k,ω,FD _,o,λa b p=>?_⟩;have b:a<k:=(by by_cases e:a=k;subst e;omega;omega);obtain⟨h,d⟩|⟨j,q,d,u,l⟩:=h;exact d a b;obtain i|⟨c,e,hi⟩:=i;omega;obtain rfl:c=j:=Z;exact l a b Z
end
section
variable {i:Nat}
structure Cap (n M Mo N V T Z1 D B:Nat):Prop where
 t:K0 n*(M^(n-1)*M)<2^T
 d:K0 n*M^n<2^T
 o:K0 n*(M^(n-1)*Mo)<2^Z1
 v1:vN n M N<2^V
 v2:vD n N<2^V
 s1:vN n M N*N+N*vD n N<2^D
 s2:vD n N*N<2^D
 b:N<2^B
def QB.sz{A B a:Nat}(h:QB A B q)(l:A<2^a)(o:B<2^a):Sz a q:=by
 have⟨x,y,b,f,g,j⟩:=h;have e:q=DT x y:=by
  rw[ES,<-f];have:(y:Rat)≠0:=λe=>by have:=EW.1 e;omega
  rw[FL];exact(Rat.mul_div_cancel this).symm
 rw[e];exact xz b Z Z
section
variable {n T B:Nat}{d:Sol}{s:PS}{a:Nat->Nat->Int}
structure Fix (n m M Mo N V T Z1 D B:Nat)(a:Nat->Nat->Int)(d:Sol):Prop where
 b:Bnd n m a (Kr d.lo) (Kr d.hi) M N
 o:∀j,j<n->(a (n+m) j).natAbs<=Mo
 c:Cap n M Mo N V T Z1 D B
 l:Lim V T Z1 D B
 lo:∀p∈d.lo,Sz B p.2
 hi:∀p∈d.hi,Sz B p.2
 le:∀v l u,Kr d.lo v=ξ l->Kr d.hi v=ξ u->l<=u
def Fix.szp(x:Fix n m M Mo N V T Z1 D B a d)(e:PInv n m a (Kr d.lo) (Kr d.hi) L s):SzP n m V T Z1 B d s:=by have⟨p,g⟩:=e.vtx x.b;refine⟨λv l=>(g.qb Z (x.b.aM v l)).sz x.c.v1 x.c.v2,x.lo,x.hi,λi j c f=>?_,λc f=>?_,Dw (e.toPB.bD x.b.aM) x.c.d⟩;exact Dw (e.toPB.bT x.b.aM Z f (x.b.aM _ (e.bv i j))) x.c.t;exact Dw (e.toPB.bT x.b.aM CS f (by rw[e.bm];exact x.o)) x.c.o
def Fix.stp(x:Fix n m M Mo N V T Z1 D B a d)(e:PInv n m a (Kr d.lo) (Kr d.hi) L s)(g:c<n)(hi:i<m)(f:s.T i c≠0)(j:Kr d.lo (s.bs i)=ξ q\/Kr d.hi (s.bs i)=ξ q):Sz D ((q-s.x (s.bs i))/((s.T i c:Rat)/s.d)):=
 (e.stp x.b g hi f j).sz x.c.s1 x.c.s2
end
end
theorem zgx{lo hi:Nat->Option Rat}{s:PS}{r:Nat}{low:Bool}{g:Rat}(h:Viol lo hi s r low g):g.num≠0/\(low=φ↔0<g.num):=by
 unfold Viol at h;cases low with
 |true=>
  rw[CQ rfl]at h;obtain⟨l,_,c,rfl⟩:=h;have b:0<l-s.x (s.bs r):=by grind
  have:=(Gc (q:=l-s.x (s.bs r))).2 (Ft b);have:(l-s.x (s.bs r)).num≠0:=λq=>by rw[FJ.1 q]at b;exact Gk b
  exact⟨this,λ_=>Z,λ_=>rfl⟩
 |false=>
  rw[CP EN]at h;obtain⟨l,_,c,rfl⟩:=h;have b:l-s.x (s.bs r)<0:=by grind
  have:=mt (Gc (q:=l-s.x (s.bs r))).1 (F6.2 b);exact⟨Z,λq=>(by cases q),λq=>Z⟩
theorem TV{l:List (Bool×Rat)}{v a:Nat}{q:Rat}(hl:∀p∈l,Sz a p.2)(h:Kr l v=ξ q):Sz a q:=by grind [Kr]
structure Same (d d':Sol):Prop where
 n:d'.n=d.n
 sc:d'.sc=d.sc
 lo:d'.lo=d.lo
 hi:d'.hi=d.hi
theorem Same.refl(d:Sol):Same d d:=⟨rfl,rfl,rfl,rfl⟩
structure Ste (l n m bs:Nat)(a:Nat->Nat->Int)(L:(Nat->Rat)->Prop)(A:Adr)(B:Nat->Nat)(d0:Sol)(h:HF)(n0:Nat)(d:Sol)(s:PS):Prop where
 sm:SM l h n0 bs d A
 sp:SolP n m d s
 iv:PInv n m a (Kr d0.lo) (Kr d0.hi) L s
 ap:Apa l m bs d A B
 eq:Same d0 d
section
variable {n T:Nat}{d:Sol}{A:Adr}{s:PS}{a:Nat->Nat->Int}{B:Nat->Nat}
def Fix.same{f:Sol}(x:Fix n m M Mo N V T Z1 D BB a d)(e:Same d f):Fix n m M Mo N V T Z1 D BB a f:=by have⟨v,w,b,c⟩:=e;have⟨g,i,j,o,p,q,u⟩:=x;refine⟨?_,i,j,o,?_,?_,?_⟩;rw[b,c];exact g;rw[b];exact p;rw[c];exact q;rw[b,c];exact u
def zmn(k:Nat)(g:GG h n0)(S:Ste l n m bs a L A B d h n0 d s)(x:Fix n m M Mo N V T Z1 D BB a d)(hn:0<n)(ce:n+m<=11):
  CF (Kp (k+15)) 24 [ι bs] h n0 λw h' n' W=>∃d' s',n0<=n'/\Ste l n m bs a L A B d h' n' d' s'/\Tr n0 h n' h'/\(∀b,b<3*l->h' b=h b)/\(∀c∈W,3*l<=c)/\(w=.tuple #[U .i64 0,U .i64 0,CV φ]/\Feas m (Kr d.lo) (Kr d.hi) s'\/∃(r:Nat) (low:Bool) (q:Rat),w=.tuple #[U .i64 (r:Int),U .i64 (KO low),CV χ]/\Vio m (Kr d.lo) (Kr d.hi) s' r low q/\∀c,c<n->¬suit (Kr d.lo) (Kr d.hi) (rdOf m s' r 0 low) c):=by
 have⟨bw,ew,gw,lw,ow,dn⟩:=S.sm.nb.or ω (show O d.nb≠0 by have:=S.sp.nl;omega);injection ew with ew;have hl:3*l<=3*n0:=by have:=S.ap.bs;have:=S.sm.bs.1;omega
 have h4:4^(n+m)<=4^11:=Dd zd ce;refine rT (fn:=Tryz.f24) R4<|zG ?_;refine sF (α:=Nat×Sol×PS) (λ_=>[(0,ι bs)]) (λz h' n' w'=>n0<=n'/\Ste l n m bs a L A B d h' n' z.2.1 z.2.2/\Tr n0 h n' h'/\(∀b,b<3*l->h' b=h b)/\(∀c∈w',3*l<=c)/\(z=(0,d,s)\/bw∈w')/\nT (Tq n m a (Kr d.lo) (Kr d.hi) L) (λs=>Lv m (Kr d.lo) (Kr d.hi) s (n+m)) z.1 z.2.2) (λz=>4^(n+m)-z.1) (0,d,s) ⟨CS,S,Er _ _,λ_ _=>rfl,λc hc=>CO hc C6,.inl ω,nT.start⟩ ?_ (hm:=by show _<LL;unfold LL;(try dsimp only);omega);rintro⟨q,I,u⟩ t h1 n1 w1 ⟨y1,y,T1,K1,ar,an,b8⟩;have y1:n0<=n1:=y1;have y:Ste l n m bs a L A B d h1 n1 I u:=y;have T1:Tr n0 h n1 h1:=T1;have hq:q<4^(n+m):=b8.lt λs=>iI _;have x1:=x.same y.eq;have el:=y.eq.lo;have eh:=y.eq.hi;have I1:PInv n m a (Kr I.lo) (Kr I.hi) L u:=by rw[el,eh];exact y.iv
 have J:=x1.szp I1;refine zG ?_;refine sC (zcl _ (g.t T1) y.sm y.sp y.iv.bv J x.l) ?_;rintro _ h2 P⟨f,qf,Z0,b2,a2,l2,c2,d2,e2,f2,g2,fd,rfl,i2,j2,hv,hf⟩ y2 x2;rw[el,eh]at hv;have S2:Ste l n m bs a L A B d h2 P I u:=⟨y.sm.ext x2 y2,y.sp,y.iv,y.ap,y.eq⟩;have T2:Tr n0 h P h2:=T1.trans ⟨y2,λc hc=>.inl (x2 c hc)⟩;have K2:∀b,b<3*l->h2 b=h b:=λb hb=>(x2 b Z).trans (K1 b hb);have y2:n1<=P:=y2;refine Zd λh3 p3 x3=>?_;refine zG ?_;refine sS [CV b2,Y a2 l2 c2,CV d2,Y e2 f2 g2] λh4 p4 o4=>?_;have k4:Exo P h2 h4:=⟨λc hc=>(o4.1 c Z).trans (x3 c hc)⟩;have i4:=i2.t (zt:Tr P h2 (P+1) h4);have j4:=j2.t (zt:Tr P h2 (P+1) h4);have S4:Ste l n m bs a L A B d h4 (P+1) I u:=⟨S2.sm.ext k4.go Zq,y.sp,y.iv,y.ap,y.eq⟩;have T4:Tr n0 h (P+1) h4:=T2.trans ⟨Du _,λc hc=>.inl (k4.go c hc)⟩;have K4:∀b,b<3*l->h4 b=h b:=λb hb=>(k4.go b Z).trans (K2 b hb);refine zG ?_;obtain⟨rfl,hf,rfl⟩|⟨rfl,rfl⟩:=hf;obtain⟨hv,_⟩|⟨r,low,rfl,Z4,a3,bf⟩:=hv;omega;have dj:=y.sp.nl;have db:=S4.sm.bs.1;have⟨b9,a9,u9,c9,dm,dl,_⟩:=S4.sm.st;refine zG ?_;refine sF (α:=Nat×Int) (λz=>[(0,ι bs),(5,U .i64 (r:Int)),(6,ι (3*P+2)),(8,U .i64 z.2),(23,Y A.nb (O I.nb) (O I.nb)),(24,U .i64 (O I.nb:Int)),(25,U .i64 (z.1:Int))]) (λz h' n' w'=>w1=w'/\P+1<=n'/\Ko (P+1) h4 h'/\LV n m (Kr d.lo) (Kr d.hi) u r low z.1 z.2/\z.1<=n) (λz=>n-z.1) (0,-1) ⟨ω,CS,FI _ _,.inl ⟨ω,λc hc=>CO hc (Ed _)⟩,CT⟩ ?_ (hm:=by have:=y.sp.nm;show _<LL;unfold LL;(try dsimp only);omega);rintro⟨j,f⟩ t H G _ ⟨rfl,y5,x5,hu,hj⟩;have y5:P+1<=G:=y5;have hu:LV n m (Kr d.lo) (Kr d.hi) u r low j f:=hu;have hj:j<=n:=hj;have k5:Exo (P+1) h4 H:=⟨x5⟩;have R:Ste l n m bs a L A B d H G I u:=⟨S4.sm.ext k5.go y5,y.sp,y.iv,y.ap,y.eq⟩;have T5:Tr n0 h G H:=T4.trans ⟨y5,λc hc=>.inl (k5.go c hc)⟩;have p5:=(k5.go (3*P+2) Z).trans p4;have i5:=i4.ext k5.go y5;have j5:=j4.ext k5.go y5;have bg:=R.sm.st;have⟨b0,a0,u0,c0,ty,bg,_⟩:=bg;have dc:=R.sm.bs.1;refine zG ?_;by_cases q5:(j:Int)<(O I.nb:Int);have aa:j<n:=Z;have gv:=y.sp.nb j aa;have⟨k6,o6,e6,m6,r6,t6⟩:=natS.at R.sm.nb.rs gv;refine zG ?_;refine sI e6 r6 ?_;refine sL t6 m6 0 ?_;have go:(∃i:Nat,f=(i:Int)/\i<n/\u.nb i<u.nb j)\/f= -1\/(∃i:Nat,f=(i:Int)/\i<n/\u.nb j<=u.nb i):=(by obtain⟨h1,_⟩|⟨i,h1,h2,h3,_⟩:=hu;exact .inr (.inl h1);by_cases hw:u.nb i<u.nb j;exact .inl ⟨i,h1,Z,hw⟩;exact .inr (.inr ⟨i,h1,Z,Z⟩));refine mZ ?_;simp only[yu,xg,zK,yY];refine yj (α:=Bool) (λz=>[(0,ι bs),(5,U .i64 (r:Int)),(6,ι (3*P+2)),(8,U .i64 f),(9,U .i64 (j:Int)),(10,U .i64 (u.nb j:Int)),(23,Y A.nb (O I.nb) (O I.nb)),(24,U .i64 (O I.nb:Int)),(25,U .i64 (j:Int)),(42,CV z)]) (λz h' n' w'=>w1=w'/\H=h'/\G=n'/\(z=φ/\(∃i:Nat,f=(i:Int)/\i<n/\u.nb i<u.nb j)\/z=χ/\(f= -1\/∃i:Nat,f=(i:Int)/\u.nb j<=u.nb i))) ?_ ?_;obtain⟨i,rfl,a7,hw⟩|rfl|⟨i,rfl,a7,hw⟩:=go;refine zG ?_;have⟨k7,o7,e7,m7,r7,t7⟩:=natS.at R.sm.nb.rs (y.sp.nb i a7);refine sI e7 r7 ?_;refine sL t7 m7 0 ?_;refine zG ?_;exact zA φ (by(repeat (first|exact trivial|refine⟨ω,?_⟩))) ⟨ω,ω,ω,.inl ⟨ω,i,ω,a7,hw⟩⟩;refine zG ?_;exact zA χ (by(repeat (first|exact trivial|refine⟨ω,?_⟩))) ⟨ω,ω,ω,.inr ⟨ω,.inl AL⟩⟩;refine zG ?_;have⟨k7,o7,e7,m7,r7,t7⟩:=natS.at R.sm.nb.rs (y.sp.nb i a7);refine sI e7 r7 ?_;refine sL t7 m7 0 ?_;refine zG ?_;exact zA χ (by(repeat (first|exact trivial|refine⟨ω,?_⟩))) ⟨ω,ω,ω,.inr ⟨ω,.inr ⟨i,ω,hw⟩⟩⟩;rintro z t _ _ _⟨rfl,rfl,rfl,⟨rfl,i,rfl,a7,hw⟩|⟨rfl,bb⟩⟩;refine zG ?_;exact sK (j+1,(i:Int)) ⟨ω,y5,k5.go,hu.skip Z,rp⟩;have⟨k8,o8,e8,m8,r8,t8⟩:=rwS.at R.sm.ta.rs (y.ap.at y.sp (EB Z4));have⟨cv,cr,l10,cy,cm,ch⟩:=(R.ap.tb R.sm R.sp).el (EB Z4) aa;have bi:=((R.ap.tb R.sm R.sp).o r (EB Z4)).1;refine zG ?_;refine yj (α:=Int) (λz=>[(0,ι bs),(5,U .i64 (r:Int)),(6,ι (3*P+2)),(8,U .i64 f),(9,U .i64 (j:Int)),(10,U .i64 (u.nb j:Int)),(11,U .i64 z),(23,Y A.nb (O I.nb) (O I.nb)),(24,U .i64 (O I.nb:Int)),(25,U .i64 (j:Int))]) (λz h' n' w'=>w1=w'/\G<=n'/\Ko G H h'/\(z=1/\u.T r j≠0/\0<KO (decide (0<u.T r j))*Z0.num\/z=0/\(u.T r j=0\/Z0.num=0)\/z= -1/\u.T r j≠0/\KO (decide (0<u.T r j))*Z0.num<0)) ?_ ?_;refine zl [0,1,3,7,0,31,63,0,255,511,1023,0,4095,8191,16383] rfl<|zH ?_;refine dI e8 r8 ?_;refine dL t8 m8 0 ?_;refine zH ?_;refine dI ω (show j<O (rowL n (u.T r)) by rw[yv];exact aa) ?_;refine dL cm bi 0 ?_;refine dC (Ng _ ch) ?_;rintro _ aj ay⟨ag,rfl,Z3⟩ ah ac;refine zH ?_;refine dC (fD _ (i5.x zx) (j5.x zx)) ?_;rintro _ C F⟨dk,rfl,K⟩ cp cn;obtain⟨rfl,Z3⟩|⟨rfl,Z3⟩|⟨rfl,Z3⟩:=Z3;obtain⟨rfl,K⟩|⟨rfl,K⟩|⟨rfl,K⟩:=K;refine zH ?_;refine dr_I (ik:=.i64) (a:=1) R5<|zJ ?_;exact zA (1) (by(repeat (first|exact trivial|refine⟨ω,?_⟩))) ⟨ω,(show Tx G H F C from zx).1,(show Tx G H F C from zx).2,.inl ⟨ω,Z,(by rw[CM (show ¬0<u.T r j by omega)];show 0<(-1:Int)*Z0.num;omega)⟩⟩;refine zH ?_;refine dr_I (ik:=.i64) (a:=0) R5<|zJ ?_;exact zA (0) (by(repeat (first|exact trivial|refine⟨ω,?_⟩))) ⟨ω,(show Tx G H F C from zx).1,(show Tx G H F C from zx).2,.inr (.inl ⟨ω,.inr K⟩)⟩;refine zH ?_;refine dr_I (ik:=.i64) (a:= -1) R5<|zJ ?_;exact zA (-1) (by(repeat (first|exact trivial|refine⟨ω,?_⟩))) ⟨ω,(show Tx G H F C from zx).1,(show Tx G H F C from zx).2,.inr (.inr ⟨ω,Z,(by rw[CM (show ¬0<u.T r j by omega)];show(-1:Int)*Z0.num<0;omega)⟩)⟩;obtain⟨rfl,K⟩|⟨rfl,K⟩|⟨rfl,K⟩:=K;refine zH ?_;refine dr_I (ik:=.i64) (a:=0) R5<|zJ ?_;exact zA (0) (by(repeat (first|exact trivial|refine⟨ω,?_⟩))) ⟨ω,(show Tx G H F C from zx).1,(show Tx G H F C from zx).2,.inr (.inl ⟨ω,.inl Z3⟩)⟩;refine zH ?_;refine dr_I (ik:=.i64) (a:=0) R5<|zJ ?_;exact zA (0) (by(repeat (first|exact trivial|refine⟨ω,?_⟩))) ⟨ω,(show Tx G H F C from zx).1,(show Tx G H F C from zx).2,.inr (.inl ⟨ω,.inl Z3⟩)⟩;refine zH ?_;refine dr_I (ik:=.i64) (a:=0) R5<|zJ ?_;exact zA (0) (by(repeat (first|exact trivial|refine⟨ω,?_⟩))) ⟨ω,(show Tx G H F C from zx).1,(show Tx G H F C from zx).2,.inr (.inl ⟨ω,.inl Z3⟩)⟩;obtain⟨rfl,K⟩|⟨rfl,K⟩|⟨rfl,K⟩:=K;refine zH ?_;refine dr_I (ik:=.i64) (a:= -1) R5<|zJ ?_;exact zA (-1) (by(repeat (first|exact trivial|refine⟨ω,?_⟩))) ⟨ω,(show Tx G H F C from zx).1,(show Tx G H F C from zx).2,.inr (.inr ⟨ω,Z,(by rw[CN (show 0<u.T r j from Z3)];show(1:Int)*Z0.num<0;omega)⟩)⟩;refine zH ?_;refine dr_I (ik:=.i64) (a:=0) R5<|zJ ?_;exact zA (0) (by(repeat (first|exact trivial|refine⟨ω,?_⟩))) ⟨ω,(show Tx G H F C from zx).1,(show Tx G H F C from zx).2,.inr (.inl ⟨ω,.inr K⟩)⟩;refine zH ?_;refine dr_I (ik:=.i64) (a:=1) R5<|zJ ?_;exact zA (1) (by(repeat (first|exact trivial|refine⟨ω,?_⟩))) ⟨ω,(show Tx G H F C from zx).1,(show Tx G H F C from zx).2,.inl ⟨ω,Z,(by rw[CN (show 0<u.T r j from Z3)];show 0<(1:Int)*Z0.num;omega)⟩⟩;rintro z t ak b1 _⟨rfl,ai,bh,hz⟩;have ai:G<=b1:=ai;have bh:Ko G H ak:=bh;have aq:=y.iv.nv j aa;have gx:=y.sp.va _ aq;obtain⟨pl,gl⟩:∃x,I.lo[u.nb j]?=ξ x:=⟨_,CW (by have:=y.sp.ll;omega)⟩;obtain⟨ph,gh⟩:∃x,I.hi[u.nb j]?=ξ x:=⟨_,CW (by have:=y.sp.lh;omega)⟩;have cg:=TT (x:=u.x (u.nb j)) gh;have cs:=TU (x:=u.x (u.nb j)) gl;rw[eh]at cg;rw[el]at cs;have a1:=zg7 (m:=m) (c:=j) (e:=0) a3;have cd:=x.l.l1;have dh:=x.l.l3;obtain⟨rfl,hz,au⟩|⟨rfl,hz⟩|⟨rfl,hz,au⟩:=hz;refine zG ?_;refine sC (aG _ (R.sm.x zx) gx gh (J.va _ aq) (J.hi _ (C0 gh)) Z) ?_;rintro _ a6 ab⟨c7,rfl,ad⟩ cq co;obtain⟨rfl,a5⟩|⟨rfl,a5⟩:=Ky ad;refine zG ?_;exact sK (j+1,f) ⟨ω,Z,k5.go.trans (show Tx G H ab a6 from zx).2 y5,hu.no (λq=>by obtain⟨_,_,q⟩|⟨q,_⟩:=a1.1 q;exact a5 (cg.1 q);omega),rp⟩;refine zG ?_;exact sK (j+1,(j:Int)) ⟨ω,Z,k5.go.trans (show Tx G H ab a6 from zx).2 y5,hu.take (a1.2 (.inl ⟨au,hz,cg.2 a5⟩)) bb,rp⟩;refine zG ?_;exact sK (j+1,f) ⟨ω,Z,k5.go.trans (show Tx G H b1 ak from zx).2 y5,hu.no (λq=>by obtain hz|hz:=hz;obtain⟨_,q,_⟩|⟨_,q,_⟩:=a1.1 q<;>exact q hz;obtain⟨q,_⟩|⟨q,_⟩:=a1.1 q<;>(rw[hz,G8]at q;omega)),rp⟩;refine zG ?_;refine sC (lg _ (R.sm.x zx) gx gl (J.va _ aq) (J.lo _ (C0 gl)) Z) ?_;rintro _ a6 ab⟨c7,rfl,ad⟩ cq co;obtain⟨rfl,a5⟩|⟨rfl,a5⟩:=Ky ad;refine zG ?_;exact sK (j+1,f) ⟨ω,Z,k5.go.trans (show Tx G H ab a6 from zx).2 y5,hu.no (λq=>by obtain⟨q,_⟩|⟨_,_,q⟩:=a1.1 q;omega;exact a5 (cs.1 q)),rp⟩;refine zG ?_;exact sK (j+1,(j:Int)) ⟨ω,Z,k5.go.trans (show Tx G H ab a6 from zx).2 y5,hu.take (a1.2 (.inr ⟨au,hz,cs.2 a5⟩)) bb,rp⟩;have aa:j=n:=Z;have be:Z0.num≠0/\(low=φ↔0<Z0.num):=zgx a3;obtain⟨rfl,af⟩|⟨c,rfl,hc,a1,bl⟩:=hu;refine zG ?_;refine sC (fD _ i5 j5) ?_;rintro _ aj ay⟨ag,rfl,Z3⟩ ah ac;have c3:Ste l n m bs a L A B d aj ay I u:=⟨R.sm.ext ac ah,y.sp,y.iv,y.ap,y.eq⟩;have bj:ag=KO low:=by
  cases low;have:¬0<Z0.num:=λq=>by cases be.2.2 q
  show ag= -1;omega;have:=be.2.1 rfl;show ag=1;omega
 subst bj;have hV:Vio m (Kr d.lo) (Kr d.hi) u r low Z0:=⟨Z4,a3,bf⟩;have af:∀c,c<n->¬suit (Kr d.lo) (Kr d.hi) (rdOf m u r 0 low) c:=λc hc=>af c Z;refine zG ?_;refine⟨ω,[_,_,_],ω,⟨I,u,Z,c3,T5.trans ⟨ah,λc hc=>.inl (ac c hc)⟩,λb hb=>(ac b Z).trans ((k5.go b Z).trans (K4 b hb)),ar,.inr ⟨r,low,Z0,ω,hV,af⟩⟩,λhw=>?_⟩;have hw:w1=[]:=hw;obtain e|a8:=an;cases e;exact⟨_,_,CS,S,Er _ _,AY,λc hc=>CO hc C6,.inr ⟨r,low,Z0,ω,hV,af⟩⟩;rw[hw]at a8;cases a8;have a4:c<n:=Z;have hR:RepS n m (Kr d.lo) (Kr d.hi) u r c low Z0:=⟨⟨Z4,a3,bf⟩,a4,a1,λc' df=>bl c' Z⟩;have al:=hR.ne;obtain⟨bq,bd,rfl⟩:∃q,(Kr d.lo (u.bs r)=ξ q\/Kr d.hi (u.bs r)=ξ q)/\Z0=q-u.x (u.bs r):=(by unfold Viol at a3;split at a3;have⟨l,h1,_,h2⟩:=a3;exact⟨l,.inl h1,h2⟩;have⟨l,h1,_,h2⟩:=a3;exact⟨l,.inr h1,h2⟩);have b5:=x.stp y.iv a4 Z4 al bd;have cd:=x.l.l1;have dg:=x.l.l2;have cf:Sz BB bq:=(by obtain h|h:=bd;exact TV x.lo h;exact TV x.hi h);have cc:Sz D (bq-u.x (u.bs r)):=(Sz.subT cf (J.va _ (y.iv.bv r Z4))).mono Z;have cb:=y.iv.toPB.tab.dp;have am:=y.sp.de;refine zG ?_;refine zl [0,0,0,0,0,0,56,124,255] rfl<|zH ?_;refine dC (Nk _ (g.t T5) R.sm (y.ap.at y.sp (EB Z4)) (vu a4) (yU (J.tT r Z4 c a4) Z) (by rw[am];exact yU J.dd Z) (by rw[am];omega)) ?_;rintro _ aj ay⟨cw,ct,l11,cz,d3,d5,d7,d9,rfl,av,aw⟩ ah ac;have sc:Sz T (DT (u.T r c) u.d):=xz cb (J.tT r Z4 c a4) J.dd;rw[am]at av aw;rw[ES]at av aw sc;refine dC (divQ _ ((g.t T5).x zx) (i5.x zx) (j5.x zx) av aw cc sc Z) ?_;rintro _ C F⟨cx,cu,di,d0,d4,d6,d8,da,rfl,ci,cj⟩ cp cn;have ax:Exo G H C:=⟨(show Tx G H F C from zx).2⟩;have az:G<=F:=(show Tx G H F C from zx).1;have b6:Ste l n m bs a L A B d C F I u:=⟨R.sm.ext ax.go az,y.sp,y.iv,y.ap,y.eq⟩;have b7:Tr n0 h F C:=T5.trans ⟨az,λc hc=>.inl (ax.go c hc)⟩;refine wa _ R7 (TK _ (g.t b7) b6.sm y.sp y.iv.toPB J x.l a4 ci cj b5) ?_;rintro _ ak b1 dq⟨ai,va,bx,bt,ae,c5,bz,bn,_⟩;refine⟨rF ω ω,ai,?_⟩;have IN:=hR.inv (by rw[<-el,<-eh];exact x1.le) y.iv;have bu:∀v,v<n+m->va[v]?=ξ (KB u c ((bq-u.x (u.bs r))/((u.T r c:Rat)/u.d)) (m+1) v):=λv hv=>(bt v hv).trans (congrArg ξ (vi (by rw[y.iv.bm];omega)).symm);have b3:=y.sp.mv bx bu;have cl:=x.szp (s:=repN m u r c (bq-u.x (u.bs r))) IN;have br:SzP n m V T Z1 BB {I with va:=va} ⟨u.toPT,KB u c ((bq-u.x (u.bs r))/((u.T r c:Rat)/u.d)) (m+1)⟩:=⟨cl.va,J.lo,J.hi,J.tT,J.tO,J.dd⟩;refine zJ ?_;refine zF _ R5 (TS _ ae b3 y.iv.toPB br x.l y.ap.mv Z4 a4 al) ?_;rintro _ bc ck dr⟨ds,bp,c6,c1,bo,b4⟩;have c4:Ste l n m bs a L A B d bc ck ({I with va:=va}.piv m n B u.toPT r c) (repN m u r c (bq-u.x (u.bs r))):=⟨bp,b3.piv,IN,y.ap.mv.piv,⟨y.eq.n,y.eq.sc,y.eq.lo,y.eq.hi⟩⟩;have ca:=b8.next (λp τ hp hs hk=>zmx p τ hp hs x.le hk) ⟨y.iv,r,c,low,_,hR,ω⟩;have hT:=(b7.trans c5).trans c6;have ao:∀{v:ψ},(∀b,BkOf v b->3*l<=b)->∀b,b<3*l->¬BkOf v b:=λhv b hb c8=>by have:=hv b c8;omega
 have KF:∀b,b<3*l->bc b=h b:=λb hb=>(c1 b Z (λe=>by have:=y.ap.bs;omega) (λa ha e=>by have:=y.ap.lo a ha;omega) (ao (λb hb=>(ae.ba.bk b hb).1) b hb) (ao (λb hb=>(ae.nb.bk b hb).1) b hb)).trans ((bz b Z (ao (λb hb=>(b6.sm.va.bk b hb).1) b hb)).trans ((ax.go b Z).trans ((k5.go b Z).trans (K4 b hb))));refine zG ?_;exact sK (q+1,_,_) ⟨Z,c4,hT,KF,yL bo (yL bn ar),.inr (wQ ow.1 (b4 bw ⟨0,O I.nb,O I.nb,by rw[ew]⟩)),ca⟩;have hF:Feas m (Kr d.lo) (Kr d.hi) u:=(by obtain⟨_,h⟩|⟨i,low,h,_⟩:=hv;exact h;omega);refine zG ?_;refine⟨ω,[_,_,_],ω,⟨I,u,Z,S4,T4,K4,ar,.inl ⟨ω,hF⟩⟩,λhw=>?_⟩;have hw:w1=[]:=hw;obtain e|a8:=an;cases e;exact⟨_,_,CS,S,Er _ _,AY,λc hc=>CO hc C6,.inl ⟨ω,hF⟩⟩;rw[hw]at a8;cases a8
end
section
variable {a:Nat}
def ko(V:Nat):V<10^O (decT V):=by
 have h:∀V,V<10^O (decD V):=by
  intro V;induction V using Nat.strongRecOn with
  |_ V ih=>
   by_cases h0:V=0;subst h0;rw[xo];exact JU;rw[wy h0,C1];have:=ih (V/10) Z;rw[show(decD (V/10)).length+[V%10].length=O (decD (V/10))+1 from ω,Dj];omega
 unfold decT;split;rename_i h0;rw[h0];decide;rw[Da,kY];exact h V
def Lo.of{m:Nat}(h:O s<=m)(hm:m<500)(j:10^m<=2^a)(g:1<=a):Lo a s:=by refine⟨Z,?_⟩;by_cases hn:vF s;have u:=qr hn;generalize zj s=q at u;have f:=congrArg O u;unfold ratT at f;simp only[C1]at f;constructor;exact Ca;by_cases h2:q.den=1;rw[h2];exact Dm (by decide:(1:Nat)<2^1) (Dd zd g);rw[CP h2,DM]at f;exact Ca;rw[xX hn];exact Sz.zero a g
def txt8(h:(O s:Int)<=8):Lo 27 s:=.of (m:=8) Z zd zd zd
def zo8{h:HF}{n:Nat}{t:List UInt8}(f:h b=ξ (.row [CY ⟨⟨s⟩⟩,CY ⟨⟨t⟩⟩] e))(hb:b<3*n):Sl h n 1 (Y (ξ ⟨b,0,θ⟩) 2 2) (strs [s,t]):=.at_ hb f ω CS CS rfl
def wz(k:Nat){h:HF}{n:Nat}(g:GG h n):VF (Kp (k+1)) 6 [] h n λv=>v=CV φ:=⟨_,_,_,_,WE k g.1 n,ω,ω,ω,ω⟩
section
variable {r:List Oper}{i n:Nat}
def TW(cs:List ψ)(f:qu X ops t o d (Ku o.op=2/\KD X.E o.op (Kn t)=ξ ⟨cs,e,χ,ξ (l,c)⟩))
  (k:∀h',h' (3*n+2)=ξ (.row cs e)->Ko n h h'->ED X ops r ms (i+1) ⟨⟨upd t d (Y (ξ ⟨3*n+2,0,θ⟩) l c),h',n+1,w⟩,(i,3*n+2)::al,ld,ef⟩ Q):ED X ops (o::r) (m::ms) i ⟨⟨t,h,n,w⟩,al,ld,ef⟩ Q:=by have⟨f,j,v,g,u⟩:=f;exact QM f j v g u (k _ (zg _ _ _) (Ko.upd Z))
end
def mI(k:Nat){h:HF}{n:Nat}(m:Int){S:List (List UInt8)}(D:Sl h n 1 (Y ax lx cx) (strs S))(hb:O S<100000000):VF (Kp (k+1)) 16 [U .i64 m,Y ax lx cx] h n λv=>∃b:Bool,v=CV b/\(b=φ↔∀s∈S,(O s:Int)<=m):=by
 have Z1:=z8 D;refine zO (fn:=Tryz.f16) R4<|zG ?_;refine sF (α:=Nat) (λz=>[(0,U .i64 m),(1,Y ax lx cx),(5,U .i64 (z:Int))]) (λz I K L=>L=[]/\n<=K/\ExtB n [] h I/\z<=O S/\∀s∈S.take z,(O s:Int)<=m) (λz=>O S-z) 0 ⟨ω,CS,F7 _ _ _,CT,(λs J=>CO J cA)⟩ ?_;rintro j t M P _⟨rfl,T,B,hj,f⟩;have hj:j<=O S:=hj;have f:∀s∈S.take j,(O s:Int)<=m:=f;refine zG ?_;by_cases q12:(j:Int)<(lx:Int);refine zG ?_;obtain⟨A,g⟩:∃d,(S)[j]?=ξ d:=⟨_,CW Z⟩;have⟨N,R,C,F,G,H⟩:=vM D g;refine sI C G ?_;refine sL H F 0 ?_;refine st_I (ik:=.i64) (a:=(O A:Int)) R5<|zG ?_;by_cases q14:(O A:Int)>m;refine zf ?_;exact Lm λu=>by have:=u _ (C0 g);omega
 refine zG ?_;exact sK (j+1) ⟨ω,Z,B,(by show j+1<=O S;omega),(ot f g Z)⟩;refine zf ?_;exact LK (by have u:=f;rw[List.take_of_length_le Z]at u;exact u)
section
variable {x:Rat}{q:Nat}
def yb(x:Rat):zj (ratT x)=x:=pA rfl
def mulR(k:Nat){h:HF}{n:Nat}(g:GG h n)(f:Sz p x)(j:Sz q y)(u:p<=1890)(A:q<=1890)(B:p+q<=1900):VF (Kp (k+11)) 11 [CY ⟨⟨ratT x⟩⟩,CY ⟨⟨ratT y⟩⟩] h n λv=>v=CY ⟨⟨ratT (x*y)⟩⟩:=by have:=mulS k g (a:=ratT x) (b:=ratT y) (TL.ratT (f.mono u)) (TL.ratT (j.mono A)) (p:=p) (q:=q) (r:=p+q) (by rw[yb];exact f) (by rw[yb];exact j) Z (by rw[yb,yb];exact f.mul j) Z;rw[yb,yb]at this;exact this
end
def zw9:ratT 0=[48]:=rfl
end
section
variable {j:Nat}
def Mi:List Rat->Nat
 |[]=>1
 |q::l=>q.den*Mi l
section
variable {n:Nat}
def iX:∀{l:List Rat},(∀q∈l,NE E P q)->1<=Mi l/\Mi l<=E^O l
 |[],_=>⟨CS,CS⟩
 |q::l,h=>by
  have⟨h1,h2⟩:=iX (l:=l) λx c=>h x (E3 _ c);have a:=(h q EM).den;have b:=q.den_pos;refine⟨Fv b h1,?_⟩;show q.den*Mi l<=E^(O l+1);rw[Dj,C5];exact DG h2 a
def iW:∀{l:List Rat} {q:Rat},(∀q∈l,NE E P q)->q∈l->∃r,Mi l=q.den*r/\r<=E^(O l-1)
 |[],q,_,h=>CO h C6
 |p::l,q,h,hq=>by
  have hl:∀q∈l,NE E P q:=λx e=>h x (E3 _ e);obtain rfl|a:=DA.1 hq
  .exact⟨Mi l,ω,(iX hl).2⟩
  have⟨r,b,c⟩:=iW hl a;have f:=List.length_pos_of_mem a;have d:=(h p EM).den;refine⟨p.den*r,?_,?_⟩
  .show p.den*Mi l=_;rw[b,<-Dp,<-Dp,C5 p.den]
  refine Dy (DG d c) ?_;show E*E^(O l-1)<=E^O l;rw[C5,<-Dj,show(O l-1).succ=O l by omega];exact Ez _
def ed:∀{l:List Rat} {q:Rat},q∈l->q.den∣Mi l
 |[],_,h=>CO h C6
 |p::l,q,h=>by
  obtain rfl|hm:=DA.1 h
  .exact ac0 _ _
  exact Ji (ed hm) (ad5 _ _)
def P0{l:List Rat}(h:∀q∈l,NE E P q):0<lcmD l 1/\lcmD l 1<=E^O l:=
 ⟨kt zd,Dy (Is (iX h).1 (kv (λq a=>ed a) (af4 _))) (iX h).2⟩
theorem TX{l:List Rat}(h:∀q∈l,NE E P q)(a:q∈l):∃w:Int,((lcmD l 1:Nat):Rat)*q=w/\w.natAbs<=P*E^(O l-1):=by
 have⟨k,c⟩:=ku (m:=1) a;have⟨t,f⟩:=kv (D:=Mi l) (m:=1) (λq a=>ed a) (af4 _);have⟨r,i,o⟩:=iW h a;have d:k<=r:=by
  have e:q.den*(k*t)=q.den*r:=by rw[<-Dp,<-c,<-f,i]
  have e:=Nat.eq_of_mul_eq_mul_left q.den_pos e;have g:0<t:=(by obtain b|b:=Nat.eq_zero_or_pos t;rw[b,EJ]at f;have:=(iX h).1;omega;exact b);rw[<-e];exact FR _ g
 refine⟨q.num*k,?_,?_⟩;rw[c,ag8,D4,EG,<-NM q];grind;rw[D6,Dk];exact DG (h q a).num (Dy d o)
def Mj(zs:List Int)(j:Nat):Int:=(zs[j]?).getD 0
def atR(qs:List Rat)(j:Nat):Rat:=(qs[j]?).getD 0
def aW{zs:List Int}{z:Int}(h:zs[j]?=ξ z):Mj zs j=z:=by unfold Mj;rw[h];rfl
theorem wg(h:qs[j]?=ξ q):atR qs j=q:=by unfold atR;rw[h];rfl
theorem ScR.scF{B:Nat}{zs:List Int}{s:Rat}(h:ScR qs B zs s)(p:∀q∈qs,NE E P q)(F:1<=E)(H:1<=P)(hl:O qs=n):ScF n (E^n) (P*E^(n-1)) (atR qs) (Mj zs) s:=by
 subst hl;have d:∀k,1<=E^k:=λk=>DQ F;have G:1<=P*E^(O qs-1):=Fv H (d _);have e:∀j,j<O qs->(Mj zs j:Rat)=s*atR qs j:=λj a=>(by have b:=CW a;have c:=CW (l:=zs) (i:=j) (by rw[h.len];exact a);rw[aW c,wg b];exact h.eq j _ _ b c);refine⟨h.pos,e,?_⟩;obtain⟨rfl,b⟩|⟨g,I,b,z,K,A⟩:=h.fr;refine⟨1,1,JU,JU,HA _,d _,G,λj a=>?_⟩;have c:=CW (l:=zs) (i:=j) (by rw[h.len];exact a);rw[aW c,b _ (C0 c)];exact GA _;have o:∀j,j<O qs->g*(Mj zs j).natAbs<=P*E^(O qs-1):=λj a=>(by have u:=CW a;have⟨w,J,f⟩:=TX p (C0 u);have C:((g*Mj zs j:Int):Rat)=(w:Rat):=(by rw[<-J,<-b,D4,e j a,wg u,EG];grind);have D:=Rat.intCast_inj.1 C;rw[<-D,D6,Dk]at f;exact f);have⟨j,a⟩:=List.mem_iff_getElem?.1 K;have y:j<O qs:=by have:=(C4.1 a).1;rw[h.len]at this;exact this
 have v:=o j y;rw[aW a]at v;exact⟨lcmD qs 1,g,(P0 p).1,I,b,(P0 p).2,Dy (FR _ (Int.natAbs_pos.2 A)) v,o⟩
end
def P1(hm:2<=m)(h:O s<=m):NE (10^(m-2)) (10^m) (zj s):=by by_cases hn:vF s;have b:=qr hn;generalize zj s=q at b;have a:=congrArg O b;unfold ratT at a;simp only[C1]at a;have c:∀V,1<=O (decT V):=λV=>List.length_pos_iff.2 (wx V).2.2;have d:=c q.num.natAbs;constructor;by_cases h2:q.den=1;rw[h2];exact DQ zd;rw[CP h2,DM]at a;exact EB (Dm (ko _) (Dd zd (show _<=m-2 from Z)));exact EB (Dm (ko _) (Dd zd (show _<=m from Z)));rw[xX hn];exact⟨DQ zd,CT⟩
def MD(h:(O s:Int)<=8):NE (10^6) (10^8) (zj s):=P1 (m:=8) zd Z
def cap8{n:Nat}(a:1<=n)(b:n<=5):Cap n (10^32) (10^54) (10^38) 750 540 620 880 127:=by have h:n=1\/n=2\/n=3\/n=4\/n=5:=Z;obtain rfl|rfl|rfl|rfl|rfl:=h<;>exact⟨eN,eN,eN,eN,eN,eN,eN,eN⟩
def lim8:Lim 750 540 620 880 127:=⟨by decide,by decide,by decide,by decide,by decide⟩
def jW{n:Nat}(a:1<=n)(b:n<=5):10^8*(10^6)^(n-1)<=10^32/\(10^6)^n<=10^30:=by have h:n=1\/n=2\/n=3\/n=4\/n=5:=Z;obtain rfl|rfl|rfl|rfl|rfl:=h<;>exact⟨eN,eN⟩
def zvd{n:Nat}(a:1<=n)(b:n<=5):10^14*(10^10)^(n-1)<=10^54/\(10^10)^n<=10^50:=by have h:n=1\/n=2\/n=3\/n=4\/n=5:=Z;obtain rfl|rfl|rfl|rfl|rfl:=h<;>exact⟨eN,eN⟩
def NE.up(h:NE (10^6) (10^8) q):NE (10^10) (10^14) q:=
 ⟨Dy h.den zd,Dy h.num zd⟩
def ScF.mono{n DB M a b:Nat}{f:Nat->Rat}{z:Nat->Int}{σ:Rat}(h:ScF n DB M f z σ)(v:DB<=a)(l:M<=b):ScF n a b f z σ:=by have⟨D,g,c,d,e,p,u,i⟩:=h.ex;exact⟨h.pos,h.eq,D,g,c,d,e,Z,Z,λj o=>Dy (i j o) l⟩
end
section
variable {n:Nat}{lo hi:List (Bool×Rat)}
def zof(k:Nat)(g:GG h n)(st:h bs=ξ (.row [U .i64 (N:Int),Y asc m m,Y alo m m,Y ahi m m,Y a4 l4 c4,Y a5 l5 c5,Y a6 l6 c6,Y a7 l7 c7,CV b8,Y a9 l9 c9] ty))(aq:bs<3*n)(f:gro bs=χ)(hl:l<=n)(Z4:GR 4 ratP l h n 81 (Y asc m m) sc)(gl:GR 5 bndZ l h n 113 (Y alo m m) lo)(gh:GR 5 bndZ l h n 113 (Y ahi m m) hi)(dj:∀b,BkOf (Y ahi m m) b->¬BkOf (Y alo m m) b)
  (ms:O sc=m)(ml:O lo=m)(mh:O hi=m)(hm:m<999999){aA:Option Addr}{lA kA:Nat}{x1 b1 d1 x2 b2 d2 H Z1:Bool}{a1 e1 a2 e2 F R:Option Addr}{l1 c1 f1 u1 l2 c2 f2 u2 l3 J T u3:Nat}{q1 q2 r:Rat}(i1:IW h n b1 a1 l1 c1 q1.num)(j1:IW h n d1 e1 f1 u1 (denZ q1))(i2:IW h n b2 a2 l2 c2 q2.num)(j2:IW h n d2 e2 f2 u2 (denZ q2))(i3:IW h n H F l3 J r.num)(j3:IW h n Z1 R T u3 (denZ r)){a b:Nat}(z1:Sz a q1)(z2:Sz a q2)(z3:Sz b r)(ap:a+b<=2496):
  CF (Kp (k+11)) 54 [ι bs,.agg #[Y aA lA kA,CV x1,CV b1,Y a1 l1 c1,CV d1,Y e1 f1 u1,CV x2,CV b2,Y a2 l2 c2,CV d2,Y e2 f2 u2],.agg #[CV H,Y F l3 J,CV Z1,Y R T u3]] h n λ_ y n' w=>n<=n'/\∃o al v,y bs=ξ (.row [U .i64 (N:Int),Y o (m+1) (m+1),Y al (m+1) (m+1),Y v (m+1) (m+1),Y a4 l4 c4,Y a5 l5 c5,Y a6 l6 c6,Y a7 l7 c7,CV b8,Y a9 l9 c9] ty)/\GR 4 ratP l y n' 81 (Y o (m+1) (m+1)) (sc++[r])/\GR 5 bndZ l y n' 113 (Y al (m+1) (m+1)) (lo++[(x1,q1*r)])/\GR 5 bndZ l y n' 113 (Y v (m+1) (m+1)) (hi++[(x2,q2*r)])/\(∀b,BkOf (Y v (m+1) (m+1)) b->¬BkOf (Y al (m+1) (m+1)) b)/\(∀b,BkOf (Y o (m+1) (m+1)) b->3*n<=b)/\Tr n h n' y/\(∀b,b<3*n->b≠bs->¬BkOf (Y asc m m) b->¬BkOf (Y alo m m) b->¬BkOf (Y ahi m m) b->y b=h b)/\(∀c∈w,c=bs\/3*l<=c):=by refine rT (fn:=Tryz.f54) R4<|zG ?_;refine sB [Y aA lA kA,CV x1,CV b1,Y a1 l1 c1,CV d1,Y e1 f1 u1,CV x2,CV b2,Y a2 l2 c2,CV d2,Y e2 f2 u2] λh1 p1 y1=>?_;refine sB [CV H,Y F l3 J,CV Z1,Y R T u3] λh2 p2 y2=>?_;refine zG ?_;refine zl [0,0,2,6,14,0,32,126,255,511,1023] rfl<|zH ?_;refine MO [CV H,Y F l3 J,CV Z1,Y R T u3] λA p3 y3=>?_;have D:Exo n h A:=⟨(show Tx n h (n+1+1+1) A from zx).2⟩;refine MN (n0:=n) (q:=r) [CV H,Y F l3 J,CV Z1,Y R T u3] (Z4.ext Es D.go Z) Es ⟨_,_,_,_,_,_,_,_,ω,i3.ext D.go Z,j3.ext D.go Z⟩ (yp p3 R2) Z Z (λW hW=>by(repeat (first|rfl|(refine rF ω ?_)))) ?_;intro v4 h4 W4 b0 g4 T4 E4 K4 F4;obtain⟨o,rfl⟩:=g4.shape (L:=m+1) (by rw[C1,ms];rfl);have nS:∀k,¬BkOf (Y asc m m) (3*k+2):=λk=>Z4.nbk (zB _);have s4:=(K4 bs Z (Z4.nbk f)).trans ((D.go bs aq).trans st);refine zH ?_;refine ML (n0:=n) [U .i64 (N:Int),Y o (m+1) (m+1),Y alo m m,Y ahi m m,Y a4 l4 c4,Y a5 l5 c5,Y a6 l6 c6,Y a7 l7 c7,CV b8,Y a9 l9 c9] s4 λd p5 o5=>?_;have j:Tr n h (n+1+1+1+1) d:=FN o5 ((show Tr n h (n+1+1+1) A from zt).trans T4);have k5:∀c,c<3*(n+1+1+1)->c≠bs->¬BkOf (Y asc m m) c->d c=A c:=λc hc h1 h2=>(o5.1 c h1).trans (K4 c hc h2);have au:d (3*n+2)=_:=(k5 (3*n+2) Z Z (nS _)).trans zp;have av:d (3*(n+1)+2)=_:=(k5 (3*(n+1)+2) Z Z (nS _)).trans zp;have am:=g4.go Es (FN o5 (Er _ _)) λb hb=>o5.1 b (by have:=F4 b hb;omega);have K5:∀b,b<3*n->b≠bs->¬BkOf (Y asc m m) b->d b=h b:=λb hb h1 h2=>(k5 b Z h1 h2).trans (D.go b hb);have aj:=gl.kb bndZ.kp j f K5 (gl.ne Z4 zd);have az:=gh.kb bndZ.kp j f K5 (gh.ne Z4 zd);refine zG ?_;refine zl [0,0,2,6,14,0,32,96,0,256,768,0,3840,8160,16352,32766,65535,131071,262143] rfl<|zH ?_;refine dC (mulQ _ (g.t j) (i1.t j) (j1.t j) (i3.t j) (j3.t j) z1 z3 ap) ?_;rintro _ h6 B⟨b6,v6,a8,K,d6,e6,f6,u6,rfl,i6,j6⟩ y6 x6;refine dT #[CV x1,CV b6,Y v6 a8 K,CV d6,Y e6 f6 u6] ?_;refine MO [CV x1,CV b6,Y v6 a8 K,CV d6,Y e6 f6 u6] λh7 p7 x7=>?_;have X7:Exo (n+1+1+1+1) d h7:=⟨(show Tx (n+1+1+1+1) d (B+1) h7 from zx).2⟩;refine MN (n0:=n) (q:=(x1,q1*r)) [CV x1,CV b6,Y v6 a8 K,CV d6,Y e6 f6 u6] (aj.ext bndZ.kp X7.go Z) bndZ.kp ⟨_,_,_,_,_,_,_,_,ω,i6.ext x7 Zq,j6.ext x7 Zq⟩ (yp p7 R2) Z Z (λW hW=>by(repeat (first|rfl|(refine rF ω ?_)))) ?_;intro v8 h8 W8 b4 g8 T8 E8 K8 F8;obtain⟨al,rfl⟩:=g8.shape (L:=m+1) (by rw[C1,ml];rfl);have nL:∀k,¬BkOf (Y alo m m) (3*k+2):=λk=>gl.nbk (zB _);have s8:=(K8 bs Z (gl.nbk f)).trans ((X7.go bs Z).trans p5);refine zH ?_;refine ML (n0:=n) [U .i64 (N:Int),Y o (m+1) (m+1),Y al (m+1) (m+1),Y ahi m m,Y a4 l4 c4,Y a5 l5 c5,Y a6 l6 c6,Y a7 l7 c7,CV b8,Y a9 l9 c9] s8 λi p9 o9=>?_;have T9:Tr (n+1+1+1+1) d (B+1+1) i:=FN o9 ((show Tr (n+1+1+1+1) d (B+1) h7 from⟨Z,λc hc=>.inl (X7.go c hc)⟩).trans T8);have k9:∀c,c<3*(n+1+1+1+1)->c≠bs->¬BkOf (Y alo m m) c->i c=d c:=λc hc h1 h2=>(o9.1 c h1).trans ((K8 c Z h2).trans (X7.go c hc));have bg:i (3*n+2)=_:=(k9 (3*n+2) Z Z (nL _)).trans au;have bh:i (3*(n+1)+2)=_:=(k9 (3*(n+1)+2) Z Z (nL _)).trans av;have an:=am.kb Es T9 f k9 (am.ne aj zd);have ak:=g8.go bndZ.kp (FN o9 (Er _ _)) λb hb=>o9.1 b (by have:=F8 b hb;omega);have ai:=az.kb bndZ.kp T9 f k9 dj;have e:=j.trans T9;have n9:n+1+1+1+1<=B+1+1:=Z;have bf:n+1+1+1+1<=B:=y6;generalize B+1+1=m9 at*;refine zG ?_;refine zl [0,0,2,6,14,0,32,96,0,256,768,0,3840,8160,16352,32766,65535,131071,262143] rfl<|zH ?_;refine dC (mulQ _ (g.t e) (i2.t e) (j2.t e) (i3.t e) (j3.t e) z2 z3 ap) ?_;rintro _ bd aa⟨G,ac,a0,I,M,P,S,ab,rfl,b5,b7⟩ bl bj;refine dT #[CV x2,CV G,Y ac a0 I,CV M,Y P S ab] ?_;refine MO [CV x2,CV G,Y ac a0 I,CV M,Y P S ab] λV b9 aw=>?_;have p:Exo m9 i V:=⟨(show Tx m9 i (aa+1) V from zx).2⟩;refine MN (n0:=n) (q:=(x2,q2*r)) [CV x2,CV G,Y ac a0 I,CV M,Y P S ab] (ai.ext bndZ.kp p.go Z) bndZ.kp ⟨_,_,_,_,_,_,_,_,ω,b5.ext aw Zq,b7.ext aw Zq⟩ (yp b9 R2) Z Z (λW hW=>by(repeat (first|rfl|(refine rF ω ?_)))) ?_;intro bi be af ax ag ay bc ae ad;obtain⟨v,rfl⟩:=ag.shape (L:=m+1) (by rw[C1,mh];rfl);have bb:=(ae bs Z (gh.nbk f)).trans ((p.go bs Z).trans p9);refine zH ?_;refine ML (n0:=n) [U .i64 (N:Int),Y o (m+1) (m+1),Y al (m+1) (m+1),Y v (m+1) (m+1),Y a4 l4 c4,Y a5 l5 c5,Y a6 l6 c6,Y a7 l7 c7,CV b8,Y a9 l9 c9] bb λao ba u=>?_;have C:Tr m9 i (aa+1+1) ao:=FN u ((show Tr m9 i (aa+1) V from⟨Z,λc hc=>.inl (p.go c hc)⟩).trans ay);have Z0:∀c,c<3*m9->c≠bs->¬BkOf (Y ahi m m) c->ao c=i c:=λc hc h1 h2=>(u.1 c h1).trans ((ae c Z h2).trans (p.go c hc));refine zG ?_;have ar:bs∈addW n [bs] (addW n af (addW n [bs] (addW n W8 (addW n [bs] (addW n W4 []))))):=wQ aq cA;refine⟨ω,[],ω,⟨Z,o,al,v,ba,an.kb Es C f Z0 (an.ne ai zd),ak.kb bndZ.kp C f Z0 (λb hb Z3=>?_),ag.go bndZ.kp (FN u (Er _ _)) (λb hb=>u.1 b (by have:=ad b hb;omega)),λb hb Z3=>?_,λb hb=>by have:=F4 b hb;omega,e.trans C,λb hb h1 h2 A h4=>(Z0 b Z h1 h4).trans ((k9 b Z h1 A).trans (K5 b hb h1 h2)),yL (λc hc=>.inl (Dc.1 hc)) (yL (λc hc=>.inr (ax c hc)) (yL (λc hc=>.inl (Dc.1 hc)) (yL (λc hc=>.inr (b4 c hc)) (yL (λc hc=>.inl (Dc.1 hc)) (yL (λc hc=>.inr (b0 c hc)) (λc hc=>CO hc C6))))))⟩,λhw=>?_⟩;have h1:=F8 b hb;have h2:=(gh.bk b Z3).2.1;omega;have h1:=ad b hb;have h2:=(ak.bk b Z3).2.1;omega;have hw:addW n [bs] (addW n af (addW n [bs] (addW n W8 (addW n [bs] (addW n W4 [])))))=[]:=hw;rw[hw]at ar;cases ar
end
end Go.Proofs.YteoagenjaemllaaGreatDoor
