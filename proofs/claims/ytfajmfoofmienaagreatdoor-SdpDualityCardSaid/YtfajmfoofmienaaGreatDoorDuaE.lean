import Derived.Test.YtfajmfoofmienaaGreatDoorDuaD
open Array renaming map→EF
open Bool renaming and_self→A4,and_true→FS,not_false→BJ,true_eq_false→Bg
open Classical renaming not_not→G6
open Go.Value renaming bool→kz,func→DQ,int→jy,pointer→kS,slice→jx,string→kF
open Int renaming mul_pos→Gu,natAbs_mul→AX,natAbs_natCast→sa,natCast_mul→A6,toNat_natCast→AP,toNat_of_nonneg→Fm,zero_mul→Hi
open List renaming all_cons→EP,append_assoc→Aq,append_nil→A3,drop_drop→Cz,drop_left'→CY,drop_replicate→Fj,eq_of_mem_replicate→De,ext_getElem?→Bn,getElem?_append_right→AE,getElem?_drop→B3,getElem?_eq_getElem→k4,getElem?_eq_none→Ad,getElem?_eq_some_iff→oc,getElem?_inj→GZ,getElem?_map→sr,getElem?_range→AL,getElem?_replicate→Dn,getElem?_set→Cc,getElem?_zipWith→Ez,getElem_of_mem→Fo,length→gP,length_append→nn,length_cons→Au,length_drop→Ak,length_map→oo,length_range→Aj,length_replicate→Ah,length_set→AY,length_take→Af,map_append→Bl,map_cons→Cy,map_map→DA,map_nil→DY,map_set→FZ,map_toArray→DX,mem_append→Al,mem_cons→sP,mem_cons_of_mem→AV,mem_cons_self→As,mem_iff_getElem→DO,mem_map→Ay,mem_of_getElem?→ns,mem_or_eq_of_mem_set→Bd,mem_range→Cf,mem_singleton→nP,not_mem_nil→nN,range→AC,range'→EV,range_succ→Gf,replicate→pl,replicate_succ→Cr,replicate_zero→CI,set_append_right→Cd,set_cons_zero→Eh,take_append_drop→Bf,take_left'→DH,take_length→Ax,take_of_length_le→Aa,take_succ_cons→Fl,take_zero→Bj,zipWith→C4
open Nat renaming add_comm→BT,add_mul→AH,add_sub_cancel_left→Bi,beq→AG,ble→Ai,ble_eq_true_of_le→sn,eq_of_beq_eq_true→Aw,gcd→sN,le_mul_of_pos_right→Dq,le_of_lt→CK,le_refl→AK,le_succ→ux,lt_irrefl→BK,lt_of_le_of_lt→Ae,lt_of_lt_of_le→tv,lt_or_ge→Ci,lt_succ_self→Dt,min→Fs,min_eq_left→Be,mul_le_mul→AD,mul_le_mul_right→Ab,mul_one→AO,mul_pos→CQ,mul_succ→Ch,not_lt_zero→Bp,one_mul→Bs,pow_le_pow_right→Ac,pow_succ→Ar,sub_self→A7,sub_zero→C8,succ_mul→BN,succ_pos→F6,zero_add→AA,zero_le→Du,zero_mul→BE
open Nat.Coprime renaming symm→FV
open Ne renaming symm→DN
open Option renaming isNone_none→B4
open Option.some renaming inj→A0
open Rat renaming add_assoc→Cx,add_comm→Hh,add_zero→A2,divInt→Av,divInt_eq_div→Bm,divInt_ofNat→EM,div_def→Bv,intCast_inj→DD,intCast_mul→A8,intCast_natCast→Bc,intCast_pos→C2,inv_mul_cancel→FD,lt_iff→FE,mul_assoc→AM,mul_comm→BO,mul_inv_cancel→CT,mul_one→DW,mul_zero→Br,natCast_mul→Cs,num_eq_zero→B7,one_mul→Dv,sub_eq_add_neg→B5,zero_add→C3,zero_mul→Cg
set_option maxHeartbeats 8000000
set_option linter.unusedVariables false
set_option linter.unusedSimpArgs false
namespace Go.Proofs.YtfajmfoofmienaaGreatDoor
open Go Go.GL
variable {h h':HF}{ops r:List Oper}{cap m n' off bt D bytes cE b0 L n0 l lo be P nt tb least size F st bm D1 D2 B1 B2 bS BR lB cB lO cO lF cF lE lX cX lU cU:Nat}{X:CtxF}{t:TF}{Q:SV→Prop}{o:Oper}{al ld:List (Nat×Nat)}{ef:List (Nat×HF×List Nat)}{q:Rat}{e ty xT ty' e3:TypeId}{aE ar aB aO aF aX aU:Option Addr}{E:List Ent}{cs cells c args ce:List Value}{bf:Int}{S C ss:List (List UInt8)}{us ys:List Rat}{v vL vD vB vE vF vO:Value}{y hi:Operand}{ik ik':IntKind}{assign body:Code}{α β:Type}{M':Nat→Nat→Nat→Rat}{rb W tbs:List Nat}{rbs:List (List Nat)}{qs:List Eqn}{rs:List SideD}{a':Nat→Nat→Rat}
variable {i j N k n:Nat}{Ns:List Nat}{s:List UInt8}{a:Option Addr}{sT:TypeId}
section
variable {b j len sz:Nat}{x:Operand}{z:Value}{a:Option Addr}
theorem zhu {m i:Nat}(c:(cs.drop off).take m=cells)(hi:i<m):cs[off+i]?=cells[i]?:=by
 rw [←c,List.getElem?_take_of_lt hi,B3]
theorem zjf:∀{E:List Ent} {j:Nat} {e:Ent},E[j]?=some e→(ents E)[j*4]?=some (jy .i64 e.b):=by
 intro E;induction E with
 |nil=>intro j e h;simp at h
 |cons x E ih=>
  intro j e h;cases j with
  |zero=>simp at h;subst h;rfl
  |succ j=>
   have:=ih (j:=j) (e:=e) (by simpa using h);rw [show (j+1)*4=j*4+4 from zo];show (entC x++ents E)[j*4+4]?=_;rw [AE (by simp [entC])];exact this
theorem Sl.ents_sub {h:HF}{n:Nat}{P g R:List Ent}(s:Sl h n 4 (jx (some ⟨b,off,none⟩) len cap) (ents E))(c:E=P++(g++R))(A:g≠[]):Sl h n 4 (jx (some ⟨b,off+gP P*4,none⟩) (gP g) (cap-gP P)) (ents g):=by
 have f:len=gP E:=by
  obtain ⟨_,_,_,e,f⟩:=s.len;injection e with e1 e2 e3
  rw [xk] at f;omega
 have B:gP E=gP P+(gP g+gP R):=by rw [c];simp
 have D:0<gP g:=List.length_pos_iff.2 A;obtain ⟨_,_,x,cs,e,p,C,q,u,F,v⟩:=s.inv zo;injection e with e
 injection e with e1 e2
 subst e1 e2;refine .at_ p C q zo zo ?_;rw [nB (j:=gP P*4) (k:=gP g*4) v zo,c,rU,rU,CY (xk P),DH (xk g)]
section
variable {ms w:List Nat}{i n:Nat}{d:Tmp}
theorem znr (s:zi ops t o=true)(g:o.dst=some d)(q:zv X.nt (some d)=true)(c:o.op=.indexAddr ty x y)(hu:X.E.und ty=some (.slice e))(hi:X.E.inf e=some (sz,bt,z))
  (u:evF t x=jx (some ⟨b,off,none⟩) len cap)(p:evF t y=jy ik (j:Int))(v:j<len)(k:ED X ops r ms (i+1) ⟨⟨upd t d (kS (some ⟨b,off+j*sz,none⟩)),h,n,w⟩,al,ld,ef⟩ Q):ED X ops (o::r) (m::ms) i ⟨⟨t,h,n,w⟩,al,ld,ef⟩ Q:=by
 refine yy s g q (by rw [c];rfl) ?_ k;have f:(0:Int)≤(j:Int)∧(j:Int)<(len:Int):=zo;rw [c];show yF X.E ty (evF t x) (evF t y)=_;rw [u,p];simp only [yF,hu,hi,eN f,wl,AP]
theorem zb8 {j:Int}(mm:Nat)(c:sh X ops t o d (o.op=.slice ty x none (some hi) none∧X.E.und ty=some (.slice e)∧X.E.inf e=some (sz,bt,z)∧evF t x=jx (some ⟨b,off,none⟩) len cap∧evF t hi=jy ik j∧j=(mm:Int)))(D:mm≤cap)(k:ED X ops r ms (i+1) ⟨⟨upd t d (jx (some ⟨b,off,none⟩) mm cap),h,n,w⟩,al,ld,ef⟩ Q):ED X ops (o::r) (m::ms) i ⟨⟨t,h,n,w⟩,al,ld,ef⟩ Q:=by
 obtain ⟨c,s,A,g,B,f,C,u,v⟩:=c;refine yy c s A (by rw [g];rfl) ?_ k;rw [g];subst v;show yQ X.E ty (evF t x) none (some (evF t hi))=_;rw [C,u];have p:(0:Int)≤(mm:Int)∧(mm:Int)≤cap:=zo;have q:(gro b&&(Ai 1 0&&Ai cap 0))=false:=by cases gro b<;>rfl
 simp only [yQ,B,f,bnd,eN p,AP,q,iW,C8]
theorem zl7 {lo:Operand}{j:Int}(mm:Nat)(p:sh X ops t o d (o.op=.slice ty x (some lo) none none∧X.E.und ty=some (.slice e)∧X.E.inf e=some (sz,bt,z)∧evF t x=jx (some ⟨b,off,none⟩) len cap∧evF t lo=jy ik j∧j=(mm:Int)))(G:mm≤len)(q:len≤cap)
  (k:∀v,(mm=len∧∃a c,v=jx a 0 c)∨(mm<len∧v=jx (some ⟨b,off+mm*sz,none⟩) (len-mm) (cap-mm))→EO X ops r ⟨upd t d v,h,n,w⟩ Q):EO X ops (o::r) ⟨t,h,n,w⟩ Q:=by
 obtain ⟨p,s,B,C,D,g,F,u,A⟩:=p;by_cases h1:mm<cap
 ·refine un mm ⟨p,s,B,C,D,g,F,u,A⟩ G q (.inl h1) (k _ ?_);rw [cC zo];by_cases f:mm=len
  ·exact .inl ⟨f,_,_,by rw [f,A7]⟩
  exact .inr ⟨zo,rfl⟩
 have f:mm=len:=zo;cases hg:gro b with
 |false=>exact un mm ⟨p,s,B,C,D,g,F,u,A⟩ G q (.inr (.inl hg)) (k _ (.inl ⟨f,_,_,by rw [f,A7]⟩))
 |true=>
  by_cases h3:mm=0
  ·exact un mm ⟨p,s,B,C,D,g,F,u,A⟩ G q (.inr (.inr h3)) (k _ (.inl ⟨f,_,_,by rw [f,A7]⟩))
  exact fE mm p s B C D g F u A f zo hg zo (k _ (.inl ⟨f,_,_,rfl⟩))
end
def zr0 (k:Nat)(E:List Ent)(I:List Ent→HF→Nat→Prop)(W V:Nat→Prop)(l:Nat)(h:HF)(n:Nat):Prop:=
 ∀(P g R:List Ent) (b0:Int) (h':HF) (n':Nat) (b off c:Nat),E=P++(g++R)→g≠[]→(∀x∈g,x.b=b0)→n≤n'→(∀c,c<3*n→¬W c→h' c=h c)→I P h' n'→Sl h' n' 4 (jx (some ⟨b,off,none⟩) (gP g) c) (ents g)→¬W b→b<3*n→
  YF (cal k) l [jy .i64 b0,jx (some ⟨b,off,none⟩) (gP g) c] h' n' fun h2 n2 w=>I (P++g) h2 n2∧n'≤n2∧(∀c,c<3*n'→¬W c→h2 c=h' c)∧(∀c∈w,W c∨3*n'≤c)∧l∈w∧∃c∈w,V c
theorem mY (k:Nat){h:HF}{n c1:Nat}{W V:Nat→Prop}{I:List Ent→HF→Nat→Prop}(hl:l<3*n)(af:h c1=some (.row [jx a (gP E) cap] e))(hs:Sl h n 4 (jx a (gP E) cap) (ents E))(hb:gP E<1000000)(ae:∀ad,a=some ad→¬W ad.block)(hI:I [] h n)(hV:∀c,V c→c<3*n)(hy:zr0 k E I W V l h n):
  CF (cal (k+1)) 121 [.func (.yield l) #[] #[],kS (some ⟨c1,0,none⟩)] h n fun _ g p w=>I E g p∧n≤p∧(∀c,c<3*n→¬W c→g c=h c)∧(∀c∈w,W c∧c<3*n)∧(E=[]∨∃c∈w,V c):=by
 refine oI (fn:=Tryz.f121) R4 ?_;refine zN ?_;refine zl R6 af R2 ?_;refine Za ?_;refine z9 (α:=List Ent×List Ent×Value) (fun z=>[(0,.func (.yield l) #[] #[]),(3,z.2.2)])
  (fun z g p w=>E=z.1++z.2.1∧((z.2.1=[]∧∃a c,z.2.2=jx a 0 c)∨(z.2.1≠[]∧∃b off,a=some ⟨b,off,none⟩∧z.2.2=jx (some ⟨b,off+gP z.1*4,none⟩) (gP z.2.1) (cap-gP z.1)))∧I z.1 g p∧n≤p∧(∀c,c<3*n→¬W c→g c=h c)∧(∀c∈w,W c∧c<3*n)∧(w=[]→z.1=[]∧g=h∧p=n)∧(z.1=[]∨∃c∈w,V c)) (fun z=>gP z.2.1)
  ([],E,jx a (gP E) cap) ⟨rfl,rfl,eP⟩ ⟨rfl,?_,hI,eT,fun _ _ _=>rfl,fun c s=>cA s nN,fun _=>⟨rfl,rfl,rfl⟩,.inl rfl⟩ (by show gP E<LL;unfold LL;omega) ?_
 ·cases E with
  |nil=>exact .inl ⟨rfl,_,_,rfl⟩
  |cons x E=>
   obtain ⟨b,off,x,cs,rfl,_⟩:=hs.inv gN;exact .inr ⟨List.cons_ne_nil _ _,b,off,rfl,gN⟩
 rintro ⟨P,R,v3⟩ t N n1 Z ⟨L,T,C,S,G,Y,a7,a5⟩;simp only at L T C Y a7 a5;have a9:gP E=gP P+gP R:=by rw [L];simp
 cases R with
 |nil=>
  obtain ⟨a',c',rfl⟩:∃a c,v3=jx a 0 c:=by
   rcases T with ⟨_,h⟩|⟨h,_⟩
   ·exact h
   exact cA rfl h
  rw [A3] at L;refine Zb ?_;refine ZA ?_;subst L;exact ⟨rfl,[],rfl,⟨C,S,G,Y,a5⟩,fun U=>by
   obtain ⟨z1,z2,z3⟩:=a7 U;subst z2 z3;exact ⟨C,S,fun _ _ _=>trivial,fun c s=>cA s nN,.inl z1⟩⟩
 |cons x R=>
  obtain ⟨b,off,rfl,rfl⟩:∃b off,a=some ⟨b,off,none⟩∧v3=jx (some ⟨b,off+gP P*4,none⟩) (gP (x::R)) (cap-gP P):=by
   rcases T with ⟨h,_⟩|⟨_,h⟩
   ·cases h
   exact h
  have a1:¬W b:=ae _ rfl;have ap:0<gP (x::R):=F6 _;obtain ⟨_,_,xb,cs,M,a2,ao,F,a8,aj,he⟩:=hs.inv (by rw [a9];simp);injection M with M
  injection M with M e2
  subst M e2;have J:N b=some xb:=(G b a2 a1).trans ao;have ai:gP (x::R)≤cap-gP P:=zo;have A:∀{i:Nat} {y:Ent},(x::R)[i]?=some y→cs[off+gP P*4+i*4]?=some (jy .i64 y.b):=fun {i y} hi=>by
   have aq:=(oc.1 hi).1;have:E[gP P+i]?=some y:=by rw [L,AE zo,Bi];exact hi
   rw [show off+gP P*4+i*4=off+(gP P+i)*4 from zo,zhu he zo];exact zjf this
  refine Zb ?_;rw [ze rfl];refine Zf ?_;rw [xQ,zY,xJ];refine yu (α:=Nat) (fun m=>[(0,.func (.yield l) #[] #[]),(3,jx (some ⟨b,off+gP P*4,none⟩) (gP (x::R)) (cap-gP P)),(4,jy .i64 (m:Int))]) (fun m g p w=>N=g∧n1=p∧Z=w∧1≤m∧m≤gP (x::R)∧∀y∈(x::R).take m,y.b=x.b) ?_ ?_
  ·refine zN ?_;refine z9 (α:=Nat) (fun m=>[(0,.func (.yield l) #[] #[]),(3,jx (some ⟨b,off+gP P*4,none⟩) (gP (x::R)) (cap-gP P)),(4,jy .i64 (m:Int))]) (fun m g p w=>N=g∧n1=p∧Z=w∧1≤m∧m≤gP (x::R)∧∀y∈(x::R).take m,y.b=x.b) (fun m=>gP (x::R)-m) 1 ⟨rfl,rfl,rfl,eP⟩ ⟨rfl,rfl,rfl,eT,gN,fun y hy=>by simp at hy;rw [hy]⟩ (by show gP (x::R)-1<LL;unfold LL;omega) ?_;rintro m t _ _ _ ⟨rfl,rfl,rfl,O,H,q⟩;refine zN ?_;rw [xV rfl];by_cases hmR:m=gP (x::R)
   ·refine Zj ?_;exact zO m ⟨rfl,rfl,rfl,eP⟩ ⟨rfl,rfl,rfl,O,H,q⟩
   obtain ⟨y,a6⟩:∃y,(x::R)[m]?=some y:=⟨_,k4 zo⟩;repeat refine zR ?_
   refine wp R8 zo ?_;refine zM ?_;refine zl R6 J ⟨F,(A a6)⟩ ?_;refine zM ?_;refine wp R8 gN ?_;refine zM ?_;refine zl R6 J ⟨F,(A (i:=0) (y:=x) rfl)⟩ ?_;by_cases hbb:y.b=x.b
   ·refine Zn ?_;refine goOn (m+1) (by show _-_<_-_;omega) ⟨rfl,rfl,rfl,eP⟩ ⟨rfl,rfl,rfl,zo,zo,?_⟩;intro u B;rw [List.take_add_one,a6] at B;rcases Al.1 B with B|B
    ·exact q u B
    simp at B;rw [B];exact hbb
   refine Zj ?_;exact zO m ⟨rfl,rfl,rfl,eP⟩ ⟨rfl,rfl,rfl,O,H,q⟩
  rintro m t _ _ _ ⟨rfl,rfl,rfl,O,H,q⟩;have hg:gP ((x::R).take m)=m:=by rw [Af];omega
  have a4:(x::R).take m≠[]:=fun h=>by rw [h] at hg;simp at hg;omega
  have f:E=P++((x::R).take m++(x::R).drop m):=by rw [Bf];exact L
  have ab:Sl N n1 4 (jx (some ⟨b,off+gP P*4,none⟩) (gP ((x::R).take m)) (cap-gP P)) (ents ((x::R).take m)):=
   Sl.ents_sub (.at_ zo J F a8 aj he) f a4
  refine zN ?_;refine zm [0,0,2,6,14,0,0,96,255,511] rfl ?_;refine yy (v:=.func (.yield l) #[] #[]) rfl rfl rfl rfl rfl ?_;refine dr_S R4 rfl ?_;refine znr (j:=0) rfl rfl rfl rfl rfl rfl rfl rfl gN ?_;refine dr_P R5 ?_;refine zZ R6 (zX rfl J ⟨F,(A (i:=0) (y:=x) rfl)⟩) R2 ?_;refine dr_S R4 rfl ?_;refine dr_I R5 ?_;refine zb8 m R9 zo ?_;have D:=hy P ((x::R).take m) ((x::R).drop m) x.b N n1 b (off+gP P*4) (cap-gP P) f a4 q S G C ab a1 a2;rw [hg] at D;refine zjm _ rfl rfl rfl rfl rfl rfl rfl D ?_;rintro h2 n2 w2 ⟨ac,am,ah,an,ak,c2,ag,a0⟩;refine ⟨rfl,am,?_⟩;refine dr_B R5 ?_;rw [uC];refine zN ?_;rw [za rfl];refine Zf ?_;refine zl7 m R9 H ai ?_;intro v T;refine zF (v:=v) R5 ?_;refine zN ?_;have aa:∀c∈addW n w2 Z,W c∧c<3*n:=fun c s=>by
   rcases xX _ _ c s with ⟨K,h4⟩|K
   ·rcases an c K with h5|h5
    ·exact ⟨h5,h4⟩
    omega
   exact Y c K
  refine goOn (P++(x::R).take m,(x::R).drop m,v) (by show gP ((x::R).drop m)<gP (x::R);rw [Ak];omega) ⟨rfl,rfl,eP⟩ ⟨by rw [Aq];exact f,?_,ac,by show n≤n2;omega,fun c s a3=>(ah c zo a3).trans (G c s a3),aa,fun U=>?_,.inr ⟨c2,wG (hV c2 a0) ag,a0⟩⟩
  ·rcases T with ⟨K,h4⟩|⟨K,rfl⟩
   ·exact .inl ⟨List.drop_eq_nil_of_le zo,h4⟩
   refine .inr ⟨fun h=>?_,b,off,rfl,?_⟩
   ·have:=congrArg gP h;simp at this;simp at K;omega
   show _=jx (some ⟨b,off+gP (P++(x::R).take m)*4,none⟩) _ _;rw [nn,hg,Ak,show off+gP P*4+m*4=off+(gP P+m)*4 from zo,Nat.sub_sub]
  have U:addW n w2 Z=[]:=U;have:l∈addW n w2 Z:=wG hl ak;rw [U] at this;exact cA this nN
end
section
variable {ms w:List Nat}{i n:Nat}{d:Tmp}
theorem zdk {ty e:TypeId}{x lo a f:Operand}{b off len cap sz bt i j m:Nat}{z:Value}{G H I:IntKind}(c:sh X ops t o d (o.op=.slice ty x (some lo) (some a) (some f)∧X.E.und ty=some (.slice e)∧X.E.inf e=some (sz,bt,z)∧evF t x=jx (some ⟨b,off,none⟩) len cap∧evF t lo=jy G (i:Int)∧evF t a=jy H (j:Int)∧evF t f=jy I (m:Int)))(l:i≤j)(p:j≤m)(B:m≤cap)(J:i<m)(A:gro b=false)
  (k:EO X ops r ⟨upd t d (jx (some ⟨b,off+i*sz,none⟩) (j-i) (m-i)),h,n,w⟩ Q):EO X ops (o::r) ⟨t,h,n,w⟩ Q:=by
 obtain ⟨c,y,C,q,D,g,F,s,u,v⟩:=c;refine zF ⟨c,y,C,(by rw [q];rfl),?_⟩ k;rw [q];show nU X.E ty (evF t x) (evF t lo) (evF t a) (evF t f)=_;rw [F,s,u,v];have e:offA m i sz ⟨b,off,none⟩=⟨b,off+i*sz,none⟩:=by
  unfold offA;have:AG m i=false:=by
   cases hb:AG m i with
   |false=>rfl
   |true=>have:=Aw hb;omega
  rw [this,wl]
 simp only [nU,D,g,sn l,sn p,sn B,A,A4,BJ,B4,e,Int.ofNat_eq_natCast]
end
def zrz (k:Nat)(b off c K:Nat)(I:Nat→HF→Nat→Prop)(W:Nat→Prop)(l:Nat)(h:HF)(n:Nat):Prop:=
 ∀(s:Nat) (h':HF) (n':Nat),s<K→n≤n'→(∀c,c<3*n→¬W c→h' c=h c)→I s h' n'→
  YF (cal k) l [jx (some ⟨b,off+s*c*4,none⟩) c c] h' n' fun h2 n2 w=>I (s+1) h2 n2∧n'≤n2∧(∀c,c<3*n'→¬W c→h2 c=h' c)∧(∀c∈w,W c∨3*n'≤c)∧l∈w
theorem zgw (k:Nat){h:HF}{n l q p b off c K cap:Nat}{W:Nat→Prop}{e e2:TypeId}{I:Nat→HF→Nat→Prop}(hl:l<3*n)(U:h q=some (.row [jx (some ⟨b,off,none⟩) (K*c) cap] e))(V:h p=some (.row [jy .i64 (c:Int)] e2))(R:q<3*n∧¬W q)(J:p<3*n∧¬W p)(f:0<c)(M:K*c≤cap)(hb:K*c<1000000)(hg:gro b=false)(hI:I 0 h n)(hy:zrz k b off c K I W l h n):
  CF (cal (k+1)) 242 [.func (.yield l) #[] #[],kS (some ⟨q,0,none⟩),kS (some ⟨p,0,none⟩)] h n fun _ u y w=>I K u y∧n≤y∧(∀c,c<3*n→¬W c→u c=h c)∧∀c∈w,W c∧c<3*n:=by
 refine oI (fn:=Tryz.f242) R4 ?_;refine Zb ?_;refine z9 (α:=Nat) (fun s=>[(0,.func (.yield l) #[] #[]),(1,kS (some ⟨q,0,none⟩)),(2,kS (some ⟨p,0,none⟩)),(4,jy .i64 ((s*c:Nat):Int))])
  (fun s u y w=>s≤K∧I s u y∧n≤y∧(∀c,c<3*n→¬W c→u c=h c)∧(∀c∈w,W c∧c<3*n)∧(w=[]→s=0∧u=h∧y=n)) (fun s=>K-s)
  0 ⟨rfl,rfl,rfl,by rw [BE];rfl,eP⟩ ⟨eU,hI,eT,fun _ _ _=>rfl,fun c f=>cA f nN,fun _=>⟨rfl,rfl,rfl⟩⟩ (by show K-0<LL;have:=Dq K f;unfold LL;omega) ?_
 rintro s t h3 n3 O ⟨hs,A,B,g,H,a1⟩;have D:=(g q R.1 R.2).trans U;have p2:=(g p J.1 J.2).trans V;by_cases hsK:s=K
 ·subst hsK;refine Zc ?_;refine zl R6 D R2 ?_;refine Zj ?_;exact ⟨rfl,[],rfl,⟨A,B,g,H⟩,fun C=>by
   obtain ⟨z1,z2,z3⟩:=a1 C;subst z2 z3;exact ⟨A,B,fun _ _ _=>trivial,fun c f=>cA f nN⟩⟩
 have Y:(s+1)*c≤K*c:=Ab _ zo;rw [BN] at Y;refine Zc ?_;refine zl R6 D R2 ?_;refine Zp ?_;rw [xV rfl];refine zl R6 p2 R2 ?_;refine zl R6 D R2 ?_;refine zM ?_;refine un (s*c) R9 zo M (.inl zo) ?_;refine zM ?_;refine st_I (ik:=.i64) (a:=(c:Int)) ⟨rfl,rfl,rfl,rfl,?_⟩ ?_
 ·show some (jy .i64 (if ((K*c-s*c:Nat):Int)<(c:Int) then ((K*c-s*c:Nat):Int) else (c:Int)))=_;rw [cC zo]
 refine Zo ?_;refine zF (v:=.func (.yield l) #[] #[]) R5 ?_;refine zl R6 D R2 ?_;repeat refine zR ?_
 refine zdk (i:=s*c) (j:=s*c+c) (m:=s*c+c) R10 zo zo zo zo hg ?_;rw [Bi];refine zh1 _ rfl rfl rfl rfl rfl (hy s h3 n3 zo B g A) ?_;rintro h4 n4 P ⟨T,a3,G,a0,Z⟩;refine Zj ?_;have a2:=(G p zo J.2).trans p2;refine zM ?_;refine zl R6 a2 R2 ?_;refine Za ?_;have N:∀c∈addW n P O,W c∧c<3*n:=fun c f=>by
  rcases xX _ _ c f with ⟨L,h6⟩|L
  ·rcases a0 c L with S|S
   ·exact ⟨S,h6⟩
   omega
  exact H c L
 refine goOn (s+1) (by show K-(s+1)<K-s;omega) ⟨rfl,rfl,rfl,by rw [BN];rfl,eP⟩ ⟨by show s+1≤K;omega,T,by show n≤n4;omega,fun c f F=>(G c zo F).trans (g c f F),N,fun C=>?_⟩;have C:addW n P O=[]:=C;have:l∈addW n P O:=wG hl Z;rw [C] at this;exact cA this nN
section
variable {N b k len:Nat}{sT:TypeId}{x:Operand}{z:Value}
def GR {D:Type}(sz:Nat)(P:List Value→D→HF→Nat→Prop)(lo:Nat)(h:HF)(n:Nat)(e:TypeId)(v:Value)(ds:List D):Prop:=∃C,Gro h lo n e sz v (gP ds) C∧Rec sz (fun c d=>P c d h n) C ds∧C.all nu=true
section
variable {D:Type}{sz n:Nat}{P:List Value→D→HF→Nat→Prop}{ds:List D}
theorem GR.nil:GR sz P lo h n e (jx none 0 0) ([]:List D):=⟨[],.nil,.nil,rfl⟩
theorem GR.as {a:List D}(g:GR sz P lo h n e v ds)(f:ds=a):GR sz P lo h n e v a:=f▸g
theorem GR.go (g:GR sz P lo h n e v ds)(q:KP sz P)(t:Tr n h n' h')(p:∀b,BkOf v b→h' b=h b):GR sz P lo h' n' e v ds:=by
 obtain ⟨C,a,f,j⟩:=g;refine ⟨C,?_,f.mono fun _ _ r=>q.t r t,j⟩;generalize (gP ds)=L at a;cases a with
 |nil=>exact .nil
 |at_ hg hlo hb hr hl ho=>exact .at_ hg hlo (by have:=t.1;omega) ((p _ ⟨_,_,_,rfl⟩).trans hr) hl ho
theorem GR.bk (g:GR sz P lo h n e v ds):∀b,BkOf v b→3*lo≤b∧b<3*n∧gro b=true∧Nur (h b):=by
 obtain ⟨C,a,j,f⟩:=g;generalize (gP ds)=L at a;rintro b ⟨o,l,c,rfl⟩;cases a with
 |at_ hg hlo hb hr hl ho=>exact ⟨hlo,hb,hg,.row hr f⟩
theorem GR.shape (g:GR sz P lo h n e v ds)(j:gP ds=L):∃a,v=jx a L L:=by
 obtain ⟨C,f,p,q⟩:=g;subst j;obtain ⟨a,e,_⟩:=f.shape;exact ⟨a,e⟩
theorem GR.or (g:GR sz P lo h n e v ds)(p:gP ds=L)(h0:L≠0):∃b,v=jx (some ⟨b,0,none⟩) L L∧gro b=true∧3*lo≤b∧OR sz P h n b ds∧Ty1 h b e:=by
 obtain ⟨C,a,f,j⟩:=g;rw [p] at a;cases a with
 |nil=>exact cA rfl h0
 |at_ hg hlo hb hr hl ho=>exact ⟨_,rfl,hg,hlo,⟨hb,_,_,hr,j,f⟩,_,hr⟩
theorem OR.gr (o:OR sz P h n b ds)(B:KP sz P)(A:Ty1 h b e)(y:gro b=true)(p:3*lo≤b)(s:gP ds=L):GR sz P lo h n e (jx (some ⟨b,0,none⟩) L L) ds:=by
 obtain ⟨u,C,G,g,j,a⟩:=o;obtain ⟨F,f⟩:=A;rw [f] at g;cases g;subst s;have q:ones C=true:=by
  clear f j;induction a with
  |nil=>rfl
  |cons hl hp hr ih=>exact wy (B.c hp).2.2 ih
 exact ⟨_,.at_ y p u f a.len q,a,j⟩
end
theorem zkw {m lo i:Nat}{r:List (Nat×Nat)}(f:b<3*lo)(a:∀b∈W,3*lo≤b)(k:yc m W r=true):yc m W ((i,b)::r)=true:=by
 have g:memN b W=false:=by
  clear k;induction W with
  |nil=>rfl
  |cons c W ih=>
   have j:=a c (As ..);unfold memN;cases he:AG b c with
   |true=>have:=Aw he;omega
   |false=>exact ih fun b f=>a b (AV _ f)
 unfold yc;rw [g,BJ,Bool.or_true];exact k
theorem zps {m i:Nat}{r:List (Nat×Nat)}(a:m.testBit i=true)(k:yc m W r=true):yc m W ((i,b)::r)=true:=by
 unfold yc;rw [a,Bool.true_or];exact k
section
variable {ms w:List Nat}{i n:Nat}{d:Tmp}
theorem dGA {D:Type}{sz:Nat}{P:List Value→D→HF→Nat→Prop}{e:TypeId}{s:Operand}{lo:Nat}{ds:List D}{q:D}{v:Value}(c:List Value)(g:GR sz P lo h n e v ds)(u:KP sz P)(p:P c q h n)(Y:argS h sz (evF t x) 1 c)(U:ds.length<1000000)(G:lo≤n)(F:∀W:List Nat,(∀b∈W,3*lo≤b)→yc m W ld=true)
  (k:∀f h' W,(∀b∈W,3*lo≤b)→GR sz P lo h' (n+1) e f (ds++[q])→Tr n h (n+1) h'→Exa lo h h'→(∀b,b<3*n→¬BkOf v b→h' b=h b)→(∀b,BkOf f b→3*n≤b)→ED X ops r ms (i+1) ⟨⟨upd t d f,h',n+1,addW n0 W w⟩,al,ld,(i,h,W)::ef⟩ Q)
  (V:zi ops t o=true:=by exact rfl)(hd:o.dst=some d:=by exact rfl)(hn:zv X.nt (some d)=true:=by exact rfl)(ho:o.op=.call {callee:=.builtin .append,args:=#[s,x],argTypes:=#[sT,xT]}:=by exact rfl)(hv:evF t s=v:=by exact rfl)(hxT:(match X.E.und xT with|some (.int _)=>false|none=>false|_=>true)=true:=by exact rfl)(hu:X.E.und sT=some (.slice e):=by exact rfl)(hi:X.E.inf e=some (sz,bytes,z):=by exact rfl)(hz:(zC z).length=sz:=by exact rfl)(h1:1≤sz∧1≤bytes∧bytes≤1000:=by decide)(g1:xg m ef=true:=by exact rfl)(g2:xU m al=true:=by exact rfl)(hX:X.n0=n0:=by exact rfl):ED X ops (o::r) (m::ms) i ⟨⟨t,h,n,w⟩,al,ld,ef⟩ Q:=by
 have T:=g;obtain ⟨C,J,rc,Z⟩:=g;subst hv;obtain ⟨y,H,I⟩:=u.c p;have a:(ds.length+1)*bytes≤1099511627776:=Nat.le_trans (Nat.mul_le_mul (show ds.length+1≤1000000 by omega) h1.2.2) zd;obtain ⟨f,h',W,K,M,O,R,A,S⟩:=wW hu hi hz ⟨h1.1,h1.2.1⟩ J Y (Nat.le_refl _) a (by rw [Nat.one_mul];exact y) I G;refine mK V hd hn ho hxT K g1 g2 (F W A) zs ?_;rw [hX];have B:∀b,b<3*n→¬BkOf (evF t s) b→h' b=h b:=fun b a hn=>R b a fun o l c e=>hn ⟨o,l,c,e⟩;have j:Tr n h (n+1) h':=⟨Nat.le_succ _,fun b a=>by
  by_cases hB:BkOf (evF t s) b
  ·exact .inr (T.bk b hB).2.2.2
  ·exact .inl (B b a hB)⟩
 refine k f h' W A ⟨C++c,by rw [List.length_append];exact M,(rc.mono fun _ _ r=>u.t r j).snoc y (u.t p j),by rw [List.all_append,Z,H];rfl⟩ j ⟨O⟩ B fun b ⟨o,l,cc,e⟩=>?_;subst e;exact S
theorem sSn {a:Operand}{sz:Nat}{e:TypeId}(c':List Value)(k:∀h',h' b=some (.row c' e)→Sto b h h'→EO X ops r ⟨t,h',n,w⟩ Q)(f:zi ops t o=true:=by exact rfl)(hd:o.dst=none:=by exact rfl)(ho:o.op=.store ty a x:=by exact rfl)(hi:X.E.inf ty=some (sz,bt,z):=by exact rfl)(ha:evF t a=.pointer (some ⟨b,off,none⟩):=by exact rfl)(hb:h b=some (.row c e):=by exact zp)(hu:c.all nu=true:=by exact rfl)(hx:zC (evF t x)=cs:=by exact rfl)(hs:cs.length=sz:=by exact rfl)(h1:ones cs=true:=by exact rfl)(hl:off+sz≤c.length:=by exact zb)(hsp:zw c off cs=c':=by exact rfl)(hX:X.n0=n0:=by exact rfl)(hnew:3*n0≤b:=by omega):EO X ops (o::r) ⟨t,h,n,w⟩ Q:=
 sSx c' hb (fun h' p q=>by rw [yo hnew];exact k h' p q) f hd ho hi ha hu hx hs h1 hl hsp hX
theorem dMs {e:TypeId}(cs:List Value){c:Nat}(k:∀h',h' (3*n+2)=some (.row cs e)→Ext n h h'→ED X ops r ms (i+1) ⟨⟨upd t d (.slice (some ⟨3*n+2,0,none⟩) l c),h',n+1,w⟩,(i,3*n+2)::al,ld,ef⟩ Q)(a:zi ops t o=true:=by exact rfl)(hd:o.dst=some d:=by exact rfl)(hn:zv X.nt (some d)=true:=by exact rfl)(hc:cls o.op=2:=by exact rfl)(hm:mkE X.E o.op (evF t)=some ⟨cs,e,false,some (l,c)⟩:=by exact rfl):ED X ops (o::r) (m::ms) i ⟨⟨t,h,n,w⟩,al,ld,ef⟩ Q:=
 zf8 ⟨a,hd,hn,hc,hm⟩ (k _ (zh _ _ _) (Ext.upd (show 3*n≤3*n+2 by omega)))
end
theorem wF {l w:List Nat}{p:Nat→Prop}(a:∀c∈l,p c)(f:∀c∈w,p c):∀c∈addW n0 l w,p c:=fun c g=>by
 rcases xX _ _ c g with ⟨h,_⟩|h
 ·exact a c h
 exact f c h
theorem pS (h:gro b=true):b≠3*k+2:=fun e=>by rw [e,yJ] at h;cases h
theorem RS.sub {D:Type}{sz:Nat}{P:List Value→D→HF→Nat→Prop}(y:0<sz){h:HF}{n:Nat}{l:List D}(q:RS sz P h n (jx (some ⟨b,off,none⟩) len cap) l){m c f:Nat}(H:m+c≤len)(A:c≤f):RS sz P h n (jx (some ⟨b,off+m*sz,none⟩) c f) ((l.drop m).take c):=by
 have G:=q.len' y;obtain ⟨a,s,r⟩:=q;by_cases h0:len=0
 ·have j:c=0:=zo;have g:=s.below;subst j;rw [Bj];exact ⟨[],.nil (.inr ⟨_,_,_,rfl,g⟩),.nil⟩
 obtain ⟨_,_,x,cs,e,g,J,p,B,K,F⟩:=s.inv h0;injection e with e
 injection e with e1 e2
 subst e1 e2;have u:=Ab sz H;rw [AH] at u;refine ⟨(a.drop (m*sz)).take (c*sz),.at_ g J p A zo (nB F zo),?_⟩;have C:∀{m:Nat} {a:List Value} {l:List D},Rec sz (fun c d=>P c d h n) a l→Rec sz (fun c d=>P c d h n) (a.drop (m*sz)) (l.drop m):=by
  intro m;induction m with
  |zero=>intro a l r;rw [BE];exact r
  |succ m ih=>
   intro a l r;cases r with
   |nil=>rw [List.drop_nil,List.drop_nil];exact .nil
   | @cons c1 cs1 d1 ds1 hl hp hr=>
    rw [List.drop_succ_cons,BN,BT (m*sz) sz,←Cz,CY hl];exact ih hr
 have I:∀{c:Nat} {a:List Value} {l:List D},Rec sz (fun c d=>P c d h n) a l→Rec sz (fun c d=>P c d h n) (a.take (c*sz)) (l.take c):=by
  intro c;induction c with
  |zero=>intro a l r;rw [BE,Bj,Bj];exact .nil
  |succ c ih=>
   intro a l r;cases r with
   |nil=>rw [List.take_nil,List.take_nil];exact .nil
   | @cons c1 cs1 d1 ds1 hl hp hr=>
    rw [Fl,BN,BT (c*sz) sz,List.take_append,Aa zo,hl,Bi];exact .cons hl hp (ih hr)
 exact I (C r)
theorem QS.sub {h:HF}{n:Nat}{l:List Rat}(q:QS h n (jx (some ⟨b,off,none⟩) len cap) l){m c a:Nat}(g:m+c≤len)(f:c≤a):QS h n (jx (some ⟨b,off+m*4,none⟩) c a) ((l.drop m).take c):=RS.sub zd q g f
theorem cI {i:Nat}{a:Nat→Nat→Rat}(f:i<N):((tabL N a).drop (i*N)).take N=rowQ N a i:=by
 refine Bn fun j=>?_;unfold rowQ;rw [List.getElem?_take,B3,sr];by_cases hj:j<N
 ·rw [eN hj,vH f hj,AL hj];rfl
 rw [cC hj,Ad (by rw [Aj];omega)];rfl
theorem zqw (k:Nat)(h:HF)(n:Nat){v:Value}{c:Nat}(g:∃a l k,v=jx a l k)(hc:0<c∧c<1000000):CX (cal (k+1)) 226 [v,jy .i64 (c:Int)] h n fun u h' n'=>u=.func (.func 242) #[] #[kS (some ⟨3*n+2,0,none⟩),kS (some ⟨3*(n+1)+2,0,none⟩)]∧n'=n+2∧(∃e,h' (3*n+2)=some (.row [v] e))∧∃e,h' (3*(n+1)+2)=some (.row [jy .i64 (c:Int)] e):=by
 obtain ⟨a,l,f,rfl⟩:=g;refine zu (fn:=Tryz.f226) R4 ?_;refine zG ?_;refine sB [jx a l f] ?_;intro j q y;refine sB [jy .i64 (c:Int)] ?_;intro p s A;refine zF (v:=.nilFunc) R5 ?_;refine zG ?_;refine zF (v:=.func (.func 242) #[] #[kS (some ⟨3*n+2,0,none⟩),kS (some ⟨3*(n+1)+2,0,none⟩)]) ⟨rfl,rfl,rfl,rfl,?_⟩ ?_
 ·show some (DQ (.func _) (EF (evF _) #[]) (EF (evF _) #[.tmp 2,.tmp 3]))=_;simp only [DX,Cy,DY];rfl
 refine zF (v:=.func (.func 242) #[] #[kS (some ⟨3*n+2,0,none⟩),kS (some ⟨3*(n+1)+2,0,none⟩)]) R5 ?_;refine zq ?_;exact ⟨rfl,rfl,⟨_,zp⟩,⟨_,zp⟩⟩
end
section
variable {d k n:Nat}{w:List Nat}
theorem lJ {g:Operand}{i:FuncId}{first cap:Array Value}{o:Array Tmp}{t:TF}{Q:Ex→SV→Prop}(B:X.round=none)(A:evF t g=.func (.func i) first cap)
  (f:∀hB,hB (3*n+2)=some .dfr→hB (3*(n+1)+2)=some (.loop true none t X.nt o.toList assign body (3*n+2))→Ext n h hB→CF X.C i (first.toList++([.func (.yield (3*(n+1)+2)) #[] #[]]++cap.toList)) hB (n+2)
   fun _ b m p=>b (3*(n+1)+2)=hB (3*(n+1)+2)∧b (3*n+2)=hB (3*n+2)∧∀e,(∀c,c≠3*(n+1)+2→c≠3*n+2→e c=b c)→Q .normal ⟨t,e,m,addW X.n0 p w⟩):EC X (.rangeFunc g o assign body) ⟨t,h,n,w⟩ Q:=by
 refine zkg B A (yg (f _ ((zj zo).trans (zh _ _ _)) (zh _ _ _) (fun c f=>by rw [zj zo,zj zo])) ?_);rintro v b m p ⟨q,e,u⟩;exact ⟨⟨_,_,_,_,_,_,q.trans (zh _ _ _)⟩,e.trans ((zj zo).trans (zh _ _ _)),u _ fun c f y=>by rw [zj y,zj f]⟩
theorem lI {τ p:TF}{m:List Tmp}{P:HF→Nat→List Nat→Prop}(hl:h l=some (.loop true none τ nt m assign body d))(v:AG (gP args) (gP m)=true)(y:pL nt m args τ=some p)
  (A:EC (ctxR k n nt l) assign ⟨p,h,n,[]⟩ fun e s=>e=.normal∧s.h l=h l∧∀b,Lpo l s.h b→EC (ctxR k n nt l) body ⟨s.t,b,s.n,l::s.w⟩ fun q g=>q=.normal∧g.h l=b l∧∀f,f l=h l→Lpo l g.h f→P f g.n (l::g.w)):YF (cal (k+1)) l args h n P:=by
 refine zkd hl v y (tY A ?_);rintro e s ⟨rfl,b,f⟩;refine ⟨rfl,b.trans hl,tY (f _ ⟨fun c i=>zj i,_,b.trans hl,rfl⟩) ?_⟩;rintro e g ⟨rfl,o,u⟩;exact ⟨rfl,o.trans (zh _ _ _),u _ ((zh _ _ _).trans hl.symm) ⟨fun c i=>zj i,_,o.trans (zh _ _ _),rfl⟩⟩
def zsN (N:Nat)(a:Nat→Nat→Rat)(s:Nat):List Int:=(AC (s*N)).map fun m=>tT N a (m/N) (m%N)
def preL (N:Nat)(a:Nat→Nat→Rat)(s j:Nat):List Int:=zsN N a s++(AC j).map (nfi N a s)
def midL (N:Nat)(a:Nat→Nat→Rat)(s k:Nat):List Int:=zsN N a s++(AC N).map fun j=>if j<k then tT N a s j else nfi N a s j
section
variable {N s j:Nat}{a:Nat→Nat→Rat}
theorem wZ:gP (zsN N a s)=s*N:=by unfold zsN;rw [oo,Aj]
theorem oR:gP (preL N a s j)=s*N+j:=by unfold preL;rw [nn,wZ,oo,Aj]
theorem bT:gP (midL N a s j)=s*N+N:=by unfold midL;rw [nn,wZ,oo,Aj]
theorem zd4:preL N a s 0=zsN N a s:=by unfold preL;rw [List.range_zero,DY,A3]
theorem zd5:preL N a s j++[nfi N a s j]=preL N a s (j+1):=by unfold preL;rw [Gf,Bl,Aq];rfl
theorem zik:preL N a s N=midL N a s 0:=by
 unfold preL midL;congr 1
theorem ziv (b:j<N):(midL N a s j)[s*N+j]?=some (nfi N a s j):=by
 unfold midL;rw [AE (by rw [wZ];omega),wZ,Bi,sr,AL b];show some (if j<j then _ else _)=_;rw [cC (BK _)]
theorem ziu (b:j<N):(midL N a s j).set (s*N+j) (tT N a s j)=midL N a s (j+1):=by
 unfold midL;rw [Cd _ _ (by rw [wZ];omega),wZ,Bi];congr 1;refine Bn fun m=>?_;rw [Cc,oo,Aj,sr,sr];by_cases hm:m<N
 ·rw [AL hm];by_cases e:j=m
  ·subst e;rw [eN rfl,eN b];show _=some (if _ then _ else _);rw [eN (Dt _)]
  rw [cC e];show some (if _ then _ else _)=some (if _ then _ else _);by_cases h2:m<j
  ·rw [eN h2,eN zo]
  rw [cC h2,cC zo]
 rw [Ad (l:=AC N) (by rw [Aj];omega),cC zo];rfl
theorem ziw:midL N a s N=zsN N a (s+1):=by
 unfold midL;refine Bn fun m=>?_;by_cases h1:m<s*N
 ·rw [List.getElem?_append_left (by rw [wZ];exact h1)];unfold zsN;rw [sr,sr,AL h1,AL (by rw [AH];omega)]
 rw [AE (by rw [wZ];omega),wZ,sr];unfold zsN;rw [sr];by_cases h2:m<s*N+N
 ·obtain ⟨j,rfl⟩:∃j,m=s*N+j:=⟨m-s*N,zo⟩;have b:j<N:=zo;rw [Bi,AL b,AL (by rw [AH,Bs];omega)];show some (if _ then _ else _)=some (tT N a ((s*N+j)/N) ((s*N+j)%N));rw [eN b,(ju b).1,(ju b).2]
 rw [Ad (by rw [Aj];omega),Ad (by rw [Aj,AH,Bs];omega)];rfl
end
end
section
variable {b k n:Nat}
theorem vW:(ctx k n nt).n0=n:=rfl
def NT (N:Nat)(a:Nat→Nat→Rat)(lo bt l:Nat)(B:Option BF)(s:Nat)(h:HF)(n:Nat):Prop:=h l=B∧∃vE vS ty,h bt=some (.row [jy .i64 (N:Int),vE,vS] ty)∧GR 2 intP lo h n 137 vE (zsN N a s)∧GR 4 ratP lo h n 139 vS ((AC s).map (tS N a))∧∀b,BkOf vE b→¬BkOf vS b
section
variable {N B:Nat}{a:Nat→Nat→Rat}
theorem em (k:Nat)(g:GG h n)(hq:QS h n (jx (some ⟨b,off,none⟩) (N*N) cap) (tabL N a))(e7:gro b=false)(d6:N*N≤cap)(hN:1≤N∧N≤3)(hD:0<D)(cn:D<BW)(hd:∀i j,i<N→j<N→(a i j).den∣D)(hB:∀i j,i<N→j<N→FN D B (a i j))(e5:1≤B)(bn:B<BW)(hz:∀i j,i<N→j<N→Sz m (a i j))(hm:m≤64):
  CX (cal (k+13)) 202 [jx (some ⟨b,off,none⟩) (N*N) cap,jy .i64 (N:Int)] h n fun v u w=>∃bt d bs,v=kS (some ⟨bt,0,none⟩)∧(∃ty,u bt=some (.row [jy .i64 (N:Int),jx (some ⟨d,0,none⟩) (N*N) (N*N),jx (some ⟨bs,0,none⟩) N N] ty))∧OZ u w d (tabL N (tT N a))∧OR 4 ratP u w bs ((AC N).map (tS N a))∧bt<3*w∧d≠bs∧d≠bt∧bs≠bt∧3*n≤bt∧3*n≤d:=by
 have G:=sq9 hN.2;have ff:b<3*n:=by
  obtain ⟨f2,s,_⟩:=hq;exact s.below
 refine zu (fn:=Tryz.f202) R4 ?_;refine zG ?_;refine sT #[jy .i64 (N:Int),jx none 0 0,jx none 0 0] ?_;refine sB [jy .i64 (N:Int),jx none 0 0,jx none 0 0] ?_;intro h1 p1 x1;refine sA ?_;intro h2 p2 x2;refine sS [kS (some ⟨3*n+2,0,none⟩)] ?_;intro h3 p3 o3;refine zG ?_;refine sC (zqw _ _ _ (c:=N) ⟨_,_,_,rfl⟩ ⟨zo,zo⟩) ?_;rintro _ h4 n4 ⟨rfl,rfl,⟨e1,q1⟩,e2,q2⟩ y4 x4;refine zG ?_;refine lJ rfl rfl ?_;intro bm dp bc xB;have q3:=(xB (3*n+2) zo).trans ((x4 (3*n+2) zo).trans ((o3.1 (3*n+2) zo).trans ((x2 (3*n+2) zo).trans p1)));have q5:=(xB (3*(n+1)+2) zo).trans ((x4 (3*(n+1)+2) zo).trans p3);have xh:Ext n h bm:=(zx:Tx n h (n+1+1+2) bm).2;obtain ⟨y,e8⟩:∃y,y=n+1+1+2+2:=⟨_,rfl⟩;obtain ⟨l,hl⟩:∃l,l=3*(n+1+1+2+1)+2:=⟨_,rfl⟩;rw [←hl] at bc;rw [←e8,←hl];have U:∀c,c<3*y→c≠3*n+2→c≠l→¬(c=3*n+2∨c=l∨3*y≤c):=fun c h1 h2 h3 h=>zo
 refine yg (zgw (k+11) (I:=NT N a y (3*n+2) l (bm l)) (W:=fun c=>c=3*n+2∨c=l∨3*y≤c) (K:=N) (c:=N) zo ((xB _ zo).trans q1) ((xB _ zo).trans q2) ⟨zo,U _ zo zo zo⟩ ⟨zo,U _ zo zo zo⟩ zo d6 zo e7 ⟨rfl,_,_,_,q3,GR.nil.as (by unfold zsN;rw [BE];rfl),GR.nil,fun b ⟨_,_,_,h⟩=>by cases h⟩ ?_) ?_
 ·intro s hr A hs fh cq ⟨ct,vE,vS,c6,qT,gE,gS,dj⟩;refine lI (ct.trans bc) rfl rfl ?_;refine zG ?_;refine ⟨trivial,trivial,fun S L1=>?_⟩;have xr:Ext n h S:=fun c hc=>(L1.1 c zo).trans ((cq c zo (U c zo zo zo)).trans (xh c hc));have fv:=(L1.1 (3*n+2) zo).trans qT;have ev:=(L1.1 (3*(n+1)+2) zo).trans ((cq _ zo (U _ zo zo zo)).trans q5);have cd:Tr A hr A S:=Tr.l L1 (Tr.refl _ _);have bf:=gE.go intP.kp cd (fun b hb=>L1.1 b (by have:=(gE.bk b hb).1;omega));have bg:=gS.go ratP.kp cd (fun b hb=>L1.1 b (by have:=(gS.bk b hb).1;omega));obtain ⟨aE,rfl⟩:=bf.shape wZ;obtain ⟨aS,rfl⟩:=bg.shape (L:=s) (by rw [oo,Aj]);have da:=bz hs;have c3:QS h n (jx (some ⟨b,off+s*N*4,none⟩) N N) (rowQ N a s):=(cI hs)▸hq.sub da (AK N);have fi:gP (rowQ N a s)=N:=by unfold rowQ;rw [oo,Aj]
  have bu:∀j,j<N→(nfi N a s j).natAbs<BW:=fun j hj=>Ae (jn (hd s · hs) hD (hB s · hs) hj) bn;have d7:∀j,j≤N→((gcF (nfi N a s) j:Nat):Int).natAbs<BW:=fun j hj=>by
   rw [sa];exact Ae (zk7 fun i hi=>jn (hd s · hs) hD (hB s · hs) (show i<N by omega)) bn
  have co:(cci N a s:Int).natAbs<BW:=by
   rw [sa];exact Ae (zlq (hd s · hs) hD (hB s · hs) e5) bn
  have bo:(cci N a s:Int)≠0:=by have:=mW (f:=nfi N a s) (m:=N);unfold cci;omega
  have cp:((deni N a s:Nat):Int).natAbs<BW:=by
   rw [sa];exact Ae (zgf (hd s · hs) hD) cn
  refine zG ?_;refine sC (zn0 _ (g.x zx) (c3.x zx) hD cn (fun q e9=>by
   obtain ⟨j,hj,rfl⟩:=Ay.1 e9;exact hd s j hs (Cf.1 hj)) zo) ?_
  rintro _ h5 o ⟨b5,a5,l5,c5,rfl,i5⟩ y5 x5;have i5:IW h5 o b5 a5 l5 c5 ((deni N a s:Nat):Int):=i5;refine sA ?_;intro h6 p6 x6;refine sSn (n0:=A) [kz b5,jx a5 l5 c5] ?_;intro h7 p7 o7;refine Zh ?_;intro h8 p8 x8;refine zG ?_;have e3:=bf.go intP.kp (zt:Tr A S (o+1+1) h8) (fun b hb=>by
   have h1:=bf.bk b hb;have e0:S b=S b:=rfl;exact zp)
  have e4:=bg.go ratP.kp (zt:Tr A S (o+1+1) h8) (fun b hb=>by
   have h1:=bg.bk b hb;have e0:S b=S b:=rfl;exact zp)
  refine sF (α:=Nat×Value×Bool×Option Addr×Nat×Nat) (fun z=>[(5,kS (some ⟨3*(n+1)+2,0,none⟩)),(6,jx (some ⟨b,off+s*N*4,none⟩) N N),(7,kS (some ⟨3*o+2,0,none⟩)),(8,jy .i64 ((s*N:Nat):Int)),(9,kS (some ⟨3*(o+1)+2,0,none⟩)),(29,jx (some ⟨b,off+s*N*4,none⟩) N N),(30,jy .i64 (N:Int)),(31,jy .i64 (z.1:Int))])
   (fun z u w w'=>o+1+1≤w∧ExtB y [3*n+2] S u∧Tr (o+1+1) h8 w u∧u (3*n+2)=some (.row [jy .i64 (N:Int),z.2.1,jx aS s s] c6)∧u (3*o+2)=some (.row [kz b5,jx a5 l5 c5] 137)∧u (3*(o+1)+2)=some (.row [kz z.2.2.1,jx z.2.2.2.1 z.2.2.2.2.1 z.2.2.2.2.2] 137)∧GR 2 intP y u w 137 z.2.1 (preL N a s z.1)∧GR 4 ratP y u w 139 (jx aS s s) ((AC s).map (tS N a))∧IW u w z.2.2.1 z.2.2.2.1 z.2.2.2.2.1 z.2.2.2.2.2 ((gcF (nfi N a s) z.1:Nat):Int)∧(∀b,BkOf z.2.1 b→¬BkOf (jx aS s s) b)∧z.1≤N∧(∀c∈w',c=3*n+2∨c=l∨3*y≤c)∧l∈w')
   (fun z=>N-z.1) (0,jx aE (s*N) (s*N),false,none,0,0) ⟨eT,fun c hc hn=>(zy:ExtB A [3*n+2] S h8) c zo hn,Tr.refl _ _,zp,zp,p8,e3.as zd4.symm,e4,IW.zero _ _,dj,eU,fun c hc=>.inr (.inl (nP.1 hc)),nP.2 rfl⟩ ?_
  rintro ⟨j,v,bC,aC,lC,kC⟩ t G Z w9 ⟨y9,Y9,T9,q9,ch,ci,V,gT,iC,ai,hj,b3,b2⟩;have y9:o+1+1≤Z:=y9;have T9:Tr (o+1+1) h8 Z G:=T9;have q9:G (3*n+2)=some (.row [jy .i64 (N:Int),v,jx aS s s] c6):=q9;have ci:G (3*(o+1)+2)=some (.row [kz bC,jx aC lC kC] 137):=ci;have V:GR 2 intP y G Z 137 v (preL N a s j):=V;have iC:IW G Z bC aC lC kC ((gcF (nfi N a s) j:Nat):Int):=iC;have hj:j≤N:=hj;have ai:∀b,BkOf v b→¬BkOf (jx aS s s) b:=ai;have b3:∀c∈w9,c=3*n+2∨c=l∨3*y≤c:=b3;have b2:l∈w9:=b2;have i9:IW G Z b5 a5 l5 c5 ((deni N a s:Nat):Int):=(i5.x zx:IW h8 (o+1+1) b5 a5 l5 c5 _).t T9;obtain ⟨aV,rfl⟩:=V.shape oR;refine zG ?_;by_cases qj:(j:Int)<(N:Int)
  ·have a7:j<N:=zo;refine zG ?_;obtain ⟨kk,fl,dm,dk,l10,dq,dv,dw,dx,dy,e,en,ew,ex,ed,ej⟩:=QS.at c3 (q:=a s j) (j:=j) (by unfold rowQ;rw [sr,AL a7];rfl);refine sI e ew ?_;refine sL ex en 0 ?_;refine sA ?_;intro ay fq cx;refine sSn (n0:=A) [kz dm,jx dk l10 dq,kz dv,jx dw dx dy] ?_;intro H fr fm;refine zG ?_;refine sC (zme _ (ed.x zx) (ej.x zx) (i9.t zt) (ud (hz s j hs a7).1 hm) (ud (hz s j hs a7).z hm) cp) ?_;rintro _ p M ⟨ag,af,ak,ah,rfl,a9⟩ c8 fy;have a9:IW p M ag af ak ah (nfi N a s j):=a9;refine sA ?_;intro bl fs f1;refine sSn (n0:=A) [kz ag,jx af ak ah] ?_;intro a4 c1 fo;refine zG ?_;refine sC (gcdX _ (g.x zx) (iC.t zt) (a9.t zt) (d7 j hj) (bu j a7)) ?_;rintro _ cl al ⟨ap,ao,b4,aq,rfl,ef⟩ g5 fz;refine sSn (n0:=A) [kz ap,jx ao b4 aq] ?_;intro az cw ac;refine zG ?_;refine zm [0,0,2,6,14,0,32,126,255,511,1023] rfl ?_;refine zH ?_;refine dMs [kz ag,jx af ak ah] ?_;intro Y er g1;have b1:∀c,c<3*Z→c≠3*(o+1)+2→Y c=G c:=fun c hc hn=>by
    have e0:G c=G c:=rfl;exact zp
   have b9:Tr Z G (al+1) Y:=zt;have d3:=V.go intP.kp b9 (fun b hb=>b1 b (V.bk b hb).2.1 (pS (V.bk b hb).2.2.1));have am:=gT.go ratP.kp b9 (fun b hb=>b1 b (gT.bk b hb).2.1 (pS (gT.bk b hb).2.2.1));have eg:IW Y (al+1) ag af ak ah (nfi N a s j):=a9.t zt;have eh:IW Y (al+1) ap ao b4 aq _:=ef.t zt;have du:Y (3*(o+1)+2)=some (.row [kz ap,jx ao b4 aq] 137):=zp;refine dGA (n0:=A) [kz ag,jx af ak ah] d3 intP.kp ⟨_,_,_,_,rfl,eg⟩ (yH er R2) (by rw [oR];omega) zo (fun W U=>by (repeat (first|rfl|(refine zps rfl ?_)|(refine zkw zo U ?_)))) ?_;intro v' fe f6 d5 ck di dd b8 ca;obtain ⟨aW,rfl⟩:=ck.shape (L:=s*N+j+1) (by rw [nn,oR];rfl);refine zH ?_;refine dSx (n0:=A) [jy .i64 (N:Int),jx aW (s*N+j+1) (s*N+j+1),jx aS s s] ((dd.e _ zo).trans ((b1 _ zo zo).trans q9)) ?_;intro cm es ad;refine zG ?_;have nb:∀k,¬BkOf (jx aV (s*N+j) (s*N+j)) (3*k+2):=fun k hb=>pS (V.bk _ hb).2.2.1 rfl;have br:∀c,c<3*Z→c≠3*(o+1)+2→c≠3*n+2→¬BkOf (jx aV (s*N+j) (s*N+j)) c→cm c=G c:=fun c hc h1 h2 h3=>(ad.1 c h2).trans ((b8 c zo h3).trans (b1 c hc h1));have ba:Tr (al+1) Y (al+1+1) cm:=di.trans (Tr.s ad (Tr.refl _ _));exact sK (j+1,jx aW (s*N+j+1) (s*N+j+1),ap,ao,b4,aq) ⟨zo,fun c hc hn=>(by
    have hn:c≠3*n+2:=fun e=>hn (nP.2 e);exact (br c zo zo hn (fun hb=>by have:=(V.bk c hb).1;omega)).trans (Y9 c hc (fun e=>hn (nP.1 e)))),T9.trans (b9.trans ba),es,(br _ zo zo zo (nb _)).trans ch,(ad.1 _ zo).trans ((b8 _ zo (nb _)).trans du),(ck.go intP.kp (Tr.s ad (Tr.refl _ _)) (fun b hb=>ad.1 b (by have:=ca b hb;omega))).as zd5,am.go ratP.kp ba (fun b hb=>(ad.1 b (by have:=(am.bk b hb).1;omega)).trans (b8 b (am.bk b hb).2.1 (fun hv=>ai b hv hb))),(eh.t ba).as (by show _=((sN _ _:Nat):Int);rw [sa]),fun b hb hs=>(by have:=ca b hb;have:=(gT.bk b hs).2.1;omega),(by show j+1≤N;omega),wF (fun c hc=>.inl (nP.1 hc)) (wF (fun c hc=>.inr (.inr (d5 c hc))) b3),wm _ _ _ (wm _ _ _ b2)⟩
  have a7:N=j:=zo;subst a7;refine zG ?_;refine sC (yU _ iC) ?_;rintro _ ay b6 ⟨f8,rfl,cz⟩ g3 cx;refine zG ?_;refine lQ [(5,kS (some ⟨3*(n+1)+2,0,none⟩)),(7,kS (some ⟨3*o+2,0,none⟩)),(8,jy .i64 ((s*N:Nat):Int)),(9,kS (some ⟨3*(o+1)+2,0,none⟩))] (fun u w w'=>b6≤w∧Tr b6 ay w u∧(∀c,c<3*b6→c≠3*(o+1)+2→u c=ay c)∧(∃b a' l c,u (3*(o+1)+2)=some (.row [kz b,jx a' l c] 137)∧IW u w b a' l c (cci N a s:Int))∧w'=w9) ?_ ?_
  ·rcases bvs cz with ⟨rfl,c2⟩|⟨rfl,c2⟩
   ·refine zG ?_;exact vv ⟨rfl,rfl,rfl,rfl,eP⟩ ⟨eT,Tr.refl _ _,fun _ _ _=>rfl,⟨_,_,_,_,zp,(iC.x zx).as (by unfold cci ccF;rw [cC (fun e=>c2 (by rw [e];rfl))])⟩,rfl⟩
   refine zG ?_;refine sC (zef _ _ _) ?_;rintro _ H F ⟨dn,dl,el,dr,rfl,bw⟩ cy f0;refine sSn (n0:=A) [kz dn,jx dl el dr] ?_;intro p eq O;refine zG ?_;exact vv ⟨rfl,rfl,rfl,rfl,eP⟩ ⟨cy,zt,fun c hc hn=>(O.1 c hn).trans (f0 c hc),⟨_,_,_,_,eq,(bw.t zt).as (by unfold cci ccF;rw [eN (Int.ofNat.inj c2)];rfl)⟩,rfl⟩
  intro t H F fw ⟨cy,dg,d8,⟨f9,f7,fk,fj,dt,ei⟩,d0⟩;subst d0;have bb:Tr Z G F H:=(zt:Tr Z G b6 ay).trans dg;have P:∀c,c<3*Z→c≠3*(o+1)+2→H c=G c:=fun c hc hn=>(d8 c zo hn).trans (cx c hc);have d2:=V.go intP.kp bb (fun b hb=>P b (V.bk b hb).2.1 (pS (V.bk b hb).2.2.1));have bh:=gT.go ratP.kp bb (fun b hb=>P b (gT.bk b hb).2.1 (pS (gT.bk b hb).2.2.1));obtain ⟨d,bd,ax,bj,oE,ez⟩:=d2.or oR zo;injection bd with bd
  subst bd;have et:=(P (3*n+2) zo zo).trans q9;have db:=(P (3*(n+1)+2) zo zo).trans ((Y9 (3*(n+1)+2) zo (fun e=>by have:=nP.1 e;omega)).trans ev);have ds:=(P (3*o+2) zo zo).trans ch;have bw:IW H F b5 a5 l5 c5 ((deni N a s:Nat):Int):=i9.t bb;have f3:d<3*F:=oE.1;refine zG ?_;refine un (s*N) R9 zo eT (.inl zo) ?_;rw [cC (show ¬s*N+N=s*N by omega),Bi];refine zG ?_;refine sF (α:=Nat) (fun z=>[(5,kS (some ⟨3*(n+1)+2,0,none⟩)),(7,kS (some ⟨3*o+2,0,none⟩)),(8,jy .i64 ((s*N:Nat):Int)),(9,kS (some ⟨3*(o+1)+2,0,none⟩)),(60,jx (some ⟨d,0+s*N*2,none⟩) N N),(61,jy .i64 (N:Int)),(62,jy .i64 (z:Int))])
   (fun z u w w'=>F≤w∧(∀c,c<3*F→c≠d→u c=H c)∧Tr F H w u∧OR 2 intP u w d (midL N a s z)∧Ty1 u d 137∧z≤N∧(∀c∈w',c=3*n+2∨c=l∨3*y≤c)∧l∈w') (fun z=>N-z) 0 ⟨eT,fun _ _ _=>rfl,Tr.refl _ _,oE.as zik,ez,eU,b3,b2⟩ ?_
  rintro R t p M fx ⟨c8,J,a0,O,c4,cr,bv,d9⟩;have c8:F≤M:=c8;have cr:R≤N:=cr;have J:∀c,c<3*F→c≠d→p c=H c:=J;have a0:Tr F H M p:=a0;have O:OR 2 intP p M d (midL N a s R):=O;have fb:=(J (3*(o+1)+2) zo (DN (pS ax))).trans dt;have fa:=(J (3*o+2) zo (DN (pS ax))).trans ds;have eu:=(J (3*n+2) zo zo).trans et;have f4:=(J (3*(n+1)+2) zo zo).trans db;have cu:=ei.t a0;have a9:=bw.t a0;refine zG ?_;by_cases qk:(R:Int)<(N:Int)
  ·have a8:R<N:=zo;have an:=O.1;obtain ⟨cc,⟨a2,a1,aa,a3,rfl,aj⟩,_,ey⟩:=O.get (ziv a8) (off:=0+s*N*2+R*2) (by rw [AH];omega);refine zG ?_;refine sI rfl a8 ?_;refine sL ey an 0 ?_;refine sA ?_;intro a4 c1 c7;refine zG ?_;refine sSn (n0:=A) [kz a2,jx a1 aa a3] ?_;intro cl ft fp;refine zG ?_;refine zm [0,1,3,7,0,0,48,0,0,384,1023,2047] rfl ?_;refine zH ?_;refine dC (quoX _ (aj.t zt) (cu.t zt) (bu R a8) co bo) ?_;rintro _ az eo ⟨cf,ce,cv,cg,rfl,bx⟩ g6 g0;have bx:IW az eo cf ce cv cg (tT N a s R):=bx;refine zH ?_;refine dI (j:=s*N+R) rfl (show s*N+R<s*N+N by omega) ?_;refine dZ (n0:=A) (j:=s*N+R) [kz cf,jx ce cv cg] (O.xx intP.kp zx) intP.kp (by rw [bT];omega) (AA _) ⟨_,_,_,_,rfl,bx⟩ ?_;intro Y ep df dc;refine zG ?_;exact sK (R+1) ⟨zo,fun c hc hn=>(df.1 c hn).trans (by
    refine Eq.trans ?_ (J c hc hn);have e0:p c=p c:=rfl;exact zp),a0.trans zt,ep.as (ziu a8),dc _ (by
    obtain ⟨C,hC⟩:=c4;exact ⟨C,zp⟩),(by show R+1≤N;omega),wF (fun c hc=>.inr (.inr (by rw [nP.1 hc];exact bj))) bv,wm _ _ _ d9⟩
  have a8:N=R:=zo;have bi:=bh.go ratP.kp a0 (fun b hb=>J b (bh.bk b hb).2.1 (fun e=>ai b (by subst e;exact ⟨_,_,_,rfl⟩) hb));refine zG ?_;refine zm [0,0,2,6,14,0,0,96,224,510,1023,2047,4095] rfl ?_;refine zH ?_;have bp:∀c,c<3*y→c≠3*n+2→p c=S c:=fun c hc hn=>(J c zo zo).trans ((P c zo zo).trans (Y9 c hc (fun e=>hn (nP.1 e))));have dz:GG p M:=g.ext (fun c hc=>(bp c zo zo).trans (xr c hc)) zo;refine dC (gt _ dz (a9.t zt) (cu.t zt) cp co bo) ?_;rintro _ bl ab ⟨a2,a1,aa,a3,ar,au,av,aw,rfl,aj,c0⟩ g4 f1;have aj:IW bl ab a2 a1 aa a3 (tS N a s).num:=aj;have c0:IW bl ab ar au av aw (denZ (tS N a s)):=c0;refine zH ?_;refine dMs [kz a2,jx a1 aa a3,kz ar,jx au av aw] ?_;intro a4 c1 c7;have ae:∀c,c<3*M→a4 c=p c:=fun c hc=>by
   have e0:p c=p c:=rfl;exact zp
  have cb:Tr M p (ab+1) a4:=zt;have ee:IW a4 (ab+1) a2 a1 aa a3 (tS N a s).num:=aj.ext c7 zs;have ek:IW a4 (ab+1) ar au av aw (denZ (tS N a s)):=c0.ext c7 zs;have d1:=bi.go ratP.kp cb (fun b hb=>ae b (bi.bk b hb).2.1);refine dGA (n0:=A) (q:=tS N a s) [kz a2,jx a1 aa a3,kz ar,jx au av aw] d1 ratP.kp ⟨_,_,_,_,_,_,_,_,rfl,ee,ek⟩ (yH c1 R2) (by rw [oo,Aj];omega) zo (fun W U=>by (repeat (first|rfl|(refine zps rfl ?_)|(refine zkw zo U ?_)))) ?_;intro v' cl f5 d4 cj dh c9 de b7;obtain ⟨aT,rfl⟩:=cj.shape (L:=s+1) (by rw [nn,oo,Aj];rfl);refine zH ?_;refine dSx (n0:=A) [jy .i64 (N:Int),jx (some ⟨d,0,none⟩) (s*N+N) (s*N+N),jx aT (s+1) (s+1)] ((c9.e _ zo).trans ((ae _ zo).trans eu)) ?_;intro az cw ac;refine zG ?_;have nS:¬BkOf (jx aS s s) d:=ai d ⟨_,_,_,rfl⟩;have an:=O.1;have bq:∀c,c<3*y→c≠3*n+2→az c=S c:=fun c hc hn=>(ac.1 c hn).trans ((c9.e c hc).trans ((ae c zo).trans (bp c hc hn)));refine ⟨trivial,bq l zo zo,fun hZ e2 L2=>⟨⟨e2.trans ct,_,_,_,(L2.1 _ zo).trans cw,?_,?_,?_⟩,zo,fun c hc hn=>?_,fun c hc=>?_,As ..⟩⟩
  ·have T:Tr M p (ab+1+1) hZ:=Tr.l L2 (Tr.s ac (cb.trans dh));obtain ⟨C,hC⟩:=c4;have eb:hZ d=p d:=(L2.1 d zo).trans ((ac.1 d zo).trans ((de d zo nS).trans (ae d an)));exact ((O.go intP.kp T eb).gr intP.kp ⟨C,eb.trans hC⟩ ax bj bT).as (by rw [←a8,ziw])
  ·exact (cj.go ratP.kp (Tr.l L2 (Tr.s ac (Tr.refl _ _))) (fun b hb=>(L2.1 b (by have:=b7 b hb;omega)).trans (ac.1 b (by have:=b7 b hb;omega)))).as (by rw [Gf,Bl];rfl)
  ·rintro b ⟨_,_,_,e⟩ hb;injection e with e
   injection e with e
   injection e with e _ _
   subst e;have:=b7 d hb;omega
  ·have h1:c≠l:=fun e=>hn (.inr (.inl e));have h2:c≠3*n+2:=fun e=>hn (.inl e);have h3:c<3*y:=Nat.lt_of_not_le fun h=>hn (.inr (.inr h));exact (L2.1 c h1).trans ((bq c h3 h2).trans (L1.1 c h1))
  rcases sP.1 hc with rfl|hc
  ·exact .inl (.inr (.inl rfl))
  exact .inl (wF (fun c hc=>.inl (nP.1 hc)) (wF (fun c hc=>.inr (.inr (d4 c hc))) bv) c hc)
 rintro _ u w w' ⟨⟨cs,vE,vS,c6,qT,gE,gS,dj⟩,fg,b0,ea⟩;refine ⟨cs,b0 _ zo (U _ zo zo zo),fun h2 a6=>?_⟩;have fu:=(a6 (3*(n+1)+2) zo zo).trans ((b0 _ zo (U _ zo zo zo)).trans q5);have g2:Ext n h h2:=fun c hc=>(a6 c zo zo).trans ((b0 c zo (U c zo zo zo)).trans (xh c hc));have ec:addW n w' []=[]:=z0 fun c hc=>by
  rcases (ea c hc).1 with h|h|h<;>omega
 have T2:Tr w u w h2:=⟨eT,fun c _=>by
  by_cases h1:c=l
  ·subst h1;exact .inr ⟨_,cs.trans bc,.inr rfl⟩
  ·by_cases h2:c=3*(n+1+1+2)+2
   ·subst h2;exact .inr ⟨_,(b0 _ zo (U _ zo zo zo)).trans dp,.inr rfl⟩
   ·exact .inl (a6 c h1 h2)⟩
 obtain ⟨d,rfl,ax,bj,oE,_⟩:=gE.or wZ (show N*N≠0 from Nat.mul_ne_zero zo zo);obtain ⟨bs,rfl,fc,fd,oS,_⟩:=gS.or (L:=N) (by rw [oo,Aj]) zo;have e6:d≠bs:=fun e=>dj d ⟨_,_,_,rfl⟩ ⟨_,_,_,by rw [e]⟩;rw [vW,ec];refine Zt ?_;exact ⟨_,d,bs,rfl,⟨_,(a6 _ zo zo).trans qT⟩,oE.go intP.kp T2 (a6 _ zo zo),oS.go ratP.kp T2 (a6 _ zo zo),zo,e6,zo,zo,zo,zo⟩
end
end
structure EL (h:HF)(n b0 bt be bs:Nat)(N st:Nat)(T:Nat→Nat→Int)(s:Nat→Rat)(bf:Int)(vL vD:Value):Prop where
 e:∃sb ab lb cb ty,h b0=some (.row [jy .i64 (N:Int),jy .i64 (st:Int),kS (some ⟨bt,0,none⟩),kz sb,jx ab lb cb,vL,vD] ty)∧IW h n sb ab lb cb bf
 t:∃ty,h bt=some (.row [jy .i64 (N:Int),jx (some ⟨be,0,none⟩) (N*N) (N*N),jx (some ⟨bs,0,none⟩) N N] ty)
 z:OZ h n be (tabL N T)
 s:OR 4 ratP h n bs ((AC N).map s)
 o:bt<b0∧b0<3*n∧be≠bs∧be≠bt∧be≠b0∧bs≠bt∧bs≠b0
 u:nu vL=true∧nu vD=true
theorem EL.ext {h h':HF}{n n' b0 bt be bs N st:Nat}{T:Nat→Nat→Int}{s:Nat→Rat}{bf:Int}{vL vD:Value}(E:EL h n b0 bt be bs N st T s bf vL vD)(x:Ext n h h')(a:n≤n'):EL h' n' b0 bt be bs N st T s bf vL vD:=by
 obtain ⟨⟨i,c,g,d,l,e,f⟩,⟨b,j⟩,z,s,o,u⟩:=E;exact ⟨⟨i,c,g,d,l,(x _ o.2.1).trans e,f.ext x a⟩,⟨b,(x _ zo).trans j⟩,z.ext intP.kp x a,s.ext ratP.kp x a,zo,u⟩
theorem EL.x {h h':HF}{n n' b0 bt be bs N st:Nat}{T:Nat→Nat→Int}{s:Nat→Rat}{bf:Int}{vL vD:Value}(E:EL h n b0 bt be bs N st T s bf vL vD)(t:Tx n h n' h'):EL h' n' b0 bt be bs N st T s bf vL vD:=E.ext t.2 t.1
theorem EL.at {h:HF}{n b0 bt be bs N st i:Nat}{T:Nat→Nat→Int}{s:Nat→Rat}{bf:Int}{vL vD:Value}(E:EL h n b0 bt be bs N st T s bf vL vD)(m:i<N):∃b a l c d e f g,At h bs (0+i*4) [kz b,jx a l c,kz d,jx e f g]∧IW h n b a l c (s i).num∧IW h n d e f g (denZ (s i)):=by
 obtain ⟨c,⟨b,a,l,k,d,e,f,g,rfl,o,p⟩,_,t⟩:=E.s.get (j:=i) (d:=s i) (by rw [sr,AL m];rfl) (AA (i*4));exact ⟨b,a,l,k,d,e,f,g,t,o,p⟩
section
variable {n bs N:Nat}{T:Nat→Nat→Int}{s:Nat→Rat}
theorem atX (k:Nat)(g:GG h n)(E:EL h n b0 bt be bs N st T s bf vL vD){i j:Nat}(hi:i<N)(hj:j<N)(C:N≤3)(D:(T i j).natAbs<BW)(f:bf.natAbs<BW)(m:bf≠0){a b:Nat}(P:Sz a (Av (T i j) bf))(R:Sz b (s i))(d:a+b≤64):CX (cal (k+12)) 164 [kS (some ⟨b0,0,none⟩),jy .i64 (i:Int),jy .i64 (j:Int)] h n (QV (Av (T i j) bf/s i)):=by
 obtain ⟨sb,ab,lb,cb,ty,hE,J⟩:=E.e;obtain ⟨W,c⟩:=E.t;obtain ⟨o1,o2,_⟩:=E.o;have l:=E.z.1;have p:=E.s.1;obtain ⟨b4,Z,l4,c4,S,G⟩:=E.z.el hi hj;obtain ⟨b5,a5,l5,c5,d5,e5,f5,g5,U,H,L⟩:=E.at hi;refine zu (fn:=Tryz.f164) R4 ?_;refine Zh ?_;intro h1 p1 V;refine zG ?_;refine zm [0,1,3,7,0,31,0,127,255,0,512,1536,3584,8191,0,16384,49152,114688,245760,507904,1032192,0,4177920,8372224,16777215,33554431] rfl ?_;refine zH ?_;refine dC (rowX _ ((V bt zo).trans c) hi C) ?_;rintro _ h2 n2 rfl y2 x2;refine zH ?_;refine dI rfl hj ?_;refine dL S l 0 ?_;refine zH ?_;refine dC (gt _ (g.x zx) (G.x zx) (J.x zx) D f m) ?_;rintro _ h3 n3 ⟨b3,Y,l3,c3,d3,e3,f3,g3,rfl,F,K⟩ y3 x3;refine zH ?_;refine dI rfl hi ?_;refine dL U p 0 ?_;refine dC (divQ _ (g.x zx) F K (H.x zx) (L.x zx) P R d) ?_;rintro _ h6 n6 ⟨u,q,O,v,w,y,A,B,rfl,I,M⟩ y6 x6;refine dS [kz u,jx q O v,kz w,jx y A B] ?_;intro h7 p7 o7;refine zq ?_;exact ⟨_,_,_,_,_,_,_,_,rfl,I.t zt,M.t zt⟩
theorem zim (k:Nat)(E:EL h n b0 bt be bs N st T s bf vL vD)(d:st<N)(B:N≤3):VF (cal (k+2)) 165 [kS (some ⟨b0,0,none⟩)] h n fun v=>(∃i:Nat,st<i∧i<N∧T i st≠0∧v=.tuple #[jy .i64 (i:Int),kz true])∨((∀i,st<i→i<N→T i st=0)∧v=.tuple #[jy .i64 0,kz false]):=by
 obtain ⟨sb,M,W,S,ty,U,V⟩:=E.e;obtain ⟨K,m⟩:=E.t;obtain ⟨Z,o2,_⟩:=E.o;have p:=E.z.1;refine zI (fn:=Tryz.f165) R4 ?_;refine zG ?_;refine sF (α:=Nat) (fun z=>[(0,kS (some ⟨b0,0,none⟩)),(2,jy .i64 0),(3,kz false),(4,jy .i64 (z:Int))]) (fun z A D H=>H=[]∧n≤D∧Ext n h A∧st+1≤z∧z≤N∧∀a,st<a→a<z→T a st=0) (fun z=>N-z) (st+1) ⟨rfl,eT,Ext.refl _ _,eT,d,fun a h1 h2=>zo⟩ ?_;rintro i t h1 F _ ⟨rfl,y,w,b,f,u⟩;have f:i≤N:=f;have b:st+1≤i:=b;have y:n≤F:=y;refine zG ?_;by_cases q:(i:Int)<(N:Int)
 ·have hi:i<N:=zo;obtain ⟨P,L,l4,R,G,C⟩:=E.z.el hi d;refine zG ?_;refine zm [0,1,3,7,0,31,0,64,192,448,1023,2047,4095,8191] rfl ?_;refine zH ?_;refine dC (rowX _ ((w bt zo).trans m) hi B) ?_;rintro _ h2 Y rfl y2 I;refine zH ?_;refine dI rfl d ?_;refine dL G p 0 ?_;refine dC (yU _ (C.x zx)) ?_;rintro _ g n3 ⟨O,rfl,l⟩ y3 J;rcases bvs l with ⟨rfl,j⟩|⟨rfl,j⟩
  ·refine zH ?_;refine zf ?_;exact .inl ⟨i,b,hi,j,rfl⟩
  refine zH ?_;refine zG ?_;exact sK (i+1) ⟨rfl,zo,fun c hc=>(J c zo).trans ((I c zo).trans (w c hc)),zo,by show i+1≤N;omega,fun a h1 h2=>by
   have h2:a<i+1:=h2;rcases Ci a i with g|g
   ·exact u a h1 g
   ·rw [show a=i by omega];exact j⟩
 refine zf ?_;exact .inr ⟨fun a h1 h2=>u a h1 zo,rfl⟩
end
def advU (T:Nat→Nat→Int)(p:Nat)(bf:Int)(i:Nat):Nat→Nat→Int:=fun a b=>if p<a∧a<i then (T p p*T a b-T a p*T p b).tdiv bf else T a b
theorem zct {T:Nat→Nat→Int}{p:Nat}{bf:Int}:advU T p bf (p+1)=T:=by
 funext a b;unfold advU;rw [cC zo]
theorem vZ {T:Nat→Nat→Int}{p i a b:Nat}{bf:Int}(h:a≤p∨i≤a):advU T p bf i a b=T a b:=by
 unfold advU;rw [cC zo]
theorem zhf {N:Nat}{T:Nat→Nat→Int}{p i:Nat}{bf:Int}(e:p<i):tabL N (rowU (advU T p bf i) i p bf N)=tabL N (advU T p bf (i+1)):=by
 refine ul fun a b f d=>?_;unfold rowU;rw [vZ (a:=p) (.inl eT),vZ (a:=i) (.inr eT),vZ (a:=i) (.inr eT),vZ (a:=p) (.inl eT)];by_cases h:a=i
 ·subst h;rw [eN ⟨rfl,d⟩];unfold advU;rw [eN ⟨e,Dt _⟩]
 rw [cC (fun c=>h c.1)];unfold advU;by_cases c:p<a∧a<i
 ·rw [eN c,eN zo]
 rw [cC c,cC zo]
theorem zj4 {N:Nat}{T:Nat→Nat→Int}{p:Nat}{bf:Int}:tabL N (advU T p bf N)=tabL N (yG T p bf):=by
 refine ul fun a b d e=>?_;unfold advU yG;by_cases h:p<a
 ·rw [eN ⟨h,d⟩,eN h]
 rw [cC (fun c=>h c.1),cC h]
theorem zj5 {N:Nat}{T:Nat→Nat→Int}{p i:Nat}{bf:Int}(e:∀a c,a<N→c<N→(T a c).natAbs<BW)(f:∀i j,p<i→i<N→j<N→(T p p*T i j-T i p*T p j).natAbs<BW):∀a c,a<N→c<N→(advU T p bf i a c).natAbs<BW:=by
 intro a c b d;unfold advU;split
 ·rename_i h;exact vj (f a c h.1 b d)
 exact e a c b d
section
variable {n bs N p:Nat}{T:Nat→Nat→Int}{s:Nat→Rat}
theorem kT (k:Nat)(E:EL h n b0 bt be bs N p T s bf vL vD)(y:p<N)(V:N≤3)(Z:bf≠0)(Y:bf.natAbs<BW)(hb:∀a c,a<N→c<N→(T a c).natAbs<BW)(hx:∀i j,p<i→i<N→j<N→(T p p*T i j-T i p*T p j).natAbs<BW):
  CF (cal (k+10)) 170 [kS (some ⟨b0,0,none⟩)] h n fun _ d g w=>n≤g∧ExtB n [be,b0] h d∧Tr n h g d∧EL d g b0 bt be bs N (p+1) (yG T p bf) s (T p p) vL vD∧(∀c∈w,c=be∨c=b0):=by
 obtain ⟨sb,ab,lb,cb,ty,hE,ib⟩:=E.e;obtain ⟨a8,W⟩:=E.t;obtain ⟨o1,o2,o3,o4,o5,o6,o7⟩:=E.o;have a7:=E.z.1;have a0:=E.s.1;refine oI (fn:=Tryz.f170) R4 ?_;refine zG ?_;refine sF (α:=Nat) (fun z=>[(0,kS (some ⟨b0,0,none⟩)),(2,jy .i64 (p:Int)),(3,jy .i64 (z:Int))]) (fun z d g w'=>n≤g∧ExtB n [be] h d∧Tr n h g d∧OZ d g be (tabL N (advU T p bf z))∧p+1≤z∧z≤N∧∀c∈w',c=be) (fun z=>N-z) (p+1) ⟨eT,ExtB.refl _ _ _,Tr.refl _ _,E.z.as (by rw [zct]),eT,y,fun c hc=>cA hc nN⟩ ?_;rintro i t h1 l w1 ⟨y1,A,v,z1,m,H,J⟩;have H:i≤N:=H;have m:p+1≤i:=m;have y1:n≤l:=y1;have z1:OZ h1 l be (tabL N (advU T p bf i)):=z1;have v:Tr n h l h1:=v;have e1:h1 b0=_:=(A b0 o2 (by simp [DN o5])).trans hE;have M:h1 bt=_:=(A bt zo (by simp [DN o4])).trans W;have a3:=ib.t v;refine zG ?_;by_cases q:(i:Int)<(N:Int)
 ·have hi:i<N:=zo;refine zG ?_;refine zm [0,1,3,7,0,0,0,0,128,384,896,2047] rfl ?_;refine zH ?_;have hc:=zjz k M ⟨zo,DN o4⟩ z1 a3 Z Y hi y zo V (zj5 hb hx) (fun j hj=>by
   rw [vZ (a:=p) (.inl eT),vZ (a:=i) (.inr eT),vZ (a:=i) (.inr eT),vZ (a:=p) (.inl eT)];exact hx i j m hi hj)
  refine yM _ R7 hc ?_;rintro _ h2 G w2 ⟨O,B,z2,a2⟩;refine ⟨rfl,O,?_⟩;rw [uC];refine zG ?_;have z3:OZ h2 G be (tabL N (advU T p bf (i+1))):=z2.as (zhf m);obtain ⟨C,e3,q3,q4⟩:=z1.2;have T2:Tr l h1 G h2:=⟨O,fun c hc=>by
   by_cases b:c=be
   ·subst b;exact .inr (.row q3 q4.1)
   ·exact .inl (B c hc (by simp [b]))⟩
  exact sK (i+1) ⟨zo,fun c hc b=>(B c zo b).trans (A c hc b),v.trans T2,z3,zo,by show i+1≤N;omega,fun c hc=>by
   rcases xX _ _ c hc with ⟨f,_⟩|f
   ·exact a2 c f
   ·exact J c f⟩
 have a1:i=N:=zo;subst a1;have z2:OZ h1 l be (tabL i (yG T p bf)):=z1.as zj4;refine zG ?_;refine sC (rowX _ M y V) ?_;rintro _ h2 G rfl O B;obtain ⟨R,P,l4,S,t4,i4⟩:=z2.el y y;rw [show yG T p bf p p=T p p from mV eT] at i4;refine zG ?_;refine sI rfl y ?_;refine sL t4 z2.1 0 ?_;refine zG ?_;refine sSx [jy .i64 (i:Int),jy .i64 (p:Int),kS (some ⟨bt,0,none⟩),kz R,jx P l4 S,vL,vD] ((B b0 zo).trans e1) ?_ (hu:=(by simp only [EP,List.all_nil,E.u.1,E.u.2,FS];rfl));intro h5 p5 a5;refine zG ?_;refine sSx [jy .i64 (i:Int),jy .i64 ((p+1:Nat):Int),kS (some ⟨bt,0,none⟩),kz R,jx P l4 S,vL,vD] p5 ?_ (hu:=(by simp only [EP,List.all_nil,E.u.1,E.u.2,FS];rfl));intro U p6 a6;refine zG ?_;have F:∀c,c<3*l→c≠b0→U c=h1 c:=fun c hc hn=>(a6.1 c hn).trans ((a5.1 c hn).trans (B c hc));have I:b0∈addW n [b0] (addW n [b0] w1):=wG o2 gN;have D:Tr l h1 G U:=zt;refine ⟨rfl,[],rfl,⟨zo,fun c hc b=>?_,v.trans D,⟨⟨_,_,_,_,_,p6,i4.t D⟩,⟨_,(F bt zo zo).trans M⟩,z2.go intP.kp D (F be z2.1 o5),E.s.go ratP.kp (v.trans D) ((F bs zo o7).trans (A bs a0 (by simp [DN o3]))),zo,E.u⟩,fun c hc=>?_⟩,fun L=>by have L:addW n [b0] (addW n [b0] w1)=[]:=L;rw [L] at I;cases I⟩
 ·simp only [sP,nN,or_false,not_or] at b;exact (F c zo b.2).trans (A c hc (by simp [b.1]))
 rcases xX _ _ c hc with ⟨f,_⟩|f
 ·exact .inr (nP.1 f)
 rcases xX _ _ c f with ⟨K,_⟩|K
 ·exact .inr (nP.1 K)
 exact .inl (J c K)
end
section
variable {B b:Nat}
theorem vk {x y:Int}(l:0<y)(g:x.natAbs<2^m)(d:y.natAbs<2^m):Sz m (Av x y):=by
 obtain ⟨e,f⟩:=mD (x:=x) l;refine ⟨?_,?_⟩
 ·rw [e];exact vj g
 have c:=vj (y:=((sN x.natAbs y.natAbs:Nat):Int)) d;rw [←f,sa] at c;exact c
theorem tK {x:Nat}{a:Nat}(h:x<2^a)(c:a≤b):x<2^b:=tv h (Ac zd c)
theorem pk {x y:Nat}{a c:Nat}(e:x<2^a)(f:y<2^b)(d:a+b≤c):x*y<2^c:=by
 refine tK (a:=a+b) ?_ d;rw [Nat.pow_add];exact Nat.mul_lt_mul'' e f
theorem dF {P:Nat}(d:B<2^P):bndT B 1<2^(2*P+1):=by
 show 2*(B*B)<_;have h:=pk d d (c:=2*P) zo;rw [Ar];omega
theorem zn6 {P:Nat}(d:B<2^P):bndT B 2<2^(3*P+3):=by
 show 6*(B*(B*B))<_;have h:=pk d (pk d d eT) (c:=3*P) zo;rw [Ar,Ar,Ar];omega
structure LdZ (n P k:Nat)(T:Nat→Nat→Int)(bf:Int):Prop where
 t:∀i j,i<n→j<n→(T i j).natAbs<2^(3*P+3)
 b:bf.natAbs<2^(2*P+1)
 t1:k≤1→∀i j,i<n→j<n→(T i j).natAbs<2^(2*P+1)
 b1:k≤1→bf.natAbs<2^P
theorem LdS.z {n k P:Nat}{l T:Nat→Nat→Int}{bf:Int}(w:n≤3)(o:1≤B)(u:∀i j,i<n→j<n→(l i j).natAbs≤B)(c:B<2^P)(h:LdS n l k T bf)(v:k<n):LdZ n P k T bf:=by
 obtain ⟨p,q,s⟩:=h.bound w o u v;have e:k=0∨k=1∨k=2:=zo;have m:=mZ o;refine ⟨fun i j f g=>?_,Ae q (dF c),fun d i j f g=>?_,fun d=>Ae (s d) c⟩
 ·refine Ae (p i j f g) ?_;rcases e with rfl|rfl|rfl
  ·exact tK c zo
  ·exact tK (dF c) zo
  exact zn6 c
 refine Ae (p i j f g) ?_;rcases e with rfl|rfl|rfl
 ·exact tK c zo
 ·exact dF c
 omega
theorem zan {n P k:Nat}{T:Nat→Nat→Int}{bf:Int}(z:LdZ n P k T bf)(u:P≤15)(v:n≤3):∀i j,k<i→i<n→j<n→(T k k*T i j-T i k*T k j).natAbs<BW:=by
 intro i j o d f;have c:k≤1:=zo;have e:∀{a b:Int},a.natAbs<2^(2*P+1)→b.natAbs<2^(2*P+1)→(a*b).natAbs<2^(4*P+2):=fun g l=>by
  rw [AX];exact pk g l zo
 have p:=e (z.t1 c k k zo zo) (z.t1 c i j d f);have q:=e (z.t1 c i k d zo) (z.t1 c k j zo f);have s:=Int.natAbs_sub_le (T k k*T i j) (T i k*T k j);refine ud (e:=4*P+3) ?_ zo;rw [Ar];omega
structure LdP (n P:Nat)(D:Nat)(a0:Nat→Nat→Rat)(k:Nat)(T:Nat→Nat→Int)(bf:Int)(a:Nat→Nat→Rat):Prop where
 i:LdI n (tT n a0) (tS n a0) a0 k T bf a
 v:∃V0 V bv,(∀i j,i<n→j<n→(V0 i j).natAbs<2^P)∧LdI n V0 (fun _=>((D:Int):Rat)) a0 k V bv a
section
variable {n k:Nat}{a0 a:Nat→Nat→Rat}{T:Nat→Nat→Int}
theorem LdP.val (w:n≤3)(o:1≤P)(C:0<D)(y:D<2^P)(h:LdP n P D a0 k T bf a)(u:k<n):∃V c,LdZ n P k V c∧0<c∧∀i j,k≤i→i<n→k≤j→j<n→a i j=Av (V i j) (c*D):=by
 obtain ⟨A,V,c,p,f⟩:=h.v;have d:2^P-1<2^P:=by have:=Nat.two_pow_pos P;omega
 have e:1≤2^P-1:=by
  have:2^1≤2^P:=Ac zd o;omega
 refine ⟨V,c,f.ls.z w e (fun i j q s=>by have:=p i j q s;omega) d u,f.pos,fun i j g d e l=>?_⟩;rw [f.value (D:=(D:Int)) zo (fun _=>rfl) g d e l,Bm]
theorem LdP.sz (A:n≤3)(v:1≤P)(u:0<D)(c:D<2^P)(h:LdP n P D a0 k T bf a)(y:k<n)(q:k≤i)(g:i<n)(s:k≤j)(l:j<n):Sz (3*P+3) (a i j)∧(k≤1→Sz (2*P+1) (a i j)):=by
 obtain ⟨V,p,d,w,e⟩:=h.val A v u c y;rw [e i j q g s l];have o:0<p*(D:Int):=Gu w zo;refine ⟨vk o (d.t i j g l) ?_,fun f=>vk o (d.t1 f i j g l) ?_⟩
 ·rw [AX,sa];exact pk d.b c zo
 rw [AX,sa];exact pk (d.b1 f) c zo
theorem LdP.quo (H:n≤3)(A:1≤P)(y:0<D)(q:D<2^P)(h:LdP n P D a0 k T bf a)(c:k<n)(u:0<a k k)(J:k<i)(o:i<n):Sz (2*P+1) (a i k/a k k):=by
 obtain ⟨V,g,s,C,e⟩:=h.val H A y q c;have f:k≤1:=zo;have F:0<g*(D:Int):=Gu C zo;have d:((g*(D:Int):Int):Rat)≠0:=fun e=>by have:=ub.1 e;omega
 have v:=e i k zo o eT c;have l:=e k k eT c eT c;have I:0<V k k:=by
  rw [l,Bm,Bv] at u;have G:(0:Rat)<((g*(D:Int):Int):Rat):=C2.2 F;have p:=Rat.mul_pos u G;rw [AM,FD _ d,DW] at p;exact C2.1 p
 have w:a i k/a k k=Av (V i k) (V k k):=by
  rw [v,l,Bm,Bm,Bm,Bv,Bv,Bv,Bv,Rat.inv_mul_rev,Rat.inv_inv];rw [AM,←AM _ _ ((V k k:Rat)⁻¹),FD _ d,Dv]
 rw [w];exact vk I (s.t1 f i k o c) (s.t1 f k k c c)
theorem jl (c:0<D):∀_:Nat,(0:Rat)<((D:Int):Rat):=fun _=>C2.2 zo
theorem LdP.start (q:0<D)(l:B<2^P)(o:∀i j,i<n→j<n→FN D B (a0 i j)):LdP n P D a0 0 (tT n a0) 1 a0:=by
 have c:∀i j,∃z:Int,i<n→j<n→a0 i j*(D:Rat)=(z:Rat)∧z.natAbs≤B:=fun i j=>by
  by_cases h:i<n∧j<n
  ·obtain ⟨z,p⟩:=o i j h.1 h.2;exact ⟨z,fun _ _=>p⟩
  exact ⟨0,fun f g=>cA ⟨f,g⟩ h⟩
 refine ⟨LdI.start zc9,fun i j=>(c i j).choose,_,_,fun i j d e=>Ae ((c i j).choose_spec d e).2 l,LdI.start fun i j _ d _ e=>?_⟩;rw [←((c i j).choose_spec d e).1,BO];show _=(1:Rat)*_*_;rw [Dv,Bc]
theorem LdP.step (d:n≤3)(g:0<D)(h:LdP n P D a0 k T bf a)(c:k<n)(e:0<a k k):LdP n P D a0 (k+1) (yG T k bf) (T k k) (qt a k):=by
 obtain ⟨p,f,V,q,o,l⟩:=h;exact ⟨p.step d (fun _=>ij) c e,f,_,_,o,l.step d (jl g) c e⟩
theorem LdP.skip (g:0<D)(h:LdP n P D a0 k T bf a)(c:k<n)(o:a k k=0)(l:∀i,k<i→i<n→T i k=0):LdP n P D a0 (k+1) T bf a:=by
 obtain ⟨f,p,V,q,u,e⟩:=h;refine ⟨f.skip (fun _=>ij) c o l,p,V,q,u,e.skip (jl g) c o fun i s d=>?_⟩;exact (qn e.tab e.pos (jl g) zo d eT c).2 ((qn f.tab f.pos (fun _=>ij) zo d eT c).1 (l i s d))
theorem LdP.at (h:LdP n P D a0 k T bf a)(g:k≤i)(l:i<n)(o:k≤j)(p:j<n):Av (T i j) bf/tS n a0 i=a i j:=by
 have e:=h.i.tab i j g l o p;have q:(bf:Rat)≠0:=fun e=>by have:=ub.1 e;have:=h.i.pos;omega
 have s:tS n a0 i≠0:=fun e=>by have:=ij (N:=n) (a:=a0) (i:=i);rw [e] at this;exact cA this zd
 have c:=CT _ q;have d:=CT _ s;rw [Bm,Bv,Bv,e];generalize (bf:Rat)=x at*
 generalize x⁻¹ =x' at*
 generalize tS n a0 i=y at*
 generalize y⁻¹ =y' at*
 generalize a i j=z at*
 have f:x*y*z*x'*y'=(x*x')*(y*y')*z:=by grind
 rw [f,c,d,Dv,Dv]
theorem LdP.tz (h:LdP n P D a0 k T bf a)(g:n≤3)(c:1≤B)(d:B<2^P)(e:∀i j,i<n→j<n→(tT n a0 i j).natAbs≤B)(f:k<n):LdZ n P k T bf:=h.i.ls.z g c e d f
end
end
section
variable {b j sz:Nat}{z:Value}{x:Operand}
section
variable {n:Nat}{w:List Nat}{d:Tmp}
theorem sMk {l c:Operand}(zs:List Value)(k:∀h',h' (3*n+2)=some (.row (rep L zs) e)→Ext n h h'→EO X ops r ⟨upd t d (.slice (some ⟨3*n+2,0,none⟩) L L),h',n+1,w⟩ Q)(f:L≤1000)(g:zi ops t o=true:=by exact rfl)(hd:o.dst=some d:=by exact rfl)(hn:zv X.nt (some d)=true:=by exact rfl)(ho:o.op=.makeSlice ty l c:=by exact rfl)(hu:X.E.und ty=some (.slice e):=by exact rfl)(hi:X.E.inf e=some (sz,bt,z):=by exact rfl)(hz:zC z=zs:=by exact rfl)(hl:evF t l=.int ik (L:Int):=by exact rfl)(hc:evF t c=.int ik' (L:Int):=by exact rfl)(hs:zs.length=sz:=by exact rfl)(hb:bt≤1000:=by exact Nat.le_of_ble_eq_true rfl):EO X ops (o::r) ⟨t,h,n,w⟩ Q:=
 wO ⟨g,hd,hn,ho,hu,hi,hl,hc,(by rw [hz];exact hs)⟩ ⟨Nat.le_refl _,Nat.le_trans (Nat.mul_le_mul f hb) zd,zo⟩ (k _ (by rw [←hz];exact zh _ _ _) (Ext.upd zo))
theorem sMu (a b:Nat)(f:a*b<1000000)(k:EO X ops r ⟨upd t d (.int .i64 ((a*b:Nat):Int)),h,n,w⟩ Q)(c:zi ops t o=true:=by exact rfl)(hd:o.dst=some d:=by exact rfl)(hn:zv X.nt (some d)=true:=by exact rfl)(ho:o.op=.binOp .mul ty x y ty':=by exact rfl)(hx:evF t x=.int .i64 (a:Int):=by exact rfl)(hy:evF t y=.int .i64 (b:Int):=by exact rfl):EO X ops (o::r) ⟨t,h,n,w⟩ Q:=by
 refine st_mul c hd hn ho hx hy (by rw [←Int.natCast_mul];omega) ?_;rw [←Int.natCast_mul];exact k
end
section
variable {ms w:List Nat}{i n:Nat}{d:Tmp}
theorem dMu (a b:Nat)(f:a*b<1000000)(k:ED X ops r ms (i+1) ⟨⟨upd t d (.int .i64 ((a*b:Nat):Int)),h,n,w⟩,al,ld,ef⟩ Q)(c:zi ops t o=true:=by exact rfl)(hd:o.dst=some d:=by exact rfl)(hn:zv X.nt (some d)=true:=by exact rfl)(ho:o.op=.binOp .mul ty x y ty':=by exact rfl)(hx:evF t x=.int .i64 (a:Int):=by exact rfl)(hy:evF t y=.int .i64 (b:Int):=by exact rfl):ED X ops (o::r) (m::ms) i ⟨⟨t,h,n,w⟩,al,ld,ef⟩ Q:=by
 refine yy c hd hn (by rw [ho];rfl) ?_ k;rw [ho];show binE X.E .mul ty (evF t x) (evF t y)=_;rw [hx,hy];show some (Value.int .i64 (IntKind.wrap .i64 ((a:Int)*(b:Int))))=_;rw [←Int.natCast_mul,xK zo]
theorem dZn {D:Type}{P:List Value→D→HF→Nat→Prop}{a:Operand}{zs:List D}{q:D}(c:List Value)(A:OR sz P h n b zs)(u:KP sz P)(l:j<zs.length)(g:off=j*sz)(s:P c q h n)(f:3*n0≤b)(k:∀h',OR sz P h' n b (zs.set j q)→Sto b h h'→ED X ops r ms (i+1) ⟨⟨t,h',n,w⟩,al,ld,(i,h,[b])::ef⟩ Q)(p:zi ops t o=true:=by exact rfl)(hd:o.dst=none:=by exact rfl)(ho:o.op=.store ty a x:=by exact rfl)(hi:X.E.inf ty=some (sz,bt,z):=by exact rfl)(ha:evF t a=.pointer (some ⟨b,off,none⟩):=by exact rfl)(hx:zC (evF t x)=c:=by exact rfl)(h1:xg m ef=true:=by exact rfl)(h2:xU m al=true:=by exact rfl)(h3:yc m [b] ld=true:=by exact rfl)(hX:X.n0=n0:=by exact rfl):ED X ops (o::r) (m::ms) i ⟨⟨t,h,n,w⟩,al,ld,ef⟩ Q:=
 dZ c A u l g s (fun h' v C _=>by rw [yo f];exact k h' v C) p hd ho hi ha hx h1 h2 h3 hX
end
theorem EL.go {h:HF}{n bs N f:Nat}{T:Nat→Nat→Int}{s:Nat→Rat}(E:EL h n b0 bt be bs N f T s bf vL vD)(t:Tr n h n' h')(e:∀c,c=b0∨c=bt∨c=be∨c=bs→h' c=h c):EL h' n' b0 bt be bs N f T s bf vL vD:=by
 obtain ⟨⟨C,l,A,p,ty,q,v⟩,⟨g,F⟩,z,s,o,u⟩:=E;have:=t.1;exact ⟨⟨C,l,A,p,ty,(e _ (.inl rfl)).trans q,v.t t⟩,⟨g,(e _ (.inr (.inl rfl))).trans F⟩,z.go intP.kp t (e _ (.inr (.inr (.inl rfl)))),s.go ratP.kp t (e _ (.inr (.inr (.inr rfl)))),zo,u⟩
theorem zdp (k:Nat)(h:HF)(n:Nat):CX (cal (k+3)) 168 [jy .i64 1] h n (QV 1):=by
 refine zu (fn:=Tryz.f168) R4 ?_;refine Zh ?_;intro h1 A F;refine zG ?_;refine sC (zef _ _ _) ?_;rintro _ q u ⟨f,c,l,g,rfl,p⟩ H G;refine sT #[kz f,jx c l g,kz false,jx none 0 0] ?_;refine sS [kz f,jx c l g,kz false,jx none 0 0] ?_;intro s C v;refine zq ?_;exact ⟨_,_,_,_,_,_,_,_,rfl,(p.t zt:IW _ _ _ _ _ _ 1),IW.zero _ _⟩
section
variable {N B:Nat}{a:Nat→Nat→Rat}
theorem zbu (k:Nat){h:HF}{n:Nat}(g:GG h n)(M:QS h n (jx (some ⟨b,off,none⟩) (N*N) cap) (tabL N a))(C:gro b=false)(f:N*N≤cap)(K:1≤N∧N≤3)(J:0<D)(A:D<BW)(hd:∀i j,i<N→j<N→(a i j).den∣D)(I:∀i j,i<N→j<N→FN D B (a i j))(s:1≤B)(u:B<BW)(O:∀i j,i<N→j<N→Sz m (a i j))(hm:m≤64):
  CX (cal (k+14)) 163 [jx (some ⟨b,off,none⟩) (N*N) cap,jy .i64 (N:Int)] h n fun v h' n'=>∃b0 bt be c,v=kS (some ⟨b0,0,none⟩)∧EL h' n' b0 bt be c N 0 (tT N a) (tS N a) 1 (jx none 0 0) (jx none 0 0)∧(3*n≤bt∧3*n≤be)∧3*n≤b0∧gro b0=false:=by
 refine zu (fn:=Tryz.f163) R4 ?_;refine zG ?_;refine sC (em _ g M C f K J A hd I s u O hm) ?_;rintro _ W n1 ⟨bt,be,c,rfl,⟨ty,hT⟩,G,H,o1,o2,o3,o4,R,S⟩ y1 x1;refine sC (zef _ _ _) ?_;rintro _ Y n2 ⟨p,l,F,q,rfl,P⟩ y2 x2;refine sT #[jy .i64 (N:Int),jy .i64 0,kS (some ⟨bt,0,none⟩),kz p,jx l F q,jx none 0 0,jx none 0 0] ?_;refine sB [jy .i64 (N:Int),jy .i64 0,kS (some ⟨bt,0,none⟩),kz p,jx l F q,jx none 0 0,jx none 0 0] ?_;intro Z T x3;refine zq ?_;have U:=G.1;have V:=H.1;exact ⟨_,bt,be,c,rfl,⟨⟨_,_,_,_,_,T,P.t zt⟩,⟨_,zp⟩,G.xx intP.kp zx,H.xx ratP.kp zx,zo,⟨rfl,rfl⟩⟩,⟨R,S⟩,zo,yJ _⟩
end
end
section
variable {b j len sz:Nat}{x:Operand}{z:Value}{a:Option Addr}
section
variable {ms w:List Nat}{i n:Nat}{d:Tmp}
theorem sZ {D:Type}{P:List Value→D→HF→Nat→Prop}{a:Operand}{zs:List D}{q:D}(c:List Value)(v:OR sz P h n b zs)(u:KP sz P)(g:j<zs.length)(f:off=j*sz)(p:P c q h n)(k:∀h',OR sz P h' n b (zs.set j q)→Sto b h h'→EO X ops r ⟨t,h',n,addW n0 [b] w⟩ Q)(J:zi ops t o=true:=by exact rfl)(hd:o.dst=none:=by exact rfl)(ho:o.op=.store ty a x:=by exact rfl)(hi:X.E.inf ty=some (sz,bt,z):=by exact rfl)(ha:evF t a=.pointer (some ⟨b,off,none⟩):=by exact rfl)(hx:zC (evF t x)=c:=by exact rfl)(hX:X.n0=n0:=by exact rfl):EO X ops (o::r) ⟨t,h,n,w⟩ Q:=by
 have A:=v;obtain ⟨O,C,e,B,R,K⟩:=v;have I:=K.len;obtain ⟨F,N,G⟩:=u.c p;have M:j*sz+sz≤zs.length*sz:=by
  have:=Nat.mul_le_mul_right sz (show j+1≤zs.length from g);rw [Nat.add_mul,Nat.one_mul] at this;exact this
 subst f;rw [qN J (by rw [hd];rfl) (by rw [ho];rfl) (by rw [ho];exact xR hi ha (by rw [hx];exact F) (by rw [hx];exact G) B zo),hd,hx,hX];have s:=A.set (h':=upd h b (some (.row (zw C (j*sz) c) e))) u B g p (zh _ _ _) (fun c H=>zj H);exact k _ s.1 s.2
theorem sZn {D:Type}{P:List Value→D→HF→Nat→Prop}{a:Operand}{zs:List D}{q:D}(c:List Value)(C:OR sz P h n b zs)(A:KP sz P)(s:j<zs.length)(p:off=j*sz)(v:P c q h n)(g:3*n0≤b)(k:∀f,OR sz P f n b (zs.set j q)→Sto b h f→EO X ops r ⟨t,f,n,w⟩ Q)(u:zi ops t o=true:=by exact rfl)(hd:o.dst=none:=by exact rfl)(ho:o.op=.store ty a x:=by exact rfl)(hi:X.E.inf ty=some (sz,bt,z):=by exact rfl)(ha:evF t a=.pointer (some ⟨b,off,none⟩):=by exact rfl)(hx:zC (evF t x)=c:=by exact rfl)(hX:X.n0=n0:=by exact rfl):EO X ops (o::r) ⟨t,h,n,w⟩ Q:=
 sZ c C A s p v (fun f B F=>by rw [yo g];exact k f B F) u hd ho hi ha hx hX
end
section
variable {n:Nat}{w:List Nat}{d:Tmp}
theorem sQ {a b:List UInt8}(v:Bool)(c:(a==b)=v)(k:EO X ops r ⟨upd t d (.bool v),h,n,w⟩ Q)(f:zi ops t o=true:=by exact rfl)(hd:o.dst=some d:=by exact rfl)(hn:zv X.nt (some d)=true:=by exact rfl)(ho:o.op=.binOp .eql ty x y ty':=by exact rfl)(hx:evF t x=.string ⟨⟨a⟩⟩:=by exact rfl)(hy:evF t y=.string ⟨⟨b⟩⟩:=by exact rfl):EO X ops (o::r) ⟨t,h,n,w⟩ Q:=
 zF (v:=.bool v) ⟨f,hd,hn,(by rw [ho];rfl),(by rw [ho];show binE X.E .eql ty (evF t x) (evF t y)=_;rw [hx,hy];show some (Value.bool (a==b))=_;rw [c])⟩ k
theorem sQn {a b:List UInt8}(v:Bool)(c:(a==b)=v)(k:EO X ops r ⟨upd t d (.bool (!v)),h,n,w⟩ Q)(f:zi ops t o=true:=by exact rfl)(hd:o.dst=some d:=by exact rfl)(hn:zv X.nt (some d)=true:=by exact rfl)(ho:o.op=.binOp .neq ty x y ty':=by exact rfl)(hx:evF t x=.string ⟨⟨a⟩⟩:=by exact rfl)(hy:evF t y=.string ⟨⟨b⟩⟩:=by exact rfl):EO X ops (o::r) ⟨t,h,n,w⟩ Q:=
 zF (v:=.bool (!v)) ⟨f,hd,hn,(by rw [ho];rfl),(by rw [ho];show binE X.E .neq ty (evF t x) (evF t y)=_;rw [hx,hy];show some (Value.bool (!(a==b)))=_;rw [c])⟩ k
end
section
variable {ms w:List Nat}{i n:Nat}{d:Tmp}
theorem dQn {a b:List UInt8}(v:Bool)(c:(a==b)=v)(k:ED X ops r ms (i+1) ⟨⟨upd t d (.bool (!v)),h,n,w⟩,al,ld,ef⟩ Q)(f:zi ops t o=true:=by exact rfl)(hd:o.dst=some d:=by exact rfl)(hn:zv X.nt (some d)=true:=by exact rfl)(ho:o.op=.binOp .neq ty x y ty':=by exact rfl)(hx:evF t x=.string ⟨⟨a⟩⟩:=by exact rfl)(hy:evF t y=.string ⟨⟨b⟩⟩:=by exact rfl):ED X ops (o::r) (m::ms) i ⟨⟨t,h,n,w⟩,al,ld,ef⟩ Q:=
 yy (v:=.bool (!v)) f hd hn (by rw [ho];rfl) (by rw [ho];show binE X.E .neq ty (evF t x) (evF t y)=_;rw [hx,hy];show some (Value.bool (!(a==b)))=_;rw [c]) k
end
def strP (c:List Value)(s:List UInt8)(_:HF)(_:Nat):Prop:=c=[kF ⟨⟨s⟩⟩]
theorem strP.kp:KP 1 strP:=⟨fun e _=>e,fun e=>by cases e;exact ⟨rfl,rfl,rfl⟩⟩
theorem Rec.strsE {C:List Value}{h:HF}{n:Nat}(r:Rec 1 (fun c s=>strP c s h n) C ss):C=strs ss:=by
 induction r with
 |nil=>rfl
 |cons h1 h2 h3 ih=>rw [ih,h2];rfl
theorem Rec.ofStrs (ss:List (List UInt8))(h:HF)(n:Nat):Rec 1 (fun c s=>strP c s h n) (strs ss) ss:=by
 induction ss with
 |nil=>exact .nil
 |cons s ss ih=>exact .cons (c:=[kF ⟨⟨s⟩⟩]) rfl rfl ih
abbrev OT (h:HF)(n b:Nat)(ss:List (List UInt8)):Prop:=OR 1 strP h n b ss
theorem OT.sl {h:HF}{n:Nat}(o:OT h n b ss)(hl:len=gP ss)(c:len≤cap):Sl h n 1 (jx (some ⟨b,0,none⟩) len cap) (strs ss):=by
 obtain ⟨C,s,r⟩:=OR.sl o hl c;exact r.strsE▸s
theorem OT.row {h:HF}{n:Nat}(o:OT h n b ss):∃e,h b=some (.row (strs ss) e):=by
 obtain ⟨_,C,e,c,_,r⟩:=o;exact ⟨e,r.strsE▸c⟩
theorem OT.of {h:HF}{n:Nat}(f:b<3*n)(c:h b=some (.row (Go.Proofs.YtfajmfoofmienaaGreatDoor.strs ss) e)):OT h n b ss:=by
 refine ⟨f,_,_,c,?_,Rec.ofStrs ss h n⟩;rw [List.all_eq_true];intro x g;obtain ⟨s,_,rfl⟩:=Ay.1 g;rfl
theorem zl4 (k:Nat){h:HF}{n:Nat}(g:GG h n){b d:Bool}{e:Option Addr}{c f p:Nat}(i:IW h n b a l c q.num)(j:IW h n d e f p (denZ q)){m:Nat}(u:Sz m q)(s:m≤64):CX (cal (k+10)) 89 [.agg #[kz b,jx a l c,kz d,jx e f p]] h n fun v _ _=>v=kF ⟨⟨ratT q⟩⟩:=(tJ k g.1 g.2 i j u s).cx
theorem cJ (k:Nat){h:HF}{n:Nat}(g:GG h n){A:List Rat}(H:QS h n (jx a L cap) A)(V:L≤1000){m:Nat}(hz:∀q∈A,Sz m q)(hm:m≤64):
  CX (cal (k+11)) 140 [jx a L cap] h n fun v f p=>∃b ss,v=jx (some ⟨b,0,none⟩) L L∧3*n≤b∧OT f p b ss∧gP ss=L:=by
 have lq:=H.len;refine zu (fn:=Tryz.f140) R4 ?_;refine zG ?_;refine sMk (L:=L) [kF ⟨⟨[]⟩⟩] ?_ V;intro h1 K x1;refine zG ?_;have J:OT h1 (n+1) (3*n+2) (pl L []):=OR.fill zo K strP.kp rfl;obtain ⟨B,U⟩:∃B,B=3*n+2:=⟨_,rfl⟩;rw [←U] at J ⊢;clear K;refine sF (α:=Nat×List (List UInt8)) (fun z=>[(2,jx none 0 0),(3,jx (some ⟨B,0,none⟩) L L),(9,jx a L cap),(10,jy .i64 (L:Int)),(11,jy .i64 (z.1:Int))])
  (fun z f p w'=>w'=[]∧n+1≤p∧Ext n h f∧OT f p B z.2∧gP z.2=L∧z.1≤L) (fun z=>L-z.1) (0,pl L []) ⟨rfl,eT,x1,J,Ah,eU⟩ ?_
 rintro ⟨j,ss⟩ t h2 I _ ⟨rfl,M,N,s,l2,hj⟩;have M:n+1≤I:=M;have s:OT h2 I B ss:=s;have l2:gP ss=L:=l2;have hj:j≤L:=hj;refine zG ?_;by_cases q2:(j:Int)<(L:Int)
 ·refine zG ?_;obtain ⟨u,F⟩:∃d,(A)[j]?=some d:=⟨_,k4 zo⟩;obtain ⟨k3,u3,P,O,l3,R,C,S,T,w3,D,Z,r3,t3,W,Y⟩:=QS.at H F;refine sI D r3 ?_;refine sL t3 Z 0 ?_;refine sA ?_;intro h4 p4 x4;refine zG ?_;refine sS [kz P,jx O l3 R,kz C,jx S T w3] ?_;intro h5 p5 o5;refine zG ?_;refine sC (zl4 _ (g.x zx) (W.x zx) (Y.x zx) (hz _ (ns F)) hm) ?_;rintro _ G n6 rfl y6 x6;refine sI (j:=j) rfl zo ?_;have o6:OT G n6 B ss:=s.xx strP.kp zx;refine sZn (n0:=n) (j:=j) (q:=ratT u) [kF ⟨⟨ratT u⟩⟩] o6 strP.kp zo (show (0:Nat)+j*1=j*1 by omega) rfl zo ?_;intro h7 o7 s7;refine zG ?_;exact sK (j+1,ss.set j (ratT u)) ⟨rfl,zo,fun c hc=>(s7.1 c zo).trans ((show G c=h2 c by
   have e0:h2 c=h2 c:=rfl;exact zp).trans (N c hc)),o7,by rw [AY];exact l2,by show j+1≤L;omega⟩
 refine Zt ?_;exact ⟨_,_,rfl,zo,s,l2⟩
end
section
variable {b n:Nat}
theorem zde:Sz 60 1:=by
 have h:2^1≤2^60:=Ac zd zd;refine ⟨?_,?_⟩
 ·show 1<_;omega
 show 1<_;omega
theorem zec (h:q.num<0):q<0:=by
 rw [FE];show q.num*((1:Nat):Int)<0*(q.den:Int);rw [Hi];omega
theorem zed (h:0<q.num):0<q:=by
 rw [FE];show 0*(q.den:Int)<q.num*((1:Nat):Int);rw [Hi];omega
theorem zdd:Sz 60 0:=Sz.zero _ zd
section
variable {N B:Nat}{a0:Nat→Nat→Rat}
theorem znm (k0:Nat)(g:GG h n)(l:QS h n (jx (some ⟨b,off,none⟩) (N*N) cap) (tabL N a0))(e3:gro b=false)(dc:N*N≤cap)(hN:1≤N∧N≤3)(aj:1≤P)(d0:P≤15)(hD:0<D)(a8:D<2^P)(hd:∀i j,i<N→j<N→(a0 i j).den∣D)(hB:∀i j,i<N→j<N→FN D B (a0 i j))(ca:1≤B)(b8:B<2^P):
  CX (cal (k0+15)) 139 [jx (some ⟨b,off,none⟩) (N*N) cap,jy .i64 (N:Int)] h n fun v h' n'=>∃b0 ok,v=.tuple #[kS (some ⟨b0,0,none⟩),kz ok]∧(ok=true↔psdA N N 0 a0)∧(ok=true→∃y A ls ds x1 x2 x3 x4 x5 ty,h' b0=some (.row [x1,x2,x3,x4,x5,jx (some ⟨y,0,none⟩) (N*N) (N*N),jx (some ⟨A,0,none⟩) N N] ty)∧b0<3*n'∧3*n≤b0∧OR 4 ratP h' n' y ls∧OR 4 ratP h' n' A ds∧gP ls=N*N∧gP ds=N∧(∀q∈ls,Sz 60 q)∧∀q∈ds,Sz 60 q):=by
 have h9:=sq9 hN.2;have dt:B<BW:=ud b8 zo;have dv:D<BW:=ud a8 zo;have hz:∀i j,i<N→j<N→Sz P (a0 i j):=fun i j hi hj=>by
  obtain ⟨z,hz,e6⟩:=hB i j hi hj;have e2:((D:Int):Rat)≠0:=du hD;have e:a0 i j=Av z D:=by
   rw [Bm,Bv,←hz,←Bc,AM,CT _ e2,DW]
  rw [e];exact vk zo (Ae e6 b8) (by rw [sa];exact a8)
 have cg:∀i,i<N→Sz P (tS N a0 i):=fun i hi=>vk (by have:=mW (f:=nfi N a0 i) (m:=N);unfold cci;omega) (by rw [sa];exact Ae (zgf (hd i · hi) hD) a8) (by rw [sa];exact Ae (zlq (hd i · hi) hD (hB i · hi) ca) b8);have e5:∀i j,i<N→j<N→(tT N a0 i j).natAbs≤B:=fun i j hi hj=>zow (hd i · hi) hD (hB i · hi) hj;refine zu (fn:=Tryz.f139) R4 ?_;refine zG ?_;refine sC (zbu _ g l e3 dc hN hD dv hd hB ca dt hz zo) ?_;rintro _ h1 n1 ⟨b0,bt,be,bs,rfl,E1,o1,o2,o3⟩ y1 x1;obtain ⟨sb,ab,lb,cb,ty,hE,ib⟩:=E1.e;obtain ⟨fi,f0⟩:=E1.t;obtain ⟨f8,f9,fa,fb,fc,fd,fe⟩:=E1.o;have f1:=E1.z.1;have f2:=E1.s.1;have f4:ratP [kz false,jx none 0 0,kz false,jx none 0 0] 0=ratP [kz false,jx none 0 0,kz false,jx none 0 0] 0:=rfl;refine zG ?_;refine sMu N N zo ?_;refine sMk (L:=N*N) [kz false,jx none 0 0,kz false,jx none 0 0] ?_ zo;intro h2 p2 x2;refine zG ?_;refine sS [jy .i64 (N:Int),jy .i64 0,kS (some ⟨bt,0,none⟩),kz sb,jx ab lb cb,jx (some ⟨3*n1+2,0,none⟩) (N*N) (N*N),jx none 0 0] ?_;intro h3 p3 ec;refine zG ?_;refine sMk (L:=N) [kz false,jx none 0 0,kz false,jx none 0 0] ?_ zo;intro h4 p4 x4;refine zG ?_;refine sS [jy .i64 (N:Int),jy .i64 0,kS (some ⟨bt,0,none⟩),kz sb,jx ab lb cb,jx (some ⟨3*n1+2,0,none⟩) (N*N) (N*N),jx (some ⟨3*(n1+1)+2,0,none⟩) N N] ?_;intro h5 p5 ed;refine zG ?_;obtain ⟨y,cd⟩:∃b,b=3*n1+2:=⟨_,rfl⟩;obtain ⟨A,cc⟩:∃b,b=3*(n1+1)+2:=⟨_,rfl⟩;have zq0:∀(h:HF) (n:Nat),ratP [kz false,jx none 0 0,kz false,jx none 0 0] 0 h n:=fun h n=>⟨_,_,_,_,_,_,_,_,rfl,IW.zero _ _,IW.zero _ _⟩;have ef:OR 4 ratP h5 (n1+1+1) y (pl (N*N) 0):=by
  obtain ⟨e,he⟩:∃e,h5 y=some (.row (rep (N*N) [kz false,jx none 0 0,kz false,jx none 0 0]) e):=⟨_,by rw [cd];exact zp⟩;exact OR.fill zo he ratP.kp (zq0 _ _)
 have ee:OR 4 ratP h5 (n1+1+1) A (pl N 0):=by
  obtain ⟨e,he⟩:∃e,h5 A=some (.row (rep N [kz false,jx none 0 0,kz false,jx none 0 0]) e):=⟨_,by rw [cc];exact zp⟩;exact OR.fill zo he ratP.kp (zq0 _ _)
 rw [←cd,←cc] at p5;have bh:IW h5 (n1+1+1) sb ab lb cb 1:=ib.t zt;have E5:EL h5 (n1+1+1) b0 bt be bs N 0 (tT N a0) (tS N a0) 1 (jx (some ⟨y,0,none⟩) (N*N) (N*N)) (jx (some ⟨A,0,none⟩) N N):=⟨⟨_,_,_,_,_,p5,bh⟩,⟨_,zp⟩,E1.z.go intP.kp zt (by
  have e0:h1 be=h1 be:=rfl;exact zp),E1.s.go ratP.kp zt (by
  have e0:h1 bs=h1 bs:=rfl;exact zp),zo,⟨rfl,rfl⟩⟩
 have X5:Ext n h h5:=(zx:Tx n h (n1+1+1) h5).2;rw [←cd,←cc];clear p2 p3 p4 p5 ec ed x2 x4;refine sF (α:=Nat×(Nat→Nat→Int)×Int×(Nat→Nat→Rat)×List Rat×List Rat) (fun z=>[(1,jy .i64 (N:Int)),(4,kS none),(5,kz false),(6,kS (some ⟨b0,0,none⟩)),(7,kz true),(28,jy .i64 (N:Int)),(29,jy .i64 (z.1:Int))])
  (fun z h' n' w'=>w'=[]∧n1+1+1≤n'∧Ext n h h'∧EL h' n' b0 bt be bs N z.1 z.2.1 (tS N a0) z.2.2.1 (jx (some ⟨y,0,none⟩) (N*N) (N*N)) (jx (some ⟨A,0,none⟩) N N)∧LdP N P D a0 z.1 z.2.1 z.2.2.1 z.2.2.2.1∧OR 4 ratP h' n' y z.2.2.2.2.1∧OR 4 ratP h' n' A z.2.2.2.2.2∧gP z.2.2.2.2.1=N*N∧gP z.2.2.2.2.2=N∧(∀q∈z.2.2.2.2.1,Sz 60 q)∧(∀q∈z.2.2.2.2.2,Sz 60 q)∧z.1≤N)
  (fun z=>N-z.1) (0,tT N a0,1,a0,pl (N*N) 0,pl N 0) ⟨rfl,eT,X5,E5,LdP.start hD b8 hB,ef,ee,Ah,Ah,fun q l=>by rw [De l];exact zdd,fun q l=>by rw [De l];exact zdd,eU⟩ ?_
 rintro ⟨k,T,bf,a,ls,ds⟩ t w af _ ⟨rfl,d9,av,E,hP,oL,oD,lL,lD,sL,sD,hk⟩;have d9:n1+1+1≤af:=d9;have av:Ext n h w:=av;have E:EL w af b0 bt be bs N k T (tS N a0) bf (jx (some ⟨y,0,none⟩) (N*N) (N*N)) (jx (some ⟨A,0,none⟩) N N):=E;have hP:LdP N P D a0 k T bf a:=hP;have oL:OR 4 ratP w af y ls:=oL;have oD:OR 4 ratP w af A ds:=oD;have lL:gP ls=N*N:=lL;have lD:gP ds=N:=lD;have sL:∀q∈ls,Sz 60 q:=sL;have sD:∀q∈ds,Sz 60 q:=sD;have hk:k≤N:=hk;have dk:GG w af:=g.ext av zo;obtain ⟨fh,eu,f5,ev,fj,dw,f3⟩:=E.e;refine zG ?_;by_cases qk:(k:Int)<(N:Int)
 ·have d:k<N:=zo;have ce:=rH d d;have hZ:LdZ N P k T bf:=hP.tz hN.2 ca b8 e5 d;have b9:∀i j,i<N→j<N→(T i j).natAbs<BW:=fun i j hi hj=>ud (hZ.t i j hi hj) zo;have bb:bf.natAbs<BW:=ud hZ.b zo;have e1:=hP.i.pos;have ba:bf≠0:=zo;have bp:∀i j,i<N→j<N→Sz (3*P+3) (Av (T i j) bf):=fun i j hi hj=>vk e1 (hZ.t i j hi hj) (tK hZ.b zo);have cf:3*P+3+P≤64:=zo;have cq:=(hP.sz hN.2 aj hD a8 d eT d eT d).1;refine zG ?_;refine sC (atX _ dk E d d hN.2 (b9 k k d d) bb ba (bp k k d d) (cg k d) cf) ?_;rintro _ ew ad ⟨R,O,Z,S,U,V,W,Y,rfl,H,I⟩ fp fl;rw [hP.at eT d eT d] at H I;refine sA ?_;intro ex ff fm;refine sS [kz R,jx O Z S,kz U,jx V W Y] ?_;intro ey fg f7;refine zG ?_;refine sC (zim _ (E.x zx) d hN.2).cx ?_;rintro v ez f6 hv fq fo;rcases hv with ⟨i,ac,ak,dz,rfl⟩|⟨dx,rfl⟩
  ·refine zG ?_;refine sC (zo6 _ (H.t zt) (I.t zt)) ?_;rintro _ dm e8 ⟨ei,rfl,M⟩ eo el;rcases M with ⟨rfl,M⟩|⟨rfl,M⟩|⟨rfl,M⟩
   ·refine Zt ?_;exact ⟨_,_,rfl,⟨fun l=>(by cases l),fun l=>cA l (hP.i.neg d (zec M))⟩,fun l=>(by cases l)⟩
   ·have ae:a k k=0:=B7.1 M;refine zG ?_;refine sC (rR _ (H.t zt) (I.t zt)) ?_;rintro _ c8 cn ⟨c0,rfl,a9⟩ ct cr;rcases bvs a9 with ⟨rfl,aq⟩|⟨rfl,_⟩
    ·exact cA ae aq
    refine Zt ?_;exact ⟨_,_,rfl,⟨fun l=>(by cases l),fun l=>cA l (hP.i.found (fun _=>ij) d ae ac ak dz)⟩,fun l=>(by cases l)⟩
   have a1:0<a k k:=zed M;refine zG ?_;refine sC (rR _ (H.t zt) (I.t zt)) ?_;rintro _ c8 cn ⟨c0,rfl,a9⟩ ct cr;rcases bvs a9 with ⟨rfl,_⟩|⟨rfl,aq⟩
   rotate_left
   ·exact cA aq (fun e=>by rw [e] at a1;exact cA a1 zd)
   refine zG ?_;refine zm [0,1,3,7,0,0,48,0,240,0,1023,2047] rfl ?_;refine zH ?_;refine dMu k N zo ?_;refine zH ?_;refine dC (zdp _ _ _) ?_;rintro _ cw bm ⟨b1,az,bk,b2,b3,b4,b5,b6,rfl,bc,bi⟩ da d7;refine dI (j:=k*N+k) rfl ce ?_;refine dZn (n0:=n) (j:=k*N+k) [kz b1,jx az bk b2,kz b3,jx b4 b5 b6] (oL.xx ratP.kp zx) ratP.kp zo (AA _) ⟨_,_,_,_,_,_,_,_,rfl,bc,bi⟩ zo ?_;intro a5 ao d4;refine zG ?_;refine zm [0,1,3,7,0,0,63,127] rfl ?_;refine zH ?_;refine dI rfl d ?_;have al:OR 4 ratP a5 bm A ds:=oD.go ratP.kp zt (by
    have e0:w A=w A:=rfl;exact zp)
   refine dZn (n0:=n) (j:=k) [kz R,jx O Z S,kz U,jx V W Y] al ratP.kp zo (AA _) ⟨_,_,_,_,_,_,_,_,rfl,H.t zt,I.t zt⟩ zo ?_;intro cy am d5;refine zG ?_;refine sC (rR _ (H.t zt) (I.t zt)) ?_;rintro _ p u ⟨cu,rfl,ai⟩ db d8;have a7:EL p u b0 bt be bs N k T (tS N a0) bf (jx (some ⟨y,0,none⟩) (N*N) (N*N)) (jx (some ⟨A,0,none⟩) N N):=E.go zt (fun c hc=>by
    have e0:w c=w c:=rfl;have d1:c<3*af:=by rcases hc with rfl|rfl|rfl|rfl<;>omega
    have d2:c≠y∧c≠A:=by rcases hc with rfl|rfl|rfl|rfl<;>omega
    exact zp)
   have ap:OR 4 ratP p u y (ls.set (k*N+k) 1):=ao.go ratP.kp zt (by
    have e0:a5 y=a5 y:=rfl;exact zp)
   have an:OR 4 ratP p u A (ds.set k (a k k)):=am.xx ratP.kp zx;have au:∀q∈ls.set (k*N+k) 1,Sz 60 q:=fun q l=>by
    rcases Bd l with l|rfl
    ·exact sL q l
    exact zde
   have ar:∀q∈ds.set k (a k k),Sz 60 q:=fun q l=>by
    rcases Bd l with l|rfl
    ·exact sD q l
    exact cq.mono zo
   have br:IW p u R O Z S (a k k).num:=H.t zt;have bu:IW p u U V W Y (denZ (a k k)):=I.t zt;obtain ⟨cv,d3⟩:∃e,p (3*ad+2)=some (.row [kz R,jx O Z S,kz U,jx V W Y] e):=⟨_,zp⟩;have ah:∀c,c<3*n→p c=h c:=fun c hc=>(show p c=w c by
    have e0:w c=w c:=rfl;exact zp).trans (av c hc)
   rcases bvs ai with ⟨rfl,_⟩|⟨rfl,bn⟩
   rotate_left
   ·exact cA bn (fun e=>by rw [e] at a1;exact cA a1 zd)
   refine zG ?_;refine sF (α:=Nat×List Rat) (fun z=>[(1,jy .i64 (N:Int)),(4,kS none),(5,kz false),(6,kS (some ⟨b0,0,none⟩)),(7,kz true),(8,jy .i64 (k:Int)),(9,kS (some ⟨3*ad+2,0,none⟩)),(12,jy .i64 (z.1:Int)),(28,jy .i64 (N:Int)),(29,jy .i64 (k:Int))])
    (fun z h' n' w'=>w'=[]∧u≤n'∧ExtB u [y] p h'∧Tr u p n' h'∧OR 4 ratP h' n' y z.2∧gP z.2=N*N∧(∀q∈z.2,Sz 60 q)∧k+1≤z.1∧z.1≤N) (fun z=>N-z.1) (k+1,ls.set (k*N+k) 1) ⟨rfl,eT,ExtB.refl _ _ _,Tr.refl _ _,ap,by rw [AY];exact lL,au,eT,d⟩ ?_
   rintro ⟨i,a6⟩ t C G _ ⟨rfl,bo,a4,J,K,a2,a3,ac,ak⟩;have bo:u≤G:=bo;have ac:k+1≤i:=ac;have ak:i≤N:=ak;have K:OR 4 ratP C G y a6:=K;have a2:gP a6=N*N:=a2;have a3:∀q∈a6,Sz 60 q:=a3;have J:Tr u p G C:=J;have ag:EL C G b0 bt be bs N k T (tS N a0) bf (jx (some ⟨y,0,none⟩) (N*N) (N*N)) (jx (some ⟨A,0,none⟩) N N):=a7.go J (fun c hc=>a4 c (by rcases hc with rfl|rfl|rfl|rfl<;>omega) (by rcases hc with rfl|rfl|rfl|rfl<;>(simp only [nP];omega)));obtain ⟨cp,bx,cm,c3,d6,cz,bh⟩:=ag.e;have b7:GG C G:=g.ext (fun c hc=>(a4 c zo (by simp only [nP];omega)).trans (ah c hc)) zo;have ch:IW C G R O Z S (a k k).num:=br.t J;have cj:IW C G U V W Y (denZ (a k k)):=bu.t J;have eh:C (3*ad+2)=some (.row [kz R,jx O Z S,kz U,jx V W Y] _):=(a4 _ zo (by simp only [nP];omega)).trans (show p (3*ad+2)=_ from zp);refine zG ?_;by_cases qi:(i:Int)<(N:Int)
   ·have F:i<N:=zo;have e4:=bz F;refine zG ?_;refine zm [0,1,3,7,0,0,48,0,240,0,0,0,3584,0,15872,32767,65535] rfl ?_;refine zH ?_;refine dMu i N zo ?_;refine zH ?_;refine dC (atX _ b7 ag F d hN.2 (b9 i k F d) bb ba (bp i k F d) (cg i F) cf) ?_;rintro _ dp e9 ⟨df,de,e7,dg,dh,di,dj,dl,rfl,bg,bj⟩ ep em;rw [hP.at zo F eT d] at bg bj;refine zH ?_;refine dC (divQ _ (b7.x zx) bg bj (ch.t zt) (cj.t zt) ((hP.sz hN.2 aj hD a8 d zo F eT d).2 zo) ((hP.sz hN.2 aj hD a8 d eT d eT d).2 zo) zo) ?_;rintro _ dq ea ⟨c1,bw,cl,c2,c4,c5,c6,c7,rfl,ci,ck⟩ eq en;refine dI (j:=i*N+k) rfl (show i*N+k<N*N by omega) ?_;refine dZn (n0:=n) (j:=i*N+k) [kz c1,jx bw cl c2,kz c4,jx c5 c6 c7] (K.xx ratP.kp zx) ratP.kp zo (AA _) ⟨_,_,_,_,_,_,_,_,rfl,ci,ck⟩ zo ?_;intro dr co ej;refine zG ?_;exact sK (i+1,a6.set (i*N+k) (a i k/a k k)) ⟨rfl,zo,zy,J.trans zt,co,by rw [AY];exact a2,fun q l=>(by
     rcases Bd l with l|rfl
     ·exact a3 q l
     ·exact (hP.quo hN.2 aj hD a8 d a1 ac F).mono zo),zo,by show i+1≤N;omega⟩
   refine zG ?_;refine zB _ R5 (kT _ ag d hN.2 ba bb b9 (zan hZ d0 hN.2)) ?_;rintro _ c9 eb ek ⟨er,cs,ay,bv,bq⟩;rw [vW,z0 (fun c hc=>by rcases bq c hc with rfl|rfl<;>omega)];refine zG ?_;have aa:∀c,c<3*G→c≠be→c≠b0→c9 c=C c:=fun c hc h1 h2=>cs c hc (by simp only [sP,nN,or_false,not_or];exact ⟨h1,h2⟩);have ax:=K.1;exact sK (k+1,yG T k bf,T k k,qt a k,a6,ds.set k (a k k)) ⟨rfl,zo,fun c hc=>(aa c zo zo zo).trans ((a4 c zo (by simp only [nP];omega)).trans (ah c hc)),bv,hP.step hN.2 hD d a1,K.go ratP.kp ay (aa y ax zo zo),an.go ratP.kp (J.trans ay) ((aa A zo zo zo).trans (a4 A zo (by simp only [nP];omega))),a2,by rw [AY];exact lD,a3,ar,by show k+1≤N;omega⟩
  refine zG ?_;refine sC (zo6 _ (H.t zt) (I.t zt)) ?_;rintro _ dm e8 ⟨ei,rfl,M⟩ eo el;rcases M with ⟨rfl,M⟩|⟨rfl,M⟩|⟨rfl,M⟩
  ·refine Zt ?_;exact ⟨_,_,rfl,⟨fun l=>(by cases l),fun l=>cA l (hP.i.neg d (zec M))⟩,fun l=>(by cases l)⟩
  ·have ae:a k k=0:=B7.1 M;refine zG ?_;refine sC (rR _ (H.t zt) (I.t zt)) ?_;rintro _ c8 cn ⟨c0,rfl,a9⟩ ct cr;rcases bvs a9 with ⟨rfl,aq⟩|⟨rfl,_⟩
   ·exact cA ae aq
   refine zG ?_;refine zm [0,1,3,7,0,0,48,0,240,0,1023,2047] rfl ?_;refine zH ?_;refine dMu k N zo ?_;refine zH ?_;refine dC (zdp _ _ _) ?_;rintro _ cw bm ⟨b1,az,bk,b2,b3,b4,b5,b6,rfl,bc,bi⟩ da d7;refine dI (j:=k*N+k) rfl ce ?_;refine dZn (n0:=n) (j:=k*N+k) [kz b1,jx az bk b2,kz b3,jx b4 b5 b6] (oL.xx ratP.kp zx) ratP.kp zo (AA _) ⟨_,_,_,_,_,_,_,_,rfl,bc,bi⟩ zo ?_;intro a5 ao d4;refine zG ?_;refine zm [0,1,3,7,0,0,63,127] rfl ?_;refine zH ?_;refine dI rfl d ?_;have al:OR 4 ratP a5 bm A ds:=oD.go ratP.kp zt (by
    have e0:w A=w A:=rfl;exact zp)
   refine dZn (n0:=n) (j:=k) [kz R,jx O Z S,kz U,jx V W Y] al ratP.kp zo (AA _) ⟨_,_,_,_,_,_,_,_,rfl,H.t zt,I.t zt⟩ zo ?_;intro cy am d5;refine zG ?_;refine sC (rR _ (H.t zt) (I.t zt)) ?_;rintro _ p u ⟨cu,rfl,ai⟩ db d8;have a7:EL p u b0 bt be bs N k T (tS N a0) bf (jx (some ⟨y,0,none⟩) (N*N) (N*N)) (jx (some ⟨A,0,none⟩) N N):=E.go zt (fun c hc=>by
    have e0:w c=w c:=rfl;have d1:c<3*af:=by rcases hc with rfl|rfl|rfl|rfl<;>omega
    have d2:c≠y∧c≠A:=by rcases hc with rfl|rfl|rfl|rfl<;>omega
    exact zp)
   have ap:OR 4 ratP p u y (ls.set (k*N+k) 1):=ao.go ratP.kp zt (by
    have e0:a5 y=a5 y:=rfl;exact zp)
   have an:OR 4 ratP p u A (ds.set k (a k k)):=am.xx ratP.kp zx;have au:∀q∈ls.set (k*N+k) 1,Sz 60 q:=fun q l=>by
    rcases Bd l with l|rfl
    ·exact sL q l
    exact zde
   have ar:∀q∈ds.set k (a k k),Sz 60 q:=fun q l=>by
    rcases Bd l with l|rfl
    ·exact sD q l
    exact cq.mono zo
   have br:IW p u R O Z S (a k k).num:=H.t zt;have bu:IW p u U V W Y (denZ (a k k)):=I.t zt;obtain ⟨cv,d3⟩:∃e,p (3*ad+2)=some (.row [kz R,jx O Z S,kz U,jx V W Y] e):=⟨_,zp⟩;have ah:∀c,c<3*n→p c=h c:=fun c hc=>(show p c=w c by
    have e0:w c=w c:=rfl;exact zp).trans (av c hc)
   rcases bvs ai with ⟨rfl,bn⟩|⟨rfl,_⟩
   ·exact cA ae bn
   obtain ⟨cp,bx,cm,c3,d6,cz,bh⟩:=a7.e;refine zG ?_;refine sSn (n0:=n) [jy .i64 (N:Int),jy .i64 ((k+1:Nat):Int),kS (some ⟨bt,0,none⟩),kz cp,jx bx cm c3,jx (some ⟨y,0,none⟩) (N*N) (N*N),jx (some ⟨A,0,none⟩) N N] ?_;intro dn eg aw;refine zG ?_;have es:=a7.z.1;have et:=a7.s.1;obtain ⟨fk,dy⟩:=a7.t;have dd:EL dn u b0 bt be bs N (k+1) T (tS N a0) bf (jx (some ⟨y,0,none⟩) (N*N) (N*N)) (jx (some ⟨A,0,none⟩) N N):=⟨⟨_,_,_,_,_,eg,bh.t zt⟩,⟨_,(aw.1 bt zo).trans dy⟩,a7.z.go intP.kp zt (aw.1 be zo),a7.s.go ratP.kp zt (aw.1 bs zo),zo,⟨rfl,rfl⟩⟩;exact sK (k+1,T,bf,a,ls.set (k*N+k) 1,ds.set k (a k k)) ⟨rfl,zo,fun c hc=>(aw.1 c zo).trans (ah c hc),dd,hP.skip hD d ae dx,ap.go ratP.kp zt (aw.1 y zo),an.go ratP.kp zt (aw.1 A zo),by rw [AY];exact lL,by rw [AY];exact lD,au,ar,by show k+1≤N;omega⟩
  have a1:0<a k k:=zed M;refine zG ?_;refine sC (rR _ (H.t zt) (I.t zt)) ?_;rintro _ c8 cn ⟨c0,rfl,a9⟩ ct cr;rcases bvs a9 with ⟨rfl,_⟩|⟨rfl,aq⟩
  rotate_left
  ·exact cA aq (fun e=>by rw [e] at a1;exact cA a1 zd)
  refine zG ?_;refine zm [0,1,3,7,0,0,48,0,240,0,1023,2047] rfl ?_;refine zH ?_;refine dMu k N zo ?_;refine zH ?_;refine dC (zdp _ _ _) ?_;rintro _ cw bm ⟨b1,az,bk,b2,b3,b4,b5,b6,rfl,bc,bi⟩ da d7;refine dI (j:=k*N+k) rfl ce ?_;refine dZn (n0:=n) (j:=k*N+k) [kz b1,jx az bk b2,kz b3,jx b4 b5 b6] (oL.xx ratP.kp zx) ratP.kp zo (AA _) ⟨_,_,_,_,_,_,_,_,rfl,bc,bi⟩ zo ?_;intro a5 ao d4;refine zG ?_;refine zm [0,1,3,7,0,0,63,127] rfl ?_;refine zH ?_;refine dI rfl d ?_;have al:OR 4 ratP a5 bm A ds:=oD.go ratP.kp zt (by
   have e0:w A=w A:=rfl;exact zp)
  refine dZn (n0:=n) (j:=k) [kz R,jx O Z S,kz U,jx V W Y] al ratP.kp zo (AA _) ⟨_,_,_,_,_,_,_,_,rfl,H.t zt,I.t zt⟩ zo ?_;intro cy am d5;refine zG ?_;refine sC (rR _ (H.t zt) (I.t zt)) ?_;rintro _ p u ⟨cu,rfl,ai⟩ db d8;have a7:EL p u b0 bt be bs N k T (tS N a0) bf (jx (some ⟨y,0,none⟩) (N*N) (N*N)) (jx (some ⟨A,0,none⟩) N N):=E.go zt (fun c hc=>by
   have e0:w c=w c:=rfl;have d1:c<3*af:=by rcases hc with rfl|rfl|rfl|rfl<;>omega
   have d2:c≠y∧c≠A:=by rcases hc with rfl|rfl|rfl|rfl<;>omega
   exact zp)
  have ap:OR 4 ratP p u y (ls.set (k*N+k) 1):=ao.go ratP.kp zt (by
   have e0:a5 y=a5 y:=rfl;exact zp)
  have an:OR 4 ratP p u A (ds.set k (a k k)):=am.xx ratP.kp zx;have au:∀q∈ls.set (k*N+k) 1,Sz 60 q:=fun q l=>by
   rcases Bd l with l|rfl
   ·exact sL q l
   exact zde
  have ar:∀q∈ds.set k (a k k),Sz 60 q:=fun q l=>by
   rcases Bd l with l|rfl
   ·exact sD q l
   exact cq.mono zo
  have br:IW p u R O Z S (a k k).num:=H.t zt;have bu:IW p u U V W Y (denZ (a k k)):=I.t zt;obtain ⟨cv,d3⟩:∃e,p (3*ad+2)=some (.row [kz R,jx O Z S,kz U,jx V W Y] e):=⟨_,zp⟩;have ah:∀c,c<3*n→p c=h c:=fun c hc=>(show p c=w c by
   have e0:w c=w c:=rfl;exact zp).trans (av c hc)
  rcases bvs ai with ⟨rfl,_⟩|⟨rfl,bn⟩
  rotate_left
  ·exact cA bn (fun e=>by rw [e] at a1;exact cA a1 zd)
  refine zG ?_;refine sF (α:=Nat×List Rat) (fun z=>[(1,jy .i64 (N:Int)),(4,kS none),(5,kz false),(6,kS (some ⟨b0,0,none⟩)),(7,kz true),(8,jy .i64 (k:Int)),(9,kS (some ⟨3*ad+2,0,none⟩)),(12,jy .i64 (z.1:Int)),(28,jy .i64 (N:Int)),(29,jy .i64 (k:Int))])
   (fun z h' n' w'=>w'=[]∧u≤n'∧ExtB u [y] p h'∧Tr u p n' h'∧OR 4 ratP h' n' y z.2∧gP z.2=N*N∧(∀q∈z.2,Sz 60 q)∧k+1≤z.1∧z.1≤N) (fun z=>N-z.1) (k+1,ls.set (k*N+k) 1) ⟨rfl,eT,ExtB.refl _ _ _,Tr.refl _ _,ap,by rw [AY];exact lL,au,eT,d⟩ ?_
  rintro ⟨i,a6⟩ t C G _ ⟨rfl,bo,a4,J,K,a2,a3,ac,ak⟩;have bo:u≤G:=bo;have ac:k+1≤i:=ac;have ak:i≤N:=ak;have K:OR 4 ratP C G y a6:=K;have a2:gP a6=N*N:=a2;have a3:∀q∈a6,Sz 60 q:=a3;have J:Tr u p G C:=J;have ag:EL C G b0 bt be bs N k T (tS N a0) bf (jx (some ⟨y,0,none⟩) (N*N) (N*N)) (jx (some ⟨A,0,none⟩) N N):=a7.go J (fun c hc=>a4 c (by rcases hc with rfl|rfl|rfl|rfl<;>omega) (by rcases hc with rfl|rfl|rfl|rfl<;>(simp only [nP];omega)));obtain ⟨cp,bx,cm,c3,d6,cz,bh⟩:=ag.e;have b7:GG C G:=g.ext (fun c hc=>(a4 c zo (by simp only [nP];omega)).trans (ah c hc)) zo;have ch:IW C G R O Z S (a k k).num:=br.t J;have cj:IW C G U V W Y (denZ (a k k)):=bu.t J;have eh:C (3*ad+2)=some (.row [kz R,jx O Z S,kz U,jx V W Y] _):=(a4 _ zo (by simp only [nP];omega)).trans (show p (3*ad+2)=_ from zp);refine zG ?_;by_cases qi:(i:Int)<(N:Int)
  ·have F:i<N:=zo;have e4:=bz F;refine zG ?_;refine zm [0,1,3,7,0,0,48,0,240,0,0,0,3584,0,15872,32767,65535] rfl ?_;refine zH ?_;refine dMu i N zo ?_;refine zH ?_;refine dC (atX _ b7 ag F d hN.2 (b9 i k F d) bb ba (bp i k F d) (cg i F) cf) ?_;rintro _ dp e9 ⟨df,de,e7,dg,dh,di,dj,dl,rfl,bg,bj⟩ ep em;rw [hP.at zo F eT d] at bg bj;refine zH ?_;refine dC (divQ _ (b7.x zx) bg bj (ch.t zt) (cj.t zt) ((hP.sz hN.2 aj hD a8 d zo F eT d).2 zo) ((hP.sz hN.2 aj hD a8 d eT d eT d).2 zo) zo) ?_;rintro _ dq ea ⟨c1,bw,cl,c2,c4,c5,c6,c7,rfl,ci,ck⟩ eq en;refine dI (j:=i*N+k) rfl (show i*N+k<N*N by omega) ?_;refine dZn (n0:=n) (j:=i*N+k) [kz c1,jx bw cl c2,kz c4,jx c5 c6 c7] (K.xx ratP.kp zx) ratP.kp zo (AA _) ⟨_,_,_,_,_,_,_,_,rfl,ci,ck⟩ zo ?_;intro dr co ej;refine zG ?_;exact sK (i+1,a6.set (i*N+k) (a i k/a k k)) ⟨rfl,zo,zy,J.trans zt,co,by rw [AY];exact a2,fun q l=>(by
    rcases Bd l with l|rfl
    ·exact a3 q l
    ·exact (hP.quo hN.2 aj hD a8 d a1 ac F).mono zo),zo,by show i+1≤N;omega⟩
  refine zG ?_;refine zB _ R5 (kT _ ag d hN.2 ba bb b9 (zan hZ d0 hN.2)) ?_;rintro _ c9 eb ek ⟨er,cs,ay,bv,bq⟩;rw [vW,z0 (fun c hc=>by rcases bq c hc with rfl|rfl<;>omega)];refine zG ?_;have aa:∀c,c<3*G→c≠be→c≠b0→c9 c=C c:=fun c hc h1 h2=>cs c hc (by simp only [sP,nN,or_false,not_or];exact ⟨h1,h2⟩);have ax:=K.1;exact sK (k+1,yG T k bf,T k k,qt a k,a6,ds.set k (a k k)) ⟨rfl,zo,fun c hc=>(aa c zo zo zo).trans ((a4 c zo (by simp only [nP];omega)).trans (ah c hc)),bv,hP.step hN.2 hD d a1,K.go ratP.kp ay (aa y ax zo zo),an.go ratP.kp (J.trans ay) ((aa A zo zo zo).trans (a4 A zo (by simp only [nP];omega))),a2,by rw [AY];exact lD,a3,ar,by show k+1≤N;omega⟩
 have d:k=N:=zo;refine Zt ?_;exact ⟨_,_,rfl,⟨fun _=>hP.i.done d,fun _=>rfl⟩,fun _=>⟨y,A,ls,ds,_,_,_,_,_,_,dw,zo,o2,oL,oD,lL,lD,sL,sD⟩⟩
end
end
def inB (x:Rat)(lo hi:List UInt8):Prop:=(lo=[]∨numOf lo≤x)∧(hi=[]∨x≤numOf hi)
def zds (m:Rat)(lo hi:List UInt8):Prop:=(0<m.num→lo≠[])∧(m.num<0→hi≠[])
def hS {α β:Type}(R:α→β→Prop)(ds:List α)(xs:List β):Prop:=∀(j:Nat) d q,ds[j]?=some d→xs[j]?=some q→R d q
def hT {α β:Type}(R:α→β→Prop)(ds:List α)(xs:List β)(j:Nat):Prop:=∀i,i<j→∀d q,ds[i]?=some d→xs[i]?=some q→R d q
section
variable {R:α→β→Prop}{ds:List α}{ms:List β}{j:Nat}{d:α}{m:β}
end
abbrev okS (ds:List SideD)(ms:List Rat):Prop:=hS (fun d m=>zds m d.lo d.hi) ds ms
abbrev okT (ds:List SideD)(ms:List Rat)(j:Nat):Prop:=hT (fun d m=>zds m d.lo d.hi) ds ms j
abbrev inS (ds:List SideD)(xs:List Rat):Prop:=hS (fun d q=>inB q d.lo d.hi) ds xs
abbrev inT (ds:List SideD)(xs:List Rat)(j:Nat):Prop:=hT (fun d q=>inB q d.lo d.hi) ds xs j
def rowH (P:Rat→List UInt8→List UInt8→Prop)(xs:List Rat)(d:SideD):Prop:=P (dotR d.A (xs.take (gP d.A))) d.lo d.hi
abbrev rowIn (xs:List Rat)(d:SideD):Prop:=rowH inB xs d
noncomputable def colQ (rs:List SideD)(ms:List Rat)(c:Rat)(j:Nat):Nat→Rat
 |0=>c
 |i+1=>colQ rs ms c j i+((rs[i]?.bind fun d=>d.A[j]?).getD 0)*ms[i]?.getD 0
section
variable {ms cs:List Rat}{i j:Nat}
end
section
variable {ms w:List Nat}{i n:Nat}{d:Tmp}
end
open Classical in
open Classical in
open Classical in
section
variable {p:LPD}{R:List (List UInt8)}
open Classical in
open Classical in
end
def wo:List Rat→Nat
 |[]=>1
 |q::l=>q.den*wo l
theorem tR:∀l:List Rat,0<wo l
 |[]=>Nat.one_pos
 |q::l=>CQ q.den_pos (tR l)
section
variable {n p:Nat}{s:List UInt8}
structure SR (s:List UInt8)(x y:Int):Prop where
 e1:x=(numOf s).num
 e2:y=((numOf s).den:Int)
 b1: -1000000000<x∧x<1000000000
 b2:0<y∧y<1000000000
theorem mul9 {a b:Int}(c: -1000000000<a∧a<1000000000)(d: -1000000000<b∧b<1000000000): -1000000000000000000≤a*b∧a*b≤1000000000000000000:=by
 have h:(a*b).natAbs≤1000000000*1000000000:=by
  rw [AX];exact AD zo zo
 omega
theorem zem {a b:Int}(c:0<a∧a<1000000000)(d:0<b∧b<1000000000):0<a*b∧a*b≤1000000000000000000:=⟨Gu c.1 d.1,(mul9 ⟨zo,c.2⟩ ⟨zo,d.2⟩).2⟩
theorem kx (k:Nat)(h:HF)(n:Nat)(s:List UInt8)(i:gP s<1000000):CX (cal (k+5)) 114 [kF ⟨⟨s⟩⟩] h n fun v _ _=>∃x y a,v=.tuple #[.agg #[jy .i64 x,jy .i64 y],kz a]∧(a=true→SR s x y):=by
 refine yg (iM k h n s i) ?_;rintro v m o w ⟨b,c,d,x,y,a,rfl,g⟩;refine ⟨b,c,d,x,y,a,rfl,fun f=>?_⟩;obtain ⟨q,e,rfl,rfl,j,l⟩:=g f;rw [←sW e] at*
 have:=(numOf s).den_pos;exact ⟨rfl,rfl,zo,zo⟩
theorem tM (k:Nat)(g:GG h n){N D:Int}(a: -9000000000000000000≤N∧N≤9000000000000000000)(b:0<D∧D≤9000000000000000000):CX (cal (k+6)) 86 [jy .i64 N,jy .i64 D] h n fun v _ _=>v=kF ⟨⟨ratT (Av N D)⟩⟩:=by
 obtain ⟨d,rfl⟩:∃d:Nat,D=(d:Int):=⟨D.toNat,zo⟩;exact (eM k g.1 g.2 a ⟨zo,zo⟩).cx
theorem SR.add {a b:List UInt8}{x y u v:Int}(p:SR a x y)(q:SR b u v):Av (x*v+u*y) (y*v)=numOf a+numOf b:=by
 rw [p.e1,p.e2,q.e1,q.e2,Rat.add_def',←EM,A6]
theorem SR.mul {a b:List UInt8}{x y u v:Int}(p:SR a x y)(q:SR b u v):Av (x*u) (y*v)=numOf a*numOf b:=by
 rw [p.e1,p.e2,q.e1,q.e2,Rat.mul_def',←EM,A6]
theorem TL.ratT (h:Sz 62 q):TL (ratT q):=by
 have a:∀V,V<2^62→gP (decT V)≤19:=fun V b=>by
  unfold decT;split
  ·decide
  rw [oo,tu];exact xm 19 V (tv b (by decide+kernel))
 refine ⟨?_,fun m d e=>?_⟩
 ·have c:=a _ h.1;have f:=a _ h.2;unfold Go.Proofs.YtfajmfoofmienaaGreatDoor.ratT;simp only [nn];split<;>split<;>simp<;>omega
 rw [uT] at e;injection e with e1 e2
 injection e2 with e2 _
 subst e1 e2;refine ⟨a _ h.1,?_⟩;split
 ·exact Du _
 exact a _ h.2
theorem bD (k:Nat){a b:List UInt8}(ha:gP a<1000000)(hb:gP b<1000000):CX (cal (k+6)) 85 [kF ⟨⟨a⟩⟩,kF ⟨⟨b⟩⟩] h n fun v _ _=>∃x y u t ok,v=.tuple #[.agg #[jy .i64 x,jy .i64 y],.agg #[jy .i64 u,jy .i64 t],kz ok]∧(ok=true→SR a x y∧SR b u t):=by
 refine zu (fn:=Tryz.f85) R4 ?_;refine Zh ?_;intro o a5 al;refine sA ?_;intro w a6 am;refine zG ?_;refine sC (kx _ _ _ a ha) ?_;rintro _ A S ⟨c,e,l,rfl,g⟩ av an;cases l
 ·refine Zh ?_;intro B a7 ao;refine sS [jy .i64 c,jy .i64 e] ?_;intro C a8 U;refine zG ?_;refine sT #[jy .i64 0,jy .i64 0] ?_;refine sT #[jy .i64 0,jy .i64 0] ?_;refine sS [jy .i64 0,jy .i64 0] ?_;intro D a9 V;refine sS [jy .i64 0,jy .i64 0] ?_;intro F aa W;refine zq ?_;exact ⟨_,_,_,_,_,rfl,fun j=>(by cases j)⟩
 have g:=g rfl;refine Zh ?_;intro G ab ap;refine sS [jy .i64 c,jy .i64 e] ?_;intro H ac Y;refine zG ?_;refine sC (kx _ _ _ b hb) ?_;rintro _ I T ⟨d,f,m,rfl,i⟩ aw aq;cases m
 ·refine Zh ?_;intro J ad ar;refine sS [jy .i64 d,jy .i64 f] ?_;intro K ae Z;refine zG ?_;refine sT #[jy .i64 0,jy .i64 0] ?_;refine sT #[jy .i64 0,jy .i64 0] ?_;refine sS [jy .i64 0,jy .i64 0] ?_;intro L af a0;refine sS [jy .i64 0,jy .i64 0] ?_;intro M ag a1;refine zq ?_;exact ⟨_,_,_,_,_,rfl,fun j=>(by cases j)⟩
 have i:=i rfl;refine Zh ?_;intro N ah au;refine sS [jy .i64 d,jy .i64 f] ?_;intro O ai a2;refine zG ?_;refine zm [0,0,1,7,15] rfl ?_;refine zH ?_;refine dS [jy .i64 c,jy .i64 e] ?_;intro P aj a3;refine dS [jy .i64 d,jy .i64 f] ?_;intro R ak a4;refine zq ?_;exact ⟨_,_,_,_,_,rfl,fun _=>⟨g,i⟩⟩
theorem dY (k:Nat)(g:GG h n)(hs:TL s):CX (cal (k+10)) 87 [kF ⟨⟨s⟩⟩] h n (QV (numOf s)):=by
 refine zu (fn:=Tryz.f87) R4 ?_;refine Zh ?_;intro u G K;refine zG ?_;refine sC (zpe _ (g.x zx) hs) ?_;rintro _ v C ⟨b,a,j,c,d,e,f,i,o,rfl,l,m,B⟩ N L;refine Zh ?_;intro w H M;refine sS [kz b,jx a j c,kz d,jx e f i] ?_;intro y I D;refine zG ?_;refine sS [kz b,jx a j c,kz d,jx e f i] ?_;intro A J F;refine zq ?_;exact ⟨_,_,_,_,_,_,_,_,rfl,(l.t zt),(m.t zt)⟩
theorem addS (k:Nat)(g:GG h n){a b:List UInt8}(ha:TL a)(hb:TL b){q r:Nat}(C:Sz p (numOf a))(F:Sz q (numOf b))(aq:p+q+1≤64)(G:Sz r (numOf a+numOf b))(hr:r≤64):VF (cal (k+11)) 48 [kF ⟨⟨a⟩⟩,kF ⟨⟨b⟩⟩] h n fun v=>v=kF ⟨⟨ratT (numOf a+numOf b)⟩⟩:=by
 refine zI (fn:=Tryz.f48) R4 ?_;refine zG ?_;refine sC (bD _ ha.1 hb.1) ?_;rintro _ ac aw ⟨f,d,e,c,l,rfl,B⟩ bq bg;cases l
 ·refine Zh ?_;intro ad b8 bh;refine sA ?_;intro ae b9 bi;refine sS [jy .i64 f,jy .i64 d] ?_;intro af ba b4;refine sS [jy .i64 e,jy .i64 c] ?_;intro ag bb b5;refine zG ?_;refine sC (dY _ (g.x zx) ha) ?_;rintro _ ah ax ⟨K,H,ar,S,W,a1,a5,a9,rfl,m,w⟩ br bj;refine zG ?_;refine sC (dY _ (g.x zx) hb) ?_;rintro _ ai ay ⟨L,I,au,T,Y,a2,a6,aa,rfl,o,y⟩ bs bk;refine sC (addQ _ (g.x zx) (m.t zt) (w.t zt) o y C F zo) ?_;rintro _ aj az ⟨M,J,av,U,Z,a3,a7,ab,rfl,u,A⟩ bt bl;refine sC ((tJ _ (g.x zx).1 (g.x zx).2 u A G hr).cx) ?_;rintro _ ak b0 rfl bu bm;refine zf ?_;exact rfl
 obtain ⟨i,j⟩:=B rfl;have V:=i.b1;have a0:=i.b2;have a4:=j.b1;have a8:=j.b2;refine Zh ?_;intro al bc bn;refine sA ?_;intro am bd bo;refine sS [jy .i64 f,jy .i64 d] ?_;intro an be b6;refine sS [jy .i64 e,jy .i64 c] ?_;intro ao bf b7;refine zG ?_;have O:=mul9 (a:=f) (b:=c) zo zo;refine st_mul rfl rfl rfl rfl rfl rfl zo ?_;refine zG ?_;have P:=mul9 (a:=e) (b:=d) zo zo;refine st_mul rfl rfl rfl rfl rfl rfl zo ?_;refine zG ?_;have R:=zem (a:=d) (b:=c) zo zo;refine st_mul rfl rfl rfl rfl rfl rfl zo ?_;refine sC (tM _ (g.x zx) (N:=((f*c)+(e*d))) (D:=(d*c)) zo zo) ?_;rintro _ ap b3 rfl bv bp;refine zf ?_;exact by rw [SR.add i j];rfl
theorem mulS (k:Nat)(g:GG h n){a b:List UInt8}(ha:TL a)(hb:TL b){q r:Nat}(C:Sz p (numOf a))(F:Sz q (numOf b))(ap:p+q+1≤64)(G:Sz r (numOf a*numOf b))(hr:r≤64):VF (cal (k+11)) 49 [kF ⟨⟨a⟩⟩,kF ⟨⟨b⟩⟩] h n fun v=>v=kF ⟨⟨ratT (numOf a*numOf b)⟩⟩:=by
 refine zI (fn:=Tryz.f49) R4 ?_;refine zG ?_;refine sC (bD _ ha.1 hb.1) ?_;rintro _ ab av ⟨e,f,c,d,l,rfl,B⟩ bp bf;cases l
 ·refine Zh ?_;intro ac b7 bg;refine sA ?_;intro ad b8 bh;refine sS [jy .i64 e,jy .i64 f] ?_;intro ae b9 b3;refine sS [jy .i64 c,jy .i64 d] ?_;intro af ba b4;refine zG ?_;refine sC (dY _ (g.x zx) ha) ?_;rintro _ ag aw ⟨K,H,aq,R,V,a0,a4,a8,rfl,m,w⟩ bq bi;refine zG ?_;refine sC (dY _ (g.x zx) hb) ?_;rintro _ ah ax ⟨L,I,ar,S,W,a1,a5,a9,rfl,o,y⟩ br bj;refine sC (mulQ _ (g.x zx) (m.t zt) (w.t zt) o y C F zo) ?_;rintro _ ai ay ⟨M,J,au,T,Y,a2,a6,aa,rfl,u,A⟩ bs bk;refine sC ((tJ _ (g.x zx).1 (g.x zx).2 u A G hr).cx) ?_;rintro _ aj az rfl bt bl;refine zf ?_;exact rfl
 obtain ⟨i,j⟩:=B rfl;have U:=i.b1;have Z:=i.b2;have a3:=j.b1;have a7:=j.b2;refine Zh ?_;intro ak bb bm;refine sA ?_;intro al bc bn;refine sS [jy .i64 e,jy .i64 f] ?_;intro am bd b5;refine sS [jy .i64 c,jy .i64 d] ?_;intro an be b6;refine zG ?_;have O:=mul9 (a:=e) (b:=c) zo zo;refine st_mul rfl rfl rfl rfl rfl rfl zo ?_;refine zG ?_;have P:=zem (a:=f) (b:=d) zo zo;refine st_mul rfl rfl rfl rfl rfl rfl zo ?_;refine sC (tM _ (g.x zx) (N:=(e*c)) (D:=(f*d)) zo zo) ?_;rintro _ ao b0 rfl bu bo;refine zf ?_;exact by rw [SR.mul i j];rfl
end
section
variable {k len n sz:Nat}{a:Option Addr}
theorem strs_len1 (l:List (List UInt8)):gP (strs l)=gP l*1:=by simp [strs]
theorem ones_strs (l:List (List UInt8)):ones (strs l)=true:=by
 induction l with
 |nil=>rfl
 |cons e l ih=>exact ih
end
section
variable {s:List UInt8}{a:Option Addr}{j:Nat}
def zrk (r:RowD):Prop:=gP r.A≤7∧(∀s∈r.A,(gP s:Int)≤8)∧∀s∈[r.lo,r.hi],(gP s:Int)≤8
structure SmlP (p:LPD):Prop where
 n1:gP p.obj≤5
 n2:gP p.rows≤6
 n3:gP p.lower≤7
 n4:gP p.upper≤7
 ob:∀s∈p.obj,(gP s:Int)≤8
 lw:∀s∈p.lower,(gP s:Int)≤8
 up:∀s∈p.upper,(gP s:Int)≤8
 rw:∀r∈p.rows,zrk r
section
variable {n:Nat}{w:List Nat}{d:Tmp}
end
section
variable {ms w:List Nat}{i n:Nat}{d:Tmp}
end
end
section
variable {n:Nat}
section
variable {x y:Rat}{p q r:Nat}
theorem zn (x:Rat):numOf (ratT x)=x:=sW rfl
theorem addR (k:Nat)(g:GG h n)(e:Sz p x)(f:Sz q y)(l:p≤62)(m:q≤62)(c:p+q+1≤64){z:Rat}(d:x+y=z)(s:Sz r z)(o:r≤64):VF (cal (k+11)) 48 [kF ⟨⟨ratT x⟩⟩,kF ⟨⟨ratT y⟩⟩] h n fun v=>v=kF ⟨⟨ratT z⟩⟩:=by
 have:=addS k g (a:=ratT x) (b:=ratT y) (TL.ratT (e.mono l)) (TL.ratT (f.mono m)) (p:=p) (q:=q) (r:=r) (by rw [zn];exact e) (by rw [zn];exact f) c (by rw [zn,zn,d];exact s) o;rw [zn,zn,d] at this;exact this
theorem mulR (k:Nat)(g:GG h n)(c:Sz p x)(d:Sz q y)(e:p≤62)(f:q≤62)(l:p+q≤62):VF (cal (k+11)) 49 [kF ⟨⟨ratT x⟩⟩,kF ⟨⟨ratT y⟩⟩] h n fun v=>v=kF ⟨⟨ratT (x*y)⟩⟩:=by
 have:=mulS k g (a:=ratT x) (b:=ratT y) (TL.ratT (c.mono e)) (TL.ratT (d.mono f)) (p:=p) (q:=q) (r:=p+q) (by rw [zn];exact c) (by rw [zn];exact d) zo (by rw [zn,zn];exact c.mul d) zo;rw [zn,zn] at this;exact this
end
noncomputable def cq (p:LPD)(R C:List (List UInt8))(j i:Nat):Rat:=colQ (zia p) (R.map numOf) (((C.map numOf)[j]?).getD 0) j i
section
variable {p:LPD}{R X:List (List UInt8)}{i j:Nat}
theorem wf:ratT 0=[48]:=rfl
end
end
section
variable {B:Nat}{s:List UInt8}
theorem wg (h:Sz 8 q):gP (ratT q)<11:=by
 have b:∀V,V<2^8→gP (decT V)≤3:=fun V c=>by
  unfold decT;split
  ·decide
  rw [oo,tu];exact xm 3 V (tv c (by decide+kernel))
 have d:=b _ h.1;have e:=b _ h.2;unfold Go.Proofs.YtfajmfoofmienaaGreatDoor.ratT;simp only [nn];split<;>split<;>simp<;>omega
theorem zo8 (k:Nat)(h:HF)(n:Nat){N:Nat}{a:Option Addr}{c:Nat}(b:1≤N∧N≤3):VF (cal (k+1)) 200 [.agg #[jy .i64 (N:Int),jy .i64 (N:Int),jx a (N*N) c]] h n fun v=>v=kz true:=by
 have e:=sq9 b.2;refine zI (fn:=Tryz.f200) R4 ?_;refine zG ?_;refine sB [jy .i64 (N:Int),jy .i64 (N:Int),jx a (N*N) c] ?_;intro d f g;refine zG ?_;refine sMu N N zo ?_;refine Zq ?_;rfl
theorem zhv {N:Nat}{a:Nat→Nat→Rat}:((tabL N a).map ratT).map numOf=tabL N a:=by
 rw [DA,show numOf ∘ ratT=id from funext zn,List.map_id]
theorem FN.den {x:Rat}(h:FN D B x):x.den∣D:=by
 obtain ⟨z,d,_⟩:=h;have b:x.num*(D:Int)=z*(x.den:Int):=by
  apply DD.1;rw [A8,A8,←d,←sJ x,Bc,Bc,AM,AM,BO (x.den:Rat)]
 have c:x.num.natAbs*D=z.natAbs*x.den:=by
  have:=congrArg Int.natAbs b;rwa [AX,AX,sa,sa] at this
 exact (FV x.reduced).dvd_of_dvd_mul_left ⟨z.natAbs,by rw [c,Nat.mul_comm]⟩
theorem FN.sz {P:Nat}(h:FN D B q)(g:0<D)(c:D<2^P)(b:B<2^P):Sz P q:=by
 obtain ⟨z,i,f⟩:=h;have d:((D:Int):Rat)≠0:=du g;have e:q=Av z D:=by
  rw [Bm,Bv,←i,←Bc,AM,CT _ d,DW]
 rw [e];exact vk zo (Ae f b) (by rw [sa];exact c)
section
variable {N n:Nat}{a:Nat→Nat→Rat}
theorem zhw (e:s∈(tabL N a).map ratT):∃i j,i<N∧j<N∧s=ratT (a i j):=by
 obtain ⟨q,d,rfl⟩:=Ay.1 e;obtain ⟨m,b,rfl⟩:=Ay.1 d;have b:=Cf.1 b;have c:0<N:=by
  rcases Nat.eq_zero_or_pos N with rfl|h
  ·simp at b
  exact h
 exact ⟨_,_,Nat.div_lt_of_lt_mul b,Nat.mod_lt _ c,rfl⟩
theorem zpf (k:Nat)(g:GG h n)(o:1≤N∧N≤3)(s:Sl h n 1 (jx aE (N*N) cE) (strs ((tabL N a).map ratT)))(A:∀i j,i<N→j<N→Sz P (a i j))(J:P≤4):
  CX (cal (k+11)) 162 [.agg #[jy .i64 (N:Int),jy .i64 (N:Int),jx aE (N*N) cE]] h n fun v h' n'=>∃c l d,v=.tuple #[jx c l d,kz true]∧QSL n h' n' (jx c l d) (tabL N a):=by
 refine zu (fn:=Tryz.f162) R4 ?_;refine zG ?_;refine sB [jy .i64 (N:Int),jy .i64 (N:Int),jx aE (N*N) cE] ?_;intro K R S;refine zG ?_;refine sC (zo8 _ _ _ o).cx ?_;rintro _ m w rfl V T;refine zG ?_;have I:Sl m w 1 (jx aE (N*N) cE) (strs ((tabL N a).map ratT)):=s.ext (zx:Tx n h w m).2 zo;refine sC (zig _ (g.x zx) I (fun s f=>by
  obtain ⟨i,j,C,F,rfl⟩:=zhw f;exact tv (wg ((A i j C F).mono zo)) zd) (by rw [oo,yI];have:=sq9 o.2;omega)) ?_
 rintro _ M O ⟨c,l,d,H,rfl,p,b⟩ W U;have G:H=true:=p.2 (fun s f=>by
  obtain ⟨q,_,rfl⟩:=Ay.1 f;exact ⟨q,rfl⟩)
 subst G;have b:=b rfl;rw [zhv] at b;refine Zt ?_;exact ⟨_,_,_,rfl,b.1,fun y u cap e=>by have:=b.2 y u cap e;exact ⟨zo,this.2⟩⟩
theorem ah (k:Nat)(g:GG h n)(o:1≤N∧N≤3)(s:Sl h n 1 (jx aE (N*N) cE) (strs ((tabL N a).map ratT)))(H:∀i j,i<N→j<N→Sz P (a i j))(p:P≤4)(I:∀i j,i<N→j<N→a i j=a j i):
  CX (cal (k+12)) 138 [.agg #[jy .i64 (N:Int),jy .i64 (N:Int),jx aE (N*N) cE]] h n fun v h' n'=>∃a' l' c',v=.tuple #[jx a' l' c',jy .i64 0]∧QSL n h' n' (jx a' l' c') (tabL N a):=by
 have T:=sq9 o.2;refine zu (fn:=Tryz.f138) R4 ?_;refine zG ?_;refine sB [jy .i64 (N:Int),jy .i64 (N:Int),jx aE (N*N) cE] ?_;intro h1 W x1;refine zG ?_;refine sC (zpf _ (g.x zx) o (s.ext (zx:Tx n h _ h1).2 zo) H p) ?_;rintro _ h2 d ⟨l,l2,m,rfl,u⟩ y2 x2;refine zG ?_;have w:Sl h2 d 1 (jx aE (N*N) cE) (strs ((tabL N a).map ratT)):=s.ext (zx:Tx n h d h2).2 zo;refine sF (α:=Nat) (fun z=>[(1,kS (some ⟨3*n+2,0,none⟩)),(4,jx l l2 m),(21,jy .i64 (N:Int)),(22,jy .i64 (z:Int))])
  (fun z h' n' f=>f=[]∧h2=h'∧d=n'∧z≤N) (fun z=>N-z) 0 ⟨rfl,rfl,rfl,eU⟩ ?_
 rintro i t _ _ _ ⟨rfl,rfl,rfl,hi⟩;have hi:i≤N:=hi;refine zG ?_;by_cases qi:(i:Int)<(N:Int)
 ·have b:i<N:=zo;refine zG ?_;refine sF (α:=Nat) (fun z=>[(1,kS (some ⟨3*n+2,0,none⟩)),(4,jx l l2 m),(6,jy .i64 (i:Int)),(21,jy .i64 (N:Int)),(22,jy .i64 (i:Int)),(25,jy .i64 (i:Int)),(26,jy .i64 (z:Int))])
   (fun z h' n' f=>f=[]∧h2=h'∧d=n'∧z≤i) (fun z=>i-z) 0 ⟨rfl,rfl,rfl,eU⟩ ?_
  rintro j t _ _ _ ⟨rfl,rfl,rfl,hj⟩;have hj:j≤i:=hj;refine zG ?_;by_cases qj:(j:Int)<(i:Int)
  ·have c:j<N:=zo;have A:=rH b c;have C:=rH c b;obtain ⟨R,U,F,J,Y,M⟩:=yD (s:=ratT (a i j)) w (by rw [sr,vH b c];rfl);obtain ⟨S,V,G,K,Z,O⟩:=yD (s:=ratT (a i j)) w (j:=j*N+i) (by rw [sr,vH c b,I j i c b];rfl);refine zG ?_;refine zm [0,1,0,0,8,28,0,124,255,511,0,1024,0,0,8192,28672,0,126976,261120,523264,1048575] rfl ?_;refine zH ?_;refine dMu i N zo ?_;refine zH ?_;refine dI (j:=i*N+j) F A ?_;refine dL M J 0 ?_;refine zH ?_;refine dMu j N zo ?_;refine zH ?_;refine dI (j:=j*N+i) G C ?_;refine dL O K 0 ?_;refine dQn true (beq_self_eq_true _) ?_;refine zH ?_;refine zG ?_;exact sK (j+1) ⟨rfl,rfl,rfl,by show j+1≤i;omega⟩
  refine zG ?_;exact sK (i+1) ⟨rfl,rfl,rfl,by show i+1≤N;omega⟩
 refine Zt ?_;exact ⟨_,_,_,rfl,u.1,fun y len cap e=>by have:=u.2 y len cap e;exact ⟨zo,this.2⟩⟩
theorem znk (k:Nat)(g:GG h n)(b:1≤N∧N≤3)(s:Sl h n 1 (jx aE (N*N) cE) (strs ((tabL N a).map ratT)))(hs:∀i j,i<N→j<N→a i j=a j i)(G:1≤P)(H:P≤4)(F:0<D)(m:D<2^P)(hd:∀i j,i<N→j<N→(a i j).den∣D)(A:∀i j,i<N→j<N→FN D B (a i j))(C:1≤B)(l:B<2^P):
  CX (cal (k+16)) 93 [.agg #[jy .i64 (N:Int),jy .i64 (N:Int),jx aE (N*N) cE]] h n fun v _ _=>∃K M O R S T x7 U e,v=.tuple #[.agg #[jy .i64 K,jy .i64 M,jx O R S,jx T x7 U],kz e,jy .i64 0]∧(e=true↔psdA N N 0 a):=by
 have Z:=sq9 b.2;have a1:1≤N*N:=CQ b.1 b.1;have hz:∀i j,i<N→j<N→Sz P (a i j):=fun i j hi hj=>FN.sz (A i j hi hj) F m l;refine zu (fn:=Tryz.f93) R4 ?_;refine zG ?_;refine sB [jy .i64 (N:Int),jy .i64 (N:Int),jx aE (N*N) cE] ?_;intro h1 p1 K;refine sA ?_;intro h2 p2 M;refine zG ?_;refine sC (ah _ (g.x zx) b (s.ext (zx:Tx n h _ h2).2 zo) hz H hs) ?_;rintro _ W n3 ⟨a3,l3,c3,rfl,f⟩ y3 O;have p:=f.1.len;rw [yI] at p;subst p;obtain ⟨V,sl,rc⟩:=f.1;obtain ⟨b3,o3,xb,cs,rfl,a4,a8,a5,d,a0,a6⟩:=sl.inv zo;have I:=(f.2 _ _ _ rfl).2;refine zG ?_;refine sC (znm _ (g.x zx) ((f.1.ext (Ext.refl _ _) eT).ext (zx:Tx n3 W _ _).2 zo) I d b G zo F m hd A C l) ?_;rintro _ y J ⟨b0,e,rfl,o,u⟩ y4 R;cases e with
 |false=>
  refine zG ?_;refine sT #[jy .i64 0,jy .i64 0,jx none 0 0,jx none 0 0] ?_;refine zG ?_;refine sS [jy .i64 0,jy .i64 0,jx none 0 0,jx none 0 0] ?_;intro Y p5 o5;refine Zt ?_;exact ⟨_,_,_,_,_,_,_,_,_,rfl,o⟩
 |true=>
  obtain ⟨bl,bd,ls,ds,z1,z2,z3,z4,z5,ty,hE,a2,a7,oL,oD,lL,lD,sL,sD⟩:=u rfl;refine zG ?_;refine zm [0,1,0,4,0,16,48,112,240,511,0,2047] rfl ?_;refine zH ?_;refine dC (cJ _ (g.x zx) ((OR.sl oL lL.symm eT).ext' ratP.stay (zx:Tx J y _ _).2 zo) zo sL zo) ?_;rintro _ Y n5 ⟨c,a9,rfl,o5,t5,l5⟩ y5 S;refine dT #[jy .i64 (N:Int),jy .i64 (N:Int),jx (some ⟨c,0,none⟩) (N*N) (N*N)] ?_;refine zH ?_;refine dB [jy .i64 0,jy .i64 0,jx none 0 0] ?_;intro h6 p6 T;refine dS [jy .i64 (N:Int),jy .i64 (N:Int),jx (some ⟨c,0,none⟩) (N*N) (N*N)] ?_;intro h7 p7 o7;refine zG ?_;refine zm [0,0,2,6,14,30,63,127,255,511] rfl ?_;refine zH ?_;refine dC (cJ _ (g.x zx) ((OR.sl oD lD.symm eT).ext' ratP.stay (zx:Tx J y _ _).2 zo) zo sD zo) ?_;rintro _ h8 n8 ⟨w,aa,rfl,o8,t8,l8⟩ y8 U;refine dT #[jy .i64 (N:Int),jy .i64 (N:Int),jx (some ⟨c,0,none⟩) (N*N) (N*N),jx (some ⟨w,0,none⟩) N N] ?_;refine zH ?_;refine dS [jy .i64 (N:Int),jy .i64 (N:Int),jx (some ⟨c,0,none⟩) (N*N) (N*N),jx (some ⟨w,0,none⟩) N N] ?_;intro Z p9 o9;refine Zt ?_;exact ⟨_,_,_,_,_,_,_,_,_,rfl,o⟩
end
structure MD where
 n:Nat
 a:Option Addr
 c:Nat
def mdP (c:List Value)(d:MD)(_:HF)(_:Nat):Prop:=c=[jy .i64 (d.n:Int),jy .i64 (d.n:Int),jx d.a (d.n*d.n) d.c]
theorem mdP.stay:Stay mdP:=⟨fun _ _ _ _ _ _ e _ _=>e⟩
theorem mdP.kp:KP 3 mdP:=⟨fun e _=>e,fun e=>by cases e;exact ⟨rfl,rfl,rfl⟩⟩
structure MS (h:HF)(n:Nat)(v:Value)(ds:List MD)(M:Nat→Nat→Nat→Rat):Prop where
 r:RS 3 mdP h n v ds
 t:∀(k:Nat) (d:MD),ds[k]?=some d→Sl h n 1 (jx d.a (d.n*d.n) d.c) (strs ((tabL d.n (M k)).map ratT))
theorem MS.ext {h:HF}{n:Nat}{ds:List MD}{M:Nat→Nat→Nat→Rat}(m:MS h n v ds M)(x:Ext n h h')(b:n≤n'):MS h' n' v ds M:=⟨m.r.ext' mdP.stay x b,fun k d c=>(m.t k d c).ext x b⟩
structure MOk (P D B:Nat)(ds:List MD)(M:Nat→Nat→Nat→Rat):Prop where
 hn:∀(k:Nat) (d:MD),ds[k]?=some d→1≤d.n∧d.n≤3
 hs:∀(k:Nat) (d:MD),ds[k]?=some d→∀i j,i<d.n→j<d.n→M k i j=M k j i
 P1:1≤P
 P2:P≤4
 D0:0<D
 D2:D<2^P
 hB:∀(k:Nat) (d:MD),ds[k]?=some d→∀i j,i<d.n→j<d.n→FN D B (M k i j)
 B1:1≤B
 B2:B<2^P
theorem zpa (k:Nat){h:HF}{n:Nat}(g:GG h n){a:Option Addr}{ds:List MD}{M:Nat→Nat→Nat→Rat}(m:MS h n (jx a L cap) ds M){P:Nat}(o:MOk P D B ds M)(hl:gP ds<1000000):
  VF (cal (k+17)) 51 [jx a L cap] h n fun v=>∃f,v=.tuple #[kz f,jy .i64 0]∧(f=true↔∀k d,ds[k]?=some d→psdA d.n d.n 0 (M k)):=by
 have lm:L=gP ds:=m.r.len' zd;refine zI (fn:=Tryz.f51) R4 ?_;refine zG ?_;refine sF (α:=Nat) (fun z=>[(9,jx a L cap),(10,jy .i64 (L:Int)),(11,jy .i64 (z:Int))])
  (fun z h' n' Z=>Z=[]∧n≤n'∧Ext n h h'∧z≤L∧∀k d,k<z→ds[k]?=some d→psdA d.n d.n 0 (M k)) (fun z=>L-z) 0 ⟨rfl,eT,Ext.refl _ _,eU,fun k d w=>cA w (Bp _)⟩ ?_
 rintro j t h1 I _ ⟨rfl,A,y,hj,b⟩;have A:n≤I:=A;have y:Ext n h h1:=y;have hj:j≤L:=hj;have b:∀k d,k<j→ds[k]?=some d→psdA d.n d.n 0 (M k):=b;refine zG ?_;by_cases qj:(j:Int)<(L:Int)
 ·refine zG ?_;obtain ⟨d,hd⟩:∃d,ds[j]?=some d:=⟨_,k4 zo⟩;obtain ⟨b2,o2,C,G,H,J,K,_,u⟩:=RS.at' zd (m.ext y A).r hd;have u:C=[jy .i64 (d.n:Int),jy .i64 (d.n:Int),jx d.a (d.n*d.n) d.c]:=u;subst u;refine sI G J ?_;refine sL K H 0 ?_;refine sA ?_;intro h3 p3 x3;refine zG ?_;refine sS [jy .i64 (d.n:Int),jy .i64 (d.n:Int),jx d.a (d.n*d.n) d.c] ?_;intro h4 p4 o4;refine zG ?_;refine sC (znk _ (g.x zx) (o.hn _ _ hd) ((m.t _ _ hd).ext (zx:Tx n h _ _).2 zo) (o.hs _ _ hd) o.P1 o.P2 o.D0 o.D2 (fun i j hi hj=>(o.hB _ _ hd i j hi hj).den) (o.hB _ _ hd) o.B1 o.B2) ?_;rintro _ h5 n5 ⟨O,R,S,T,U,V,W,Y,f,rfl,p⟩ y5 x5;refine Zh ?_;intro h6 p6 x6;refine zG ?_;refine sS [jy .i64 O,jy .i64 R,jx S T U,jx V W Y] ?_;intro h7 p7 o7;cases f with
  |false=>
   refine Zq ?_;exact ⟨_,rfl,fun h=>(by cases h),fun h=>cA (p.2 (h _ _ hd)) gN⟩
  |true=>
   refine zG ?_;exact sK (j+1) ⟨rfl,zo,(zx:Tx n h _ _).2,by show j+1≤L;omega,fun k F w e=>by
    rcases Ci k j with l|l
    ·exact b k F l e
    ·have:k=j:=by have:k<j+1:=w;omega
     subst this;rw [hd] at e;cases e;exact p.1 rfl⟩
 refine Zq ?_;exact ⟨_,rfl,fun _ k d hd=>b k d (by have:=(oc.1 hd).1;omega) hd,fun _=>rfl⟩
end
section
variable {N b i j k len sz:Nat}{a:Option Addr}
noncomputable def coE (e:Ent)(k i j:Nat):Rat:=if e.b=(k:Int)∧(e.r=(i:Int)∧e.c=(j:Int)∨e.r=(j:Int)∧e.c=(i:Int)) then (if e.r=e.c then numOf e.v else numOf e.v*(1/2)) else 0
noncomputable def coL:List Ent→Nat→Nat→Nat→Rat
 |[],_,_,_=>0
 |e::E,k,i,j=>coE e k i j+coL E k i j
theorem kP (P Q:List Ent)(k i j:Nat):coL (P++Q) k i j=coL P k i j+coL Q k i j:=by
 induction P with
 |nil=>show coL Q k i j=0+coL Q k i j;rw [C3]
 |cons e P ih=>show coE e k i j+coL (P++Q) k i j=coE e k i j+coL P k i j+coL Q k i j;rw [ih,Cx]
theorem zaq (P:List Ent)(e:Ent)(k i j:Nat):coL (P++[e]) k i j=coL P k i j+coE e k i j:=by
 rw [kP];show coL P k i j+(coE e k i j+0)=_;rw [A2]
theorem nh (e:Ent)(k i j:Nat):coE e k i j=coE e k j i:=by
 unfold coE;have:(e.b=(k:Int)∧(e.r=(i:Int)∧e.c=(j:Int)∨e.r=(j:Int)∧e.c=(i:Int)))↔(e.b=(k:Int)∧(e.r=(j:Int)∧e.c=(i:Int)∨e.r=(i:Int)∧e.c=(j:Int))):=by
  constructor
  ·rintro ⟨h,d|d⟩
   ·exact ⟨h,.inr d⟩
   exact ⟨h,.inl d⟩
  rintro ⟨h,d|d⟩
  ·exact ⟨h,.inr d⟩
  exact ⟨h,.inl d⟩
 simp only [this]
theorem qJ (E:List Ent)(k i j:Nat):coL E k i j=coL E k j i:=by
 induction E with
 |nil=>rfl
 |cons e E ih=>show coE e k i j+coL E k i j=coE e k j i+coL E k j i;rw [nh,ih]
def EntF (Ns:List Nat)(e:Ent):Prop:=∃k N i j:Nat,∃v:Rat,e=⟨(k:Int),(i:Int),(j:Int),ratT v⟩∧Ns[k]?=some N∧i≤j∧j<N∧Sz 2 v∧∃x:Int,v=(x:Rat)∧ -2≤x∧x≤2
theorem oa {v:Rat}:coE ⟨(k:Int),(i:Int),(j:Int),ratT v⟩ k i j=if i=j then v else v*(1/2):=by
 unfold coE;rw [eN ⟨rfl,.inl ⟨rfl,rfl⟩⟩];show (if (i:Int)=(j:Int) then numOf (ratT v) else numOf (ratT v)*(1/2))=_;rw [zn];by_cases h:i=j
 ·rw [eN h,eN zo]
 rw [cC h,cC zo]
theorem rW {f d e:Nat}{v:Rat}(h:f≠k∨¬(d=i∧e=j∨d=j∧e=i)):coE ⟨(k:Int),(i:Int),(j:Int),ratT v⟩ f d e=0:=by
 unfold coE;rw [cC];rintro ⟨g,l⟩;have g:(k:Int)=(f:Int):=g;have l:(i:Int)=(d:Int)∧(j:Int)=(e:Int)∨(i:Int)=(e:Int)∧(j:Int)=(d:Int):=l;omega
theorem cD {T:Nat→Nat→Nat→Rat}{v c s:Rat}(e:i<N)(f:j<N)(d:∀k i j,T k i j=T k j i)(g:s=T k i j+c*coE ⟨(k:Int),(i:Int),(j:Int),ratT v⟩ k i j):
  (((tabL N (T k)).map ratT).set (i*N+j) (ratT s)).set (j*N+i) (ratT s)=(tabL N fun a b=>T k a b+c*coE ⟨(k:Int),(i:Int),(j:Int),ratT v⟩ k a b).map ratT:=by
 rw [←FZ,←FZ,oN e f,oN f e];congr 1;refine ul fun a b _ _=>?_;unfold updT;by_cases h1:a=j∧b=i
 ·rw [eN h1,g,h1.1,h1.2,d k j i,nh]
 rw [cC h1];by_cases h2:a=i∧b=j
 ·rw [eN h2,g,h2.1,h2.2]
 rw [cC h2,rW (.inr zo),Br,A2]
theorem sO (q:Rat):(ratT q==[48])=decide (q=0):=by
 by_cases h:q=0
 ·subst h;rfl
 rw [aD h];cases hb:(ratT q==[48]) with
 |false=>rfl
 |true=>exact cA (uU ((eq_of_beq hb).trans wf.symm)) h
def mds (Ns bs:List Nat):List MD:=C4 (fun N b=>⟨N,some ⟨b,0,none⟩,N*N⟩) Ns bs
structure MW (h:HF)(n bm:Nat)(Ns bs:List Nat)(M:Nat→Nat→Nat→Rat):Prop where
 r:OR 3 mdP h n bm (mds Ns bs)
 e:∀k N b,Ns[k]?=some N→bs[k]?=some b→OT h n b ((tabL N (M k)).map ratT)
 l:gP bs=gP Ns
 d:bs.Nodup
 m:bm∉bs
section
variable {n:Nat}{Ns bs:List Nat}{M:Nat→Nat→Nat→Rat}
theorem mo {d:MD}(e:(mds Ns bs)[k]?=some d):∃N b,Ns[k]?=some N∧bs[k]?=some b∧d=⟨N,some ⟨b,0,none⟩,N*N⟩:=by
 unfold mds at e;rw [Ez] at e;cases h1:Ns[k]? with
 |none=>rw [h1] at e;simp at e
 |some N=>
  cases h2:bs[k]? with
  |none=>rw [h1,h2] at e;simp at e
  |some b=>rw [h1,h2] at e;exact ⟨N,b,rfl,rfl,by simpa using e.symm⟩
theorem zer (d:Ns[k]?=some N)(e:bs[k]?=some b):(mds Ns bs)[k]?=some ⟨N,some ⟨b,0,none⟩,N*N⟩:=by
 unfold mds;rw [Ez,d,e]
theorem rP (h:gP bs=gP Ns):gP (mds Ns bs)=gP Ns:=by unfold mds;rw [List.length_zipWith];omega
theorem MW.bget (m:MW h n bm Ns bs M)(d:Ns[k]?=some N):∃b,bs[k]?=some b∧b<3*n:=by
 have g:=m.l;have f:=(oc.1 d).1;refine ⟨bs[k]'zo,k4 zo,?_⟩;exact (m.e k N _ d (k4 zo)).1
theorem MW.blt (m:MW h n bm Ns bs M)(d:b∈bs):b<3*n:=by
 obtain ⟨k,f,rfl⟩:=DO.1 d;have g:=m.l;exact (m.e k (Ns[k]'zo) _ (k4 zo) (k4 f)).1
theorem MW.go (m:MW h n bm Ns bs M)(t:Tr n h n' h')(x:∀c,c=bm∨c∈bs→h' c=h c):MW h' n' bm Ns bs M:=
 ⟨m.r.go mdP.kp t (x _ (.inl rfl)),fun k N b g f=>(m.e k N b g f).go strP.kp t (x _ (.inr (ns f))),m.l,m.d,m.m⟩
theorem MW.ext (m:MW h n bm Ns bs M)(x:Ext n h h')(e:n≤n'):MW h' n' bm Ns bs M:=
 m.go ⟨e,fun c d=>.inl (x c d)⟩ fun c d=>x c (by
  rcases d with rfl|d
  ·exact m.r.1
  ·exact m.blt d)
theorem MW.as (m:MW h n bm Ns bs M)(e:∀k i j,M k i j=M' k i j):MW h n bm Ns bs M':=by
 have:M=M':=funext fun k=>funext fun i=>funext fun j=>e k i j;exact this▸m
theorem MW.set (m:MW h n bm Ns bs M){g u:Nat}(w:Ns[g]?=some u)(p:bs[g]?=some b0)(t:Tr n h n' h')(x:∀c,c≠b0→c=bm∨c∈bs→h' c=h c)(o:OT h' n' b0 ((tabL u (M' g)).map ratT))(e:∀k,k≠g→∀i j,M' k i j=M k i j):MW h' n' bm Ns bs M':=by
 refine ⟨m.r.go mdP.kp t (x _ (fun h=>m.m (h▸ns p)) (.inl rfl)),fun k N b q f=>?_,m.l,m.d,m.m⟩;by_cases hk:k=g
 ·subst hk;rw [w] at q;cases q;rw [p] at f;cases f;exact o
 have s:b≠b0:=fun s=>by
  subst s;exact hk ((GZ (oc.1 f).1 m.d).1 (f.trans p.symm))
 have v:M' k=M k:=funext fun i=>funext fun j=>e k hk i j;rw [v];exact (m.e k N b q f).go strP.kp t (x _ s (.inr (ns f)))
theorem MW.ms (m:MW h n bm Ns bs M)(o:L=gP Ns)(p:L≤cap):MS h n (jx (some ⟨bm,0,none⟩) L cap) (mds Ns bs) M:=
 ⟨OR.sl m.r (by rw [rP m.l];exact o) p,fun k d q=>by
  obtain ⟨N,b,f,g,rfl⟩:=mo q;exact OT.sl (m.e k N b f g) (by rw [oo,yI]) eT⟩
end
theorem GG.ofB {h h':HF}{n n':Nat}{bs:List Nat}(g:GG h n)(x:∀c,c<3*n→c∉bs→h' c=h c)(d:∀b∈bs,60≤b)(f:n≤n'):GG h' n':=
 ⟨rA g.1 (n:=20) (fun c e=>x c (by have:=g.2;omega) (fun h=>by have:=d c h;omega)) eT,by have:=g.2;omega⟩
theorem At.keep {h h':HF}{o:Nat}(a:At h b o c)(e:h' b=h b):At h' b o c:=by
 obtain ⟨y,d,f,g,l,m⟩:=a.ex;exact ⟨y,d,e.trans f,g,l,m⟩
theorem uP {h:HF}{n:Nat}(r:Sl h n sz (jx a len cap) cells)(g:(cells.drop (j*sz)).take sz=c)(hl:gP c=sz)(v:0<sz):∃b d,a=some ⟨b,d,none⟩∧b<3*n∧j<len∧At h b (d+j*sz) c:=by
 have f:j*sz+sz≤gP cells:=by
  rw [←g,Af,Ak] at hl;omega
 obtain ⟨_,_,_,e,m⟩:=r.len;injection e with e1 e2 e3
 subst e2;have u:j<len:=by
  rw [m,←BN] at f;exact Nat.le_of_mul_le_mul_right f v
 obtain ⟨b,d,x,o,rfl,p,w,l,q,y,s⟩:=r.inv zo;refine ⟨b,d,rfl,p,u,⟨x,o,w,l,zo,?_⟩⟩;rw [hl,←g,←s,List.drop_take,List.take_take,Cz,Be zo]
def entP (c:List Value)(e:Ent)(_:HF)(_:Nat):Prop:=c=entC e
theorem Rec.ofEnts (E:List Ent)(h:HF)(n:Nat):Rec 4 (fun c e=>entP c e h n) (ents E) E:=by
 induction E with
 |nil=>exact .nil
 |cons e E ih=>exact .cons (c:=entC e) rfl rfl ih
theorem rn {h:HF}{n:Nat}{e:Ent}(r:Sl h n 4 (jx a len cap) (ents E))(o:E[j]?=some e):∃b d,a=some ⟨b,d,none⟩∧b<3*n∧j<len∧At h b (d+j*4) (entC e):=by
 obtain ⟨b,d,c,f,g,l,m,_,rfl⟩:=RS.at' (P:=entP) zd ⟨_,r,Rec.ofEnts E h n⟩ o;exact ⟨b,d,f,g,l,m⟩
theorem zat (k:Nat)(h:HF)(n:Nat)(a:Option Addr)(l c:Nat):CX (cal (k+1)) 84 [jx a l c] h n fun u h' n'=>u=.func (.func 121) #[] #[kS (some ⟨3*n+2,0,none⟩)]∧n'=n+1∧∃e,h' (3*n+2)=some (.row [jx a l c] e):=by
 refine zu (fn:=Tryz.f84) R4 ?_;refine zG ?_;refine sB [jx a l c] ?_;intro d f g;refine zF (v:=.nilFunc) R5 ?_;refine zG ?_;refine zF (v:=.func (.func 121) #[] #[kS (some ⟨3*n+2,0,none⟩)]) ⟨rfl,rfl,rfl,rfl,?_⟩ ?_
 ·show some (DQ (.func _) (EF (evF _) #[]) (EF (evF _) #[.tmp 1]))=_;simp only [DX,Cy,DY];rfl
 refine zF (v:=.func (.func 121) #[] #[kS (some ⟨3*n+2,0,none⟩)]) R5 ?_;refine zq ?_;exact ⟨rfl,rfl,⟨_,zp⟩⟩
end
section
variable {B:Nat}{x y:Rat}
theorem FN.mono (h:FN D B x)(a:B≤B1):FN D B1 x:=by
 obtain ⟨z,d,c⟩:=h;exact ⟨z,d,Nat.le_trans c a⟩
theorem FN.add (h:FN D B1 x)(g:FN D B2 y):FN D (B1+B2) (x+y):=by
 obtain ⟨z,c,d⟩:=h;obtain ⟨u,a,e⟩:=g;exact ⟨z+u,by rw [Rat.add_mul,c,a,Rat.intCast_add],zo⟩
theorem FN.mul (h:FN D1 B1 x)(g:FN D2 B2 y):FN (D1*D2) (B1*B2) (x*y):=by
 obtain ⟨z,e,a⟩:=h;obtain ⟨u,d,c⟩:=g;refine ⟨z*u,?_,by rw [AX];exact AD a c⟩;rw [Cs,AM,←AM y,BO y,AM,←AM,e,d,A8]
theorem FN.int (z:Int)(h:z.natAbs≤B):FN 1 B (z:Rat):=⟨z,by rw [show ((1:Nat):Rat)=1 from rfl,DW],h⟩
theorem FN.up (h:FN D B x)(k:Nat):FN (k*D) (k*B) x:=by
 obtain ⟨z,c,a⟩:=h;refine ⟨(k:Int)*z,?_,by rw [AX,sa];exact Nat.mul_le_mul_left _ a⟩;rw [Cs,←AM,BO x,AM,c,A8,Bc]
theorem FN.zero (D B:Nat):FN D B 0:=⟨0,by rw [Cg];rfl,eU⟩
end
theorem zp0 {x:Nat}(a e:Nat)(h:x<2^a)(c:a≤e):x<2^e:=tv h (Ac zd c)
noncomputable def yq (ys:List Rat)(m:Nat):Rat:=(ys[m]?).getD 0
def eqEs (p:Sdp)(m:Nat):List Ent:=((p.eqs[m]?).map (·.es)).getD []
def eqFr (p:Sdp)(m t:Nat):List UInt8:=((((p.eqs[m]?).map (·.fr)).getD [])[t]?).getD [48]
def eqRh (p:Sdp)(m:Nat):List UInt8:=((p.eqs[m]?).map (·.rhs)).getD [48]
noncomputable def slM (p:Sdp)(ys:List Rat):Nat→Nat→Nat→Nat→Rat
 |0,k,i,j=>(-1)*coL p.obj k i j
 |m+1,k,i,j=>slM p ys m k i j+yq ys m*coL (eqEs p m) k i j
noncomputable def slF (p:Sdp)(ys:List Rat):Nat→Nat→Rat
 |0,t=> -numOf ((p.objFree[t]?).getD [48])
 |m+1,t=>slF p ys m t+yq ys m*numOf (eqFr p m t)
noncomputable def slV (p:Sdp)(ys:List Rat):Nat→Rat
 |0=>0
 |m+1=>slV p ys m+yq ys m*numOf (eqRh p m)
theorem jd (p:Sdp)(ys:List Rat)(m k i j:Nat):slM p ys m k i j=slM p ys m k j i:=by
 induction m with
 |zero=>show (-1)*coL p.obj k i j=(-1)*coL p.obj k j i;rw [qJ]
 |succ m ih=>show slM p ys m k i j+yq ys m*coL (eqEs p m) k i j=slM p ys m k j i+yq ys m*coL (eqEs p m) k j i;rw [ih,qJ]
def dimN (p:Sdp):List Nat:=p.blocks.map Int.toNat
theorem tF {x:Int}(h: -2≤x∧x≤2):Sz 2 (x:Rat):=by
 refine ⟨?_,?_⟩
 ·rw [Rat.num_intCast];show x.natAbs<4;omega
 rw [Rat.den_intCast];decide
theorem EntOk.f {p:Sdp}{e:Ent}(h:EntOk p.blocks e):EntF (dimN p) e:=by
 obtain ⟨⟨i,s⟩,⟨o,v⟩,j,x,d,g,_,l⟩:=h;have a:e.b.toNat<gP p.blocks:=zo;have u:=j _ (k4 a);refine ⟨e.b.toNat,(p.blocks[e.b.toNat]'a).toNat,e.r.toNat,e.c.toNat,(x:Rat),?_,?_,zo,zo,tF ⟨d,g⟩,x,rfl,d,g⟩
 ·cases e;simp only at*
  rw [l,Fm i,Fm o,Fm zo]
 unfold dimN;rw [sr,k4 a];rfl
theorem zlo {e:Ent}(h:EntF Ns e)(k i j:Nat):FN 2 4 (coE e k i j):=by
 obtain ⟨d,N,a,c,v,rfl,_,_,_,_,x,rfl,f,g⟩:=h;unfold coE;split
 ·show FN 2 4 (if (a:Int)=(c:Int) then numOf (ratT (x:Rat)) else numOf (ratT (x:Rat))*(1/2));rw [zn];split
  ·exact ⟨x*2,by rw [A8];rfl,zo⟩
  exact ⟨x,by rw [AM,show (1/2:Rat)*((2:Nat):Rat)=1 from by decide+kernel,DW],zo⟩
 exact FN.zero _ _
theorem zar (h:∀e∈E,EntF Ns e)(k i j:Nat):FN 2 (4*gP E) (coL E k i j):=by
 induction E with
 |nil=>exact FN.zero _ _
 |cons e E ih=>
  have a:=zlo (h e As) k i j;have c:=ih fun x d=>h x (AV _ d);exact (a.add c).mono (by rw [Au];omega)
structure SlB (p:Sdp)(ys:List Rat)(K:Nat):Prop where
 y:∀q∈ys,Sz 133 q
 yl:(2^133)^gP ys≤K
 o:∀e∈p.obj,EntF (dimN p) e
 ol:gP p.obj≤256
 e:∀q∈p.eqs,∀e∈q.es,EntF (dimN p) e
 el:∀q∈p.eqs,gP q.es≤256
 of:∀s∈p.objFree,wn 2 s
 f:∀q∈p.eqs,∀s∈q.fr,wn 2 s
 r:∀q∈p.eqs,wn 4 q.rhs
section
variable {p:Sdp}{ys:List Rat}{K:Nat}(b:SlB p ys K)
include b
end
theorem dh (ys:List Rat):0<wo ys*2:=CQ (tR _) zd
section
variable {p:Sdp}{ys:List Rat}{K:Nat}(b:SlB p ys K)(hK:K≤2^532)
include b hK
end
section
variable {B:Nat}
noncomputable def fm (M:Nat→Nat→Nat→Rat):List Ent→Rat
 |[]=>0
 |e::E=>numOf e.v*M e.b.toNat e.r.toNat e.c.toNat+fm M E
theorem zfp (M:Nat→Nat→Nat→Rat)(P Q:List Ent):fm M (P++Q)=fm M P+fm M Q:=by
 induction P with
 |nil=>show fm M Q=0+fm M Q;rw [C3]
 |cons e P ih=>show numOf e.v*_+fm M (P++Q)=numOf e.v*_+fm M P+fm M Q;rw [ih,Cx]
theorem zfo (M:Nat→Nat→Nat→Rat)(P:List Ent)(k i j:Nat)(v:Rat):fm M (P++[⟨(k:Int),(i:Int),(j:Int),ratT v⟩])=fm M P+v*M k i j:=by
 rw [zfp];show fm M P+(numOf (ratT v)*M k i j+0)=_;rw [zn,A2]
noncomputable def dt (S:List (List UInt8))(us:List Rat):Nat→Rat
 |0=>0
 |j+1=>dt S us j+numOf ((S[j]?).getD [48])*(us[j]?).getD 0
theorem znp {s:Rat}{u:Rat}(a:S[j]?=some (ratT s))(b:us[j]?=some u):dt S us (j+1)=dt S us j+s*u:=by
 show dt S us j+numOf ((S[j]?).getD [48])*(us[j]?).getD 0=_;rw [a,b];show dt S us j+numOf (ratT s)*u=_;rw [zn]
def EntD (D B:Nat)(Ns:List Nat)(e:Ent):Prop:=∃k N i j:Nat,∃v:Rat,e=⟨(k:Int),(i:Int),(j:Int),ratT v⟩∧Ns[k]?=some N∧i≤j∧j<N∧FN D B v
def TxF (D B:Nat)(s:List UInt8):Prop:=∃q,s=ratT q∧FN D B q
theorem wn.tx {K:Int}(h:wn K s)(c:K≤B):TxF 1 B s:=by
 obtain ⟨x,a,b,rfl⟩:=h;exact ⟨_,rfl,FN.int x zo⟩
theorem EntF.d {e:Ent}(h:EntF Ns e):EntD 1 2 Ns e:=by
 obtain ⟨k,N,i,j,v,a,b,c,f,_,x,rfl,g,l⟩:=h;exact ⟨k,N,i,j,_,a,b,c,f,FN.int x zo⟩
theorem zb3 {M:Nat→Nat→Nat→Rat}{C:Nat}(f:∀k i j,FN 1 C (M k i j)):∀{E:List Ent},(∀e∈E,EntD D B Ns e)→FN D (B*C*gP E) (fm M E):=by
 intro E;induction E with
 |nil=>intro _;exact FN.zero _ _
 |cons e E ih=>
  intro h;obtain ⟨k,N,i,j,v,rfl,_,_,_,g⟩:=h e As;have a:=g.mul (f k i j);rw [AO] at a;have c:=ih fun x l=>h x (AV _ l);have d:FN D (B*C+B*C*gP E) (v*M k i j+fm M E):=a.add c;have b:fm M (⟨(k:Int),(i:Int),(j:Int),ratT v⟩::E)=v*M k i j+fm M E:=by
   show numOf (ratT v)*M k i j+fm M E=_;rw [zn]
  rw [b];refine d.mono ?_;rw [Au,Ch];omega
theorem zb5 {a B1:Nat}(e:∀s∈S,TxF a B1 s)(hu:∀u∈us,FN D B u)(j:Nat):FN (a*D) (B1*B*j) (dt S us j):=by
 induction j with
 |zero=>exact FN.zero _ _
 |succ j ih=>
  have b:FN a B1 (numOf ((S[j]?).getD [48])):=by
   cases h:S[j]? with
   |none=>exact FN.mono (B:=0) (by show FN a 0 (numOf [48]);rw [←wf,zn];exact FN.zero _ _) eU
   |some s=>
    obtain ⟨q,rfl,d⟩:=e s (ns h);show FN a B1 (numOf (ratT q));rw [zn];exact d
  have c:FN D B ((us[j]?).getD 0):=by
   cases h:us[j]? with
   |none=>exact FN.zero _ _
   |some u=>exact hu u (ns h)
  exact (ih.add (b.mul c)).mono (by rw [Ch];omega)
end
section
variable {B b:Nat}
theorem uO {f:Nat→Rat}(h:∀i,i<n→f i=0):sm f n=0:=by
 induction n with
 |zero=>rfl
 |succ n ih=>show sm f n+f n=0;rw [ih fun i a=>h i zo,h n zo,A2]
theorem kt {f:Nat→Rat}{a:Nat}(d:a<n)(h:∀i,i<n→i≠a→f i=0):sm f n=f a:=by
 induction n with
 |zero=>omega
 |succ n ih=>
  show sm f n+f n=_;by_cases he:a=n
  ·subst he;rw [uO fun i c=>h i zo zo,C3]
  rw [ih zo fun i c=>h i zo,h n zo zo,A2]
theorem zo2 {f:Nat→Rat}{a:Nat}(c:a<b)(g:b<n)(h:∀i,i<n→i≠a→i≠b→f i=0):sm f n=f a+f b:=by
 induction n with
 |zero=>omega
 |succ n ih=>
  show sm f n+f n=_;by_cases he:b=n
  ·subst he;rw [kt c fun i d e=>h i zo e zo]
  rw [ih zo fun i d=>h i zo,h n zo zo zo,A2]
noncomputable def trB (Ns:List Nat)(A M:Nat→Nat→Nat→Rat):Rat:=sm (fun k=>trS (A k) (M k) ((Ns[k]?).getD 0)) (gP Ns)
theorem fu (Ns:List Nat)(A B M:Nat→Nat→Nat→Rat):trB Ns (fun k i j=>A k i j+B k i j) M=trB Ns A M+trB Ns B M:=by
 unfold trB;rw [←rD];refine yP fun k _=>?_;unfold trS;rw [←rD];refine yP fun i _=>?_;rw [←rD];exact yP fun j _=>by grind
theorem zc5 (Ns:List Nat)(c:Rat)(A M:Nat→Nat→Nat→Rat):trB Ns (fun k i j=>c*A k i j) M=c*trB Ns A M:=by
 unfold trB;rw [←ku];refine yP fun k _=>?_;unfold trS;rw [←ku];refine yP fun i _=>?_;rw [←ku];exact yP fun j _=>by grind
theorem cw (Ns:List Nat)(M:Nat→Nat→Nat→Rat):trB Ns (fun _ _ _=>0) M=0:=
 uO fun _ _=>uO fun _ _=>uO fun _ _=>Cg _
theorem zc6 {A B M:Nat→Nat→Nat→Rat}(h:∀k N i j,Ns[k]?=some N→i<N→j<N→A k i j=B k i j):trB Ns A M=trB Ns B M:=by
 refine yP fun k a=>?_;rw [k4 a];refine yP fun i c=>yP fun j d=>?_;rw [h k _ i j (k4 a) c d]
theorem za6 {M:Nat→Nat→Nat→Rat}(s:∀k i j,M k i j=M k j i){v:Rat}(m:Ns[k]?=some N)(w:i≤j)(g:j<N):trB Ns (coE ⟨(k:Int),(i:Int),(j:Int),ratT v⟩) M=v*M k i j:=by
 have o:=(oc.1 m).1;have a:∀{l r c:Nat},(l≠k∨¬(r=i∧c=j∨r=j∧c=i))→coE ⟨(k:Int),(i:Int),(j:Int),ratT v⟩ l r c*M l r c=0:=fun h=>by rw [rW h,Cg]
 refine (kt o fun l y d=>uO fun _ _=>uO fun _ _=>a (.inl d)).trans ?_;rw [m];show sm (fun r=>sm (fun c=>coE ⟨(k:Int),(i:Int),(j:Int),ratT v⟩ k r c*M k r c) N) N=_;by_cases he:i=j
 ·subst he;refine (kt g fun r u d=>uO fun c e=>a (.inr zo)).trans ?_;refine (kt g fun c e d=>a (.inr zo)).trans ?_;rw [oa,eN rfl]
 refine (zo2 (show i<j by omega) g fun r u A C=>uO fun c e=>a (.inr zo)).trans ?_;have p:=kt (f:=fun c=>coE ⟨(k:Int),(i:Int),(j:Int),ratT v⟩ k i c*M k i c) g fun c e d=>a (.inr zo);have q:=kt (f:=fun c=>coE ⟨(k:Int),(i:Int),(j:Int),ratT v⟩ k j c*M k j c) (show i<N by omega) fun c e d=>a (.inr zo);rw [p,q,nh _ k j i,oa,cC he,s k j i]
 grind
theorem zk9 {M:Nat→Nat→Nat→Rat}(o:∀k i j,M k i j=M k j i):∀{E:List Ent},(∀e∈E,EntD D B Ns e)→fm M E=trB Ns (coL E) M:=by
 intro E;induction E with
 |nil=>intro _;exact (cw Ns M).symm
 |cons e E ih=>
  intro h;obtain ⟨k,N,i,j,v,rfl,g,l,m,_⟩:=h e As;have f:trB Ns (coL (⟨(k:Int),(i:Int),(j:Int),ratT v⟩::E)) M=trB Ns (fun d a c=>coE ⟨(k:Int),(i:Int),(j:Int),ratT v⟩ d a c+coL E d a c) M:=rfl;rw [f,fu,←ih fun x p=>h x (AV _ p),za6 o g l m];show numOf (ratT v)*M k i j+_=_;rw [zn]
end
def Fits (B:List Int)(e:Ent):Prop:=(0≤e.b∧e.b<gP B)∧(0≤e.r∧e.r≤e.c)∧∀d,B[e.b.toNat]?=some d→e.c<d
def EntV (B:List Int)(E:List Ent)(j:Nat)(e:Ent):Prop:=Fits B e∧(∀f,0<j→E[j-1]?=some f→ltE f e)∧xy e.v∧e.v≠[48]
def fa (B:List Int)(E:List Ent):Prop:=∀j e,E[j]?=some e→EntV B E j e
section
variable {len sz:Nat}
theorem EqR.get (e:EqR h n ce qs):∀{j:Nat} {q:Eqn},qs[j]?=some q→∃d f,(ce.drop (j*3)).take 3=[d,f,kF ⟨⟨q.rhs⟩⟩]∧Sl h n 4 d (ents q.es)∧Sl h n 1 f (strs q.fr):=by
 induction e with
 |nil=>intro j q b;simp at b
 |cons h1 h2 h3 ih=>
  intro j q b;cases j with
  |zero=>simp at b;subst b;exact ⟨_,_,rfl,h1,h2⟩
  |succ j=>
   obtain ⟨d,f,g,i,l⟩:=ih (j:=j) (q:=q) (by simpa using b);refine ⟨d,f,?_,i,l⟩;rw [←g,show (j+1)*3=3+j*3 from zo,←Cz];rfl
theorem Sl.lenEq (s:Sl h n sz (jx a len cap) c)(b:0<sz)(f:gP c=m*sz):len=m:=by
 obtain ⟨j,i,d,e,g⟩:=s.len;injection e with e1 e2 e3
 subst e2;exact Nat.eq_of_mul_eq_mul_right b (g.symm.trans f)
end
structure SdpB (p:Sdp):Prop where
 bl:gP p.blocks<1000000
 ol:gP p.obj<1000000
 fl:gP p.objFree<1000000
 el:gP p.eqs<1000000
 os:∀e∈p.obj,gP e.v<11
 fs:∀s∈p.objFree,gP s<11
 qs:∀q∈p.eqs,gP q.es<1000000∧gP q.fr<999999∧(∀e∈q.es,gP e.v<11)∧∀s∈q.rhs::q.fr,gP s<11
structure SdpV (p:Sdp)(fr:Int):Prop where
 bl:1≤gP p.blocks∧gP p.blocks≤64
 free:0≤fr∧fr≤512
 el:gP p.eqs≤512
 b:∀d∈p.blocks,1≤d∧d≤32
 obj:fa p.blocks p.obj
 ofl:(gP p.objFree:Int)=fr
 ofs:∀s∈p.objFree,xy s
 eqs:∀q∈p.eqs,fa p.blocks q.es∧(gP q.fr:Int)=fr∧∀s∈q.rhs::q.fr,xy s
section
variable {len:Nat}
def RV (kr:Nat)(R:List UInt8→Prop):Prop:=∀(j:Nat) {h:HF},GK.G h→∀(n:Nat),20≤n→∀(s:List UInt8),R s→VF (cal (kr+j)) 82 [kF ⟨⟨s⟩⟩] h n fun v=>∃b:Bool,v=kz b∧(b=true↔xy s)
theorem uX (k:Nat){R:List UInt8→Prop}(A:RV (k+1) R)(y:GK.G h)(D:20≤n)(p:Sl h n 1 (jx a len cap) (strs S))(B:∀s∈S,R s)(J:gP S<1000000):VF (cal (k+2)) 81 [jx a len cap] h n fun v=>∃b:Bool,v=kz b∧(b=true↔∀s∈S,xy s):=by
 refine zI (fn:=Tryz.f81) R4 ?_;have u:=xY p;subst u;refine Zx ?_;refine z9 (α:=Nat) (fun z=>[(0,jx a (gP S) cap),(5,jx a (gP S) cap),(6,jy .i64 (gP S:Int)),(7,jy .i64 (z:Int))]) (fun z w F I=>h=w∧F=n∧I=[]∧z≤gP S∧∀i s,i<z→S[i]?=some s→xy s) (fun z=>gP S-z) 0 ⟨rfl,rfl,rfl,rfl,eP⟩ ⟨rfl,rfl,rfl,eU,fun i d o=>cA o (Bp i)⟩ (by show gP S-0<LL;unfold LL;omega) ?_;rintro z t _ _ _ ⟨rfl,rfl,rfl,K,g⟩;refine zN ?_;by_cases hze:z=gP S
 ·refine Zi ?_;refine retF _ rfl (zk rfl) R2 ⟨true,rfl,fun _ s p=>?_,fun _=>rfl⟩;obtain ⟨i,o,e⟩:=Fo p;exact g i s zo (by rw [k4 o,e])
 obtain ⟨s,m⟩:∃s,S[z]?=some s:=⟨S[z]'zo,k4 zo⟩;have l:s∈S:=ns m;refine Zp ?_;refine xt (f:=fun s=>kF ⟨⟨s⟩⟩) (j:=z) (dv:=s) R7 p R2 m (fun _=>rfl) R4 fun _=>?_;refine Za ?_;refine zM ?_;refine yk _ R5 (A 0 y _ D s (B s l)) ?_;rintro _ ⟨b,rfl,q⟩;cases b with
 |false=>
  refine Zn ?_;exact retF _ rfl (zk rfl) R2 ⟨false,rfl,fun h=>cA h gN,fun C=>q.2 (C s l)⟩
 |true=>
 refine Zi ?_;refine goOn (z+1) (by show gP S-(z+1)<gP S-z;omega) ⟨rfl,rfl,rfl,by show jy .i64 _=jy .i64 _;congr 1,eP⟩ ⟨rfl,rfl,rfl,by show z+1≤gP S;omega,fun i H o c=>?_⟩;by_cases hij:i<z
 ·exact g i H hij c
 have:i=z:=zo;subst this;rw [m] at c;injection c with c
 subst c;exact q.1 rfl
theorem bZ (k:Nat){R:List UInt8→Prop}(hR:RV (k+1) R)(hG:GK.G h){H:Option Addr}{lE lB I:Nat}{B:List Int}(hn:20≤n)(hE:Sl h n 4 (jx aE lE cE) (ents E))(hB:Sl h n 1 (jx H lB I) (i64s B))(hl:∀e∈E,R e.v)(hb:gP E<1000000∧gP B<1000000):VF (cal (k+2)) 80 [jx aE lE cE,jx H lB I] h n fun v=>∃b:Bool,v=kz b∧(b=true↔fa B E):=by
 refine zI (fn:=Tryz.f80) R4 ?_;have ai:lE=gP E:=by
  obtain ⟨a',ab,a8,e,hl⟩:=hE.len;injection e with e1 e2 e3
  rw [xk] at hl;omega
 have ah:lB=gP B:=by
  obtain ⟨a',ab,a8,e,hl⟩:=hB.len;injection e with e1 e2 e3
  simp [i64s] at hl;omega
 subst ai ah;refine Zx ?_;refine z9 (α:=Nat) (fun j=>[(0,jx aE (gP E) cE),(1,jx H (gP B) I),(7,jx aE (gP E) cE),(8,jy .i64 (gP E:Int)),(9,jy .i64 (j:Int))]) (fun j K W w=>Ext n h K∧n≤W∧w=[]∧j≤gP E∧∀i e,i<j→E[i]?=some e→EntV B E i e) (fun j=>gP E-j) 0 ⟨rfl,rfl,rfl,rfl,rfl,eP⟩ ⟨Ext.refl _ _,eT,rfl,eU,fun i e T=>cA T (Bp i)⟩ (by show gP E-0<LL;unfold LL;omega) ?_;rintro j t h1 l _ ⟨A,a6,rfl,hj,L⟩;refine zN ?_;by_cases hjE:j=gP E
 ·refine Zi ?_;exact retF _ rfl (zk rfl) R2 ⟨true,rfl,fun _ i e T=>L i e (by have:=(oc.1 T).1;omega) T,fun _=>rfl⟩
 obtain ⟨e,s⟩:∃e,E[j]?=some e:=⟨E[j]'zo,k4 zo⟩;have U:e∈E:=ns s;obtain ⟨m,F,xE,a1,rfl,ae,ak,a4,am,ao,a5⟩:=hE.inv zo;have Z:(a1.drop (F+j*4)).take 4=entC e:=by rw [nB a5 zo,zfu s]
 have V:h1 m=some xE:=by rw [A m ae];exact ak
 refine Zr ?_;refine wp R8 zo ?_;refine zV (v:=.agg (entC e).toArray) R5 (zT R2 V a4 zo (by rw [←Z];congr 2<;>omega)) ?_;refine yd R5 ?_;repeat refine zR ?_
 refine zK (entC e) R7 rfl (zh _ _ _) rfl (by show 3*n≤3*l+2;omega) ?_;rw [xq];generalize hh:upd h1 (3*l+2) _=h2;have g:∃ty,h2 (3*l+2)=some (.row (entC e) ty):=⟨_,by rw [←hh,zh]⟩;obtain ⟨ap,g⟩:=g;have C:Ext l h1 h2:=by rw [←hh];exact Ext.upd zo
 clear hh;have aa:h2 m=some xE:=by rw [C m zo];exact V
 have a2:GK.G h2:=rA hG (A.trans C a6) hn;simp only [yN,xQ,zY,xJ];refine yu (α:=Bool) (fun z=>[(0,jx (some ⟨m,F,none⟩) (gP E) cE),(1,jx H (gP B) I),(5,jy .i64 (j:Int)),(6,kS (some ⟨3*l+2,0,none⟩)),(7,jx (some ⟨m,F,none⟩) (gP E) cE),(8,jy .i64 (gP E:Int)),(9,jy .i64 (j:Int)),(45,kz z)]) (fun z K W w=>h2=K∧W=l+1∧w=[]∧(z=false↔Fits B e)) ?_ ?_
 ·rw [tB rfl];by_cases q1:e.b<0
  ·repeat (first|refine zl R6 g R2 ?_|refine zR ?_)
   refine zN ?_;exact zO true ⟨rfl,rfl,rfl,rfl,rfl,rfl,rfl,rfl,eP⟩ ⟨rfl,rfl,rfl,by simp only [Bg,false_iff];rintro ⟨⟨D,o⟩,p,J⟩;omega⟩
  by_cases q2:(gP B:Int)≤e.b
  ·repeat (first|refine zl R6 g R2 ?_|refine zR ?_)
   refine zN ?_;exact zO true ⟨rfl,rfl,rfl,rfl,rfl,rfl,rfl,rfl,eP⟩ ⟨rfl,rfl,rfl,by simp only [Bg,false_iff];rintro ⟨⟨D,o⟩,p,J⟩;omega⟩
  by_cases q3:e.r<0
  ·repeat (first|refine zl R6 g R2 ?_|refine zR ?_)
   refine zN ?_;exact zO true ⟨rfl,rfl,rfl,rfl,rfl,rfl,rfl,rfl,eP⟩ ⟨rfl,rfl,rfl,by simp only [Bg,false_iff];rintro ⟨⟨D,o⟩,p,J⟩;omega⟩
  by_cases q4:e.c<e.r
  ·repeat (first|refine zl R6 g R2 ?_|refine zR ?_)
   refine zN ?_;exact zO true ⟨rfl,rfl,rfl,rfl,rfl,rfl,rfl,rfl,eP⟩ ⟨rfl,rfl,rfl,by simp only [Bg,false_iff];rintro ⟨⟨D,o⟩,p,J⟩;omega⟩
  obtain ⟨bB,oB,xB,ac,rfl,ad,aj,af,al,an,ag⟩:=hB.inv zo;have a9:h2 bB=some xB:=by rw [C bB zo,A bB ad];exact aj
  obtain ⟨Y,O⟩:∃d,B[e.b.toNat]?=some d:=⟨B[e.b.toNat]'zo,k4 zo⟩;have M:ac[oB+e.b.toNat]?=some (jy .i64 Y):=wE ag (by rw [i64s,sr,O];rfl);repeat (first|refine zl R6 g R2 ?_|refine zR ?_)
  refine wp R8 zo ?_;refine zl R6 a9 (v:=jy .i64 Y) ⟨af,(by rw [←M];congr 1;omega)⟩ ?_;by_cases q5:Y≤e.c
  ·repeat (first|refine zl R6 g R2 ?_|refine zR ?_)
   refine zN ?_;exact zO true ⟨rfl,rfl,rfl,rfl,rfl,rfl,rfl,rfl,eP⟩ ⟨rfl,rfl,rfl,by simp only [Bg,false_iff];rintro ⟨⟨D,o⟩,p,J⟩;have:=J Y O;omega⟩
  repeat (first|refine zl R6 g R2 ?_|refine zR ?_)
  refine zN ?_;exact zO false ⟨rfl,rfl,rfl,rfl,rfl,rfl,rfl,rfl,eP⟩ ⟨rfl,rfl,rfl,fun _=>⟨zo,zo,fun d hd=>by rw [O] at hd;injection hd with hd;omega⟩,fun _=>rfl⟩
 rintro z t _ _ _ ⟨rfl,rfl,rfl,hz⟩;cases z with
 |true=>
  rw [ze rfl];refine Zb ?_;exact retF _ rfl (zk rfl) R2 ⟨false,rfl,fun h=>cA h gN,fun hV=>cA (hz.2 (hV j e s).1) gN⟩
 |false=>
 rw [za rfl];simp only [yN,xQ,zY,xJ];have a0:=hz.1 rfl;refine yu (α:=Bool) (fun z=>[(0,jx (some ⟨m,F,none⟩) (gP E) cE),(1,jx H (gP B) I),(7,jx (some ⟨m,F,none⟩) (gP E) cE),(8,jy .i64 (gP E:Int)),(9,jy .i64 (j:Int)),(68,kz z)]) (fun z K W w=>h2=K∧W=l+1∧w=[]∧(z=false↔(∀f,0<j→E[j-1]?=some f→ltE f e)∧xy e.v∧e.v≠[48])) ?_ ?_
 ·refine zm [0,1,3,7,7,23,63,127,7,511,1023,2047,4095,8191,16383,32767,65535,131071,262143,524287,1048575,2097151,4194303] rfl ?_;by_cases hj0:j=0
  ·skip
   repeat refine zD ?_
   refine zZ R6 (zX rfl g (v:=kF ⟨⟨e.v⟩⟩) R2) R2 ?_;refine df _ R7 (hR 0 a2 _ zo e.v (hl e U)) ?_;rintro _ ⟨b,rfl,q⟩;cases b with
   |false=>
    refine Zs ?_;exact zO true ⟨rfl,rfl,rfl,rfl,rfl,rfl,eP⟩ ⟨rfl,rfl,rfl,by simp only [Bg,false_iff];rintro ⟨_,o,_⟩;exact cA (q.2 o) gN⟩
   |true=>
   repeat refine zD ?_
   refine zZ R6 (zX rfl g (v:=kF ⟨⟨e.v⟩⟩) R2) ⟨(vt gN),rfl⟩ ?_;by_cases h48:e.v=[48]
   ·refine yy (v:=kz true) rfl rfl rfl rfl (by show some (kz (e.v==[48]))=_;rw [h48];rfl) ?_;refine Zs ?_;exact zO true ⟨rfl,rfl,rfl,rfl,rfl,rfl,eP⟩ ⟨rfl,rfl,rfl,by simp only [Bg,false_iff];rintro ⟨_,_,p⟩;exact p h48⟩
   refine yy (v:=kz false) rfl rfl rfl rfl (by show some (kz (e.v==[48]))=_;rw [show (e.v==[48])=false from by simpa using h48]) ?_;refine Zs ?_;exact zO false ⟨rfl,rfl,rfl,rfl,rfl,rfl,eP⟩ ⟨rfl,rfl,rfl,fun _=>⟨fun f h0=>zo,q.1 rfl,h48⟩,fun _=>rfl⟩
  obtain ⟨f,P⟩:∃f,E[j-1]?=some f:=⟨E[j-1]'zo,k4 zo⟩;have N:(a1.drop (F+(j-1)*4)).take 4=entC f:=by rw [nB a5 zo,zfu P]
  repeat refine zD ?_
  refine zga R8 zo ?_;refine zZ (v:=.agg (entC f).toArray) R6 (zT R2 aa a4 zo (by rw [←N];congr 2<;>omega)) R2 ?_;refine zZ (v:=.agg (entC e).toArray) R6 (zT R2 g rfl zb rfl) R2 ?_;refine df _ R7 (gR k h2 (l+1) f e) ?_;rintro _ ⟨ba,rfl,a3⟩;cases ba with
  |false=>
   refine Zs ?_;exact zO true ⟨rfl,rfl,rfl,rfl,rfl,rfl,eP⟩ ⟨rfl,rfl,rfl,by simp only [Bg,false_iff];rintro ⟨D,_,_⟩;exact cA (a3.2 (D f zo P)) gN⟩
  |true=>
  repeat refine zD ?_
  refine zZ R6 (zX rfl g (v:=kF ⟨⟨e.v⟩⟩) R2) ⟨(vt gN),rfl⟩ ?_;refine df _ R7 (hR 0 a2 _ zo e.v (hl e U)) ?_;rintro _ ⟨b,rfl,q⟩;cases b with
  |false=>
   refine Zs ?_;exact zO true ⟨rfl,rfl,rfl,rfl,rfl,rfl,eP⟩ ⟨rfl,rfl,rfl,by simp only [Bg,false_iff];rintro ⟨_,o,_⟩;exact cA (q.2 o) gN⟩
  |true=>
  repeat refine zD ?_
  refine zZ R6 (zX rfl g (v:=kF ⟨⟨e.v⟩⟩) R2) ⟨(vt gN),rfl⟩ ?_;by_cases h48:e.v=[48]
  ·refine yy (v:=kz true) rfl rfl rfl rfl (by show some (kz (e.v==[48]))=_;rw [h48];rfl) ?_;refine Zs ?_;exact zO true ⟨rfl,rfl,rfl,rfl,rfl,rfl,eP⟩ ⟨rfl,rfl,rfl,by simp only [Bg,false_iff];rintro ⟨_,_,p⟩;exact p h48⟩
  refine yy (v:=kz false) rfl rfl rfl rfl (by show some (kz (e.v==[48]))=_;rw [show (e.v==[48])=false from by simpa using h48]) ?_;refine Zs ?_;exact zO false ⟨rfl,rfl,rfl,rfl,rfl,rfl,eP⟩ ⟨rfl,rfl,rfl,fun _=>⟨fun f' _ y=>by rw [P] at y;injection y with y;subst y;exact a3.1 rfl,q.1 rfl,h48⟩,fun _=>rfl⟩
 rintro z t _ _ _ ⟨rfl,rfl,rfl,a7⟩;cases z with
 |true=>
  rw [ze rfl];refine Zb ?_;exact retF _ rfl (zk rfl) R2 ⟨false,rfl,fun h=>cA h gN,fun hV=>cA (a7.2 (hV j e s).2) gN⟩
 |false=>
 rw [za rfl];refine Zb ?_;refine goOn (j+1) (by show gP E-(j+1)<gP E-j;omega) ⟨rfl,rfl,rfl,rfl,by show jy .i64 _=jy .i64 _;congr 1,eP⟩ ⟨A.trans C a6,by show n≤l+1;omega,rfl,by show j+1≤gP E;omega,fun i e' T u=>?_⟩;by_cases hij:i<j
 ·exact L i e' hij u
 have:i=j:=zo;subst this;rw [s] at u;injection u with u
 subst u;exact ⟨a0,a7.1 rfl⟩
end
section
variable {len n:Nat}{a:Option Addr}
theorem zp1 (k:Nat)(h:HF)(n:Nat)(s:List UInt8):VF (cal (k+1)) 92 [kF ⟨⟨s⟩⟩] h n fun v=>v=kz (!(s==[48])):=by
 refine zI (fn:=Tryz.f92) R4 ?_;refine zG ?_;refine sQn (s==[48]) rfl ?_;refine Zq ?_;rfl
theorem zp4 (k:Nat)(c:Sl h n 1 (jx a len cap) (strs S))(hb:gP S<1000000):VF (cal (k+2)) 137 [jx a len cap,.func (.func 92) #[] #[]] h n fun v=>∃i:Int,v=jy .i64 i∧(i<0↔∀s∈S,s=[48]):=by
 have D:=xY c;refine zI (fn:=Tryz.f137) R4 ?_;refine zG ?_;refine sF (α:=Nat) (fun z=>[(0,jx a len cap),(1,.func (.func 92) #[] #[]),(7,jy .i64 (len:Int)),(8,jy .i64 (z:Int))])
  (fun z l q B=>B=[]∧n≤q∧Ext n h l∧z≤len∧∀s∈S.take z,s=[48]) (fun z=>len-z) 0 ⟨rfl,eT,Ext.refl _ _,eU,fun s c=>cA c gN⟩ ?_
 rintro j t m u _ ⟨rfl,f,e,hj,b⟩;have f:n≤u:=f;have e:Ext n h m:=e;have hj:j≤len:=hj;have b:∀s∈S.take j,s=[48]:=b;refine zG ?_;by_cases qj:(j:Int)<(len:Int)
 ·obtain ⟨s,d⟩:∃s,S[j]?=some s:=⟨_,k4 zo⟩;obtain ⟨C,F,g,p,y,A⟩:=yD (c.ext e f) d;refine zG ?_;refine zF (v:=.func (.func 92) #[] #[]) R5 ?_;refine zG ?_;refine sI g y ?_;refine sL A p 0 ?_;refine sC (zp1 _ _ _ s).cx ?_;rintro _ o w rfl H G;by_cases h48:s=[48]
  ·subst h48;rw [show (!(([48]:List UInt8)==[48]))=false from rfl];refine zG ?_;exact sK (j+1) ⟨rfl,zo,(zx:Tx n h w o).2,by show j+1≤len;omega,fun s c=>by
    rw [yZ d] at c;rcases Al.1 c with h|h
    ·exact b s h
    ·exact nP.1 h⟩
  rw [show (!(s==[48]))=true from by simp [h48]];refine Zq ?_;exact ⟨_,rfl,fun h=>cA h zo,fun h=>cA (h s (ns d)) h48⟩
 refine Zq ?_;exact ⟨_,rfl,fun _=>by rwa [show j=gP S by omega,Ax] at b,fun _=>zo⟩
theorem za0 (k:Nat)(f:Sl h n 1 (jx a len cap) (strs S))(c:gP S<1000000):VF (cal (k+4)) 50 [jx a len cap] h n fun v=>∃b:Bool,v=kz b∧(b=true↔∀s∈S,s=[48]):=by
 have hc:VF (cal (k+3)) 91 [jx a len cap,.func (.func 92) #[] #[]] h n fun v=>∃b,v=kz b∧(b=false↔∀s∈S,s=[48]):=by
  refine zI (fn:=Tryz.f91) R4 ?_;refine zG ?_;refine zF (v:=.func (.func 92) #[] #[]) R5 ?_;refine sC (zp4 _ f c).cx ?_;rintro _ e g ⟨i,rfl,d⟩ l j;by_cases h0:i<0
  ·refine Zq ?_;exact ⟨_,rfl,fun _=>d.1 h0,fun _=>rfl⟩
  refine Zq ?_;exact ⟨_,rfl,fun h=>(by cases h),fun h=>cA (d.2 h) h0⟩
 refine zI (fn:=Tryz.f50) R4 ?_;refine zG ?_;refine sC hc.cx ?_;rintro _ e g ⟨b,rfl,c⟩ l j;cases b with
 |false=>
  refine Zq ?_;exact zye (c.1 rfl)
 |true=>
  refine Zq ?_;exact zno (fun h=>by cases c.2 h)
end
section
variable {n:Nat}
theorem ShT.ratT (h:Sz 29 q):ShT (ratT q):=by
 have a:∀V,V<2^29→gP (decT V)≤9:=fun V d=>by
  unfold decT;split
  ·decide
  rw [oo,tu];exact xm 9 V (tv d (by decide+kernel))
 have b:=a _ h.1;have c:=a _ h.2;unfold ShT;refine ⟨?_,?_,?_,?_,?_⟩
 ·unfold Go.Proofs.YtfajmfoofmienaaGreatDoor.ratT;simp only [nn];split<;>split<;>simp<;>omega
 ·rw [uT];exact b
 ·rw [uT];show (gP (if q.den=1 then [] else decT q.den))≤9;split
  ·exact Du _
  exact c
 ·rw [uT]
 exact ((qF _).1 ⟨q,rfl⟩).2
theorem pd (k:Nat)(h:HF)(n:Nat)(j:Sz 29 q):CX (cal (k+5)) 114 [kF ⟨⟨ratT q⟩⟩] h n fun v _ _=>∃x y,v=.tuple #[.agg #[jy .i64 x,jy .i64 y],kz true]∧SR (ratT q) x y:=by
 have b:=ShT.ratT j;refine yg (qy k h n (ratT q) (by have:=b.1;omega)) ?_;rintro v p s w ⟨d,f,g,x,y,u,rfl,i,a⟩;have a:=a b;subst a;obtain ⟨l,e,rfl,rfl,m,o⟩:=i rfl;refine ⟨d,f,g,_,_,rfl,?_⟩;have c:=uU e;subst c;have:=l.den_pos;exact ⟨by rw [zn],by rw [zn],zo,zo⟩
section
variable {x y:Rat}
theorem jk (k:Nat)(h:HF)(n:Nat)(hx:Sz 29 x)(g:Sz 29 y):CX (cal (k+6)) 85 [kF ⟨⟨ratT x⟩⟩,kF ⟨⟨ratT y⟩⟩] h n fun v _ _=>∃a b c d,v=.tuple #[.agg #[jy .i64 a,jy .i64 b],.agg #[jy .i64 c,jy .i64 d],kz true]∧SR (ratT x) a b∧SR (ratT y) c d:=by
 refine zu (fn:=Tryz.f85) R4 ?_;refine Zh ?_;intro i I R;refine sA ?_;intro j J S;refine zG ?_;refine sC (pd _ _ _ hx) ?_;rintro _ l B ⟨a,b,rfl,e⟩ Y T;refine Zh ?_;intro m K U;refine sS [jy .i64 a,jy .i64 b] ?_;intro o L D;refine zG ?_;refine sC (pd _ _ _ g) ?_;rintro _ p C ⟨c,d,rfl,f⟩ Z V;refine Zh ?_;intro s M W;refine sS [jy .i64 c,jy .i64 d] ?_;intro u N F;refine zG ?_;refine zm [0,0,1,7,15] rfl ?_;refine zH ?_;refine dS [jy .i64 a,jy .i64 b] ?_;intro w O G;refine dS [jy .i64 c,jy .i64 d] ?_;intro A P H;refine zq ?_;exact ⟨_,_,_,_,rfl,e,f⟩
theorem SR.sub {a b:List UInt8}{x y u v:Int}(p:SR a x y)(q:SR b u v):Av (x*v-u*y) (y*v)=numOf a-numOf b:=by
 rw [p.e1,p.e2,q.e1,q.e2,B5,Rat.add_def',←EM,A6,Rat.neg_num,Rat.neg_den,Int.neg_mul,←Int.sub_eq_add_neg]
theorem addT (k:Nat)(g:GG h n)(hx:Sz 29 x)(e:Sz 29 y):VF (cal (k+7)) 48 [kF ⟨⟨ratT x⟩⟩,kF ⟨⟨ratT y⟩⟩] h n fun v=>v=kF ⟨⟨ratT (x+y)⟩⟩:=by
 refine zI (fn:=Tryz.f48) R4 ?_;refine zG ?_;refine sC (jk _ _ _ hx e) ?_;rintro _ f s ⟨a,b,c,d,rfl,p,q⟩ L H;have O:=p.b1;have P:=p.b2;have R:=q.b1;have S:=q.b2;refine Zh ?_;intro i B I;refine sA ?_;intro j C J;refine sS [jy .i64 a,jy .i64 b] ?_;intro l F w;refine sS [jy .i64 c,jy .i64 d] ?_;intro m G A;refine zG ?_;have T:=mul9 (a:=a) (b:=d) zo zo;refine st_mul rfl rfl rfl rfl rfl rfl zo ?_;refine zG ?_;have U:=mul9 (a:=c) (b:=b) zo zo;refine st_mul rfl rfl rfl rfl rfl rfl zo ?_;refine zG ?_;have V:=zem (a:=b) (b:=d) zo zo;refine st_mul rfl rfl rfl rfl rfl rfl zo ?_;refine sC (tM _ (g.x zx) (N:=a*d+c*b) (D:=b*d) zo zo) ?_;rintro _ o u rfl M K;refine zf ?_;exact by rw [SR.add p q,zn,zn];rfl
theorem subT (k:Nat)(g:GG h n)(hx:Sz 29 x)(e:Sz 29 y):VF (cal (k+7)) 102 [kF ⟨⟨ratT x⟩⟩,kF ⟨⟨ratT y⟩⟩] h n fun v=>v=kF ⟨⟨ratT (x-y)⟩⟩:=by
 refine zI (fn:=Tryz.f102) R4 ?_;refine zG ?_;refine sC (jk _ _ _ hx e) ?_;rintro _ f s ⟨a,b,c,d,rfl,p,q⟩ L H;have O:=p.b1;have P:=p.b2;have R:=q.b1;have S:=q.b2;refine Zh ?_;intro i B I;refine sA ?_;intro j C J;refine sS [jy .i64 a,jy .i64 b] ?_;intro l F w;refine sS [jy .i64 c,jy .i64 d] ?_;intro m G A;refine zG ?_;have T:=mul9 (a:=a) (b:=d) zo zo;refine st_mul rfl rfl rfl rfl rfl rfl zo ?_;refine zG ?_;have U:=mul9 (a:=c) (b:=b) zo zo;refine st_mul rfl rfl rfl rfl rfl rfl zo ?_;refine zG ?_;have V:=zem (a:=b) (b:=d) zo zo;refine st_mul rfl rfl rfl rfl rfl rfl zo ?_;refine sC (tM _ (g.x zx) (N:=a*d-c*b) (D:=b*d) zo zo) ?_;rintro _ o u rfl M K;refine zf ?_;exact by rw [SR.sub p q,zn,zn];rfl
theorem mulT (k:Nat)(g:GG h n)(hx:Sz 29 x)(e:Sz 29 y):VF (cal (k+7)) 49 [kF ⟨⟨ratT x⟩⟩,kF ⟨⟨ratT y⟩⟩] h n fun v=>v=kF ⟨⟨ratT (x*y)⟩⟩:=by
 refine zI (fn:=Tryz.f49) R4 ?_;refine zG ?_;refine sC (jk _ _ _ hx e) ?_;rintro _ f s ⟨a,b,c,d,rfl,p,q⟩ L H;have O:=p.b1;have P:=p.b2;have R:=q.b1;have S:=q.b2;refine Zh ?_;intro i B I;refine sA ?_;intro j C J;refine sS [jy .i64 a,jy .i64 b] ?_;intro l F w;refine sS [jy .i64 c,jy .i64 d] ?_;intro m G A;refine zG ?_;have T:=mul9 (a:=a) (b:=c) zo zo;refine st_mul rfl rfl rfl rfl rfl rfl zo ?_;refine zG ?_;have U:=zem (a:=b) (b:=d) zo zo;refine st_mul rfl rfl rfl rfl rfl rfl zo ?_;refine sC (tM _ (g.x zx) (N:=a*c) (D:=b*d) zo zo) ?_;rintro _ o u rfl M K;refine zf ?_;exact by rw [SR.mul p q,zn,zn];rfl
end
end
theorem zqf (k:Nat){h:HF}{n:Nat}(g:GG h n){Ns:List Nat}{ds:List MD}{M:Nat→Nat→Nat→Rat}{E:List Ent}{aE aM:Option Addr}{cE lM cM:Nat}(ms:MS h n (jx aM lM cM) ds M)(hd:ds.map (·.n)=Ns)(hN:∀N∈Ns,N≤8)(hs:Sl h n 4 (jx aE (gP E) cE) (ents E)){D B:Nat}(Y:0<D∧D<4096∧B<4096)(hE:∀e∈E,EntD D B Ns e)(hl:gP E<1000000)(hm:∀k i j,Sz 17 (M k i j))(hz:∀P Q,E=P++Q→Sz 29 (fm M P)):
  VF (cal (k+14)) 78 [jx aE (gP E) cE,jx aM lM cM] h n fun v=>v=kF ⟨⟨ratT (fm M E)⟩⟩:=by
 have b6:=hs.below;refine zI (fn:=Tryz.f78) R4 ?_;refine zG ?_;refine sB [jx aM lM cM] ?_;intro h1 p1 x1;refine Zh ?_;intro h2 p2 x2;refine sS [kF ⟨⟨[48]⟩⟩] ?_;intro U p3 o3;refine zG ?_;refine sC (zat _ _ _ _ _ _) ?_;rintro _ h6 n6 ⟨rfl,rfl,e6,p6⟩ y6 x6;refine zG ?_;refine lJ rfl rfl ?_;intro o c1 a6 xB;obtain ⟨e3,q3⟩:∃e,o (3*n+2)=some (.row [jx aM lM cM] e):=⟨_,zp⟩;obtain ⟨e5,q5⟩:∃e,o (3*(n+1)+2)=some (.row [kF ⟨⟨[48]⟩⟩] e):=⟨_,zp⟩;have q7:o (3*(n+1+1)+2)=some (.row [jx aE (gP E) cE] e6):=zp;have xh:Ext n h o:=(zx:Tx n h (n+1+1+1) o).2;clear p1 x1 p2 x2 p3 o3 p6 x6 xB;obtain ⟨lo,bc⟩:∃lo,lo=n+1+1+1+2:=⟨_,rfl⟩;obtain ⟨l,ai⟩:∃l,l=3*(n+1+1+1+1)+2:=⟨_,rfl⟩;obtain ⟨f,Z⟩:∃b,b=3*(n+1)+2:=⟨_,rfl⟩;rw [←ai,←Z] at a6;rw [←Z] at q5;rw [←bc,←ai,←Z];refine yg (mY (k+12) (E:=E) (I:=fun P C n'=>C l=o l∧∃e,C f=some (.row [kF ⟨⟨ratT (fm M P)⟩⟩] e)) (W:=fun c=>c=f∨c=l∨3*lo≤c) (V:=fun c=>c=f) zo q7 (hs.ext xh zo) hl (fun ad e=>?_) ⟨rfl,e5,q5⟩ (fun c hc=>zo) ?_) ?_
 ·subst e;have hb:ad.block<3*n:=b6;rintro (U|U|U)<;>omega
 ·intro P g1 R b0 hr m A off cc u ac G cb ba ⟨aj,eu,pu⟩ ak a9 c7;have aq:A≠f:=fun h=>a9 (.inl h);obtain ⟨e1,g2,rfl⟩:∃e g2,g1=e::g2:=by
   cases g1 with
   |nil=>exact cA rfl ac
   |cons e g2=>exact ⟨e,g2,rfl⟩
  obtain ⟨k0,N,i1,j1,v1,rfl,p,_⟩:=hE e1 (by rw [u];simp);have b8:b0=(k0:Int):=(G _ As).symm;subst b8;obtain ⟨g1,F⟩:∃g,g=(⟨(k0:Int),(i1:Int),(j1:Int),ratT v1⟩:Ent)::g2:=⟨_,rfl⟩;rw [←F] at u ak G ⊢;have ar:0<gP g1:=by rw [F];simp
  clear F ac;obtain ⟨d,aa,b9⟩:∃d,ds[k0]?=some d∧d.n=N:=by
   rw [←hd,sr] at p;cases h:ds[k0]? with
   |none=>rw [h] at p;cases p
   |some d=>rw [h] at p;exact ⟨d,rfl,A0 p⟩
  subst b9;have a8:=hN d.n (ns p);have c6:d.n*d.n≤8*8:=AD a8 a8;refine lI (aj.trans a6) rfl rfl ?_;refine zG ?_;refine ⟨trivial,trivial,fun O L1=>?_⟩;have hq:∀c,c<3*lo→c≠l→c≠f→O c=o c:=fun c h1 h2 U=>(L1.1 c h2).trans (ba c zo (fun h=>by rcases h with h|h|h;exact U h;exact h2 h;omega));have bn:=(hq (3*n+2) zo zo zo).trans q3;have bm:=(L1.1 f zo).trans pu;have XM:Ext n h O:=fun c hc=>(hq c zo zo zo).trans (xh c hc);have gM:GG O m:=g.ext XM zo;have bi:=ms.ext XM (show n≤m by omega);have bs:Sl O m 4 (jx (some ⟨A,off,none⟩) (gP g1) cc) (ents g1):=ak.keep (fun a l' cap e=>by cases e;exact L1.1 _ (fun h=>a9 (.inr (.inl h)))) eT;refine zG ?_;obtain ⟨b2,o2,c2,K,m2,r2,t2,_,f2⟩:=RS.at' zd bi.r aa;have f2:c2=[jy .i64 (d.n:Int),jy .i64 (d.n:Int),jx d.a (d.n*d.n) d.c]:=f2;subst f2;refine sI K r2 ?_;refine sL t2 m2 0 ?_;refine sA ?_;intro h7 p7 x7;refine sSn (n0:=m) [jy .i64 (d.n:Int),jy .i64 (d.n:Int),jx d.a (d.n*d.n) d.c] ?_;intro h8 p8 o8;refine zG ?_;have S:Ext m O h8:=(zx:Tx m O _ h8).2;have c8:gP g1<1000000:=by
   have K:gP E=gP P+(gP g1+gP R):=by rw [u];simp
   omega
  have bl:=(S f zo).trans bm;refine sF (α:=Nat) (fun z=>[(3,kS (some ⟨3*n+2,0,none⟩)),(5,kS (some ⟨f,0,none⟩)),(8,kS (some ⟨3*m+2,0,none⟩)),(19,jx (some ⟨A,off,none⟩) (gP g1) cc),(20,jy .i64 (gP g1:Int)),(21,jy .i64 (z:Int))])
   (fun z C n' w'=>m+1≤n'∧(∀b,b<3*(m+1)→b≠f→C b=h8 b)∧(∃e,C f=some (.row [kF ⟨⟨ratT (fm M (P++g1.take z))⟩⟩] e))∧(∀b∈w',b=f∨b=l)∧l∈w'∧(0<z→f∈w')∧z≤gP g1)
   (fun z=>gP g1-z) 0 ⟨eT,fun _ _ _=>rfl,⟨eu,by rw [Bj,A3];exact bl⟩,fun b hb=>.inr (nP.1 hb),nP.2 rfl,fun h=>cA h (BK _),eU⟩ ?_
  rintro z t L w w9 ⟨y9,H,⟨b3,a3⟩,J,a1,bd,al⟩;have y9:m+1≤w:=y9;have al:z≤gP g1:=al;have J:∀b∈w9,b=f∨b=l:=J;have a1:l∈w9:=a1;have bo:=(H (3*m+2) zo zo).trans p8;have cj:=(H (3*n+2) zo zo).trans ((S _ zo).trans bn);have X9:Ext n h L:=fun c hc=>(H c zo zo).trans ((S c zo).trans (XM c hc));have g9:GG L w:=g.ext X9 zo;have bh:=ms.ext X9 (show n≤w by omega);refine zG ?_;by_cases qz:(z:Int)<(gP g1:Int)
  ·obtain ⟨e0,a0⟩:∃e,g1[z]?=some e:=⟨_,k4 zo⟩;have a2:=ns a0;obtain ⟨s,N2,i0,q,v,rfl,ah,c9,au,sv⟩:=hE e0 (by rw [u];simp [a2]);have av:s=k0:=by have:(s:Int)=(k0:Int):=G _ a2;omega
   subst av;rw [p] at ah;cases ah;have ag:q<d.n:=au;have af:i0<d.n:=zo;have c3:=rH af ag;refine zG ?_;obtain ⟨bq,oq,b1,mq,rq,tq⟩:=rn bs a0;cases b1;refine sI rfl rq ?_;have bv:At L A (off+z*4) _:=tq.keep ((H A zo aq).trans (S A zo));refine sL bv (show A<3*w by omega) 0 ?_;refine sA ?_;intro c4 bk bw;refine sSn (n0:=m) [jy .i64 (s:Int),jy .i64 (i0:Int),jy .i64 (q:Int),kF ⟨⟨ratT v⟩⟩] ?_;intro T ch bj;have y:Ext w L T:=(zx:Tx w L (w+1) T).2;have ay:=(y f zo).trans a3;have bz:=(y _ zo).trans bo;have ax:=bh.ext y zs;have a7:=g9.ext y zs;clear bw bk bj;have b7:P++g1.take (z+1)=P++g1.take z++[⟨(s:Int),(i0:Int),(q:Int),ratT v⟩]:=by rw [yZ a0,Aq]
   have bg:Sz 29 (fm M (P++g1.take z)):=hz _ (g1.drop z++R) (by rw [Aq,←Aq (g1.take z),Bf];exact u);have cd:Sz 29 (fm M (P++g1.take (z+1))):=hz _ (g1.drop (z+1)++R) (by rw [Aq,←Aq (g1.take (z+1)),Bf];exact u);have a4:fm M (P++g1.take z)+v*M s i0 q=fm M (P++g1.take (z+1)):=by rw [b7,zfo]
   have an:Sz 12 v:=FN.sz sv Y.1 Y.2.1 Y.2.2;obtain ⟨c0,cg,az,aw,bp,bt⟩:=yD (ax.t _ _ aa) (show ((tabL d.n (M s)).map ratT)[i0*d.n+q]?=some (ratT (M s i0 q)) by rw [sr,vH af ag];rfl);refine zG ?_;refine zm [0,0,2,0,8,0,32,0,128,480,0,1024,4064,8184,16376,32766,65535,131071] rfl ?_;refine zH ?_;refine dMu i0 d.n zo ?_;refine zH ?_;refine dI (j:=i0*d.n+q) az bp ?_;refine dL bt aw 0 ?_;refine dC (mulT _ (a7.x zx) (an.mono zd) ((hm s i0 q).mono zd)).cx ?_;rintro _ c5 ce rfl ck ao;refine dC (addT _ (a7.x zx) bg ((an.mul (hm s i0 q)).mono zd)).cx ?_;rintro _ b4 cf rfl cl ap;have a5:Ext (w+1) T b4:=fun c hc=>(ap c zo).trans (ao c hc);refine dSx (n0:=m) [kF ⟨⟨ratT (fm M (P++g1.take z)+v*M s i0 q)⟩⟩] ((a5 f zo).trans ay) ?_;intro b5 am br;rw [a4] at am;have bx:∀b,b<3*w→b≠f→b5 b=L b:=fun b hb hn=>(br.1 b hn).trans ((a5 b zo).trans (y b hb));clear ao ap;refine zG ?_;exact sK (z+1) ⟨zo,fun b hb hn=>(bx b zo hn).trans (H b hb hn),⟨_,am⟩,wF (fun b hb=>.inl (nP.1 hb)) J,wm _ _ _ a1,fun _=>wG (show f<3*m by omega) (nP.2 rfl),by show z+1≤gP g1;omega⟩
  have bf:z=gP g1:=zo;subst bf;rw [Ax] at a3;refine zG ?_;refine ⟨trivial,(H l zo zo).trans (S l zo),fun h2 K L2=>?_⟩;refine ⟨⟨K.trans aj,b3,(L2.1 f zo).trans a3⟩,zo,fun c hc hn=>(L2.1 c (fun h=>hn (.inr (.inl h)))).trans ((H c zo (fun h=>hn (.inl h))).trans ((S c hc).trans (L1.1 c (fun h=>hn (.inr (.inl h)))))),fun c hc=>?_,As,f,AV _ (bd ar),rfl⟩;rcases sP.1 hc with rfl|hc
  ·exact .inl (.inr (.inl rfl))
  rcases J c hc with h|h
  ·exact .inl (.inl h)
  exact .inl (.inr (.inl h))
 rintro v C n' w' ⟨⟨e1,eu,pu⟩,ca,ab,be,_⟩;have K:C (3*(n+1+1+1)+2)=o (3*(n+1+1+1)+2):=ab _ zo (fun h=>by rcases h with h|h|h<;>omega);refine ⟨e1,K,fun h2 ae=>?_⟩;rw [vW,z0 (fun c hc=>by have:=(be c hc).1;omega)];have hk:Ext n h h2:=fun c hc=>(ae c zo zo).trans ((ab c zo (fun h=>by rcases h with h|h|h<;>omega)).trans (xh c hc));have ci:=(ae f zo zo).trans pu;have y2:n≤n':=zo;refine Zq ?_;rfl
section
variable {x:Operand}{b sz:Nat}{z:Value}
section
variable {n:Nat}{w:List Nat}{d:Tmp}
theorem zo0 {s:Operand}{a m:Nat}(I:zi ops t o=true)(hd:o.dst=some d)(hn:zv X.nt (some d)=true)(p:o.op=.call {callee:=.builtin .copy,args:=#[s,x],argTypes:=#[sT,xT]})(hu:X.E.und sT=some (.slice e))(F:X.E.inf e=some (size,bytes,z))
  (H:evF t s=jx (some ⟨b,0,none⟩) a cap)(J:argS h size (evF t x) m cs)(G:m≤a)(C:h b=some (.row c e3))(hl:gP cs≤gP c)(l:cs≠[])(u:ones cs=true)(g:3*X.n0≤b)
  (k:EO X ops r ⟨upd t d (jy .i64 (m:Int)),upd h b (some (.row (cs++c.drop (gP cs)) e3)),n,w⟩ Q):EO X ops (o::r) ⟨t,h,n,w⟩ Q:=by
 have f:Fs m a=m:=Be G;have hc:kb X.E h n sT (evF t s) (evF t x)=some (.val (jy .i64 (m:Int)) (upd h b (some (.row (cs++c.drop (gP cs)) e3))) n [b]):=by
  obtain ⟨A,B⟩:=J;cases cs with
  |nil=>exact cA rfl l
  |cons v cs=>
   have q:vl h ⟨b,0,none⟩ (v::cs)=some (upd h b (some (.row ((v::cs)++c.drop (gP (v::cs))) e3))):=by
    rw [um C zo u];unfold zw;rw [Bj,List.nil_append,AA]
   simp only [kb,hu,F,H,A,f,B,q];rfl
 have D:effF X.E o.op (evF t) h n=some (.val (jy .i64 (m:Int)) (upd h b (some (.row (cs++c.drop (gP cs)) e3))) n [b]):=by
  rw [p];exact hc
 rw [qN I (by rw [hd];exact hn) (by rw [p];rfl) D,hd,z0 fun y K=>by rw [nP.1 K];exact g];exact k
end
section
variable {ms w:List Nat}{i n:Nat}{d:Tmp}
theorem zrt (A:zi ops t o=true)(a:o.dst=some d)(y:zv X.nt (some d)=true)(q:cls o.op=3)(u:effF X.E o.op (evF t) h n=some (.val v h' n W))(f:xg m ef=true)(g:xU m al=true)(l:yc m W ld=true)(p:∀b∈W,3*X.n0≤b)
  (k:ED X ops r ms (i+1) ⟨⟨upd t d v,h',n,w⟩,al,ld,(i,h,W)::ef⟩ Q):ED X ops (o::r) (m::ms) i ⟨⟨t,h,n,w⟩,al,ld,ef⟩ Q:=by
 refine mJ A (by rw [a];exact y) q u f g l eT ?_;rw [a,z0 p];exact k
end
theorem zmz (k:Nat)(h:HF)(n:Nat){m:Nat}(a:m<18446744073709551616):VF (cal (k+2)) 83 [jy .u64 ((1:Nat):Int),jy .u64 (m:Int)] h n fun v=>v=.tuple #[jy .u64 0,jy .u64 (m:Int)]:=by
 refine zI (fn:=Tryz.f83) R4 ?_;refine Zb ?_;rw [za rfl];refine Zf ?_;refine yk _ R5 (bP k h n (x:=1) (y:=m) zd a) ?_;rintro _ rfl;rw [show 1*m/18446744073709551616=0 by omega,show 1*m%18446744073709551616=m by omega];refine Zl ?_;exact retF [jy .u64 0,jy .u64 (m:Int)] rfl rfl R2 rfl
def repR (x z:Value)(m j:Nat):List Value:=pl j x++pl (m-j) z
theorem bA {x:Value}{m:Nat}(h:j≤m):gP (repR x z m j)=m:=by simp [repR];omega
theorem zdz {x:Value}{m r:Nat}(h:j+r≤m):zw (repR x z m j) j (pl r x)=repR x z m (j+r):=by
 unfold zw repR;rw [Ah,DH gN,List.drop_append,Fj,Ah,Fj,show j-(j+r)=0 by omega,show m-j-(j+r-j)=m-(j+r) by omega];simp [←Aq,List.replicate_append_replicate]
theorem zio {s:ByteArray}(r:Nat):ones (pl r (kF s))=true:=by
 induction r with
 |zero=>rfl
 |succ r ih=>simpa [Cr,ones] using ih
theorem slLo (hu:env.und ty=some (.slice e))(p:env.inf e=some (1,bt,z)){m:Nat}(q:j<m):yQ env ty (jx (some ⟨b,0,none⟩) m m) (some (jy .i64 (j:Int))) none=some (jx (some ⟨b,j,none⟩) (m-j) (m-j)):=by
 have f:(0:Int)≤(j:Int)∧(j:Int)≤m:=zo;have a:Ai m j=false:=by
  cases a:Ai m j with
  |false=>rfl
  |true=>have:=Nat.le_of_ble_eq_true a;omega
 have g:(gro b&&(Ai 1 j&&Ai m j))=false:=by rw [a];simp
 have l:offA m j 1 ⟨b,0,none⟩=⟨b,j,none⟩:=by
  unfold offA;have:AG m j=false:=by
   cases a:AG m j with
   |false=>rfl
   |true=>have:=Aw a;omega
  rw [this,wl];simp
 simp only [yQ,hu,p,bnd,eN f,AP,g,l]
theorem slHi (hu:env.und ty=some (.slice e))(l:env.inf e=some (sz,bt,z)){m:Nat}(p:j≤m):yQ env ty (jx (some ⟨b,0,none⟩) m m) none (some (jy .i64 (j:Int)))=some (jx (some ⟨b,0,none⟩) j m):=by
 have a:(0:Int)≤(j:Int)∧(j:Int)≤m:=zo;have f:(gro b&&(Ai 1 0&&Ai m 0))=false:=by simp
 have g:offA m 0 sz ⟨b,0,none⟩=⟨b,0,none⟩:=by
  unfold offA;split
  ·rfl
  rw [wl];simp
 simp only [yQ,hu,l,bnd,eN a,AP,f,g,C8]
theorem zju (hu:env.und ty=some (.slice e))(B:env.inf e=some (1,bt,z)){h:HF}{n m:Nat}{s:ByteArray}{y:Value}(G:1≤j∧j<m)(f:h b=some (.row (repR (kF s) y m j) e3)):
  kb env h n ty (jx (some ⟨b,j,none⟩) (m-j) (m-j)) (jx (some ⟨b,0,none⟩) j m)=some (.val (jy .i64 ((min j (m-j):Nat):Int)) (upd h b (some (.row (repR (kF s) y m (j+min j (m-j))) e3))) n [b]):=by
 obtain ⟨r,l⟩:∃r,r=min j (m-j):=⟨_,rfl⟩;have p:1≤r∧r≤j∧r≤m-j:=zo;have C:uy h ⟨b,0,none⟩ r=some (pl r (kF s)):=by
  have g:Ai (0+r) (gP (repR (kF s) y m j))=true:=sn (by rw [bA zo];omega);have F:((repR (kF s) y m j).drop 0).take r=pl r (kF s):=by unfold repR;rw [List.drop_zero,List.take_append_of_le_length (by simp;omega),List.take_replicate,Be p.2.1]
  simp only [uy,f,BF.cells,g,B4,A4,F]
 have a:vl h ⟨b,j,none⟩ (pl r (kF s))=some (upd h b (some (.row (repR (kF s) y m (j+r)) e3))):=by
  rw [um f (by rw [bA zo,Ah];omega) (zio r),zdz zo]
 rw [←l];have D:Fs j (m-j)=r:=l.symm;have A:yn h 1 r (jx (some ⟨b,0,none⟩) j m)=some (pl r (kF s)):=by
  show (if r*1=0 then some [] else uy h ⟨b,0,none⟩ (r*1))=_;rw [cC zo,AO,C]
 have u:pl r (kF s)=kF s::pl (r-1) (kF s):=by
  obtain ⟨q,rfl⟩:∃q,r=q+1:=⟨r-1,zo⟩;rfl
 simp only [kb,hu,B,lenOf?,D,A];rw [u] at a ⊢;simp only [a];rfl
theorem zdx (k:Nat){h:HF}{n:Nat}{u:TypeId}(H:b<3*n)(a:h b=some (.row [kF ⟨⟨s⟩⟩] u))(B:1≤cap){m:Nat}(C:1≤m∧m<1000):
  CF (cal (k+3)) 45 [jx (some ⟨b,0,none⟩) 1 cap,jy .i64 (m:Int)] h n fun v h' f w=>w=[]∧f=n+1∧Ext n h h'∧v=jx (some ⟨3*n+2,0,none⟩) m m∧∃e,h' (3*n+2)=some (.row (pl m (kF ⟨⟨s⟩⟩)) e):=by
 refine zu (fn:=Tryz.f45) R4 ?_;refine Zb ?_;refine Zw ?_;refine uM (c:=1) R7 zd ?_;refine zM ?_;refine uM (c:=m) R7 zo ?_;refine yk _ R5 (zmz k h n (m:=m) zo) ?_;rintro _ rfl;refine Za ?_;refine ZB ?_;refine wx R7 zo ?_;refine wO (len:=m) (cap:=m) R9 zo ?_;rw [show zC (kF ⟨⟨[]⟩⟩)=[kF ⟨⟨[]⟩⟩] from rfl,zdy];refine Zk ?_;refine zo0 (m:=1) (cs:=[kF ⟨⟨s⟩⟩]) rfl rfl rfl rfl rfl rfl rfl (yH (show upd h _ _ b=_ from (zj zo).trans a) R2) zo (zh _ _ _) (by simp;omega) gN rfl (by show 3*n≤3*n+2;omega) ?_;rw [xq,show [kF ⟨⟨s⟩⟩]++(pl m (kF ⟨⟨[]⟩⟩)).drop [kF ⟨⟨s⟩⟩].length=repR (kF ⟨⟨s⟩⟩) (kF ⟨⟨[]⟩⟩) m 1 from by simp [repR]];refine Za ?_;refine z9 (α:=Nat) (fun j=>[(7,jx (some ⟨3*n+2,0,none⟩) m m),(8,jy .i64 (j:Int))])
  (fun j h' f w=>f=n+1∧w=[]∧Ext n h h'∧1≤j∧j≤m∧∃e,h' (3*n+2)=some (.row (repR (kF ⟨⟨s⟩⟩) (kF ⟨⟨[]⟩⟩) m j) e)) (fun j=>m-j) 1 ⟨rfl,rfl,eP⟩ ⟨rfl,rfl,Ext.upd zo,eT,C.1,_,zh _ _ _⟩ (by show m-1<LL;unfold LL;omega) ?_
 rintro j t A _ _ ⟨rfl,rfl,p,F,G,e,l⟩;refine zN ?_;by_cases hj:j=m
 ·subst hj;refine Zi ?_;refine retH [jx (some ⟨3*n+2,0,none⟩) j j] ⟨rfl,(zk rfl),rfl⟩ ⟨rfl,rfl,p,rfl,e,?_⟩;show A (3*n+2)=_;rw [l];simp [repR]
 refine Zp ?_;refine zm [0,0,0,6,0,0,48,126,255,511] rfl ?_;repeat refine zE ?_
 refine dr_S R4 (slLo (ty:=23) (m:=m) (j:=j) rfl rfl zo) ?_;repeat refine zE ?_
 refine dr_S R4 (slHi (ty:=23) (m:=m) (j:=j) rfl rfl zo) ?_;refine zrt rfl rfl rfl rfl (zju (ty:=23) (m:=m) (j:=j) rfl rfl zo l) rfl rfl rfl (fun y D=>by rw [nP.1 D];show 3*n≤3*n+2;omega) ?_;repeat refine zE ?_
 refine zN ?_;refine ⟨j+min j (m-j),by show m-(j+min j (m-j))<m-j;omega,⟨rfl,rfl,eP⟩,rfl,rfl,fun q g=>?_,zo,zo,e,zh _ _ _⟩;exact (zj zo).trans (p q g)
end
structure Ex0 (n:Nat)(h h':HF):Prop where
 e:Ext n h h'
theorem rf {h:HF}{n:Nat}{a:Option Addr}{len cap j:Nat}{L:List Int}{d:Int}(r:Sl h n 1 (jx a len cap) (i64s L))(e:L[j]?=some d):∃b off,a=some ⟨b,off,none⟩∧b<3*n∧j<len∧At h b (off+j*1) [jy .i64 d]:=by
 refine uP r ?_ rfl zd;have g:=(oc.1 e).1;have c:(i64s L)[j]?=some (jy .i64 d):=by unfold i64s;rw [sr,e];rfl
 have f:=(oc.1 c).1;rw [AO,List.drop_eq_getElem_cons f,Fl,Bj,←(oc.1 c).2]
theorem zmj (k:Nat){h:HF}{n b:Nat}{s:List UInt8}{g:TypeId}(i:b<3*n)(a:h b=some (.row [kF ⟨⟨s⟩⟩] g)){m:Nat}(j:1≤m∧m<1000):
  CX (cal (k+3)) 45 [jx (some ⟨b,0,none⟩) 1 1,jy .i64 (m:Int)] h n fun v f c=>c=n+1∧v=jx (some ⟨3*n+2,0,none⟩) m m∧OT f c (3*n+2) (pl m s):=by
 refine yg (zdx k i a eT j) ?_;rintro v f c w ⟨rfl,rfl,x,rfl,e,l⟩;exact ⟨rfl,zo,x,rfl,rfl,OT.of zo (by rw [l];unfold strs;rw [List.map_replicate])⟩
section
variable {n:Nat}{w:List Nat}{d:Tmp}
theorem sMs {e:TypeId}(cs:List Value){l c:Nat}(k:∀h',h' (3*n+2)=some (.row cs e)→Ext n h h'→EO X ops r ⟨upd t d (.slice (some ⟨3*n+2,0,none⟩) l c),h',n+1,w⟩ Q)(a:zi ops t o=true:=by exact rfl)(hd:o.dst=some d:=by exact rfl)(hn:zv X.nt (some d)=true:=by exact rfl)(hc:cls o.op=2:=by exact rfl)(hm:mkE X.E o.op (evF t)=some ⟨cs,e,false,some (l,c)⟩:=by exact rfl):EO X ops (o::r) ⟨t,h,n,w⟩ Q:=
 vm ⟨a,hd,hn,hc,hm⟩ (k _ (zh _ _ _) (Ext.upd (show 3*n≤3*n+2 by omega)))
end
theorem zei:ratT (-1)=[45,49]:=by decide+kernel
theorem zdb (N:Nat):(tabL N fun _ _=>(0:Rat)).map ratT=pl (N*N) [48]:=by
 unfold tabL;rw [DA,←Aj (n:=N*N)];rw [Aj];refine Bn fun m=>?_;rw [sr,Dn];by_cases hm:m<N*N
 ·rw [AL hm,eN hm];rfl
 rw [Ad (by rw [Aj];omega),cC hm];rfl
theorem SdpR.ext0 {h h':HF}{n n':Nat}{f j i g:Value}{p:Sdp}(e:SdpR h n f j i g p)(x:Ext n h h')(c:n≤n'):SdpR h' n' f j i g p:=
 ⟨e.blocks.ext x c,e.obj.ext x c,e.objFree.ext x c,by obtain ⟨l,a,b⟩:=e.eqs;exact ⟨l,a.ext x c,b.ext x c⟩⟩
section
variable {sT:TypeId}{x:Operand}{b j:Nat}{z:Value}
section
variable {D:Type}{sz:Nat}{P:List Value→D→Prop}
theorem Rec.app {c:List Value}{ds f:List D}(r:Rec sz P cs ds)(s:Rec sz P c f):Rec sz P (cs++c) (ds++f):=by
 induction r with
 |nil=>exact s
 |cons hl hp hr ih=>rw [Aq];exact .cons hl hp ih
end
section
variable {ms w:List Nat}{i n:Nat}{d:Tmp}
theorem sGA {D:Type}{sz:Nat}{P:List Value→D→HF→Nat→Prop}{s:Operand}{ds:List D}(c:List Value)(p:List D)(g:GR sz P lo h n e v ds)(B:KP sz P)(G:Rec sz (fun c d=>P c d h n) c p)(hu:c.all nu=true∧ones c=true){I:Value}(hx:argS h sz I p.length c)(Z:1≤p.length)(Y:ds.length+p.length<1000000)(A:n0≤lo∧lo≤n)
  (k:∀q h',GR sz P lo h' (n+1) e q (ds++p)→Tr n h (n+1) h'→Ext lo h h'→(∀b,b<3*n→¬BkOf v b→h' b=h b)→(∀b,BkOf q b→3*n≤b)→EO X ops r ⟨upd t d q,h',n+1,w⟩ Q)
  (hw:zi ops t o=true:=by exact rfl)(hd:o.dst=some d:=by exact rfl)(hn:zv X.nt (some d)=true:=by exact rfl)(ho:o.op=.call {callee:=.builtin .append,args:=#[s,x],argTypes:=#[sT,xT]}:=by exact rfl)(hv:evF t s=v:=by exact rfl)(hux:evF t x=I:=by exact rfl)(hxT:(match X.E.und xT with|some (.int _)=>false|none=>false|_=>true)=true:=by exact rfl)(hus:X.E.und sT=some (.slice e):=by exact rfl)(hi:X.E.inf e=some (sz,bytes,z):=by exact rfl)(hz:(zC z).length=sz:=by exact rfl)(h1:1≤sz∧1≤bytes∧bytes≤1000:=by decide)(hX:X.n0=n0:=by exact rfl):EO X ops (o::r) ⟨t,h,n,w⟩ Q:=by
 have V:=g;obtain ⟨C,J,H,F⟩:=g;subst hv hux;have f:(ds.length+p.length)*bytes≤1099511627776:=Nat.le_trans (Nat.mul_le_mul (show ds.length+p.length≤1000000 by omega) h1.2.2) zd;obtain ⟨q,h',W,M,O,R,T,S,U⟩:=wW hus hi hz ⟨h1.1,h1.2.1⟩ J hx Z f G.len hu.2 A.2;refine xD ⟨hw,hd,hn,ho,hxT⟩ M ?_;rw [hX,z0 fun b f=>by have:=S b f;omega];have y:∀b,b<3*n→¬BkOf (evF t s) b→h' b=h b:=fun b f hn=>T b f fun o l c e=>hn ⟨o,l,c,e⟩;have u:Tr n h (n+1) h':=⟨Nat.le_succ _,fun b f=>by
  by_cases hB:BkOf (evF t s) b
  ·exact .inr (V.bk b hB).2.2.2
  ·exact .inl (y b f hB)⟩
 refine k q h' ⟨C++c,by rw [List.length_append];exact O,(H.mono fun _ _ r=>B.t r u).app (G.mono fun _ _ r=>B.t r u),by rw [List.all_append,F,hu.1];rfl⟩ u R y fun b ⟨o,l,cc,e⟩=>?_;subst e;exact U
theorem dGm {D:Type}{sz:Nat}{P:List Value→D→HF→Nat→Prop}{s:Operand}{ds:List D}(c:List Value)(p:List D)(g:GR sz P lo h n e v ds)(B:KP sz P)(G:Rec sz (fun c d=>P c d h n) c p)(hu:c.all nu=true∧ones c=true){I:Value}(hx:argS h sz I p.length c)(Z:1≤p.length)(Y:ds.length+p.length<1000000)(A:n0≤lo∧lo≤n)
  (k:∀q h' W,GR sz P lo h' (n+1) e q (ds++p)→Tr n h (n+1) h'→Ext lo h h'→(∀b,b<3*n→¬BkOf v b→h' b=h b)→(∀b,BkOf q b→3*n≤b)→ED X ops r ms (i+1) ⟨⟨upd t d q,h',n+1,w⟩,al,ld,(i,h,W)::ef⟩ Q)
  (hw:zi ops t o=true:=by exact rfl)(hd:o.dst=some d:=by exact rfl)(hn:zv X.nt (some d)=true:=by exact rfl)(ho:o.op=.call {callee:=.builtin .append,args:=#[s,x],argTypes:=#[sT,xT]}:=by exact rfl)(hv:evF t s=v:=by exact rfl)(hux:evF t x=I:=by exact rfl)(hxT:(match X.E.und xT with|some (.int _)=>false|none=>false|_=>true)=true:=by exact rfl)(hus:X.E.und sT=some (.slice e):=by exact rfl)(hi:X.E.inf e=some (sz,bytes,z):=by exact rfl)(hz:(zC z).length=sz:=by exact rfl)(h1:1≤sz∧1≤bytes∧bytes≤1000:=by decide)(g1:xg m ef=true:=by exact rfl)(g2:xU m al=true:=by exact rfl)(g3:xU m ld=true:=by exact rfl)(hX:X.n0=n0:=by exact rfl):ED X ops (o::r) (m::ms) i ⟨⟨t,h,n,w⟩,al,ld,ef⟩ Q:=by
 have V:=g;obtain ⟨C,J,H,F⟩:=g;subst hv hux;have f:(ds.length+p.length)*bytes≤1099511627776:=Nat.le_trans (Nat.mul_le_mul (show ds.length+p.length≤1000000 by omega) h1.2.2) zd;obtain ⟨q,h',W,M,O,R,T,S,U⟩:=wW hus hi hz ⟨h1.1,h1.2.1⟩ J hx Z f G.len hu.2 A.2;refine mK hw hd hn ho hxT M g1 g2 (pO g3) zs ?_;rw [hX,z0 fun b f=>by have:=S b f;omega];have y:∀b,b<3*n→¬BkOf (evF t s) b→h' b=h b:=fun b f hn=>T b f fun o l c e=>hn ⟨o,l,c,e⟩;have u:Tr n h (n+1) h':=⟨Nat.le_succ _,fun b f=>by
  by_cases hB:BkOf (evF t s) b
  ·exact .inr (V.bk b hB).2.2.2
  ·exact .inl (y b f hB)⟩
 refine k q h' W ⟨C++c,by rw [List.length_append];exact O,(H.mono fun _ _ r=>B.t r u).app (G.mono fun _ _ r=>B.t r u),by rw [List.all_append,F,hu.1];rfl⟩ u R y fun b ⟨o,l,cc,e⟩=>?_;subst e;exact U
end
def vlP (c:List Value)(v:Value)(_:HF)(_:Nat):Prop:=c=[v]∧nu v=true∧ones [v]=true
theorem vlP.kp:KP 1 vlP:=⟨fun e _=>e,fun e=>by obtain ⟨rfl,c,f⟩:=e;exact ⟨rfl,by rw [EP,c];rfl,f⟩⟩
def slN (N b:Nat):Value:=jx (some ⟨b,0,none⟩) N N
def rdP (N:Nat)(a:Nat→Nat→Rat)(c:List Value)(i:Nat)(h:HF)(n:Nat):Prop:=∃ai ci,c=[jx ai N ci]∧NS h n (jx ai N ci) (rowQ N a i)
theorem rdP.stay (N:Nat)(a:Nat→Nat→Rat):Stay (rdP N a):=⟨fun _ _ _ _ _ _ ⟨c,f,e,s⟩ x g=>⟨c,f,e,s.ext x g⟩⟩
def RDK (h:HF)(n:Nat)(v:Value)(N K:Nat)(a:Nat→Nat→Rat):Prop:=RS 1 (rdP K a) h n v (AC N)
abbrev RD (h:HF)(n:Nat)(v:Value)(N:Nat)(a:Nat→Nat→Rat):Prop:=RDK h n v N N a
theorem RDK.ext {h h':HF}{n n':Nat}{N K:Nat}{a:Nat→Nat→Rat}(r:RDK h n v N K a)(x:Ext n h h')(c:n≤n'):RDK h' n' v N K a:=RS.ext' (rdP.stay K a) r x c
theorem RDK.at {h:HF}{n:Nat}{len N K i:Nat}{a:Nat→Nat→Rat}(r:RDK h n (jx ar len cap) N K a)(A:i<N):∃b f g l,ar=some ⟨b,f,none⟩∧b<3*n∧i<len∧At h b (f+i*1) [jx g K l]∧NS h n (jx g K l) (rowQ K a i):=by
 obtain ⟨b,f,c,p,q,u,y,_,g,l,rfl,s⟩:=RS.at' zd r (AL A);exact ⟨b,f,g,l,p,q,u,y,s⟩
theorem uQ {N:Nat}{a:Nat→Nat→Rat}{i:Nat}(c:j<N):(rowQ N a i)[j]?=some (a i j):=by
 unfold rowQ;rw [sr,AL c];rfl
theorem yV {N:Nat}{a:Nat→Nat→Rat}{i:Nat}:gP (rowQ N a i)=N:=by unfold rowQ;rw [oo,Aj]
theorem kw {N:Nat}{a c:Nat→Nat→Rat}{i:Nat}(h:∀j,j<N→a i j=c i j):rowQ N a i=rowQ N c i:=List.map_congr_left fun j f=>h j (Cf.1 f)
structure RMK (h:HF)(n tb N K:Nat)(rb:List Nat)(a:Nat→Nat→Rat):Prop where
 t:OR 1 vlP h n tb (rb.map (slN K))
 r:∀(i b:Nat),rb[i]?=some b→OR 4 numP h n b (rowQ K a i)
 l:gP rb=N
 d:rb.Nodup
 o:tb∉rb
abbrev RM (h:HF)(n tb N:Nat)(rb:List Nat)(a:Nat→Nat→Rat):Prop:=RMK h n tb N N rb a
section
variable {n N K:Nat}{a:Nat→Nat→Rat}
theorem RMK.get (m:RMK h n tb N K rb a){i:Nat}(f:i<N):∃b,rb[i]?=some b∧b<3*n∧b∈rb:=by
 have g:=m.l;have c:rb[i]?=some (rb[i]'zo):=k4 zo;exact ⟨_,c,(m.r i _ c).1,ns c⟩
theorem RMK.blt (m:RMK h n tb N K rb a)(c:b∈rb):b<3*n:=by
 obtain ⟨i,f,rfl⟩:=DO.1 c;exact (m.r i _ (k4 f)).1
theorem RMK.go (m:RMK h n tb N K rb a)(t:Tr n h n' h')(x:∀c,c=tb∨c∈rb→h' c=h c):RMK h' n' tb N K rb a:=
 ⟨m.t.go vlP.kp t (x _ (.inl rfl)),fun i b f=>(m.r i b f).go numP.kp t (x _ (.inr (ns f))),m.l,m.d,m.o⟩
theorem RMK.ext (m:RMK h n tb N K rb a)(x:Ext n h h')(g:n≤n'):RMK h' n' tb N K rb a:=
 m.go ⟨g,fun c f=>.inl (x c f)⟩ fun c f=>x c (by
  rcases f with rfl|f
  ·exact m.t.1
  ·exact m.blt f)
theorem RMK.as (m:RMK h n tb N K rb a)(e:∀i j,i<N→j<K→a i j=a' i j):RMK h n tb N K rb a':=
 ⟨m.t,fun i b f=>by
  have p:=(oc.1 f).1;have q:=m.l;rw [kw (c:=a) fun j g=>(e i j zo g).symm];exact m.r i b f,m.l,m.d,m.o⟩
theorem RMK.set (m:RMK h n tb N K rb a){g:Nat}(h0:rb[g]?=some b0)(t:Tr n h n' h')(x:∀c,c≠b0→c=tb∨c∈rb→h' c=h c)(o:OR 4 numP h' n' b0 (rowQ K a' g))(e:∀i,i≠g→∀j,a' i j=a i j):RMK h' n' tb N K rb a':=by
 refine ⟨m.t.go vlP.kp t (x _ (fun h=>m.o (h▸ns h0)) (.inl rfl)),fun i b f=>?_,m.l,m.d,m.o⟩;by_cases hi:i=g
 ·subst hi;rw [h0] at f;cases f;exact o
 have q:b≠b0:=fun p=>by
  subst p;exact hi ((GZ (oc.1 f).1 m.d).1 (f.trans h0.symm))
 rw [kw (c:=a) fun j _=>e i hi j];exact (m.r i b f).go numP.kp t (x _ q (.inr (ns f)))
theorem RMK.rd (m:RMK h n tb N K rb a):RDK h n (jx (some ⟨tb,0,none⟩) N N) N K a:=by
 have g:=m.l;obtain ⟨C,s,y⟩:=OR.sl m.t (len:=N) (cap:=N) (by rw [oo,g]) eT;refine ⟨C,s,?_⟩;have q:∀(l:List Nat) (C:List Value) (o:Nat),Rec 1 (fun c d=>vlP c d h n) C (l.map (slN K))→(∀(i b:Nat),l[i]?=some b→NS h n (slN K b) (rowQ K a (o+i)))→Rec 1 (fun c d=>rdP K a c d h n) C (EV o (gP l)):=by
  intro l;induction l with
  |nil=>intro C o r _;cases r;exact .nil
  |cons b l ih=>
   intro C o r p;cases r with
   | @cons c cs d ds g hp hr2=>
    obtain ⟨rfl,_⟩:=hp;rw [Au,List.range'_succ];exact .cons rfl ⟨_,_,rfl,p 0 b rfl⟩ (ih _ _ hr2 fun i u f=>by have:=p (i+1) u (by rw [List.getElem?_cons_succ];exact f);rwa [show o+(i+1)=o+1+i by omega] at this)
 have e:AC N=EV 0 (gP rb):=by rw [g,List.range_eq_range']
 rw [e];refine q rb C 0 y fun i b f=>?_;rw [AA];exact OR.sl (m.r i b f) yV.symm eT
theorem RMK.row (m:RMK h n tb N K rb a){i:Nat}(f:rb[i]?=some b):At h tb (0+i*1) [slN K b]:=by
 obtain ⟨c,p,_,t⟩:=m.t.get (j:=i) (d:=slN K b) (by rw [sr,f];rfl) (off:=0+i*1) zo;obtain ⟨rfl,_⟩:=p;exact t
theorem RMK.el (m:RMK h n tb N K rb a){i:Nat}(B:rb[i]?=some b)(C:j<K):∃l f y q p g A s,At h b (0+j*4) [kz l,jx f y q,kz p,jx g A s]∧UI h n l f y q (a i j).num∧UI h n p g A s (denZ (a i j)):=by
 obtain ⟨c,⟨l,f,y,q,p,g,A,s,rfl,u,v⟩,_,t⟩:=(m.r i b B).get (uQ C) (off:=0+j*4) zo;exact ⟨l,f,y,q,p,g,A,s,t,u,v⟩
end
theorem zpd (N:Nat):rowQ N (fun _ _=>(0:Rat)) 0=pl N 0:=by
 unfold rowQ;refine Bn fun m=>?_;rw [sr,Dn];by_cases hm:m<N
 ·rw [AL hm,eN hm];rfl
 rw [Ad (by rw [Aj];omega),cC hm];rfl
theorem jI (k:Nat)(h:HF)(n:Nat){N K:Nat}(W:N≤1000)(V:K≤1000):CX (cal (k+1)) 65 [jy .i64 (N:Int),jy .i64 (K:Int)] h n fun v h' n'=>∃tb rb,v=slN N tb∧RMK h' n' tb N K rb (fun _ _=>0)∧(∀b,b=tb∨b∈rb→3*n≤b):=by
 refine zu (fn:=Tryz.f65) R4 ?_;refine zG ?_;refine sMk (L:=N) [jx none 0 0] ?_ W;intro T M x1;refine zG ?_;have I:OR 1 vlP T (n+1) (3*n+2) (pl N (jx none 0 0)):=OR.fill zo M vlP.kp ⟨rfl,rfl,rfl⟩;obtain ⟨tb,H⟩:∃b,b=3*n+2:=⟨_,rfl⟩;rw [←H] at I ⊢;clear M;refine sF (α:=Nat×List Nat) (fun z=>[(0,jy .i64 (N:Int)),(1,jy .i64 (K:Int)),(5,jx (some ⟨tb,0,none⟩) N N),(6,jy .i64 (z.1:Int))])
  (fun z h' n' w'=>w'=[]∧n+1≤n'∧Ex0 n h h'∧OR 1 vlP h' n' tb (z.2.map (slN K)++pl (N-z.1) (jx none 0 0))∧gP z.2=z.1∧(∀b∈z.2,3*(n+1)≤b∧b<3*n'∧OR 4 numP h' n' b (pl K 0))∧z.2.Nodup∧z.1≤N) (fun z=>N-z.1) (0,[]) ⟨rfl,eT,⟨x1⟩,I,rfl,fun b hb=>cA hb nN,List.nodup_nil,eU⟩ ?_
 rintro ⟨j,rb⟩ t h2 f _ ⟨rfl,R,C,l,p,g,u,hj⟩;have R:n+1≤f:=R;have l:OR 1 vlP h2 f tb (rb.map (slN K)++pl (N-j) (jx none 0 0)):=l;have p:gP rb=j:=p;have g:∀b∈rb,3*(n+1)≤b∧b<3*f∧OR 4 numP h2 f b (pl K 0):=g;have u:rb.Nodup:=u;have hj:j≤N:=hj;refine zG ?_;by_cases qj:(j:Int)<(N:Int)
 ·refine zG ?_;refine sMk (L:=K) [kz false,jx none 0 0,kz false,jx none 0 0] ?_ V;intro U O A;have Z:OR 4 numP U (f+1) (3*f+2) (pl K 0):=OR.fill zo O numP.kp ⟨_,_,_,_,_,_,_,_,rfl,UI.zero _ _,UI.zero _ _⟩;refine sI (j:=j) (len:=N) rfl zo ?_;refine sZn (n0:=n) (j:=j) (q:=slN K (3*f+2)) [slN K (3*f+2)] (l.ext vlP.kp A zs) vlP.kp (by rw [nn,oo,Ah];omega) (show (0:Nat)+j*1=j*1 by omega) ⟨rfl,rfl,rfl⟩ zo ?_;intro B o4 y;have Y:=l.1;have F:∀c,c<3*f→c≠tb→B c=h2 c:=fun c hc hn=>(y.1 c hn).trans (A c hc);have S:Tr f h2 (f+1) B:=Tr.s y ⟨ux _,fun c hc=>.inl (A c hc)⟩;have J:OR 4 numP B (f+1) (3*f+2) (pl K 0):=Z.go numP.kp (Tr.s y (Tr.refl _ _)) (y.1 _ zo);clear O A;refine zG ?_;refine sK (j+1,rb++[3*f+2]) ⟨rfl,zo,⟨fun c hc=>(F c zo zo).trans (C.e c hc)⟩,o4.as ?_,by rw [nn,p];rfl,fun b hb=>?_,?_,by show j+1≤N;omega⟩
  ·rw [Cd _ _ (by rw [oo];omega),oo,p,A7,show N-j=(N-(j+1))+1 by omega,Cr,Eh,Bl,Aq];rfl
  ·rcases Al.1 hb with hb|hb
   ·obtain ⟨u1,u2,u3⟩:=g b hb;exact ⟨u1,zo,u3.go numP.kp S (F b u2 zo)⟩
   rw [nP.1 hb];exact ⟨zo,zo,J⟩
  show (rb++[3*f+2]).Nodup;rw [List.nodup_append];exact ⟨u,gN,fun a ha b hb=>by rw [nP.1 hb];have:=(g a ha).2.1;omega⟩
 have G:j=N:=zo;subst G;rw [A7,CI,A3] at l;refine zG ?_;have X2:=C.e;have a0:n≤f:=zo;refine zq ?_;refine ⟨tb,rb,rfl,⟨l,fun i b hb=>?_,p,u,fun hb=>by have:=(g tb hb).1;omega⟩,fun b hb=>?_⟩
 ·have:=(g b (ns hb)).2.2;rw [←zpd] at this;exact this
 rcases hb with rfl|hb
 ·omega
 have:=(g b hb).1;omega
theorem zq2 (k:Nat)(h:HF)(n:Nat){N:Nat}(c:N≤1000):CX (cal (k+1)) 65 [jy .i64 (N:Int),jy .i64 (N:Int)] h n fun v h' n'=>∃tb rb,v=slN N tb∧RM h' n' tb N rb (fun _ _=>0)∧(∀b,b=tb∨b∈rb→3*n≤b):=jI k h n c c
theorem aI (l:List α)(f:α→β)(z:β){x:α}(c:l[j]?=some x):((l.take j).map f++pl (gP l-j) z).set j (f x)=(l.take (j+1)).map f++pl (gP l-(j+1)) z:=by
 have p:=(oc.1 c).1;have g:gP ((l.take j).map f)=j:=by rw [oo,Af];omega
 rw [Cd _ _ zo,g,A7,show (gP l)-j=(gP l-(j+1))+1 by omega,Cr,Eh,yZ c,Bl,Aq];rfl
theorem jZ (k:Nat){h:HF}{n:Nat}{a:Option Addr}{f:List Rat}(F:NS h n (jx a L cap) f)(S:L≤1000){m:Nat}(hz:∀q∈f,Sz m q)(hm:m≤3840):
  CX (cal (k+5)) 20 [jx a L cap] h n fun v h' n'=>∃b,v=jx (some ⟨b,0,none⟩) L L∧3*n≤b∧OT h' n' b (f.map ratT):=by
 have V:=F.len;refine zu (fn:=Tryz.f20) R4 ?_;refine zG ?_;refine sMk (L:=L) [kF ⟨⟨[]⟩⟩] ?_ S;intro M H x1;refine zG ?_;have G:OT M (n+1) (3*n+2) (pl L []):=OR.fill zo H strP.kp rfl;obtain ⟨B,R⟩:∃B,B=3*n+2:=⟨_,rfl⟩;rw [←R] at G ⊢;clear H;refine sF (α:=Nat) (fun z=>[(0,jx a L cap),(3,jx (some ⟨B,0,none⟩) L L),(4,jy .i64 (z:Int))])
  (fun z h' n' w'=>w'=[]∧n+1≤n'∧Ex0 n h h'∧OT h' n' B ((f.take z).map ratT++pl (gP f-z) [])∧z≤L) (fun z=>L-z) 0 ⟨rfl,eT,⟨x1⟩,G.as (by rw [Bj,C8,V];rfl),eU⟩ ?_
 rintro j t h2 l _ ⟨rfl,I,p,g,hj⟩;have I:n+1≤l:=I;have hj:j≤L:=hj;have g:OT h2 l B ((f.take j).map ratT++pl (gP f-j) []):=g;refine zG ?_;by_cases q2:(j:Int)<(L:Int)
 ·refine zG ?_;obtain ⟨y,s⟩:∃d,(f)[j]?=some d:=⟨_,k4 zo⟩;obtain ⟨k3,u3,b3,a3,l3,c3,a0,e3,f3,w3,A,W,Z,t3,T,U⟩:=NS.at (F.ext p.e (show n≤l by omega)) s;refine sI A Z ?_;refine sL t3 W 0 ?_;refine sC (zc7 _ T U (hz _ (ns s)) hm).cx ?_;rintro _ h6 n6 rfl y6 u;refine sI (j:=j) rfl zo ?_;refine sZn (n0:=n) (j:=j) (q:=ratT y) [kF ⟨⟨ratT y⟩⟩] (g.ext strP.kp u y6) strP.kp (by rw [nn,oo,Af,Ah];omega) (show (0:Nat)+j*1=j*1 by omega) rfl zo ?_;intro O Y s7;have a1:=g.1;have J:Ex0 n h O:=⟨fun c hc=>(s7.1 c zo).trans ((u c zo).trans (p.e c hc))⟩;clear u;refine zG ?_;exact sK (j+1) ⟨rfl,zo,J,Y.as (aI f ratT [] s),by show j+1≤L;omega⟩
 have C:j=gP f:=zo;subst C;rw [Ax,A7,CI,A3] at g;refine zG ?_;have X2:=p.e;have a2:n≤l:=zo;refine zq ?_;exact ⟨_,rfl,zo,g⟩
end
section
variable {b i j sz:Nat}
theorem rX (k:Nat)(h:HF)(n:Nat)(x:Int)(e: -9223372036854775808≤x∧x<9223372036854775808):CX (cal (k+3)) 30 [jy .i64 x] h n (NQ (x:Rat)):=by
 refine yg (r_ok k h n x e) ?_;rintro v h' n' w ⟨rfl,c,d,g,l,f,rfl,r,_⟩;exact ⟨rfl,c,d,r.nq⟩
theorem zib {N:Nat}{a:Nat→Nat→Rat}{x:Rat}(c:j<N):(rowQ N a i).set j x=rowQ N (updT a i j x) i:=by
 unfold rowQ updT;refine Bn fun m=>?_;rw [Cc,oo,Aj,sr,sr];by_cases hm:m<N
 ·rw [AL hm];by_cases e:j=m
  ·subst e;rw [eN rfl,eN hm];show some x=some (if _ then _ else _);rw [eN ⟨rfl,rfl⟩]
  rw [cC e];show some (a i m)=some (if _ then _ else _);rw [cC (fun h=>e h.2.symm)]
 rw [Ad (l:=AC N) (by rw [Aj];omega)];by_cases e:j=m
 ·omega
 rw [cC e];rfl
section
variable {n N K:Nat}{a:Nat→Nat→Rat}
theorem RMK.put (m:RMK h n tb N K rb a){x:Rat}(e:rb[i]?=some b)(f:j<K)(t:Tr n h n' h')(g:∀c,c≠b→c=tb∨c∈rb→h' c=h c)(o:OR 4 numP h' n' b ((rowQ K a i).set j x)):RMK h' n' tb N K rb (updT a i j x):=by
 rw [zib f] at o;refine m.set e t g o fun l d p=>?_;unfold updT;rw [cC (fun h=>d h.1)]
theorem RMK.go2 (m:RMK h n tb N K rb a)(x:∀c,c<3*n→c=tb∨c∈rb→h' c=h c)(t:Tr n h n' h'):RMK h' n' tb N K rb a:=
 m.go t fun c d=>x c (by rcases d with rfl|d;exact m.t.1;exact m.blt d) d
end
theorem Rec.allnu {D:Type}{P:List Value→D→HF→Nat→Prop}{h:HF}{n:Nat}{C:List Value}{ds:List D}(e:KP sz P)(r:Rec sz (fun c d=>P c d h n) C ds):C.all nu=true:=by
 induction r with
 |nil=>rfl
 |cons hl hp hr ih=>rw [List.all_append,ih,(e.c hp).2.1];rfl
end
section
variable {a:Nat→Nat→Rat}{k i j N:Nat}
end
theorem zdc {α:Type}{N:Nat}{a:Nat→Nat→Rat}{i:Nat}(b:i<N)(f:Rat→α):((tabL N a).take (i*N)).map f++(rowQ N a i).map f=((tabL N a).take ((i+1)*N)).map f:=by
 rw [←Bl,←cI b,←List.take_add,BN]
section
variable {N n:Nat}{a:Nat→Nat→Rat}
end
theorem zpo (k:Nat){h:HF}{n:Nat}{H:Option Addr}{N cap:Nat}{a:Nat→Nat→Rat}(r:RD h n (jx H N cap) N a)(w:1≤N∧N≤3){m:Nat}(hz:∀i j,i<N→j<N→Sz m (a i j))(hm:m≤3840):
  CX (cal (k+6)) 68 [jx H N cap] h n fun v o B=>∃b,v=.agg #[jy .i64 (N:Int),jy .i64 (N:Int),jx (some ⟨b,0,none⟩) (N*N) (N*N)]∧3*n≤b∧OT o B b ((tabL N a).map ratT):=by
 have h9:=sq9 w.2;have a3:1≤N*N:=CQ w.1 w.1;refine zu (fn:=Tryz.f68) R4 ?_;refine Zh ?_;intro h1 p1 x1;refine zG ?_;obtain ⟨b2,o2,a2,c2,e2,m2,r2,t2,s2⟩:=r.at w.1;refine sI (j:=0) e2 r2 ?_;refine sL t2 m2 0 ?_;refine zG ?_;refine sT #[jy .i64 (N:Int),jy .i64 (N:Int),jx none 0 0] ?_;refine sA ?_;intro h3 p3 x3;refine sS [jy .i64 (N:Int),jy .i64 (N:Int),jx none 0 0] ?_;intro J p4 Z;have R:Ex0 (n+1) h1 J:=⟨fun c hc=>(Z.1 c zo).trans (x3 c zo)⟩;obtain ⟨z4,q4⟩:∃e,J (3*n+2)=some (.row [jy .i64 0,jy .i64 0,jx none 0 0] e):=⟨_,(R.e _ zo).trans p1⟩;have O:Ex0 n h J:=⟨fun c hc=>(R.e c zo).trans (x1 c hc)⟩;clear x1 p1 x3 p3 Z t2;obtain ⟨g,V⟩:∃g,g=n+1+1:=⟨_,rfl⟩;rw [←V];refine zG ?_;refine sF (α:=Nat×Value) (fun z=>[(0,jx H N cap),(2,kS (some ⟨3*n+2,0,none⟩)),(3,kS (some ⟨3*(n+1)+2,0,none⟩)),(4,jy .i64 (z.1:Int))])
  (fun z o B w'=>w'=[]∧g≤B∧Ex0 n h o∧o (3*n+2)=some (.row [jy .i64 0,jy .i64 0,jx none 0 0] z4)∧(∃e,o (3*(n+1)+2)=some (.row [jy .i64 (N:Int),jy .i64 (N:Int),z.2] e))∧GR 1 strP g o B 9 z.2 (((tabL N a).take (z.1*N)).map ratT)∧z.1≤N) (fun z=>N-z.1)
  (0,jx none 0 0) ⟨rfl,eT,O,q4,⟨_,p4⟩,by show GR _ _ _ _ _ _ _ (((tabL N a).take (0*N)).map ratT);rw [BE,Bj];exact GR.nil,eU⟩ ?_
 rintro ⟨i,v⟩ t K C _ ⟨rfl,y5,G,q5,⟨e5,M⟩,f,hi⟩;have y5:g≤C:=y5;have hi:i≤N:=hi;have M:K (3*(n+1)+2)=some (.row [jy .i64 (N:Int),jy .i64 (N:Int),v] e5):=M;have f:GR 1 strP g K C 9 v (((tabL N a).take (i*N)).map ratT):=f;have a5:i*N≤N*N:=Ab _ hi;have y:gP (((tabL N a).take (i*N)).map ratT)=i*N:=by rw [oo,Af,yI];omega
 obtain ⟨av,rfl⟩:=f.shape y;refine zG ?_;by_cases qi:(i:Int)<(N:Int)
 ·have d:i<N:=zo;obtain ⟨b6,D,a6,c6,e6,m6,r6,t6,s6⟩:=(r.ext G.e (show n≤C by omega)).at d;refine zG ?_;refine zm [0,1,0,0,12,28,60,127,255,511] rfl ?_;refine zH ?_;refine dI (j:=i) e6 r6 ?_;refine dL t6 m6 0 ?_;refine dC (jZ _ s6 zo (fun q hq=>by
   obtain ⟨j,hj,rfl⟩:=Ay.1 hq;exact hz i j d (Cf.1 hj)) hm) ?_
  rintro _ L Y ⟨b7,rfl,f7,o7⟩ y7 p;have l:gP ((rowQ N a i).map ratT)=N:=by rw [oo,yV]
  obtain ⟨e7,p7⟩:=o7.row;have W:argS L 1 (jx (some ⟨b7,0,none⟩) N N) (gP ((rowQ N a i).map ratT)) (strs ((rowQ N a i).map ratT)):=by
   rw [l];exact yH p7 ⟨rfl,(by rw [strs_len1,l])⟩
  refine dGm (n0:=n) (strs ((rowQ N a i).map ratT)) ((rowQ N a i).map ratT) (f.go strP.kp ⟨y7,fun c hc=>.inl (p c hc)⟩ (fun b hb=>p b (f.bk b hb).2.1)) strP.kp (Rec.ofStrs _ _ _) ⟨Rec.allnu strP.kp (Rec.ofStrs ((rowQ N a i).map ratT) L Y),ones_strs _⟩ W (by rw [l];exact w.1) (by rw [y,l];omega) zo ?_;intro v8 T W8 u T8 A K8 F8;have u:GR 1 strP g T (Y+1) 9 v8 (((tabL N a).take ((i+1)*N)).map ratT):=u.as (zdc d ratT);have a0:(i+1)*N≤N*N:=Ab _ d;have U:gP (((tabL N a).take ((i+1)*N)).map ratT)=(i+1)*N:=by rw [oo,Af,yI];omega
  obtain ⟨S,rfl⟩:=u.shape U;have nb:∀k,¬BkOf (jx av (i*N) (i*N)) (3*k+2):=fun k hb=>pS (f.bk _ hb).2.2.1 rfl;have p8:=(A (3*(n+1)+2) zo).trans ((p (3*(n+1)+2) zo).trans M);have q8:=(A (3*n+2) zo).trans ((p (3*n+2) zo).trans q5);have E8:Ex0 n h T:=⟨fun c hc=>(A c zo).trans ((p c zo).trans (G.e c hc))⟩;clear A p T8 K8;refine zH ?_;refine dSx (n0:=n) [jy .i64 (N:Int),jy .i64 (N:Int),jx S ((i+1)*N) ((i+1)*N)] p8 ?_;intro h9 p9 F;rw [yo (show 3*n≤3*(n+1)+2 by omega)];refine zG ?_;exact sK (i+1,jx S ((i+1)*N) ((i+1)*N)) ⟨rfl,zo,⟨fun c hc=>(F.1 c zo).trans (E8.e c hc)⟩,(F.1 _ zo).trans q8,⟨_,p9⟩,u.go strP.kp (Tr.s F (Tr.refl _ _)) (fun b hb=>F.1 b (by have:=(u.bk b hb).1;omega)),by show i+1≤N;omega⟩
 have d:i=N:=zo;subst d;obtain ⟨b,I,hg,a1,D,_⟩:=f.or y zo;injection I with I
 subst I;rw [Aa (by rw [yI];exact AK _)] at D;have X5:Ext n h K:=G.e;have a7:n≤C:=zo;have a4:=D.1;refine zG ?_;refine sS [jy .i64 (i:Int),jy .i64 (i:Int),jx (some ⟨b,0,none⟩) (i*i) (i*i)] ?_;intro L p7 s7;refine zq ?_;exact ⟨b,rfl,zo,D.go strP.kp (Tr.s s7 (Tr.refl _ _)) (s7.1 b zo)⟩
section
variable {N b i j k:Nat}
def yR (rbs:List (List Nat))(c:Nat):Prop:=∃(k:Nat) (rb:List Nat),rbs[k]?=some rb∧c∈rb
def updK (M:Nat→Nat→Nat→Rat)(k i j:Nat)(x:Rat):Nat→Nat→Nat→Rat:=fun k' a b=>if k'=k∧a=i∧b=j then x else M k' a b
structure RMs (h:HF)(n bS:Nat)(Ns tbs:List Nat)(rbs:List (List Nat))(M:Nat→Nat→Nat→Rat):Prop where
 s:OR 1 vlP h n bS (C4 slN Ns tbs)
 m:∀(k N tb:Nat) (rb:List Nat),Ns[k]?=some N→tbs[k]?=some tb→rbs[k]?=some rb→RM h n tb N rb (M k)
 l:gP tbs=gP Ns∧gP rbs=gP Ns
 d:∀(k k':Nat) (rb rb':List Nat),k≠k'→rbs[k]?=some rb→rbs[k']?=some rb'→∀b∈rb,b∉rb'
 o:∀b,yR rbs b→b∉tbs∧b≠bS
section
variable {n:Nat}{Ns:List Nat}{M:Nat→Nat→Nat→Rat}
theorem RMs.get (m:RMs h n bS Ns tbs rbs M)(d:Ns[k]?=some N):∃tb rb,tbs[k]?=some tb∧rbs[k]?=some rb∧RM h n tb N rb (M k):=by
 have f:=m.l;have e:=(oc.1 d).1;have a:tbs[k]?=some (tbs[k]'zo):=k4 zo;have c:rbs[k]?=some (rbs[k]'zo):=k4 zo;exact ⟨_,_,a,c,m.m k N _ _ d a c⟩
theorem RMs.rlt (m:RMs h n bS Ns tbs rbs M)(d:yR rbs b):b<3*n:=by
 obtain ⟨k,e,a,c⟩:=d;have g:=m.l;have f:=(oc.1 a).1;exact (m.m k (Ns[k]'zo) (tbs[k]'zo) e (k4 zo) (k4 zo) a).blt c
theorem RMs.tlt (m:RMs h n bS Ns tbs rbs M)(a:b∈tbs):b<3*n:=by
 obtain ⟨k,c,rfl⟩:=DO.1 a;have d:=m.l;exact (m.m k (Ns[k]'zo) _ (rbs[k]'zo) (k4 zo) (k4 c) (k4 zo)).t.1
theorem RMs.go (m:RMs h n bS Ns tbs rbs M)(t:Tr n h n' h')(x:∀c,c=bS∨c∈tbs∨yR rbs c→h' c=h c):RMs h' n' bS Ns tbs rbs M:=
 ⟨m.s.go vlP.kp t (x _ (.inl rfl)),fun k N q g p e f=>(m.m k N q g p e f).go t fun c a=>x c (by
  rcases a with rfl|a
  ·exact .inr (.inl (ns e))
  ·exact .inr (.inr ⟨k,g,f,a⟩)),m.l,m.d,m.o⟩
theorem RMs.ext (m:RMs h n bS Ns tbs rbs M)(x:Ext n h h')(d:n≤n'):RMs h' n' bS Ns tbs rbs M:=
 m.go ⟨d,fun c a=>.inl (x c a)⟩ fun c a=>x c (by
  rcases a with rfl|a|a
  ·exact m.s.1
  ·exact m.tlt a
  ·exact m.rlt a)
theorem RMs.as (m:RMs h n bS Ns tbs rbs M)(e:∀k i j,M k i j=M' k i j):RMs h n bS Ns tbs rbs M':=by
 have:M=M':=funext fun k=>funext fun i=>funext fun j=>e k i j;exact this▸m
theorem RMs.tab (m:RMs h n bS Ns tbs rbs M){a:Nat}(e:Ns[k]?=some N)(f:tbs[k]?=some a):At h bS (0+k*1) [slN N a]:=by
 obtain ⟨c,p,_,t⟩:=m.s.get (j:=k) (d:=slN N a) (by rw [Ez,e,f]) (off:=0+k*1) zo;obtain ⟨rfl,_⟩:=p;exact t
theorem RMs.put (m:RMs h n bS Ns tbs rbs M){I:Nat}{g:List Nat}{x:Rat}(C:Ns[k]?=some N)(D:tbs[k]?=some I)(v:rbs[k]?=some g)(G:g[i]?=some b)(P:j<N)(t:Tr n h n' h')(B:∀c,c<3*n→c≠b→h' c=h c)(o:OR 4 numP h' n' b ((rowQ N (M k) i).set j x)):RMs h' n' bS Ns tbs rbs (updK M k i j x):=by
 have F:b∈g:=ns G;have H:yR rbs b:=⟨k,g,v,F⟩;refine ⟨m.s.go vlP.kp t (B _ m.s.1 (DN (m.o b H).2)),fun f O J w y q u=>?_,m.l,m.d,m.o⟩;by_cases hk:f=k
 ·subst hk;rw [C] at y;cases y;rw [D] at q;cases q;rw [v] at u;cases u;have p:=m.m f N I g C D v;have:=p.put G P t (fun c A a=>B c (by rcases a with rfl|a;exact p.t.1;exact p.blt a) A) o;refine this.as fun K L _ _=>?_;unfold updT updK;by_cases h:K=i∧L=j
  ·rw [eN h,eN ⟨rfl,h⟩]
  rw [cC h,cC (fun h'=>h h'.2)]
 have p:=m.m f O J w y q u;have e:updK M k i j x f=M f:=by
  funext K L;unfold updK;rw [cC (fun h=>hk h.1)]
 rw [e];exact p.go2 (fun c A a=>B c A (fun e=>by
  subst e;rcases a with rfl|a
  ·exact (m.o c H).1 (ns q)
  ·exact m.d k f g w (DN hk) v u c F a)) t
end
theorem na (k:Nat)(h:HF)(n:Nat)(x:Int)(g: -9223372036854775808≤x∧x<9223372036854775808):CX (cal (k+2)) 73 [jy .i64 x] h n (UIV x):=by
 refine yg (pn k h n x g) ?_;rintro _ h' n' w ⟨d,e,f,m,o,L,rfl,r,_⟩;obtain ⟨b,a,l,c,rfl,rfl,i⟩:=r.ui;exact ⟨d,e,f,_,_,_,_,rfl,i⟩
theorem bn {x:Int}(h:x.natAbs<2^8):x.natAbs<BX:=uZ h zd
theorem br {x:Int}(h:x.natAbs<2^8):x.natAbs<BD:=zm4 h zd
theorem zka (k:Nat){h:HF}{n:Nat}{bS:Nat}{Ns tbs:List Nat}{rbs:List (List Nat)}{M:Nat→Nat→Nat→Rat}{sc dc:Bool}{ac ec:Option Addr}{lc cc fc gc:Nat}{c:Rat}(ms:RMs h n bS Ns tbs rbs M)(ic:UI h n sc ac lc cc c.num)(jc:UI h n dc ec fc gc (denZ c))(hN:∀N∈Ns,1≤N∧N≤3)(hs:Sl h n 4 (jx aE (gP E) cE) (ents E))(cv:∀ad,aE=some ad→¬yR rbs ad.block)(hE:∀e∈E,EntF Ns e)(hl:gP E<1000000)(hc:Sz 7 c)(hz:∀P Q,E=P++Q→∀k i j,Sz 20 (M k i j+c*coL P k i j)):
  CF (cal (k+8)) 53 [jx (some ⟨bS,0,none⟩) (gP Ns) (gP Ns),.agg #[kz sc,jx ac lc cc,kz dc,jx ec fc gc],jx aE (gP E) cE] h n fun _ h' n' w=>n≤n'∧(∀c,c<3*n→¬yR rbs c→h' c=h c)∧Tr n h n' h'∧RMs h' n' bS Ns tbs rbs (fun k i j=>M k i j+c*coL E k i j)∧∀x∈w,yR rbs x:=by
 refine oI (fn:=Tryz.f53) R4 ?_;refine zG ?_;refine sB [kz sc,jx ac lc cc,kz dc,jx ec fc gc] ?_;intro h1 p1 x1;refine zG ?_;refine sC (na _ _ _ 1 zd) ?_;rintro _ h2 n2 ⟨b2,a2,l2,c2,rfl,i2⟩ y2 x2;refine sC (na _ _ _ 2 zd) ?_;rintro _ h3 n3 ⟨b3,a3,l3,c3,rfl,i3⟩ y3 x3;refine sC (kH _ (i2.t zt) i3 (bn zd) (br zd) zd (q:=1/2) (by decide+kernel)) ?_;rintro _ h4 p ⟨b4,a4,l4,c4,d4,e4,f4,g4,rfl,i4,j4⟩ y4 x4;refine sA ?_;intro h5 p5 x5;refine sSn (n0:=n) [kz b4,jx a4 l4 c4,kz d4,jx e4 f4 g4] ?_;intro B p6 o6;have i6:UI B (p+1) b4 a4 l4 c4 (1/2:Rat).num:=i4.t zt;have j6:UI B (p+1) d4 e4 f4 g4 (denZ (1/2)):=j4.t zt;obtain ⟨e1,q1⟩:∃e,B (3*n+2)=some (.row [kz sc,jx ac lc cc,kz dc,jx ec fc gc] e):=⟨_,zp⟩;have E6:Ex0 n h B:=⟨(zx:Tx n h (p+1) B).2⟩;clear p1 x1 x2 x3 x4 p5 x5 o6 i2 i3 i4 j4;have m6:=ms.ext E6.e (show n≤p+1 by omega);obtain ⟨Y,aa⟩:∃Y:List Ent→Nat→Nat→Nat→Rat,Y=fun P k i j=>M k i j+c*coL P k i j:=⟨_,rfl⟩;have d3:∀P Q,E=P++Q→∀k i j,Sz 20 (Y P k i j):=fun P Q e k i j=>by rw [aa];exact hz P Q e k i j
 have d1:∀P e k i j,Y (P++[e]) k i j=Y P k i j+c*coE e k i j:=fun P e k i j=>by rw [aa];show M k i j+c*coL (P++[e]) k i j=M k i j+c*coL P k i j+_;rw [zaq,Rat.mul_add,Cx]
 have d0:∀k i j,M k i j=Y [] k i j:=fun k i j=>by rw [aa];show _=M k i j+c*0;rw [Br,A2]
 have d2:Y E=fun k i j=>M k i j+c*coL E k i j:=by rw [aa]
 clear aa;refine zG ?_;refine sF (α:=Nat) (fun z=>[(0,jx (some ⟨bS,0,none⟩) (gP Ns) (gP Ns)),(4,kS (some ⟨3*n+2,0,none⟩)),(6,kS (some ⟨3*p+2,0,none⟩)),(13,jx aE (gP E) cE),(14,jy .i64 (gP E:Int)),(15,jy .i64 (z:Int))])
  (fun z h' n' w'=>p+1≤n'∧(∀b,b<3*(p+1)→¬yR rbs b→h' b=B b)∧Tr (p+1) B n' h'∧RMs h' n' bS Ns tbs rbs (Y (E.take z))∧(∀b∈w',yR rbs b)∧(0<z→∃b∈w',yR rbs b)∧z≤gP E)
  (fun z=>gP E-z) 0 ⟨eT,fun _ _ _=>rfl,Tr.refl _ _,by rw [Bj];exact m6.as d0,fun b hb=>cA hb nN,fun h=>cA h (BK _),eU⟩ ?_
 rintro z t h7 J w7 ⟨y7,x7,T7,m7,ae,d7,c9⟩;have y7:p+1≤J:=y7;have c9:z≤gP E:=c9;have x7:∀b,b<3*(p+1)→¬yR rbs b→h7 b=B b:=x7;have T7:Tr (p+1) B J h7:=T7;have ae:∀b∈w7,yR rbs b:=ae;have nr:∀b,3*n≤b→¬yR rbs b:=fun b hb hr=>by have:=ms.rlt hr;omega
 have cm:=(x7 _ zo (nr _ zo)).trans q1;have cn:=(x7 _ zo (nr _ zo)).trans p6;refine zG ?_;by_cases qz:(z:Int)<(gP E:Int)
 ·obtain ⟨e0,ay⟩:∃e,E[z]?=some e:=⟨_,k4 zo⟩;have cw:=ns ay;obtain ⟨k0,N,i0,a,v,rfl,g,e6,K,sv,xi,da,d8,d9⟩:=hE e0 cw;have f:i0<N:=zo;have U:=(oc.1 g).1;have e5:=hN N (ns g);obtain ⟨bq,oq,c0,mq,rq,tq⟩:=rn hs ay;have d6:=cv _ c0;refine zG ?_;refine sI c0 rq ?_;have cp:At h7 bq (oq+z*4) _:=tq.keep ((x7 bq zo d6).trans (E6.e bq mq));refine sL cp (show bq<3*J by omega) 0 ?_;refine sA ?_;intro dx dg dk;refine sSn (n0:=n) [jy .i64 (k0:Int),jy .i64 (i0:Int),jy .i64 (a:Int),kF ⟨⟨ratT v⟩⟩] ?_;intro T ci df;have W:Ext J h7 T:=(zx:Tx J h7 (J+1) T).2;have b9:=(W _ zo).trans cm;have ba:=(W _ zo).trans cn;have ar:Tr (p+1) B (J+1) T:=T7.trans ⟨ux _,fun c hc=>.inl (W c hc)⟩;have Th:Tr n h (J+1) T:=Tr.trans ⟨zo,fun c hc=>.inl (E6.e c hc)⟩ ar;have b7:=m7.ext W zs;have bh:Ex0 J h7 T:=⟨W⟩;clear dk dg df W;obtain ⟨G,ak⟩:∃G,G=Y (E.take z):=⟨_,rfl⟩;have al:=fun k i j=>d1 (E.take z) ⟨(k0:Int),(i0:Int),(a:Int),ratT v⟩ k i j;rw [←yZ ay,←ak] at al;have ax:∀k i j,Sz 20 (G k i j):=fun k i j=>by rw [ak];exact d3 _ _ (Bf z E).symm k i j
  rw [←ak] at b7 m7;refine zG ?_;refine zm [0,0,2,6,15,0,63] rfl ?_;refine zH ?_;refine dC (numU _ _ _ (ratT v) (by rw [da];exact tv (wg ((tF ⟨d8,d9⟩).mono zd)) zd)) ?_;rintro _ dy e8 ⟨dq,dp,e7,dr,ds,dt,du,dv,rfl,b0,b5⟩ ct ao;rw [zn] at b0 b5;refine dC (iL _ ((ic.t Th).x ⟨ct,ao⟩) ((jc.t Th).x ⟨ct,ao⟩) b0 b5 hc sv zo) ?_;rintro _ dz V ⟨bp,bm,cf,bt,bv,bx,c5,c7,rfl,ca,cd⟩ eb cq;refine dB [kz false,jx none 0 0,kz false,jx none 0 0] ?_;intro e2 cj ap;refine dSx (n0:=n) [kz bp,jx bm cf bt,kz bv,jx bx c5 c7] cj ?_;intro L p8 s8;rw [yo (show 3*n≤3*V+2 by omega)];obtain ⟨H,az⟩:∃H,H=V+1:=⟨_,rfl⟩;have X8:∀c,c<3*(J+1)→L c=T c:=fun c hc=>(s8.1 c zo).trans ((ap c zo).trans ((cq c zo).trans (ao c hc)));have i8:UI L H bp bm cf bt (c*v).num:=az▸ca.t (Tr.s s8 ⟨ux _,fun c hc=>.inl (ap c hc)⟩);have j8:UI L H bv bx c5 c7 (denZ (c*v)):=az▸cd.t (Tr.s s8 ⟨ux _,fun c hc=>.inl (ap c hc)⟩);have m8:RMs L H bS Ns tbs rbs G:=b7.ext X8 zo;have T8:Tr (p+1) B H L:=ar.trans ⟨zo,fun c hc=>.inl (X8 c hc)⟩;have dh:=(X8 _ zo).trans b9;have di:=(X8 _ zo).trans ba;have cl:=(X8 (3*J+2) zo).trans ci;have x8:∀b,b<3*(p+1)→¬yR rbs b→L b=B b:=fun b hb hn=>(X8 b zo).trans ((bh.e b zo).trans (x7 b hb hn));have y8:p+1≤H:=zo;have cu:3*n≤3*V+2:=zo;have bf:3*V+2<3*H:=zo;rw [←az];have cx:3*J+2<3*H:=zo;clear ao cq ap cj s8 X8 T7 ar Th m7 b7 cm cn b9 ba ci b0 b5 ca cd tq cp bh x7;obtain ⟨tk,rk,u,D,bb⟩:=m8.get g;obtain ⟨bi,C,_,l⟩:=bb.get f;obtain ⟨bj,ab,_,I⟩:=bb.get K;have o:∀b,b∈rk→yR rbs b:=fun b hb=>⟨k0,rk,D,hb⟩;have bc:Sz (7+2) (c*v):=hc.mul sv;refine zG ?_;by_cases hd:i0=a
  ·subst hd;refine zG ?_;have R:=m8.m k0 N tk rk g u D;obtain ⟨s1,c1,p1,q1,s2,c2,p2,q2,te,ie,je⟩:=R.el C f;refine zm [0,0,2,7,15,0,32,127,255,0,512,0,0,4096,14336,30720,0,65536,260096,522240,0,1048576,4192256,8386560,0,33552384,67108863,134217727] rfl ?_;refine zH ?_;refine dI (j:=k0) (len:=gP Ns) rfl U ?_;refine dL (m8.tab g u) m8.s.1 0 ?_;refine zH ?_;refine dI (j:=i0) (len:=N) rfl f ?_;refine dL (R.row C) R.t.1 0 ?_;refine zH ?_;refine dI (j:=k0) (len:=gP Ns) rfl U ?_;refine dL (m8.tab g u) m8.s.1 0 ?_;refine zH ?_;refine dI (j:=i0) (len:=N) rfl f ?_;refine dL (R.row C) R.t.1 0 ?_;refine zH ?_;refine dI (j:=i0) (len:=N) rfl f ?_;refine dL te (show bi<3*H from R.blt l) 0 ?_;refine zH ?_;refine dC (mb _ ie je (i8.x ⟨eT,Ext.refl _ _⟩) (j8.x ⟨eT,Ext.refl _ _⟩) (ax _ _ _) bc zo) ?_;rintro _ h9 n9 ⟨a1,a0,ah,a5,a6,a7,a8,a9,rfl,af,ag⟩ y9 x9;refine dI (j:=i0) (len:=N) rfl f ?_;refine dZ (n0:=n) (j:=i0) (q:=G k0 i0 i0+c*v) [kz a1,jx a0 ah a5,kz a6,jx a7 a8 a9] ((R.r i0 bi C).ext numP.kp x9 y9) numP.kp (by rw [yV];exact f) (show (0:Nat)+i0*4=i0*4 by omega) ⟨_,_,_,_,_,_,_,_,rfl,af,ag⟩ ?_;intro d o9 s9 _;have X9:∀c,c<3*H→c≠bi→d c=L c:=fun c hc hn=>(s9.1 c hn).trans (x9 c hc);have T9:Tr H L n9 d:=Tr.s s9 ⟨y9,fun c hc=>.inl (x9 c hc)⟩;have m9:RMs d n9 bS Ns tbs rbs (updK G k0 i0 i0 (G k0 i0 i0+c*v)):=m8.put g u D C f T9 X9 o9;have Y9:∀c,c<3*n→¬yR rbs c→d c=L c:=fun c hc hn=>X9 c zo (fun e=>hn (e▸⟨k0,rk,D,l⟩));refine zG ?_;exact sK (z+1) ⟨zo,fun b hb hn=>(X9 b zo (fun e=>hn (e▸o _ l))).trans (x8 b hb hn),T8.trans T9,m9.as (fun k' i' j'=>by
    rw [al];unfold updK;by_cases hh:k'=k0∧i'=i0∧j'=i0
    ·obtain ⟨rfl,rfl,rfl⟩:=hh;rw [eN ⟨rfl,rfl,rfl⟩,oa,eN rfl]
    ·rw [cC hh,rW zo,Br,A2]),wF (fun b hb=>by rw [nP.1 hb];exact o _ l) ae,fun _=>⟨bi,wG (ms.rlt (o _ l)) (nP.2 rfl),o _ l⟩,by show z+1≤gP E;omega⟩
  refine zG ?_;refine sC (iL _ i8 j8 (i6.t T8) (j6.t T8) bc (b:=2) ⟨by decide+kernel,by decide+kernel⟩ zo) ?_;rintro _ e3 A ⟨bs,bo,cg,bu,bw,bz,c6,c8,rfl,cb,ce⟩ dm aq;refine sSx (n0:=n) [kz bs,jx bo cg bu,kz bw,jx bz c6 c8] ((aq _ bf).trans p8) ?_;intro y ck ai;rw [yo cu];have am:∀c,c<3*H→c≠3*V+2→y c=L c:=fun c hc hn=>(ai.1 c hn).trans (aq c hc);have au:Tr H L A y:=Tr.s ai ⟨dm,fun c hc=>.inl (aq c hc)⟩;have d5:∀c,c=bS∨c∈tbs∨yR rbs c→c<3*n:=fun c hc=>by
   rcases hc with rfl|hc|hc
   ·exact ms.s.1
   ·exact ms.tlt hc
   exact ms.rlt hc
  have O:RMs y A bS Ns tbs rbs G:=m8.go au (fun c hc=>by have:=d5 c hc;exact am c zo zo);have b1:UI y A bs bo cg bu (c*v*(1/2)).num:=cb.t (Tr.s ai (Tr.refl _ _));have b6:UI y A bw bz c6 c8 (denZ (c*v*(1/2))):=ce.t (Tr.s ai (Tr.refl _ _));have bl:Tr (p+1) B A y:=T8.trans au;have b8:=(am _ cx zo).trans cl;have cr:∀b,b<3*(p+1)→¬yR rbs b→y b=B b:=fun b hb hn=>(am b zo zo).trans (x8 b hb hn);have an:Sz (7+2+2) (c*v*(1/2)):=bc.mul ⟨by decide+kernel,by decide+kernel⟩;have be:3*V+2<3*A:=zo;have bg:3*J+2<3*A:=zo;clear am au aq p8 ai m8 i8 j8 T8 dh di cl x8 cb ce bb;refine zG ?_;have F:=O.m k0 N tk rk g u D;obtain ⟨s1,c1,p1,q1,s2,c2,p2,q2,te,ie,je⟩:=F.el C K;refine zm [0,0,2,7,15,0,32,127,255,0,512,0,0,4096,14336,30720,0,65536,260096,522240,0,1048576,4192256,8386560,0,33552384,67108863,134217727] rfl ?_;refine zH ?_;refine dI (j:=k0) (len:=gP Ns) rfl U ?_;refine dL (O.tab g u) O.s.1 0 ?_;refine zH ?_;refine dI (j:=i0) (len:=N) rfl f ?_;refine dL (F.row C) F.t.1 0 ?_;refine zH ?_;refine dI (j:=k0) (len:=gP Ns) rfl U ?_;refine dL (O.tab g u) O.s.1 0 ?_;refine zH ?_;refine dI (j:=i0) (len:=N) rfl f ?_;refine dL (F.row C) F.t.1 0 ?_;refine zH ?_;refine dI (j:=a) (len:=N) rfl K ?_;refine dL te (show bi<3*A from F.blt l) 0 ?_;refine zH ?_;refine dC (mb _ ie je (b1) (b6) (ax _ _ _) an zo) ?_;rintro _ h9 n9 ⟨a1,a0,ah,a5,a6,a7,a8,a9,rfl,af,ag⟩ y9 x9;refine dI (j:=a) (len:=N) rfl K ?_;refine dZ (n0:=n) (j:=a) (q:=G k0 i0 a+c*v*(1/2)) [kz a1,jx a0 ah a5,kz a6,jx a7 a8 a9] ((F.r i0 bi C).ext numP.kp x9 y9) numP.kp (by rw [yV];exact K) (show (0:Nat)+a*4=a*4 by omega) ⟨_,_,_,_,_,_,_,_,rfl,af,ag⟩ ?_;intro d o9 s9 _;have X9:∀c,c<3*A→c≠bi→d c=y c:=fun c hc hn=>(s9.1 c hn).trans (x9 c hc);have T9:Tr A y n9 d:=Tr.s s9 ⟨y9,fun c hc=>.inl (x9 c hc)⟩;have m9:RMs d n9 bS Ns tbs rbs (updK G k0 i0 a (G k0 i0 a+c*v*(1/2))):=O.put g u D C K T9 X9 o9;have Y9:∀c,c<3*n→¬yR rbs c→d c=y c:=fun c hc hn=>X9 c zo (fun e=>hn (e▸⟨k0,rk,D,l⟩));have w9:∀b,b<3*A→¬yR rbs b→d b=y b:=fun b hb hn=>X9 b hb (fun e=>hn (e▸o _ l));have e9:=(w9 _ bg (nr _ zo)).trans b8;have ea:=(w9 _ be (nr _ zo)).trans ck;have cy:Tr (p+1) B n9 d:=bl.trans T9;have i9:=b1.t T9;have j9:=b6.t T9;have dl:∀b,b<3*(p+1)→¬yR rbs b→d b=B b:=fun b hb hn=>(w9 b zo hn).trans (cr b hb hn);obtain ⟨M9,aj⟩:∃M9,M9=updK G k0 i0 a (G k0 i0 a+c*v*(1/2)):=⟨_,rfl⟩;rw [←aj] at m9;have aw:M9 k0 a i0=G k0 a i0:=by rw [aj];exact cC (fun h=>hd h.2.2)
  have dj:Sz 20 (M9 k0 a i0):=aw▸ax _ _ _;clear bl b8 ck X9 O b1 b6 w9 cr;refine zG ?_;have S:=m9.m k0 N tk rk g u D;obtain ⟨s1,c1,p1,q1,s2,c2,p2,q2,te,ie,je⟩:=S.el ab f;refine zm [0,0,2,7,15,0,32,127,255,0,512,0,0,4096,14336,30720,0,65536,260096,522240,0,1048576,4192256,8386560,0,33552384,67108863,134217727] rfl ?_;refine zH ?_;refine dI (j:=k0) (len:=gP Ns) rfl U ?_;refine dL (m9.tab g u) m9.s.1 0 ?_;refine zH ?_;refine dI (j:=a) (len:=N) rfl K ?_;refine dL (S.row ab) S.t.1 0 ?_;refine zH ?_;refine dI (j:=k0) (len:=gP Ns) rfl U ?_;refine dL (m9.tab g u) m9.s.1 0 ?_;refine zH ?_;refine dI (j:=a) (len:=N) rfl K ?_;refine dL (S.row ab) S.t.1 0 ?_;refine zH ?_;refine dI (j:=i0) (len:=N) rfl f ?_;refine dL te (show bj<3*n9 from S.blt I) 0 ?_;refine zH ?_;refine dC (mb _ ie je (i9) (j9) (dj) an zo) ?_;rintro _ dw ch ⟨a1,a0,ah,a5,a6,a7,a8,a9,rfl,af,ag⟩ cs bd;refine dI (j:=i0) (len:=N) rfl f ?_;refine dZ (n0:=n) (j:=i0) (q:=M9 k0 a i0+c*v*(1/2)) [kz a1,jx a0 ah a5,kz a6,jx a7 a8 a9] ((S.r a bj ab).ext numP.kp bd cs) numP.kp (by rw [yV];exact f) (show (0:Nat)+i0*4=i0*4 by omega) ⟨_,_,_,_,_,_,_,_,rfl,af,ag⟩ ?_;intro Z de co _;have av:∀c,c<3*n9→c≠bj→Z c=d c:=fun c hc hn=>(co.1 c hn).trans (bd c hc);have bk:Tr n9 d ch Z:=Tr.s co ⟨cs,fun c hc=>.inl (bd c hc)⟩;have dd:RMs Z ch bS Ns tbs rbs (updK M9 k0 a i0 (M9 k0 a i0+c*v*(1/2))):=m9.put g u D ab f bk av de;have dn:∀c,c<3*n→¬yR rbs c→Z c=d c:=fun c hc hn=>av c zo (fun e=>hn (e▸⟨k0,rk,D,I⟩));refine zG ?_;exact sK (z+1) ⟨zo,fun b hb hn=>(av b zo (fun e=>hn (e▸o _ I))).trans (dl b hb hn),cy.trans bk,dd.as (fun k' i' j'=>by
   rw [al,aw,aj];unfold updK;by_cases hh:k'=k0∧i'=a∧j'=i0
   ·obtain ⟨rfl,rfl,rfl⟩:=hh;rw [eN ⟨rfl,rfl,rfl⟩,nh,oa,cC hd,AM]
   ·rw [cC hh];by_cases h2:k'=k0∧i'=i0∧j'=a
    ·obtain ⟨rfl,rfl,rfl⟩:=h2;rw [eN ⟨rfl,rfl,rfl⟩,oa,cC hd,AM]
    ·rw [cC h2,rW zo,Br,A2]),wF (fun b hb=>by rw [nP.1 hb];exact o _ I) (wF (fun b hb=>by rw [nP.1 hb];exact o _ l) ae),fun _=>⟨bj,wG (ms.rlt (o _ I)) (nP.2 rfl),o _ I⟩,by show z+1≤gP E;omega⟩
 have db:z=gP E:=zo;subst db;rw [Ax,d2] at m7;refine zG ?_;refine ⟨rfl,[],rfl,⟨zo,fun b hb hn=>(x7 b zo hn).trans (E6.e b hb),Tr.trans ⟨zo,fun c hc=>.inl (E6.e c hc)⟩ T7,m7,ae⟩,fun hw=>?_⟩;have cz:E=[]:=by
  cases hEe:E with
  |nil=>rfl
  |cons e E'=>
   obtain ⟨b,hb,_⟩:=d7 (by rw [hEe];exact F6 _);have hw:w7=[]:=hw;rw [hw] at hb;exact cA hb nN
 subst cz;exact ⟨eT,fun _ _ _=>trivial,Tr.refl _ _,ms.as (fun k i j=>by show _=M k i j+c*0;rw [Br,A2]),fun b hb=>cA hb nN⟩
end
def NumR (q:Rat):Prop:=∃x y:Int,-9≤x∧x≤9∧1≤y∧y≤4∧q=Av x y
theorem zir:∀a:Fin 19,∀b:Fin 4,((Av ((a.val:Int)-9) ((b.val:Int)+1)).num.natAbs<2^4∧(Av ((a.val:Int)-9) ((b.val:Int)+1)).den<2^4)∧gP (ratT (Av ((a.val:Int)-9) ((b.val:Int)+1)))≤40:=by decide+kernel
theorem NumR.ok {q:Rat}(h:NumR q):Sz 4 q∧gP (ratT q)≤40:=by
 obtain ⟨x,y,a,b,c,d,rfl⟩:=h;have:=zir ⟨(x+9).toNat,zo⟩ ⟨(y-1).toNat,zo⟩;rw [show (((⟨(x+9).toNat,zo⟩:Fin 19).val:Int)-9)=x by show (((x+9).toNat:Nat):Int)-9=x;omega,show (((⟨(y-1).toNat,zo⟩:Fin 4).val:Int)+1)=y by show (((y-1).toNat:Nat):Int)+1=y;omega] at this;exact this
theorem Tp.tr {h h':HF}{T:TapeI}{n:Nat}(t:Tp h T)(d:∀b,b≠T.bt→h' b=h b):Tr n h n h':=⟨eT,fun c _=>by
 by_cases hb:c=T.bt
 ·subst hb;obtain ⟨f,e,a,_⟩:=t.row;exact .inr (.row a rfl)
 ·exact .inl (d c hb)⟩
section
variable {n:Nat}{T:TapeI}
theorem numX (k:Nat)(R:Tp h T)(hn:T.m≤n):CF (cal (k+6)) 43 [kS (some ⟨T.bt,0,none⟩)] h n fun v B D w=>TLeft T h n B D w∧∃b a l c d e f g q,v=.agg #[kz b,jx a l c,kz d,jx e f g]∧UI B D b a l c q.num∧UI B D d e f g (denZ q)∧NumR q:=by
 have a2:=R.bt;refine zu (fn:=Tryz.f43) R4 ?_;refine Zh ?_;intro h1 p1 x1;refine zG ?_;refine zB _ R5 (uY (k+4) (m:=19) zd (R.ext x1 hn) (show T.m≤n+1 by omega)) ?_;rintro _ h2 _ w2 ⟨Y,rfl,S,a0,r,rfl,a4,a7⟩;have o2:Only T.bt h1 h2:=a0;refine zG ?_;refine sC (na _ _ _ (r-9) zo) ?_;rintro _ O o ⟨b3,a3,l3,c3,rfl,i3⟩ y3 F;have y:Tp O T:=S.ext F (show T.m≤n+1 by omega);refine zG ?_;refine zB _ R5 (uY (k+4) (m:=4) zd y (show T.m≤o by omega)) ?_;rintro _ h4 o w4 ⟨Z,rfl,U,A,s,rfl,a8,a9⟩;have o4:Only T.bt O h4:=A;refine zG ?_;refine sC (na _ _ _ (1+s) zo) ?_;rintro _ h5 n5 ⟨b5,a5,l5,c5,rfl,i5⟩ y5 u;have a1:=(i3.t (y.tr (n:=o) A)).t ⟨y5,fun c hc=>.inl (u c hc)⟩;refine sC (kH _ a1 i5 (bn zo) (br zo) zo (q:=Av (r-9) (1+s)) rfl) ?_;rintro _ P n6 ⟨I,H,l6,J,K,L,M,N,rfl,i6,j6⟩ y6 G;have q6:P (3*n+2)=_:=(G _ zo).trans ((u _ zo).trans ((o4 _ zo).trans ((F _ zo).trans ((o2 _ zo).trans p1))));refine sSx (n0:=n) [kz I,jx H l6 J,kz K,jx L M N] q6 ?_;intro i p7 p;rw [yo (show 3*n≤3*n+2 by omega)];have C:∀c,c<3*n→c≠T.bt→i c=h c:=fun c hc j=>(p.1 c zo).trans ((G c zo).trans ((u c zo).trans ((o4 c j).trans ((F c zo).trans ((o2 c j).trans (x1 c hc))))));have V:Tp P T:=(U.ext u (show T.m≤o by omega)).ext G (show T.m≤n5 by omega);have W:Tp i T:=V.ext (n:=T.m) (fun c hc=>p.1 c zo) eT;have i7:UI i n6 I H l6 J (Av (r-9) (1+s)).num:=i6.t (Tr.s p (Tr.refl _ _));have j7:UI i n6 K L M N (denZ (Av (r-9) (1+s))):=j6.t (Tr.s p (Tr.refl _ _));refine zG ?_;refine xu R5 p7 rfl ⟨⟨?_,zo,W,C⟩,_,_,_,_,_,_,_,_,_,rfl,i7,j7,r-9,1+s,zo,zo,zo,zo,rfl⟩;exact yB Z (yB Y (fun b j=>cA j nN))
theorem zpt (k:Nat)(ht:Tp h T)(hn:T.m≤n){N:Nat}(hN:N≤1000):CF (cal (k+7)) 12 [kS (some ⟨T.bt,0,none⟩),jy .i64 (N:Int)] h n fun v A F w=>TLeft T h n A F w∧∃a i,v=jx a N N∧gP i=N∧(∀q∈i,NumR q)∧NS A F v i∧yj n v:=by
 have a5:=ht.bt;refine zu (fn:=Tryz.f12) R4 ?_;refine zG ?_;refine sF (α:=Nat×List Rat×Value) (fun z=>[(0,kS (some ⟨T.bt,0,none⟩)),(1,jy .i64 (N:Int)),(5,z.2.2),(6,jy .i64 (z.1:Int))])
  (fun z A F w'=>TLeft T h n A F w'∧z.1≤N∧gP z.2.1=z.1∧(∀q∈z.2.1,NumR q)∧GR 4 numP n A F 51 z.2.2 z.2.1) (fun z=>N-z.1)
  (0,[],jx none 0 0) ⟨⟨fun b o=>cA o nN,eT,ht,ExtT.refl _ _ _⟩,eU,rfl,fun q P=>cA P nN,GR.nil⟩ ?_
 rintro ⟨j,i,v⟩ t h2 H w2 ⟨⟨I,U,B,J⟩,hj,S,y,p⟩;have S:gP i=j:=S;subst S;have U:n≤H:=U;have hj:gP i≤N:=hj;have y:∀q∈i,NumR q:=y;have p:GR 4 numP n h2 H 51 v i:=p;obtain ⟨M,rfl⟩:=p.shape rfl;refine zG ?_;by_cases qj:(gP i:Int)<(N:Int)
 ·refine zG ?_;refine zB _ R5 (numX k B (show T.m≤H by omega)) ?_;rintro _ h3 G w3 ⟨⟨a3,y3,a1,D⟩,b,a,l,c,d,e,f,g,q,rfl,i3,j3,P⟩;have T3:Tr H h2 G h3:=⟨y3,fun c hc=>by
   by_cases o:c=T.bt
   ·subst o;obtain ⟨a6,e,R,_⟩:=B.row;exact .inr (.row R rfl)
   ·exact .inl (D c hc o)⟩
  refine zG ?_;refine sMs [kz b,jx a l c,kz d,jx e f g] ?_;intro O p6 u;have g6:GR 4 numP n O (G+1) 51 (jx M (gP i) (gP i)) i:=(p.go numP.kp T3 (fun b o=>D b (p.bk b o).2.1 (by have:=(p.bk b o).1;omega))).go numP.kp ⟨ux _,fun c hc=>.inl (u c hc)⟩ (fun b o=>u b (by have:=(p.bk b o).2.1;omega));have i6:UI O (G+1) b a l c q.num:=i3.t ⟨ux _,fun c hc=>.inl (u c hc)⟩;have j6:UI O (G+1) d e f g (denZ q):=j3.t ⟨ux _,fun c hc=>.inl (u c hc)⟩;refine sGA (n0:=n) [kz b,jx a l c,kz d,jx e f g] [q] g6 numP.kp (.cons (c:=[kz b,jx a l c,kz d,jx e f g]) rfl ⟨_,_,_,_,_,_,_,_,rfl,i6,j6⟩ .nil) ⟨rfl,rfl⟩ (yH p6 R2) eT (by show gP i+1<_;omega) zo ?_;intro v7 Z Y T7 K K7 F7;obtain ⟨a7,rfl⟩:=Y.shape (L:=gP i+1) (by rw [nn];rfl);have a2:Tp Z T:=(a1.ext u (show T.m≤G by omega)).ext K (show T.m≤n by omega);have a4:∀c,c<3*n→c≠T.bt→Z c=h c:=fun c hc o=>(K c zo).trans ((u c zo).trans ((D c zo o).trans (J c hc o)));clear u K T7 K7;refine zG ?_;exact sK (gP i+1,i++[q],jx a7 (gP i+1) (gP i+1)) ⟨⟨yB a3 I,zo,a2,a4⟩,by show gP i+1≤N;omega,by rw [nn];rfl,fun q' s=>by
   rcases Al.1 s with s|s
   ·exact y q' s
   ·rw [nP.1 s];exact P,Y⟩
 have a0:gP i=N:=zo;refine zG ?_;subst a0;refine retH [jx M (gP i) (gP i)] ⟨rfl,(zk rfl),rfl⟩ ⟨⟨I,U,B,J⟩,M,i,rfl,rfl,y,?_⟩;obtain ⟨C,V,W,_⟩:=p;exact ⟨⟨C,V.sl,W⟩,V.fresh⟩
theorem zh8 (k:Nat){h:HF}{n:Nat}{a:Option Addr}{L cap:Nat}{c:List Rat}(j:NS h n (jx a L cap) c)(f:L≤1000){m:Nat}(i:∀q∈c,Sz m q)(g:m≤3840):
  CX (cal (k+6)) 11 [jx a L cap] h n fun v e l=>∃b,v=jx (some ⟨b,0,none⟩) L L∧3*n≤b∧OT e l b (c.map ratT):=by
 refine zu (fn:=Tryz.f11) R4 ?_;refine zG ?_;refine sC (jZ k j f i g) ?_;rintro _ p s ⟨b,rfl,d,o⟩ w u;refine Zt ?_;exact ⟨b,rfl,d,o⟩
end
structure SdpStr (R:List UInt8→Prop)(p:Sdp):Prop where
 obj:∀e∈p.obj,R e.v
 objFree:∀s∈p.objFree,R s
 eqs:∀q∈p.eqs,(∀e∈q.es,R e.v)∧∀s∈q.rhs::q.fr,R s
theorem fK (k:Nat){R:List UInt8→Prop}(T:RV (k+1) R){h:HF}(hG:GK.G h){n:Nat}(hn:20≤n){vB vO vF vE:Value}{p:Sdp}{l:Int}(hp:SdpR h n vB vO vF vE p)(A:SdpB p)(C:SdpStr R p):VF (cal (k+3)) 42 [.agg #[vB,jy .i64 l,vO,vF,vE]] h n fun v=>∃b:Bool,v=kz b∧(b=true↔SdpV p l):=by
 refine zI (fn:=Tryz.f42) R4 ?_;obtain ⟨hB,hO,O,ce,hE,a1⟩:=hp;obtain ⟨aB,lB,cB,rfl,_⟩:=hB.len;obtain ⟨aO,lO,cO,rfl,_⟩:=hO.len;obtain ⟨aF,lF,cF,rfl,_⟩:=O.len;obtain ⟨aE,lE,cE,rfl,_⟩:=hE.len;have av:=hB.lenEq (m:=gP p.blocks) zo (by simp [i64s]);have ay:=hO.lenEq (m:=gP p.obj) zo (xk _);have ax:=O.lenEq (m:=gP p.objFree) zo (by simp [strs]);have aw:=hE.lenEq (m:=gP p.eqs) zo a1.len;subst av ay ax aw;have bg:=A.bl;have bi:=A.ol;have bh:=A.fl;have bd:=A.el;refine zN ?_;refine we (cs:=[jx aB (gP p.blocks) cB,jy .i64 l,jx aO (gP p.obj) cO,jx aF (gP p.objFree) cF,jx aE (gP p.eqs) cE]) R5 ?_;generalize hh:upd h (3*n+2) _=h1;have o:Ext n h h1:=by rw [←hh];exact Ext.upd zo
 have a:∃ty,h1 (3*n+2)=some (.row [jx aB (gP p.blocks) cB,jy .i64 l,jx aO (gP p.obj) cO,jx aF (gP p.objFree) cF,jx aE (gP p.eqs) cE] ty):=⟨_,by rw [←hh,zh]⟩;obtain ⟨ba,a⟩:=a;clear hh;have P:GK.G h1:=rA hG o hn;repeat refine zR ?_
 simp only [yN,xQ,zY,xJ];refine yu (α:=Bool) (fun z=>[(1,kS (some ⟨3*n+2,0,none⟩)),(32,kz z)]) (fun z N n' w=>h1=N∧n'=n+1∧w=[]∧(z=false↔(1≤gP p.blocks∧gP p.blocks≤64)∧(0≤l∧l≤512)∧gP p.eqs≤512)) ?_ ?_
 ·refine zN ?_;by_cases q1:gP p.blocks<1
  ·repeat (first|refine zl R6 a R2 ?_|refine zR ?_)
   refine zN ?_;exact zO true ⟨rfl,rfl,eP⟩ ⟨rfl,rfl,rfl,by simp only [Bg,false_iff];omega⟩
  by_cases q2:64<gP p.blocks
  ·repeat (first|refine zl R6 a R2 ?_|refine zR ?_)
   refine zN ?_;exact zO true ⟨rfl,rfl,eP⟩ ⟨rfl,rfl,rfl,by simp only [Bg,false_iff];omega⟩
  by_cases q3:l<0
  ·repeat (first|refine zl R6 a R2 ?_|refine zR ?_)
   refine zN ?_;exact zO true ⟨rfl,rfl,eP⟩ ⟨rfl,rfl,rfl,by simp only [Bg,false_iff];omega⟩
  by_cases q4:512<l
  ·repeat (first|refine zl R6 a R2 ?_|refine zR ?_)
   refine zN ?_;exact zO true ⟨rfl,rfl,eP⟩ ⟨rfl,rfl,rfl,by simp only [Bg,false_iff];omega⟩
  by_cases q5:512<gP p.eqs
  ·repeat (first|refine zl R6 a R2 ?_|refine zR ?_)
   refine zN ?_;exact zO true ⟨rfl,rfl,eP⟩ ⟨rfl,rfl,rfl,by simp only [Bg,false_iff];omega⟩
  repeat (first|refine zl R6 a R2 ?_|refine zR ?_)
  refine zN ?_;exact zO false ⟨rfl,rfl,eP⟩ ⟨rfl,rfl,rfl,fun _=>zo,fun _=>rfl⟩
 rintro z t _ _ _ ⟨rfl,rfl,rfl,hz⟩;cases z with
 |true=>
  rw [ze rfl];refine Zb ?_;exact retF _ rfl (zk rfl) R2 ⟨false,rfl,fun h=>cA h gN,fun c=>cA (hz.2 ⟨c.bl,c.free,c.el⟩) gN⟩
 |false=>
 refine ZA ?_;obtain ⟨g1,g2,g3⟩:=hz.1 rfl;clear hz;repeat (first|refine zl R6 a R2 ?_|refine zR ?_)
 refine zN ?_;have a0:=hB.ext o (ux n);have al:=hO.ext o (ux n);have ak:=O.ext o (ux n);have aj:=hE.ext o (ux n);have ab:=a1.ext o (ux n);refine z9 (α:=Nat) (fun j=>[(1,kS (some ⟨3*n+2,0,none⟩)),(34,jx aB (gP p.blocks) cB),(35,jy .i64 (gP p.blocks:Int)),(36,jy .i64 (j:Int))]) (fun j N n' w=>h1=N∧n'=n+1∧w=[]∧j≤gP p.blocks∧∀i d,i<j→p.blocks[i]?=some d→1≤d∧d≤32) (fun j=>gP p.blocks-j) 0 ⟨rfl,rfl,rfl,rfl,eP⟩ ⟨rfl,rfl,rfl,eU,fun i d F=>cA F (Bp i)⟩ (by show gP p.blocks-0<LL;unfold LL;omega) ?_;rintro j t _ _ _ ⟨rfl,rfl,rfl,hj,U⟩;refine zN ?_;by_cases a8:j≠gP p.blocks
 ·obtain ⟨d,M⟩:∃d,p.blocks[j]?=some d:=⟨p.blocks[j]'zo,k4 zo⟩;obtain ⟨bB,oB,xB,ah,rfl,am,b8,ao,bb,be,ar⟩:=hB.inv zo;have y:ah[oB+j]?=some (jy .i64 d):=wE ar (by rw [i64s,sr,M];rfl);have ad:h1 bB=some xB:=by rw [o bB am];exact b8
  refine Zp ?_;refine wp R8 zo ?_;refine zl R6 ad (v:=jy .i64 d) ⟨ao,(by rw [←y];congr 1;omega)⟩ ?_;refine Za ?_;by_cases hd1:d<1
  ·refine Zn ?_;exact retF _ rfl (zk rfl) R2 ⟨false,rfl,fun h=>cA h gN,fun c=>by have:=c.b d (ns M);omega⟩
  by_cases hd2:32<d
  ·refine Zn ?_;exact retF _ rfl (zk rfl) R2 ⟨false,rfl,fun h=>cA h gN,fun c=>by have:=c.b d (ns M);omega⟩
  refine Zi ?_;refine goOn (j+1) (by show gP p.blocks-(j+1)<gP p.blocks-j;omega) ⟨rfl,rfl,rfl,by show jy .i64 _=jy .i64 _;congr 1,eP⟩ ⟨rfl,rfl,rfl,by show j+1≤gP p.blocks;omega,fun i d' F K=>?_⟩;by_cases hij:i<j
  ·exact U i d' hij K
  have:i=j:=zo;subst this;rw [M] at K;injection K with K
  omega
 have a8:j=gP p.blocks:=G6.1 a8;have ac:∀d∈p.blocks,1≤d∧d≤32:=fun d M=>by
  obtain ⟨i,F,e⟩:=Fo M;exact U i d zo (by rw [k4 F,e])
 clear U;refine Zj ?_;by_cases hofl:(gP p.objFree:Int)=l;case neg=>
  repeat (first|refine zl R6 a R2 ?_|refine zR ?_)
  refine zN ?_;rw [ze rfl];refine Zb ?_;exact retF _ rfl (zk rfl) R2 ⟨false,rfl,fun h=>cA h gN,fun c=>cA c.ofl hofl⟩
 repeat (first|refine zl R6 a R2 ?_|refine zR ?_)
 refine yk _ R5 (bZ k T P zo al a0 C.obj zo) ?_;rintro _ ⟨b1,rfl,a2⟩;cases b1 with
 |false=>
  refine Zn ?_;exact retF _ rfl (zk rfl) R2 ⟨false,rfl,fun h=>cA h gN,fun c=>a2.2 c.obj⟩
 |true=>
 repeat (first|refine zl R6 a R2 ?_|refine zR ?_)
 refine yk _ R5 (uX k T P zo ak C.objFree zo) ?_;rintro _ ⟨b2,rfl,a3⟩;cases b2 with
 |false=>
  refine Zn ?_;exact retF _ rfl (zk rfl) R2 ⟨false,rfl,fun h=>cA h gN,fun c=>a3.2 c.ofs⟩
 |true=>
 refine Zj ?_;repeat (first|refine zl R6 a R2 ?_|refine zR ?_)
 refine zN ?_;refine z9 (α:=Nat) (fun j=>[(1,kS (some ⟨3*n+2,0,none⟩)),(68,jx aE (gP p.eqs) cE),(69,jy .i64 (gP p.eqs:Int)),(70,jy .i64 (j:Int))]) (fun j N n' w=>Ext (n+1) h1 N∧n+1≤n'∧w=[]∧j≤gP p.eqs∧∀i q,i<j→p.eqs[i]?=some q→fa p.blocks q.es∧(gP q.fr:Int)=l∧∀s∈q.rhs::q.fr,xy s) (fun j=>gP p.eqs-j) 0 ⟨rfl,rfl,rfl,rfl,eP⟩ ⟨Ext.refl _ _,eT,rfl,eU,fun i d F=>cA F (Bp i)⟩ (by show gP p.eqs-0<LL;unfold LL;omega) ?_;rintro i t h2 D _ ⟨aa,b6,rfl,F,a9⟩;refine zN ?_;by_cases hiE:i=gP p.eqs
 ·refine Zi ?_;refine retF _ rfl (zk rfl) R2 ⟨true,rfl,fun _=>⟨g1,g2,g3,ac,a2.1 rfl,hofl,a3.1 rfl,fun q V=>?_⟩,fun _=>rfl⟩;obtain ⟨Z,a7,e⟩:=Fo V;exact a9 Z q zo (by rw [k4 a7,e])
 obtain ⟨q,V⟩:∃q,p.eqs[i]?=some q:=⟨p.eqs[i]'zo,k4 zo⟩;have g:=ns V;obtain ⟨q1,q2,q3,q4⟩:=A.qs q g;obtain ⟨ve,vf,aq,W,Y⟩:=ab.get V;obtain ⟨ae,le,I,rfl,_⟩:=W.len;obtain ⟨af,lf,J,rfl,_⟩:=Y.len;have az:=W.lenEq (m:=gP q.es) zo (xk _);have b0:=Y.lenEq (m:=gP q.fr) zo (by simp [strs]);subst az b0;obtain ⟨bE,oE,xE,ai,rfl,an,b9,ap,bc,bf,au⟩:=aj.inv zo;have y:(ai.drop (oE+i*3)).take 3=[jx ae (gP q.es) I,jx af (gP q.fr) J,kF ⟨⟨q.rhs⟩⟩]:=by rw [nB au zo,aq]
 have ag:h2 bE=some xE:=by rw [aa bE an];exact b9
 refine Zp ?_;refine wp R8 zo ?_;refine zV (v:=.agg #[jx ae (gP q.es) I,jx af (gP q.fr) J,kF ⟨⟨q.rhs⟩⟩]) R5 (zT R2 ag ap zo (by rw [←y];congr 2<;>omega)) ?_;refine yd R5 ?_;refine zK [jx ae (gP q.es) I,jx af (gP q.fr) J,kF ⟨⟨q.rhs⟩⟩] R7 rfl (zh _ _ _) rfl (by show 3*n≤3*D+2;omega) ?_;rw [xq];generalize hh:upd h2 (3*D+2) _=h3;have u:∃ty,h3 (3*D+2)=some (.row [jx ae (gP q.es) I,jx af (gP q.fr) J,kF ⟨⟨q.rhs⟩⟩] ty):=⟨_,by rw [←hh,zh]⟩;obtain ⟨bj,u⟩:=u;have b7:Ext D h2 h3:=by rw [←hh];exact Ext.upd zo
 clear hh;have f:Ext (n+1) h1 h3:=aa.trans b7 b6;have L:h3 (3*n+2)=some (.row [jx aB (gP p.blocks) cB,jy .i64 l,jx aO (gP p.obj) cO,jx aF (gP p.objFree) cF,jx (some ⟨bE,oE,none⟩) (gP p.eqs) cE] ba):=by rw [f _ zo];exact a
 have S:GK.G h3:=rA P f zo;refine zN ?_;by_cases hqf:(gP q.fr:Int)=l;case neg=>
  repeat (first|refine zl R6 u R2 ?_|refine zl R6 L R2 ?_|refine zR ?_)
  refine zN ?_;rw [ze rfl];refine Zb ?_;exact retF _ rfl (zk rfl) R2 ⟨false,rfl,fun h=>cA h gN,fun c=>cA (c.eqs q g).2.1 hqf⟩
 repeat (first|refine zl R6 u R2 ?_|refine zl R6 L R2 ?_|refine zR ?_)
 refine yk _ R5 (bZ k T S zo (W.ext f (show n+1≤D+1 by omega)) (a0.ext f (show n+1≤D+1 by omega)) (C.eqs q g).1 zo) ?_;rintro _ ⟨b3,rfl,a4⟩;cases b3 with
 |false=>
  refine Zn ?_;exact retF _ rfl (zk rfl) R2 ⟨false,rfl,fun h=>cA h gN,fun c=>a4.2 (c.eqs q g).1⟩
 |true=>
 repeat (first|refine zl R6 u R2 ?_|refine zl R6 L R2 ?_|refine zR ?_)
 refine yk _ R5 (uX k T S zo (Y.ext f (show n+1≤D+1 by omega)) (fun s H=>(C.eqs q g).2 s (by simp [H])) zo) ?_;rintro _ ⟨b4,rfl,a5⟩;cases b4 with
 |false=>
  refine Zn ?_;exact retF _ rfl (zk rfl) R2 ⟨false,rfl,fun h=>cA h gN,fun c=>a5.2 fun s H=>(c.eqs q g).2.2 s (by simp [H])⟩
 |true=>
 repeat (first|refine zl R6 u R2 ?_|refine zl R6 L R2 ?_|refine zR ?_)
 refine yk _ R5 (T 1 S _ zo q.rhs ((C.eqs q g).2 _ gN)) ?_;rintro _ ⟨b5,rfl,a6⟩;cases b5 with
 |false=>
  refine Zn ?_;exact retF _ rfl (zk rfl) R2 ⟨false,rfl,fun h=>cA h gN,fun c=>a6.2 ((c.eqs q g).2.2 _ gN)⟩
 |true=>
 refine Zi ?_;refine goOn (i+1) (by show gP p.eqs-(i+1)<gP p.eqs-i;omega) ⟨rfl,rfl,rfl,by show jy .i64 _=jy .i64 _;congr 1,eP⟩ ⟨f,by show n+1≤D+1;omega,rfl,by show i+1≤gP p.eqs;omega,fun Z q' a7 B=>?_⟩;by_cases hij:Z<i
 ·exact a9 Z q' hij B
 have:Z=i:=zo;subst this;rw [V] at B;injection B with B
 subst B;exact ⟨a4.1 rfl,hqf,fun s H=>by rcases sP.1 H with rfl|H;exact a6.1 rfl;exact a5.1 rfl s H⟩
section
variable {B n:Nat}{s:List UInt8}{Ns:List Nat}
theorem jU (k:Nat)(c:GK.G h)(hn:20≤n)(d:Sz 29 q):VF (cal (k+6)) 82 [kF ⟨⟨ratT q⟩⟩] h n fun v=>v=kz true:=by
 cases hsm:GK.isSmall (ratT q) with
 |true=>exact ⟨_,_,_,_,zgz (k+5) c n hsm,rfl,rfl,rfl,rfl⟩
 |false=>
 cases hbd:GK.isBad (ratT q) with
 |true=>exact cA ⟨q,rfl⟩ (ze6 hbd).1
 |false=>
 refine zI (fn:=Tryz.f82) ⟨(by show (match GK.isSmall (ratT q) with|true=>some (kz true)|false=>(match GK.isBad (ratT q) with|true=>some (kz false)|false=>none))=none;rw [hsm,hbd]),rfl,rfl,rfl⟩ ?_;refine zG ?_;refine sC (pd _ _ _ d) ?_;rintro _ h1 g ⟨a,b,rfl,_⟩ p m;refine Zh ?_;intro e j o;refine sS [jy .i64 a,jy .i64 b] ?_;intro f l i;refine Zq ?_;rfl
theorem sRT (k:Nat):RV (k+6) fun s=>∃q,Sz 29 q∧s=ratT q:=fun j h d n e s ⟨q,f,g⟩=>by
 subst g;rw [show k+6+j=k+j+6 by omega];refine yg (jU (k+j) d e f) ?_;rintro _ i l w ⟨a,b,c,rfl⟩;exact ⟨a,b,c,true,rfl,fun _=>⟨q,rfl⟩,fun _=>rfl⟩
theorem EOk.listV {B:List Int}{b r c:Int}(h:EOk B E b r c):fa B E:=fun j e d=>by
 have a:=h.ok e (ns d);obtain ⟨x,u,w,l,g⟩:=a.v;refine ⟨⟨a.b,a.rc,a.c⟩,fun f p m=>?_,by rw [g];exact ⟨_,rfl⟩,fun i=>?_⟩
 ·have o:=(oc.1 d).1;have:=List.pairwise_iff_getElem.1 h.asc (j-1) j zo o zo;rw [(oc.1 d).2,(oc.1 m).2] at this;exact this
 rw [g] at i;have:=uU (i.trans wf.symm);exact l (DD.1 this)
structure SdpW (F:Nat)(p:Sdp)(BR:Nat):Prop where
 bl:1≤gP p.blocks∧gP p.blocks≤2
 b3:∀d∈p.blocks,1≤d∧d≤3
 free:p.free≤F
 objv:fa p.blocks p.obj
 obj:∀e∈p.obj,EntD 24 3840 (dimN p) e
 objl:gP p.obj≤256
 ofl:gP p.objFree=p.free
 ofs:∀s∈p.objFree,TxF 12 864 s
 eql:gP p.eqs≤4
 eqv:∀q∈p.eqs,fa p.blocks q.es
 eqo:∀q∈p.eqs,(∀e∈q.es,EntF (dimN p) e)∧gP q.es≤256∧gP q.fr=p.free∧(∀s∈q.fr,wn 2 s)∧TxF 12 BR q.rhs
theorem TxF.up (h:TxF D B s)(k:Nat):TxF (k*D) (k*B) s:=by
 obtain ⟨q,a,b⟩:=h;exact ⟨q,a,b.up k⟩
theorem TxF.mono {B1:Nat}(h:TxF D B s)(c:B≤B1):TxF D B1 s:=by
 obtain ⟨q,a,b⟩:=h;exact ⟨q,a,b.mono c⟩
theorem SdpOk.w {p:Sdp}(hok:SdpOk F least p):SdpW F p 48 where
 bl:=hok.bl
 b3:=hok.b3
 free:=hok.free
 objv:=hok.obj.listV
 obj:=fun e he=>by
  obtain ⟨k,N,i,j,v,h1,h2,h3,h4,h5⟩:=(hok.obj.ok e he).f.d;exact ⟨k,N,i,j,v,h1,h2,h3,h4,(h5.up 24).mono zd⟩
 objl:=hok.objl
 ofl:=hok.ofl
 ofs:=fun s hs=>(((hok.ofs s hs).tx (B:=2) zd).up 12).mono zd
 eql:=hok.eql.2
 eqv:=fun q hq=>(hok.eqo q hq).1.listV
 eqo:=fun q hq=>by
  obtain ⟨h1,h2,h3,h4,h5⟩:=hok.eqo q hq;exact ⟨fun e he=>(h1.ok e he).f,h2,h3,h4,(h5.tx (B:=4) zd).up 12⟩
theorem FN.num_le {x:Rat}(h:FN D B x)(i:0<D):x.num.natAbs≤B:=by
 obtain ⟨m,a⟩:=h.den;obtain ⟨z,d,j⟩:=h;have l:=x.den_pos;have c:x.num*(m:Int)=z:=by
  apply DD.1;rw [←d,a,Cs,A8,Bc,←AM,sJ]
 have b:0<m:=Nat.pos_of_ne_zero fun e=>by rw [e,Nat.mul_zero] at a;omega
 have f:x.num.natAbs*m=z.natAbs:=by rw [←c,AX,sa]
 have g:=Dq x.num.natAbs b;omega
theorem TxF.len (h:TxF D B s)(h0:0<D∧D≤99∧B≤999999):gP s<11∧xy s:=by
 obtain ⟨q,rfl,h⟩:=h;have d:=h.num_le h0.1;have e:=Nat.le_of_dvd h0.1 h.den;refine ⟨?_,_,rfl⟩;have a:∀V k,V<10^k→1≤k→gP (decT V)≤k:=fun V k b c=>by
  unfold decT;split
  ·exact c
  rw [oo,tu];exact xm k V b
 have f:=a q.num.natAbs 6 zo zd;have g:=a q.den 2 zo zd;unfold Go.Proofs.YtfajmfoofmienaaGreatDoor.ratT;simp only [nn];split<;>split<;>simp<;>omega
theorem EntD.tx {e:Ent}(h:EntD D B Ns e):TxF D B e.v:=by
 obtain ⟨k,N,i,j,v,rfl,_,_,_,a⟩:=h;exact ⟨v,rfl,a⟩
theorem TxF.t29 (h:TxF D B s)(h0:0<D∧D<2^29∧B<2^29):∃q,Sz 29 q∧s=ratT q:=by
 obtain ⟨q,rfl,h⟩:=h;exact ⟨q,h.sz h0.1 h0.2.1 h0.2.2,rfl⟩
theorem TxF.t12 (h:TxF D B s)(h0:0<D∧D<2^12∧B<2^12):∃q,s=ratT q∧Sz 12 q:=by
 obtain ⟨q,rfl,h⟩:=h;exact ⟨q,rfl,h.sz h0.1 h0.2.1 h0.2.2⟩
theorem SdpW.valid {m:Nat}{p:Sdp}(a:SdpW F p m)(K:F≤100)(w:m≤999999):SdpB p∧SdpStr (fun s=>∃q,Sz 29 q∧s=ratT q) p∧SdpV p p.free:=by
 have C:=a.bl;have G:=a.objl;have H:=a.ofl;have I:=a.eql;have J:=a.free;have y:∀e∈p.obj,TxF 24 3840 e.v:=fun e f=>(a.obj e f).tx;have g:∀q∈p.eqs,(∀e∈q.es,TxF 1 2 e.v)∧∀s∈q.rhs::q.fr,TxF 12 999999 s:=fun q g=>by
  obtain ⟨i,o,u,j,l⟩:=a.eqo q g;refine ⟨fun e f=>(i e f).d.tx,fun s c=>?_⟩;rcases sP.1 c with rfl|c
  ·exact l.mono w
  exact (((j s c).tx (B:=2) zd).up 12).mono zd
 refine ⟨⟨zo,zo,zo,zo,fun e f=>((y e f).len zd).1,fun s c=>((a.ofs s c).len zd).1,fun q b=>?_⟩,⟨fun e f=>(y e f).t29 zd,fun s c=>(a.ofs s c).t29 zd,fun q b=>⟨fun e f=>((g q b).1 e f).t29 zd,fun s c=>((g q b).2 s c).t29 zd⟩⟩,⟨zo,zo,zo,fun d A=>by have:=a.b3 d A;omega,a.objv,zo,fun s c=>((a.ofs s c).len zd).2,fun q b=>?_⟩⟩
 ·obtain ⟨i,o,u,j,l⟩:=a.eqo q b;exact ⟨zo,zo,fun e f=>(((g q b).1 e f).len zd).1,fun s c=>(((g q b).2 s c).len zd).1⟩
 obtain ⟨i,o,u,j,l⟩:=a.eqo q b;exact ⟨a.eqv q b,zo,fun s c=>(((g q b).2 s c).len zd).2⟩
theorem zkk (k:Nat)(g:GG h n){p:Sdp}{a:Nat}(o:F≤100)(c:a≤999999)(y:SdpR h n vB vO vF vE p)(d:SdpW F p a):VF (cal (k+8)) 42 [.agg #[vB,jy .i64 (p.free:Int),vO,vF,vE]] h n fun v=>v=kz true:=by
 obtain ⟨j,l,m⟩:=d.valid o c;refine yg (fK (k+5) (sRT k) g.1 g.2 y j l) ?_;rintro _ A C w ⟨e,f,i,b,rfl,u⟩;exact ⟨e,f,i,by rw [u.2 m]⟩
end
section
variable {N j k:Nat}
section
variable {n:Nat}
theorem dotX (k:Nat)(g:GG h n){i l:Option Addr}{K m y o:Nat}{us:List Rat}(F:Sl h n 1 (jx i K m) (strs S))(H:Sl h n 1 (jx l y o) (strs (us.map ratT)))(hl:gP us=gP S)(G:∀s∈S,∃q,s=ratT q∧Sz 12 q)(hu:∀u∈us,Sz 17 u)(hz:∀j,j≤gP S→Sz 29 (dt S us j))(hb:gP S<1000):
  VF (cal (k+8)) 79 [jx i K m,jx l y o] h n fun v=>v=kF ⟨⟨ratT (dt S us (gP S))⟩⟩:=by
 have l1:=xY F;have l2:=xY H;rw [oo] at l2;subst l1;refine zI (fn:=Tryz.f79) R4 ?_;refine zG ?_;rw [show ([48]:List UInt8)=ratT (dt S us 0) from rfl];refine sF (α:=Nat) (fun z=>[(1,jx l y o),(5,kF ⟨⟨ratT (dt S us z)⟩⟩),(8,jx i (gP S) m),(9,jy .i64 (gP S:Int)),(10,jy .i64 (z:Int))])
  (fun z h' n' w'=>w'=[]∧n≤n'∧Ex0 n h h'∧z≤gP S) (fun z=>gP S-z) 0 ⟨rfl,eT,⟨Ext.refl _ _⟩,eU⟩ ?_
 rintro j t h1 O _ ⟨rfl,b,d,hj⟩;have b:n≤O:=b;have hj:j≤gP S:=hj;refine zG ?_;by_cases qj:(j:Int)<(gP S:Int)
 ·obtain ⟨s,w⟩:∃s,S[j]?=some s:=⟨_,k4 zo⟩;obtain ⟨x,rfl,T⟩:=G s (ns w);obtain ⟨u,f⟩:∃u,us[j]?=some u:=⟨_,k4 zo⟩;have a:=znp w f;have J:(us.map ratT)[j]?=some (ratT u):=by rw [sr,f];rfl
  refine zG ?_;obtain ⟨b3,o3,Z,m3,r3,t3⟩:=yD (F.ext d.e b) w;refine sI Z r3 ?_;refine sL t3 m3 0 ?_;refine zG ?_;refine sQn (decide (x=0)) (sO _) ?_;by_cases hx0:x=0
  ·rw [bO hx0];refine zG ?_;have e:dt S us (j+1)=dt S us j:=by rw [a,hx0,Cg,A2]
   rw [←e];exact sK (j+1) ⟨rfl,b,d,by show j+1≤gP S;omega⟩
  rw [aD hx0];refine zG ?_;obtain ⟨b4,o4,A,L,P,U⟩:=yD (H.ext d.e b) J;refine sI A P ?_;refine sL U L 0 ?_;refine sQn (decide (u=0)) (sO _) ?_;by_cases hu1:u=0
  ·rw [bO hu1];refine zG ?_;have e:dt S us (j+1)=dt S us j:=by rw [a,hu1,Br,A2]
   rw [←e];exact sK (j+1) ⟨rfl,b,d,by show j+1≤gP S;omega⟩
  rw [aD hu1];refine zG ?_;refine sI A P ?_;refine sL U L 0 ?_;have C:GG h1 O:=g.ext d.e b;have R:=hu u (ns f);refine sC (mulT _ (C.x zx) (T.mono zd) (R.mono zd)).cx ?_;rintro _ h5 n5 rfl y5 V;refine sC (addT _ (C.x zx) (hz j hj) ((T.mul R).mono zd)).cx ?_;rintro _ h6 n6 rfl y6 W;rw [←a];have Y:Ex0 n h h6:=⟨fun c hc=>(W c zo).trans ((V c zo).trans (d.e c hc))⟩;clear V W;refine zG ?_;exact sK (j+1) ⟨rfl,zo,Y,by show j+1≤gP S;omega⟩
 have I:j=gP S:=zo;subst I;refine Zq ?_;rfl
structure PtR (h:HF)(n:Nat)(vX vU:Value)(p:Sdp)(ds:List MD)(M:Nat→Nat→Nat→Rat)(us:List Rat):Prop where
 m:MS h n vX ds M
 u:Sl h n 1 vU (strs (us.map ratT))
structure PtB (p:Sdp)(ds:List MD)(M:Nat→Nat→Nat→Rat)(us:List Rat):Prop where
 d:ds.map (·.n)=dimN p
 l:gP us=p.free
 s:∀k i j,M k i j=M k j i
 b:∀k i j,FN 1 8 (M k i j)
 r:∀u∈us,NumR u
theorem PtR.ext {h:HF}{n:Nat}{c b:Value}{p:Sdp}{ds:List MD}{M:Nat→Nat→Nat→Rat}{us:List Rat}(r:PtR h n c b p ds M us)(x:Ext n h h')(a:n≤n'):PtR h' n' c b p ds M us:=⟨r.m.ext x a,r.u.ext x a⟩
section
variable {p:Sdp}{ds:List MD}{M:Nat→Nat→Nat→Rat}{us:List Rat}(B:PtB p ds M us)
include B
theorem PtB.mz (k i j:Nat):Sz 4 (M k i j):=FN.sz (B.b k i j) zd zd zd
theorem PtB.get (a:(dimN p)[k]?=some N):∃d,ds[k]?=some d∧d.n=N:=by
 rw [←B.d,sr] at a;cases h:ds[k]? with
 |none=>rw [h] at a;cases a
 |some d=>rw [h] at a;exact ⟨d,rfl,A0 a⟩
theorem PtB.dn {d:MD}(a:ds[k]?=some d):(dimN p)[k]?=some d.n:=by rw [←B.d,sr,a];rfl
theorem PtB.fz {A:Nat}(a:∀e∈E,EntD D A (dimN p) e)(h0:0<D∧D<4096∧A<4096)(hl:gP E≤256):Sz 27 (fm M E):=FN.sz (P:=27) (zb3 B.b a) h0.1 (Nat.lt_trans h0.2.1 zd) (Ae (AD (AD (CK h0.2.2) (AK 8)) hl) zd)
theorem PtB.uf {u:Rat}(hu:u∈us):FN 12 108 u:=by
 obtain ⟨x,y,a,b,c,d,rfl⟩:=B.r u hu;rcases (show y=1∨y=2∨y=3∨y=4 by omega) with rfl|rfl|rfl|rfl
 ·exact ⟨12*x,by rw [Bm,Bv,AM,BO,A8,show ((1:Int):Rat)⁻¹ *((12:Nat):Rat)=((12:Int):Rat) by decide+kernel],zo⟩
 ·exact ⟨6*x,by rw [Bm,Bv,AM,BO,A8,show ((2:Int):Rat)⁻¹ *((12:Nat):Rat)=((6:Int):Rat) by decide+kernel],zo⟩
 ·exact ⟨4*x,by rw [Bm,Bv,AM,BO,A8,show ((3:Int):Rat)⁻¹ *((12:Nat):Rat)=((4:Int):Rat) by decide+kernel],zo⟩
 exact ⟨3*x,by rw [Bm,Bv,AM,BO,A8,show ((4:Int):Rat)⁻¹ *((12:Nat):Rat)=((3:Int):Rat) by decide+kernel],zo⟩
theorem PtB.tz {A:Nat}(a:∀s∈S,TxF D A s)(h0:0<D∧D<4096∧A<4096)(b:j≤100):Sz 27 (dt S us j):=FN.sz (P:=27) (zb5 a (fun u c=>B.uf c) j) zo zo (Ae (AD (AD (CK h0.2.2) (AK 108)) b) zd)
theorem PtB.uz {u:Rat}(hu:u∈us):Sz 17 u:=(B.r u hu).ok.1.mono zd
end
end
end
def eqFs (p:Sdp)(m:Nat):List (List UInt8):=((p.eqs[m]?).map (·.fr)).getD []
noncomputable def vaQ (p:Sdp)(M:Nat→Nat→Nat→Rat)(us:List Rat):Rat:=fm M p.obj+dt p.objFree us p.free
noncomputable def rsQ (p:Sdp)(M:Nat→Nat→Nat→Rat)(us:List Rat)(m:Nat):Rat:=fm M (eqEs p m)+dt (eqFs p m) us p.free-numOf (eqRh p m)
def zq5 (p:Sdp)(M:Nat→Nat→Nat→Rat)(us:List Rat):Prop:=(∀m,m<gP p.eqs→rsQ p M us m=0)∧∀k N,(dimN p)[k]?=some N→psdA N N 0 (M k)
section
variable {n:Nat}{p:Sdp}{ds:List MD}{M:Nat→Nat→Nat→Rat}
theorem symX (k:Nat)(g:GG h n){N:Nat}{a:Option Addr}{c:Nat}{A:Nat→Nat→Rat}(d:1≤N∧N≤3)(s:Sl h n 1 (jx a (N*N) c) (strs ((tabL N A).map ratT)))(e:∀i j,Sz 4 (A i j))(f:∀i j,A i j=A j i):
  VF (cal (k+13)) 103 [.agg #[jy .i64 (N:Int),jy .i64 (N:Int),jx a (N*N) c]] h n fun v=>v=kz true:=by
 refine zI (fn:=Tryz.f103) R4 ?_;refine zG ?_;refine sB [jy .i64 (N:Int),jy .i64 (N:Int),jx a (N*N) c] ?_;intro b y l;refine zG ?_;refine sC (ah k (g.x (zx:Tx n h (n+1) b)) d (s.ext l zs) (fun i j _ _=>e i j) zd (fun i j _ _=>f i j)) ?_;rintro _ q w ⟨m,u,o,rfl,_⟩ C B;refine Zq ?_;rfl
theorem cd (k:Nat)(g:GG h n)(hF:F≤100)(L:SdpR h n (jx aB lB cB) (jx aO lO cO) (jx aF lF cF) (jx aE lE cE) p)(a5:BR≤131072)(f:SdpW F p BR)(hx:PtR h n (jx aX lX cX) (jx aU lU cU) p ds M us)(B:PtB p ds M us):
  VF (cal (k+14)) 60 [.agg #[jx aB lB cB,jy .i64 (p.free:Int),jx aO lO cO,jx aF lF cF,jx aE lE cE],.agg #[jx aX lX cX,jx aU lU cU]] h n fun v=>v=kz true:=by
 have a6:=f.bl;have a8:=f.free;have a0:gP (dimN p)=gP p.blocks:=by unfold dimN;rw [oo]
 have a7:gP ds=gP p.blocks:=by rw [←a0,←B.d,oo]
 have a3:lX=gP ds:=hx.m.r.len' zd;have D:=xY hx.u;rw [oo,B.l] at D;have a2:lB=gP p.blocks:=L.blocks.lenEq zo (by unfold i64s;rw [oo,AO]);subst a3 D a2;have V:∀{j N:Nat},(dimN p)[j]?=some N→p.blocks[j]?=some (N:Int)∧1≤N∧N≤3:=fun {j N} hj=>by
  unfold dimN at hj;rw [sr] at hj;cases hb:p.blocks[j]? with
  |none=>rw [hb] at hj;cases hj
  |some d=>
   rw [hb] at hj;have:=f.b3 d (ns hb);have hj:d.toNat=N:=A0 hj;rw [show (N:Int)=d by omega];exact ⟨rfl,zo,zo⟩
 refine zI (fn:=Tryz.f60) R4 ?_;refine zG ?_;refine sB [jx aB (gP p.blocks) cB,jy .i64 (p.free:Int),jx aO lO cO,jx aF lF cF,jx aE lE cE] ?_;intro h1 p1 x1;refine sB [jx aX (gP ds) cX,jx aU p.free cU] ?_;intro h2 p2 x2;refine zG ?_;have o:Ex0 n h h2:=⟨(zx:Tx n h (n+1+1) h2).2⟩;have w:GG h2 (n+1+1):=g.ext o.e zo;have y:=L.ext0 o.e (show n≤n+1+1 by omega);have A:=hx.ext o.e (show n≤n+1+1 by omega);have hv:=zkk (k+5) w hF zo y f;refine sC hv.cx ?_;rintro _ h3 n3 rfl P q;refine zG ?_;refine sC (uX (k+11) (sRT (k+6)) (w.x ⟨P,q⟩).1 (w.x ⟨P,q⟩).2 (A.u.ext q P) (fun s hs=>by
  obtain ⟨u,hu,rfl⟩:=Ay.1 hs;exact ⟨u,(B.uz hu).mono zd,rfl⟩) (by rw [oo,B.l];omega)).cx ?_
 rintro _ J O ⟨b4,rfl,W⟩ y4 x4;have hb:b4=true:=W.2 (fun s hs=>by
  obtain ⟨u,hu,rfl⟩:=Ay.1 hs;exact ⟨u,rfl⟩)
 subst hb;have R:Ex0 n h J:=⟨fun c hc=>(x4 c zo).trans ((q c zo).trans (o.e c hc))⟩;obtain ⟨e1,q1⟩:∃e,J (3*n+2)=some (.row [jx aB (gP p.blocks) cB,jy .i64 (p.free:Int),jx aO lO cO,jx aF lF cF,jx aE lE cE] e):=⟨_,zp⟩;obtain ⟨e2,q2⟩:∃e,J (3*(n+1)+2)=some (.row [jx aX (gP ds) cX,jx aU p.free cU] e):=⟨_,zp⟩;have ab:n+1+1≤O:=zo;clear x1 x2 q x4 p1 p2 o y A w;refine zG ?_;refine sF (α:=Nat) (fun z=>[(2,kS (some ⟨3*n+2,0,none⟩)),(34,jx aX (gP ds) cX),(35,jy .i64 (gP ds:Int)),(36,jy .i64 (z:Int))])
  (fun z T n' w'=>w'=[]∧O≤n'∧Ex0 n h T∧T (3*n+2)=some (.row [jx aB (gP p.blocks) cB,jy .i64 (p.free:Int),jx aO lO cO,jx aF lF cF,jx aE lE cE] e1)∧z≤gP ds) (fun z=>gP ds-z) 0 ⟨rfl,eT,R,q1,eU⟩ ?_
 rintro j t U b _ ⟨rfl,y5,S,q5,hj⟩;have y5:O≤b:=y5;have hj:j≤gP ds:=hj;clear q1 R;refine zG ?_;by_cases qj:(j:Int)<(gP ds:Int)
 ·obtain ⟨d,hd⟩:∃d,ds[j]?=some d:=⟨_,k4 zo⟩;obtain ⟨Z,Y⟩:=V (B.dn hd);have C:=hx.ext S.e (show n≤b by omega);refine zG ?_;obtain ⟨b6,o6,c6,e6,m6,r6,t6,_,I⟩:=RS.at' zd C.m.r hd;have I:c6=[jy .i64 (d.n:Int),jy .i64 (d.n:Int),jx d.a (d.n*d.n) d.c]:=I;subst I;refine sI e6 r6 ?_;refine sL t6 m6 0 ?_;refine sA ?_;intro h7 p7 x7;refine zG ?_;refine sS [jy .i64 (d.n:Int),jy .i64 (d.n:Int),jx d.a (d.n*d.n) d.c] ?_;intro K p8 o8;have H:Ext b U K:=(zx:Tx b U (b+1) K).2;have q8:=(H (3*n+2) zo).trans q5;have i:Ext n h K:=fun c hc=>(H c zo).trans (S.e c hc);have a1:=C.ext H zs;clear x7 p7 o8;obtain ⟨b9,o9,e9,m9,r9,t9⟩:=rf (L.blocks.ext i (show n≤b+1 by omega)) Z;refine zG ?_;refine zm [0,1,0,4,0,28,60,127,255,511,1023,2047,4095] rfl ?_;refine zH ?_;refine dI (j:=j) e9 r9 ?_;refine dL t9 m9 0 ?_;refine zH ?_;refine dC (symX k (g.ext i (show n≤b+1 by omega)) Y (a1.m.t _ _ hd) (B.mz j) (B.s j)).cx ?_;rintro _ a4 a9 rfl aa G;refine zH ?_;refine zG ?_;exact sK (j+1) ⟨rfl,zo,⟨fun c hc=>(G c zo).trans (i c hc)⟩,(G _ zo).trans q8,by show j+1≤gP ds;omega⟩
 refine Zq ?_;rfl
theorem zoq (k:Nat)(g:GG h n)(U:F≤100)(K:SdpR h n (jx aB lB cB) (jx aO lO cO) (jx aF lF cF) (jx aE lE cE) p)(L:BR≤131072)(a:SdpW F p BR)(q:PtR h n (jx aX lX cX) (jx aU lU cU) p ds M us)(B:PtB p ds M us):
  VF (cal (k+15)) 37 [.agg #[jx aB lB cB,jy .i64 (p.free:Int),jx aO lO cO,jx aF lF cF,jx aE lE cE],.agg #[jx aX lX cX,jx aU lU cU]] h n fun v=>v=.tuple #[kF ⟨⟨ratT (vaQ p M us)⟩⟩,jy .i64 0]:=by
 have a0:=a.free;have S:lO=gP p.obj:=K.obj.lenEq (by have:=a.objl;omega) (xk _);have O:∀N∈dimN p,N≤8:=fun N V=>by
  obtain ⟨d,hd,rfl⟩:=Ay.1 V;have:=a.b3 d hd;omega
 have I:∀e∈p.obj,EntD 24 3840 (dimN p) e:=a.obj;have R:=a.objl;subst S;refine zI (fn:=Tryz.f37) R4 ?_;refine zG ?_;refine sB [jx aB lB cB,jy .i64 (p.free:Int),jx aO (gP p.obj) cO,jx aF lF cF,jx aE lE cE] ?_;intro h1 p1 x1;refine sB [jx aX lX cX,jx aU lU cU] ?_;intro h2 p2 x2;refine zG ?_;have f:Ex0 n h h2:=⟨(zx:Tx n h (n+1+1) h2).2⟩;have Z:=cd k (g.ext f.e (show n≤n+1+1 by omega)) U (K.ext0 f.e zo) L a (q.ext f.e zo) B;refine sC Z.cx ?_;rintro _ T n3 rfl y3 x3;refine zG ?_;have G:Ex0 n h T:=⟨fun c hc=>(x3 c zo).trans (f.e c hc)⟩;have b:n≤n3:=zo;have H:=g.ext G.e b;have C:=K.ext0 G.e b;have D:=q.ext G.e b;have A:gP p.objFree=p.free:=a.ofl;refine zm [0,1,0,4,15,0,32,0,128,511,1023,2047,4095] rfl ?_;refine zH ?_;have o:=zqf k H D.m B.d O C.obj zd I zo (fun k i j=>(B.mz k i j).mono zd) (fun P Q e=>(B.fz (fun x q=>I x (by rw [e];exact List.mem_append_left _ q)) zd (by rw [e,nn] at R;omega)).mono zd);refine dC o.cx ?_;rintro _ h4 n4 rfl y w;refine zH ?_;have J:=dotX (k+6) (H.x ⟨y,w⟩) (C.objFree.ext w y) (D.u.ext w y) (by rw [B.l,A]) (fun s W=>(a.ofs s W).t12 zd) (fun u Y=>B.uz Y) (fun j hj=>(B.tz a.ofs zd zo).mono zd) zo;refine dC J.cx ?_;rintro _ h5 n5 rfl y5 x5;rw [A];refine dC (addT (k+7) ((H.x ⟨y,w⟩).x ⟨y5,x5⟩) ((B.fz I zd zo).mono zd) ((B.tz a.ofs zd (j:=p.free) zo).mono zd)).cx ?_;rintro _ h6 n6 rfl y6 x6;refine zH ?_;refine Zq ?_;rfl
end
noncomputable def cmM (p:Sdp)(ys:List Rat):Nat→Nat→Nat→Nat→Rat
 |0,_,_,_=>0
 |m+1,k,i,j=>cmM p ys m k i j+yq ys m*coL (eqEs p m) k i j
noncomputable def cmF (p:Sdp)(ys:List Rat):Nat→Nat→Rat
 |0,_=>0
 |m+1,t=>cmF p ys m t+yq ys m*numOf (eqFr p m t)
theorem zgu (p:Sdp)(ys:List Rat)(m k i j:Nat):cmM p ys m k i j+(-1)*coL p.obj k i j=slM p ys m k i j:=by
 induction m with
 |zero=>show 0+(-1)*coL p.obj k i j=(-1)*coL p.obj k i j;rw [C3]
 |succ m ih=>
  show cmM p ys m k i j+yq ys m*coL (eqEs p m) k i j+(-1)*coL p.obj k i j=slM p ys m k i j+yq ys m*coL (eqEs p m) k i j;rw [←ih,Cx,Hh (yq ys m*_),←Cx]
theorem zlp (p:Sdp)(ys:List Rat)(m t:Nat):cmF p ys m t-numOf ((p.objFree[t]?).getD [48])=slF p ys m t:=by
 induction m with
 |zero=>show 0-numOf _= -numOf _;rw [B5,C3]
 |succ m ih=>
  show cmF p ys m t+yq ys m*numOf (eqFr p m t)-_=slF p ys m t+yq ys m*numOf (eqFr p m t);rw [←ih,B5,B5,Cx,Hh (yq ys m*_),←Cx]
section
variable {p:Sdp}{ys:List Rat}{K:Nat}(b:SlB p ys K)
include b
end
section
variable {p:Sdp}{ys:List Rat}{K:Nat}(b:SlB p ys K)(hK:K≤2^532)
include b hK
end
theorem zqi (S:List (List UInt8))(us:List Rat)(j:Nat):dt S us j=sm (fun t=>numOf ((S[t]?).getD [48])*(us[t]?).getD 0) j:=by
 induction j with
 |zero=>rfl
 |succ j ih=>show dt S us j+_=sm _ j+_;rw [ih]
section
variable {p p2:Sdp}{M S:Nat→Nat→Nat→Rat}
structure Built (p p2:Sdp)(ys us:List Rat)(M S:Nat→Nat→Nat→Rat):Prop where
 bl:p2.blocks=p.blocks
 fr:p2.free=p.free
 len:gP p2.eqs=gP p.eqs
 es:∀i,eqEs p2 i=eqEs p i
 fs:∀i,eqFs p2 i=eqFs p i
 rh:∀i,i<gP p.eqs→numOf (eqRh p2 i)=fm M (eqEs p i)+dt (eqFs p i) us p.free
 ob:∀k N i j,(dimN p)[k]?=some N→i<N→j<N→coL p2.obj k i j=cmM p ys (gP p.eqs) k i j+ -1*S k i j
 of:∀t,t<p.free→numOf ((p2.objFree[t]?).getD [48])=cmF p ys (gP p.eqs) t
 ee:∀i,∃D B,∀e∈eqEs p i,EntD D B (dimN p) e
 eo:∃D B,∀e∈p2.obj,EntD D B (dimN p) e
 sy:∀k i j,M k i j=M k j i
theorem db (p:Sdp)(m t:Nat):eqFr p m t=((eqFs p m)[t]?).getD [48]:=rfl
theorem cfT (m:Nat):sm (fun t=>cmF p ys (m+1) t*(us[t]?).getD 0) p.free=sm (fun t=>cmF p ys m t*(us[t]?).getD 0) p.free+yq ys m*dt (eqFs p m) us p.free:=by
 rw [zqi,←ku,←rD];refine yP fun t _=>?_;show (cmF p ys m t+yq ys m*numOf (eqFr p m t))*_=_;rw [db]
 grind
variable (b:Built p p2 ys us M S)
include b
theorem Built.cm (m k i j:Nat):cmM p2 ys m k i j=cmM p ys m k i j:=by
 induction m with
 |zero=>rfl
 |succ m ih=>show cmM p2 ys m k i j+yq ys m*coL (eqEs p2 m) k i j=_;rw [ih,b.es];rfl
theorem Built.cf (m t:Nat):cmF p2 ys m t=cmF p ys m t:=by
 induction m with
 |zero=>rfl
 |succ m ih=>
  show cmF p2 ys m t+yq ys m*numOf (eqFr p2 m t)=_;rw [ih,db,b.fs,←db];rfl
theorem Built.slack (d:(dimN p)[k]?=some N)(a:i<N)(c:j<N):slM p2 ys (gP p2.eqs) k i j=S k i j:=by
 rw [←zgu,b.cm,b.len,b.ob k N i j d a c]
 grind
theorem Built.free {t:Nat}(a:t<p.free):slF p2 ys (gP p2.eqs) t=0:=by
 rw [←zlp,b.cf,b.len,b.of t a,Rat.sub_self]
theorem Built.res (a:i<gP p.eqs):rsQ p2 M us i=0:=by
 unfold rsQ;rw [b.es,b.fs,b.fr,b.rh i a,Rat.sub_self]
theorem Built.cmT (m:Nat):trB (dimN p) (cmM p ys (m+1)) M=trB (dimN p) (cmM p ys m) M+yq ys m*fm M (eqEs p m):=by
 obtain ⟨D,B,h⟩:=b.ee m;rw [zk9 b.sy h,←zc5,←fu];rfl
theorem Built.val (m:Nat)(d:m≤gP p.eqs):slV p2 ys m=trB (dimN p) (cmM p ys m) M+sm (fun t=>cmF p ys m t*(us[t]?).getD 0) p.free:=by
 induction m with
 |zero=>
  have a:trB (dimN p) (cmM p ys 0) M=0:=cw (dimN p) M;have c:sm (fun t=>cmF p ys 0 t*(us[t]?).getD 0) p.free=0:=uO fun t _=>Cg _;rw [a,c,A2];rfl
 |succ m ih=>
  show slV p2 ys m+yq ys m*numOf (eqRh p2 m)=_;rw [ih zo,b.rh m zo,b.cmT,cfT]
  grind
theorem Built.gap:slV p2 ys (gP p2.eqs)-vaQ p2 M us=trB (dimN p) S M:=by
 obtain ⟨D,B,h⟩:=b.eo;have a:trB (dimN p) (coL p2.obj) M=trB (dimN p) (cmM p ys (gP p.eqs)) M+ -1*trB (dimN p) S M:=by
  rw [←zc5,←fu];exact zc6 fun k N i j f d e=>b.ob k N i j f d e
 have c:dt p2.objFree us p2.free=sm (fun t=>cmF p ys (gP p.eqs) t*(us[t]?).getD 0) p.free:=by
  rw [zqi,b.fr];exact yP fun t g=>by rw [b.of t g]
 unfold vaQ;rw [b.len,b.val _ eT,zk9 b.sy h,a,c]
 grind
end
end Go.Proofs.YtfajmfoofmienaaGreatDoor
