import Derived.KernelRfl
import Derived.Lib.Mul64
import Derived.Lib.TrailingZeros
import Derived.Test.YteoagenjaemllaaGreatDoorScaA
open Option renaming some→ξ,none→θ
open Bool renaming true→φ,false→χ
open Go renaming Value→ψ
set_option linter.defProp false
open BitVec renaming ofInt→Fx,ofNat→E0
open Bool renaming and_eq_true→DY,and_self→Eg,not_false→GX,or_true→Jx
open Classical renaming byContradiction→Df
open Go.GL.Tr renaming get_put→IQ,put→HK,set_eq→HE
open Go.IntKind renaming bits→EP,signed→FS,wrap→DE
open Go.Lib renaming ctz→aa6,deBruijn64tab→Jb,half_mul_le→JF
open Go.Proofs.Tryz renaming f122→FC,f165→IK
open Go.Value renaming bool→CV,int→U,pointer→CZ,slice→Y,string→CY,tuple→It
open Iff renaming rfl→GQ
open Int renaming lt_trichotomy→H6,natAbs_natCast→Dk,toNat_natCast→Ew
open List renaming all_cons→J8,append_assoc→DH,append_nil→DJ,cons_append→Gn,drop→JX,dropLast_concat_getLast→Hb,drop_drop→EH,drop_eq_getElem_cons→EX,drop_length→EI,drop_set_of_lt→FU,drop_zero→DO,eq_of_mem_replicate→HQ,getElem?_cons_succ→H0,getElem?_drop→D9,getElem?_eq_getElem→CW,getElem?_eq_none→Dn,getElem?_eq_some_iff→C4,getElem?_map→Dz,getElem?_take_of_lt→Ek,length→O,length_append→C1,length_cons→DM,length_eq_zero_iff→De,length_map→Da,length_nil→FV,length_set→DX,length_singleton→Db,length_take→DK,map_set→am7,map_take→Gj,mem_append→Ei,mem_cons→DA,mem_of_getElem?→C0,mem_of_mem_drop→FO,mem_of_mem_take→D8,mem_or_eq_of_mem_set→IY,nil_append→DR,not_mem_nil→C6,replicate→C3,replicate_succ→GU,replicate_zero→Fp,set_append_right→Ej,set_eq_take_append_cons_drop→H3,take_append_drop→Eb,take_append_of_le_length→Fc,take_length→Ds,take_of_length_le→C7,take_take→GY,take_zero→E1
open Nat renaming Coprime→GF,add_assoc→HP,add_comm→EE,add_mul→Dq,add_mul_div_left→Hq,add_mul_mod_self_left→FX,add_mul_mod_self_right→Gq,add_sub_cancel→Fh,add_zero→DV,and_one_is_mod→Ki,and_two_pow_sub_one_eq_mod→Ik,beq→D5,beq_refl→IF,ble→DC,ble_eq_true_of_le→C8,blt→H4,div_add_mod→Em,div_div_eq_div_mul→FB,div_eq_of_lt→EZ,div_le_self→EL,div_lt_iff_lt_mul→EF,div_mul_le_self→J1,dvd_of_mod_eq_zero→Jy,eq_of_beq_eq_true→DU,eq_of_mul_eq_mul_left→FY,eq_of_mul_eq_mul_right→Hs,gcd→Dh,gcd_comm→E5,gcd_zero_right→G6,le_div_iff_mul_le→FF,le_of_ble_eq_true→Dt,le_refl→Ez,le_succ→Du,le_total→am8,le_trans→Dy,lt_of_le_of_lt→Dw,lt_of_lt_of_le→Dm,lt_or_gt_of_ne→HV,max_eq_left→af8,max_eq_right→ac8,min→Ju,min_eq_left→Ee,min_eq_right→Jn,mod_eq_of_lt→Di,mod_lt→DS,mul_add→DW,mul_assoc→Dp,mul_comm→C5,mul_div_cancel_left→Fu,mul_le_mul→DG,mul_le_mul_left→Do,mul_le_mul_right→C9,mul_left_comm→E2,mul_lt_mul_of_pos_right→EQ,mul_mod_mul_left→Hr,mul_mod_mul_right→Hh,mul_mod_right→Hk,mul_one→D1,mul_pos→Fv,mul_right_comm→F5,mul_zero→EJ,one_mul→Et,or_eq_zero_iff→Kh,or_lt_two_pow→Jc,or_mod_two_pow→Kg,pow_add→Ef,pow_le_pow_left→GT,pow_le_pow_right→Dd,pow_mul→HZ,pow_one→ae7,pow_pos→DQ,pow_succ→Dj,pow_zero→EV,sub_self→Ec,sub_zero→GC,two_pow_add_eq_or_of_lt→IG,zero_add→Dl,zero_mul→Ep
open Nat.Coprime renaming gcd_mul_left_cancel_right→HG,pow_right→ao6
open Option renaming getD_none→Jp,getD_some→Jo,isNone_none→F3,isSome_iff_exists→DL
open Option.some renaming inj→El,injEq→H5
open Prod.mk renaming injEq→Fm
open UInt8 renaming ofNat→EA
set_option maxHeartbeats 8000000
set_option linter.unusedVariables false
set_option linter.unusedSimpArgs false
namespace Go.GL
open Go
variable {α β:Type}{b i j m n d n0 nt:Nat}{e:TypeId}{vs args:List ψ}{v:ψ}{w:List Nat}{o:Oper}{E:Env}{f:FuncId}
abbrev TF:=Nat->ψ
inductive BF where
 |row (c:List ψ) (e:TypeId)
 |ro (c:List ψ)
 |loop (ready:Bool) (pending:Option Code) (t:TF) (nt:Nat) (ps:List Tmp) (assign body:Code) (d:Nat)
 |dfr
abbrev HF:=Nat->Option BF
def BF.cells:BF->Option (List ψ)
 | .row c _=>ξ c
 | .ro c=>ξ c
 |_=>θ
noncomputable def Blk.view:Blk->BF
 | .row c e=>.row c e
 | .ro c=>.ro c
 | .loop r p t nt ps a b d=>.loop r p (nth t) nt ps a b d
 | .dfr=>.dfr
noncomputable def hv(h:Hp):HF:=λb=>(h.at b).map Blk.view
def upd{α:Type}(f:Nat->α)(i:Nat)(v:α):Nat->α:=λj=>if j=i then v else f j
theorem zg(f:Nat->α)(i:Nat)(v:α):upd f i v i=v:=by simp[upd]
theorem zm{f:Nat->α}{v:α}(h:j≠i):upd f i v j=f j:=by simp[upd,h]
def uk(f:Nat->α)(i:Nat)(v w:α):upd (upd f i v) i w=upd f i w:=by funext j;simp only[upd];split<;>rfl
def upd_self{f:Nat->α}{v:α}(h:f i=v):upd f i v=f:=by funext j;simp only[upd];split;rename_i e;rw[e,h];rfl
def fT(t:Tr ψ)(i:Nat)(v:ψ):nth (HK t i v)=upd (nth t) i v:=by funext j;exact IQ undef ω t i v j
def uJ(h:Hp)(b:Nat)(x:Option Blk):hv (HK h b x)=upd (hv h) b (x.map Blk.view):=by funext c;unfold hv upd;rw[show Hp.at (HK h b x) c=if c=b then x else h.at c from IQ θ ω h b x c];split<;>rfl
def O4{h:Hp}{x:Blk}(e:h.at b=ξ x):hv h b=ξ x.view:=by simp[hv,e]
def uC{h:Hp}{y:BF}(e:hv h b=ξ y):∃x,h.at b=ξ x/\x.view=y:=by unfold hv at e;simpa using e
def V6(x:Blk):x.view.cells=x.cells:=by cases x<;>rfl
def V7{x:Blk}{c:List ψ}(h:x.view=.row c e):x=.row c e:=by cases x<;>simp[Blk.view]at h;obtain⟨rfl,rfl⟩:=h;rfl
def Kn(τ:TF):Operand->ψ
 | .tmp i=>τ i
 | .const v=>(match closed v with|true=>v|false=>undef)
 | .global g=>ι (3*g)
 | .func f=>.func (.func f) #[] #[]
def eK(t:Tr ψ):ev t=Kn (nth t):=by funext x;cases x<;>rfl
def tR(h:HF)(a:Addr)(n:Nat):Option (List ψ):=
 match h a.block with
 |some x=>(match x.cells with|some c=>(match DC (a.off+n) (O c)&&a.spot.isNone with|true=>ξ ((c.drop a.off).take n)|false=>θ)|none=>θ)
 |none=>θ
def bh(h:Hp)(a:Addr)(n:Nat):md h a n=tR (hv h) a n:=by
 unfold md tR;cases e:h.at a.block with
 |none=>simp[hv,e]
 |some x=>rw[O4 e];simp only[V6];rfl
def LY(h:HF)(a:Addr)(vs:List ψ):Option HF:=
 match h a.block with
 |some (.row c e)=>(match DC (a.off+O vs) (O c)&&(a.spot.isNone&&ones vs)with|true=>ξ (upd h a.block (ξ (.row (zu c a.off vs) e)))|false=>θ)
 |_=>θ
def pX{h:Hp}{a:Addr}{g:HF}(d:LY (hv h) a vs=ξ g):∃h',qN h a vs=ξ h'/\hv h'=g:=by unfold LY at d;split at d;rename_i c e hb;have⟨x,f,l⟩:=uC hb;have:=V7 l;subst this;split at d;rename_i hc;injection d with d;refine⟨HK h a.block (ξ (.row (zu c a.off vs) e)),?_,?_⟩;unfold qN;rw[f];simp only[hc,xZ,HE];rw[uJ,<-d];rfl;cases d;cases d
def yB(E:Env)(t:TypeId)(h:HF)(a:Addr):Option ψ:=
 match isAgg E t,E.inf t with
 |some φ,ξ (sz,_,_)=>(tR h a sz).map λcs=>.agg cs.toArray
 |some χ,_=>match tR h a 1 with|some [v]=>ξ v|_=>θ
 |_,_=>θ
def bg(E:Env)(t:TypeId)(h:Hp)(a:Addr):oN E t h a=yB E t (hv h) a:=by unfold oN yB;simp only[bh];rfl
inductive RF where
 |val (v:ψ) (h:HF) (n:Nat) (w:List Nat)
 |enter (f:FuncId) (args:List ψ)
 |round (l:Nat) (args:List ψ)
noncomputable def R.view:R->RF
 | .val v h n w=>.val v (hv h) n w
 | .enter f a=>.enter f a
 | .round l a=>.round l a
def yD(h:HF)(size n:Nat):ψ->Option (List ψ)
 | Y (ξ a) _ _=>if n*size=0 then ξ []else tR h a (n*size)
 | Y θ _ _=>ξ []
 | CY s=>ξ ((s.data.toList.take n).map λb=>U .u8 b.toNat)
 |_=>θ
def sU(h:Hp)(a n:Nat)(v:ψ):jX h a n v=yD (hv h) a n v:=by unfold jX yD;split<;>simp only[bh]
def jM(h:HF)(b cells:Nat)(e:TypeId):Bool:=match h b with|some (.row c e')=>D5 (O c) cells&&D5 e' e|_=>χ
def V8(h:Hp)(b cells:Nat)(e:TypeId):NZ h b cells e=jM (hv h) b cells e:=by
 unfold NZ jM;cases hx:h.at b with
 |none=>simp[hv,hx]
 |some x=>rw[O4 hx];cases x<;>rfl
def MF(h:HF)(n:Nat)(e:TypeId)(cs:List ψ)(need cells sz:Nat)(base:Option Addr):Option RF:=
 match base with
 |none=>ξ (.val (Y (ξ ⟨3*n+1,0,θ⟩) need need) (upd h (3*n+1) (ξ (.row cs e))) (n+1) [])
 |some a=>
  match gro a.block with
  |true=>
   match D5 a.off 0&&(a.spot.isNone&&(jM h a.block cells e&&(ones cs&&D5 (O cs) (need*sz))))with
   |true=>ξ (.val (Y (ξ ⟨3*n+1,0,θ⟩) need need) (upd (upd h a.block θ) (3*n+1) (ξ (.row cs e))) (n+1) [a.block])
   |false=>θ
  |false=>ξ (.val (Y (ξ ⟨3*n+1,0,θ⟩) need need) (upd h (3*n+1) (ξ (.row cs e))) (n+1) [])
def To{α β:Type}(view:α->β)(a:Option α)(b:Option β):Prop:=∀y,b=ξ y->∃x,a=ξ x/\view x=y
def V9(h:Hp)(n:Nat)(e:TypeId)(cs:List ψ)(need cells sz:Nat)(d:Option Addr):To R.view (MT h n e cs need cells sz d) (MF (hv h) n e cs need cells sz d):=by
 intro y c;unfold MF at c;unfold MT;cases d with
 |none=>
  injection c with c;subst c;exact⟨_,HE _ _ _ _,Bn⟩
 |some a=>
  simp only at c⊢;cases hg:gro a.block with
  |true=>
   simp only[hg,V8]at c⊢;split at c;rename_i hc;injection c with c;subst c;simp only[hc,HE];exact⟨_,ω,Bn⟩;cases c
  |false=>
   simp only[hg]at c⊢;injection c with c;subst c;exact⟨_,HE _ _ _ _,Bn⟩
def uB(h:HF)(n size need:Nat)(base:Option Addr)(sLen sCap:Nat)(new:List ψ):Option RF:=
 match base,new with
 |_,[]=>ξ (.val (Y base need sCap) h n [])
 |some a,new=>(match LY h (a.add (sLen*size)) new with|some h=>ξ (.val (Y base need sCap) h n [a.block])|none=>θ)
 |none,_=>θ
def Wa(h:Hp)(n m need:Nat)(d:Option Addr)(l f:Nat)(new:List ψ):To R.view (tq h n m need d l f new) (uB (hv h) n m need d l f new):=by
 intro y c;cases new with
 |nil=>
  cases d<;>(unfold uB at c;unfold tq;injection c with c;subst c;exact⟨_,ω,ω⟩)
 |cons v new=>
  cases d with
  |none=>cases c
  |some a=>
   unfold uB at c;unfold tq;simp only at c⊢;split at c;rename_i g hg;injection c with c;subst c;exact Cu;cases c
def yW(E:Env)(h:HF)(n:Nat)(sT:TypeId)(s x:ψ):Option RF:=
 match E.und sT with
 |some (.slice e)=>
  match E.inf e,s,lenOf? x with
  |some (size,bytes,z),Y base sLen sCap,ξ m=>
   match yD h size m x with
   |some new=>
    match DC ((sLen+m)*bytes) 1099511627776&&(D5 (O (zn z)) size&&DC 1 size&&DC 1 bytes)with
    |true=>
     match DC (sLen+m) sCap with
     |true=>uB h n size (sLen+m) base sLen sCap new
     |false=>
      match yD h size sLen s with
      |some old=>MF h n e (old++new) (sLen+m) (sCap*size) size base
      |none=>θ
    |false=>θ
   |none=>θ
  |_,_,_=>θ
 |_=>θ
def Wb(E:Env)(h:Hp)(n:Nat)(sT:TypeId)(s x:ψ):To R.view (qI E h n sT s x) (yW E (hv h) n sT s x):=by intro y a;unfold yW at a;unfold qI;split at a;rename_i e hu;simp only[hu];split at a;rename_i size bytes z base sLen sCap m hi hm;simp only[hi,hm,sU];split at a;rename_i new hnew;simp only[hnew];split at a;rename_i hc;simp only[hc];split at a;rename_i hp;simp only[hp];exact Wa _ _ _ _ _ _ _ _ y a;rename_i hp;simp only[hp];split at a;rename_i old hold;simp only[hold,xZ];exact V9 _ _ _ _ _ _ _ _ y a;cases a;cases a;cases a;cases a;cases a
def M0(E:Env)(h:HF)(n:Nat)(dT:TypeId)(d x:ψ):Option RF:=
 match E.und dT with
 |some (.slice e)=>
  match E.inf e,d,lenOf? x with
  |some (size,_,_),Y base dLen _,ξ m=>
   match yD h size (Ju m dLen) x,base with
   |some [],_=>ξ (.val (goInt (Ju m dLen)) h n [])
   |some cs,ξ a=>(match LY h a cs with|some h=>ξ (.val (goInt (Ju m dLen)) h n [a.block])|none=>θ)
   |_,_=>θ
  |_,_,_=>θ
 |_=>θ
def Wc(E:Env)(h:Hp)(n:Nat)(l:TypeId)(d x:ψ):To R.view (MU E h n l d x) (M0 E (hv h) n l d x):=by
 intro y f;unfold M0 at f;unfold MU;split at f;rename_i e hu;simp only[hu];split at f;rename_i size _ _ base dLen c m hi hm;simp only[hi,hm,sU];cases hcs:yD (hv h) size (Ju m dLen) x with
 |none=>rw[hcs]at f;cases base<;>cases f
 |some cs=>
  rw[hcs]at f;cases cs with
  |nil=>
   cases base<;>(simp only at f⊢;injection f with f;subst f;exact⟨_,ω,ω⟩)
  |cons v cs=>
   cases base with
   |none=>cases f
   |some a=>
    simp only at f⊢;split at f;rename_i g hg;injection f with f;subst f;exact Cu;cases f
 cases f;cases f
def uG(E:Env)(t:TypeId)(a x:ψ)(h:HF)(n:Nat):Option RF:=
 match a,E.inf t with
 | CZ (ξ ad),ξ (sz,_,_)=>
  match D5 (O (zn x)) sz with
  |true=>(match LY h ad (zn x)with|some h=>ξ (.val undef h n [ad.block])|none=>θ)
  |false=>θ
 |_,_=>θ
def We(E:Env)(t:TypeId)(a x:ψ)(h:Hp)(n:Nat):To R.view (mC E t a x h n) (uG E t a x (hv h) n):=by intro y c;unfold uG at c;unfold mC;split at c;rename_i ad sz _ _ hi;simp only[hi];split at c;rename_i hl;simp only[hl];split at c;rename_i g hg;injection c with c;subst c;have⟨l,d,f⟩:=pX hg;rw[d];exact⟨_,ω,by simp[R.view,f]⟩;cases c;cases c;cases c
def Qx(E:Env)(f:ψ)(args:List ψ)(h:HF)(n:Nat):Option RF:=
 match f with
 | .func (.func g) first cap=>(match E.ext g (first.toList++(args++cap.toList))with|some v=>ξ (.val v h n [])|none=>ξ (.enter g (first.toList++(args++cap.toList))))
 | .func (.yield l) first _=>ξ (.round l (first.toList++args))
 |_=>θ
def appF(E:Env)(ts:List TypeId)(args:List ψ)(h:HF)(n:Nat):Option RF:=
 match args,ts with
 |[s,x],[sT,xT]=>(match E.und xT with|some (.int _)=>θ|none=>θ|_=>yW E h n sT s x)
 |_,_=>θ
def cpyF(E:Env)(ts:List TypeId)(args:List ψ)(h:HF)(n:Nat):Option RF:=
 match args,ts with
 |[s,x],sT::_=>M0 E h n sT s x
 |_,_=>θ
def Qy(E:Env)(c:Callee)(ts:List TypeId)(ρ:Operand->ψ)(args:List ψ)(h:HF)(n:Nat):Option RF:=
 match c with
 | .builtin .append=>appF E ts args h n
 | .builtin .copy=>cpyF E ts args h n
 | .value f=>Qx E (ρ f) args h n
 |_=>θ
def effF(E:Env)(o:Op)(ρ:Operand->ψ)(h:HF)(n:Nat):Option RF:=
 match o with
 | .store t a x=>uG E t (ρ a) (ρ x) h n
 | .call c=>Qy E c.callee c.argTypes.toList ρ (c.args.toList.map ρ) h n
 |_=>θ
def O5(E:Env)(o:Op)(ρ:Operand->ψ)(h:Hp)(n:Nat):To R.view (effE E o ρ h n) (effF E o ρ (hv h) n):=by
 intro y a;unfold effF at a;unfold effE;split at a;exact We _ _ _ _ _ _ y a;rename_i c;unfold Qy at a;unfold qH;split at a;rename_i hcal;simp only[hcal];unfold appF at a;unfold appE;split at a;rename_i s x sT xT hs hT;simp only[hs,hT];split at a;cases a;cases a;rename_i h1 h2;cases hu:E.und xT with
 |none=>exact CO hu h2
 |some d=>
  cases d with
  |int k=>exact CO hu (h1 k)
  |_=>exact Wb _ _ _ _ _ _ y a
 cases a;rename_i hcal;simp only[hcal];unfold cpyF at a;unfold cpyE;split at a;rename_i s x sT r hs hT;simp only[hs,hT];exact Wc _ _ _ _ _ _ y a;cases a;rename_i f hcal;simp only[hcal];unfold Qx at a;unfold Nt;cases hf:ρ f with
 |func p first m=>
  rw[hf]at a;cases p with
  |func g=>
   simp only at a⊢;cases hx:E.ext g (first.toList++(c.args.toList.map ρ++m.toList))with
   |none=>simp only[hx]at a⊢;injection a with a;subst a;exact⟨_,ω,ω⟩
   |some v=>simp only[hx]at a⊢;injection a with a;subst a;exact⟨_,ω,ω⟩
  |yield l=>simp only at a⊢;injection a with a;subst a;exact⟨_,ω,ω⟩
  |_=>cases a
 |_=>rw[hf]at a;cases a
 cases a;cases a
def rX(E:Env)(t d:TypeId)(x:ψ)(h:HF):Option ψ:=
 match x,E.und t,E.und d with
 | Y a len c,ξ (.slice e),ξ .string=>
  match E.und e,yD h 1 len (Y a len c)with
  |some (.int .u8),ξ cs=>(match pi cs with|some l=>ξ (CY ⟨⟨l⟩⟩)|none=>θ)
  |_,_=>θ
 |_,_,_=>θ
def Wf(E:Env)(t d:TypeId)(x:ψ)(h:Hp):Nu E t d x h=rX E t d x (hv h):=by unfold Nu rX;simp only[sU];rfl
def po(E:Env)(o:Op)(ρ:Operand->ψ)(h:HF):Option (ψ×Nat):=
 match o with
 | .load t a=>(match ρ a with| CZ (ξ ad)=>(match yB E t h ad with|some v=>ξ (v,ad.block)|none=>θ)|_=>θ)
 |_=>θ
def Qz(E:Env)(o:Op)(ρ:Operand->ψ)(h:Hp):uA E o ρ h=po E o ρ (hv h):=by unfold uA po;simp only[bg];rfl
structure SV where
 t:TF
 h:HF
 n:Nat
 w:List Nat
noncomputable def vw(s:St):SV:=⟨nth s.t,hv s.h,s.n,s.w⟩
structure CalF where
 call:FuncId->List ψ->HF->Nat->Option (ψ×HF×Nat×List Nat)
 yl:Nat->List ψ->HF->Nat->Option (ψ×HF×Nat×List Nat)
structure CtxF where
 E:Env
 C:CalF
 L:Nat
 round:Option Nat
 n0:Nat
 nt:Nat
noncomputable def rv(r:ψ×Hp×Nat×List Nat):ψ×HF×Nat×List Nat:=(r.1,hv r.2.1,r.2.2.1,r.2.2.2)
structure CalTo (C:Cal)(F:CalF):Prop where
 call:∀f args h n,To rv (C.call f args h n) (F.call f args (hv h) n)
 yl:∀l args h n,To rv (C.yl l args h n) (F.yl l args (hv h) n)
structure CtxTo (X:Ctx)(Z3:CtxF):Prop where
 E:X.E=Z3.E
 C:CalTo X.C Z3.C
 L:X.L=Z3.L
 round:X.round=Z3.round
 n0:X.n0=Z3.n0
 nt:X.nt=Z3.nt
def zv(nt:Nat):Option Tmp->Bool
 |some i=> !Nat.ble nt i
 |none=>φ
def putF(τ:TF):Option Tmp->ψ->TF
 |some i,v=>upd τ i v
 |none,_=>τ
def xH{β:Type}(X:CtxF)(s:SV)(d:Option Tmp)(v:ψ)(h:HF)(n:Nat)(w:List Nat)(k:SV->Option β):Option β:=
 match zv X.nt d with
 |true=>k ⟨putF s.t d v,h,n,addW X.n0 w s.w⟩
 |false=>θ
def wM{c:α->β}{X:Ctx}{Z3:CtxF}(a:CtxTo X Z3){s:St}{d:Option Tmp}{h:Hp}{k:St->Option α}{g:SV->Option β}(f:∀s,To c (k s) (g (vw s))):
  To c (done X s d v h n w k) (xH Z3 (vw s) d v (hv h) n w g):=by
 intro y b;unfold xH at b;unfold done;rw[rJ];split at b;rename_i e;cases d with
 |none=>
  simp only[putK,xm];refine f _ y ?_;rw[<-b,a.n0];rfl
 |some i=>
  have e:DC X.nt i=χ:=by rw[a.nt];simpa [zv]using e
  simp only[putK,e,HE,xm];refine f _ y ?_;rw[<-b,a.n0];simp[vw,putF,fT]
 cases b
def Mr{β:Type}(X:CtxF)(s:SV)(d:Option Tmp)(m:Mk)(k:SV->Option β):Option β:=
 xH X s d (m.val s.n) (upd s.h (m.name s.n) (ξ (.row m.c m.e))) (s.n+1) [] k
def O6{a:α->β}{X:Ctx}{Z3:CtxF}(b:CtxTo X Z3){s:St}{d:Option Tmp}{m:Mk}{k:St->Option α}{f:SV->Option β}(g:∀s,To a (k s) (f (vw s))):
  To a (Mn X s d m k) (Mr Z3 (vw s) d m f):=by unfold Mn Mr;rw[xZ,HE];have:=wM b (s:=s) (d:=d) (v:=m.val s.n) (h:=HK s.h (m.name s.n) (ξ (.row m.c m.e))) (n:=s.n+1) (w:=[]) g;rw[uJ]at this;exact this
def mf{β:Type}(X:CtxF)(s:SV)(o:Oper)(k:SV->List Nat->Option β):Option β:=
 match effF X.E o.op (Kn s.t) s.h s.n with
 |some (.val v h n w)=>xH X s o.dst v h n w λs=>k s w
 |some (.enter f args)=>(match X.C.call f args s.h s.n with|some (v,h,n,w)=>xH X s o.dst v h n w λs=>k s w|none=>θ)
 |some (.round l args)=>(match X.C.yl l args s.h s.n with|some (v,h,n,w)=>xH X s o.dst v h n w λs=>k s w|none=>θ)
 |none=>θ
def QA{j:α->β}{X:Ctx}{Z3:CtxF}(a:CtxTo X Z3){s:St}{k:St->List Nat->Option α}{B:SV->List Nat->Option β}(u:∀s w,To j (k s w) (B (vw s) w)):
  To j (effK X s o k) (mf Z3 (vw s) o B):=by
 intro y b;unfold mf at b;unfold effK;split at b;rename_i v h n w he;have⟨r,d,e⟩:=O5 _ _ _ _ _ _ he;rw[a.E,eK,show effE Z3.E o.op (Kn (nth s.t)) s.h s.n=ξ r from d];cases r with
 |val F A D p=>
  simp only[R.view,RF.val.injEq]at e;obtain⟨rfl,rfl,rfl,rfl⟩:=e;exact wM a (λs=>u s p) y b
 |enter=>cases e
 |round=>cases e
 rename_i f args he;have⟨r,d,e⟩:=O5 _ _ _ _ _ _ he;rw[a.E,eK,show effE Z3.E o.op (Kn (nth s.t)) s.h s.n=ξ r from d];cases r with
 |enter f' args'=>
  simp only[R.view,RF.enter.injEq]at e;obtain⟨rfl,rfl⟩:=e;simp only;split at b;rename_i v g n w hc;have⟨⟨F,A,D,p⟩,q,c⟩:=a.C.call _ _ _ _ _ hc;simp only[rv,Fm]at c;obtain⟨rfl,rfl,rfl,rfl⟩:=c;rw[show X.C.call f' args' s.h s.n=_ from q];exact wM a (λs=>u s p) y b;cases b
 |val=>cases e
 |round=>cases e
 rename_i l args he;have⟨r,d,e⟩:=O5 _ _ _ _ _ _ he;rw[a.E,eK,show effE Z3.E o.op (Kn (nth s.t)) s.h s.n=ξ r from d];cases r with
 |round l' args'=>
  simp only[R.view,RF.round.injEq]at e;obtain⟨rfl,rfl⟩:=e;simp only;split at b;rename_i v g n w hc;have⟨⟨F,A,D,p⟩,q,c⟩:=a.C.yl _ _ _ _ _ hc;simp only[rv,Fm]at c;obtain⟨rfl,rfl,rfl,rfl⟩:=c;rw[show X.C.yl l' args' s.h s.n=_ from q];exact wM a (λs=>u s p) y b;cases b
 |val=>cases e
 |enter=>cases e
 cases b
def Lt{β:Type}(X:CtxF)(s:SV)(o:Oper)(k:SV->Option β):Option β:=
 match Ku o.op with
 |0=>(match yy X.E o.op (Kn s.t)with|some v=>xH X s o.dst v s.h s.n [] k|none=>θ)
 |1=>(match po X.E o.op (Kn s.t) s.h with|some (v,_)=>xH X s o.dst v s.h s.n [] k|none=>θ)
 |2=>(match KD X.E o.op (Kn s.t)with|some m=>Mr X s o.dst m k|none=>θ)
 |3=>mf X s o λs _=>k s
 |_=>
  match KD X.E o.op (Kn s.t)with
  |some m=>Mr X s o.dst m k
  |none=>
   match o.op with
   | .convert t d x=>(match rX X.E t d (Kn s.t x) s.h with|some v=>xH X s o.dst v s.h s.n [] k|none=>(match yy X.E o.op (Kn s.t)with|some v=>xH X s o.dst v s.h s.n [] k|none=>θ))
   |_=>θ
def Wg{g:α->β}{X:Ctx}{Z3:CtxF}(e:CtxTo X Z3){s:St}{k:St->Option α}{l:SV->Option β}(f:∀s,To g (k s) (l (vw s))):
  To g (ME X s o k) (Lt Z3 (vw s) o l):=by
 intro y a;have j:ev s.t=Kn (vw s).t:=eK _;unfold Lt at a;unfold ME;rw[e.E,j];cases hc:Ku o.op with
 |zero=>
  simp only[hc]at a⊢;split at a;rename_i v hv';rw[hv'];exact wM e f y a;cases a
 |succ c=>
  cases c with
  |zero=>
   simp only[hc]at a⊢;split at a;rename_i v b hv';rw[Qz,show po Z3.E o.op (Kn (vw s).t) (hv s.h)=ξ (v,b)from hv'];exact wM e f y a;cases a
  |succ c=>
   cases c with
   |zero=>
    simp only[hc]at a⊢;split at a;rename_i m hm;rw[hm];exact O6 e f y a;cases a
   |succ c=>
    cases c with
    |zero=>
     simp only[hc]at a⊢;exact QA e (λs _=>f s) y a
    |succ c=>
     simp only[hc]at a⊢;split at a;rename_i m hm;simp only[hm];exact O6 e f y a;rename_i hm;simp only[hm];split at a;rename_i t d x ho;simp only[ho,Wf];simp only[ho]at a;cases ht:rX Z3.E t d (Kn (vw s).t x) (vw s).h with
     |some v=>
      rw[ht]at a;rw[show rX Z3.E t d (Kn (vw s).t x) (hv s.h)=ξ v from ht];exact wM e f y a
     |none=>
      rw[ht]at a;rw[show rX Z3.E t d (Kn (vw s).t x) (hv s.h)=θ from ht];simp only at a⊢;split at a;rename_i v hv';rw[hv'];exact wM e f y a;cases a
     cases a
def zh(ops:List Oper)(τ:TF)(o:Oper):Bool:=
 match o.guard with
 |none=>φ
 |some (j,b)=>
  match ops[j]? with
  |some g=>(match g.dst with|some d=>(match τ d with| CV c=>(match b,c with|true,φ=>φ|false,χ=>φ|_,_=>χ)|_=>χ)|none=>χ)
  |none=>χ
def mr(ops:List Oper)(t:Tr ψ)(o:Oper):vf ops t o=zh ops (nth t) o:=rfl
def seqF(X:CtxF)(ops:List Oper):List Oper->SV->Option SV
 |[],s=>ξ s
 |o::r,s=>(match zh ops s.t o with|true=>Lt X s o (seqF X ops r)|false=>xH X s o.dst undef s.h s.n [] (seqF X ops r))
def Wh{X:Ctx}{Z3:CtxF}(a:CtxTo X Z3)(ops:List Oper):∀(l:List Oper) (s:St),To vw (tM X ops l s) (seqF Z3 ops l (vw s)):=by
 intro l;induction l with
 |nil=>intro s y b;injection b with b;exact⟨s,ω,b⟩
 |cons o l ih=>
  intro s;show To vw (Bool.rec (motive:=λ_=>Option St) (done X s o.dst undef s.h s.n [] (tM X ops l)) (ME X s o (tM X ops l)) (vf ops s.t o)) _;unfold seqF;rw[mr];cases hw:zh ops (nth s.t) o with
  |true=>
   rw[show zh ops (vw s).t o=φ from hw];exact Wg a ih
  |false=>
   rw[show zh ops (vw s).t o=χ from hw];exact wM a ih
structure DF where
 s:SV
 al:List (Nat×Nat)
 ld:List (Nat×Nat)
 ef:List (Nat×HF×List Nat)
noncomputable def LZ(l:List (Nat×Hp×List Nat)):List (Nat×HF×List Nat):=l.map λx=>(x.1,hv x.2.1,x.2.2)
noncomputable def dv(d:Dr):DF:=⟨vw d.s,d.al,d.ld,LZ d.ef⟩
def LM(u b:Nat):List (Nat×HF×List Nat)->Bool
 |[]=>φ
 |(e,_,W)::r=>(match H4 e u|| !memN b W with|true=>LM u b r|false=>χ)
def wn(m:Nat):List (Nat×HF×List Nat)->Nat->HF->Nat×HF
 |[],u,h=>(u,h)
 |(e,g,_)::r,u,h=>(match m.testBit e with|true=>wn m r u h|false=>wn m r e g)
def xq(m:Nat):List (Nat×HF×List Nat)->Bool
 |[]=>φ
 |(j,_)::r=>(match m.testBit j with|true=>xq m r|false=>χ)
def Wi(u b:Nat)(l:List (Nat×Hp×List Nat)):qS u b l=LM u b (LZ l):=by
 induction l with
 |nil=>rfl
 |cons x l ih=>
  have⟨e,g,W⟩:=x;show(match H4 e u|| !memN b W with|true=>qS u b l|false=>χ)=(match H4 e u|| !memN b W with|true=>LM u b (LZ l)|false=>χ);rw[ih]
theorem Wj(m:Nat)(l:List (Nat×Hp×List Nat)):gu m l=xq m (LZ l):=by induction l<;>grind [gu,xq,LZ]
def Wk(m:Nat):∀(l:List (Nat×Hp×List Nat)) (u:Nat) (h:Hp),wn m (LZ l) u (hv h)=((vQ m l u h).1,hv (vQ m l u h).2):=by
 intro l;induction l with
 |nil=>intro u h;rfl
 |cons x l ih=>
  intro u h;have⟨e,g,W⟩:=x;show(match m.testBit e with|true=>wn m (LZ l) u (hv h)|false=>wn m (LZ l) e (hv g))=_;unfold vQ;split;rename_i hb;simp only[hb];exact ih u h;rename_i hb;simp only[hb];exact ih e g
def rL{β:Type}(X:CtxF)(i m:Nat)(o:Oper)(d:DF)(k:DF->Option β):Option β:=
 match Ku o.op with
 |1=>
  match wn m d.ef i d.s.h with
  |(u,h)=>
   match po X.E o.op (Kn d.s.t) h with
   |some (v,b)=>(match LM u b d.ef&&qn m b d.al with|true=>xH X d.s o.dst v d.s.h d.s.n [] λs=>k {d with s,ld:=(i,b)::d.ld}|false=>θ)
   |none=>θ
 |2=>
  match KD X.E o.op (Kn d.s.t)with
  |some mk=>Mr X d.s o.dst mk λs=>k {d with s,al:=(i,mk.name d.s.n)::d.al}
  |none=>θ
 |3=>
  match xq m d.ef&&xJ m d.al with
  |true=>mf X d.s o λs W=>(match ya m W d.ld&&DC d.s.n s.n with|true=>k {d with s,ef:=(i,d.s.h,W)::d.ef}|false=>θ)
  |false=>θ
 |_=>(match yy X.E o.op (Kn d.s.t)with|some v=>xH X d.s o.dst v d.s.h d.s.n [] λs=>k {d with s}|none=>θ)
def Wl{f:α->β}{X:Ctx}{Z3:CtxF}(c:CtxTo X Z3){d:Dr}{k:Dr->Option α}{p:DF->Option β}(g:∀d,To f (k d) (p (dv d))):
  To f (Nv X i m o d k) (rL Z3 i m o (dv d) p):=by intro y a;have l:ev d.s.t=Kn (dv d).s.t:=eK _;unfold rL at a;unfold Nv;rw[c.E,l];split at a;rename_i hc;simp only[hc];rw[show wn m (dv d).ef i (dv d).s.h=_ from Wk m d.ef i d.s.h]at a;generalize vQ m d.ef i d.s.h=uh at a;have⟨u,h⟩:=uh;simp only at a⊢;split at a;rename_i v b hl;rw[Qz,hl];simp only;split at a;rename_i hok;rw[Wi,show(LM u b (LZ d.ef)&&qn m b d.al)=φ from hok];exact wM c (λs=>g {d with s,ld:=(i,b)::d.ld}) y a;cases a;cases a;rename_i hc;simp only[hc];split at a;rename_i mk hm;rw[hm];exact O6 c (λs=>g {d with s,al:=(i,mk.name d.s.n)::d.al}) y a;cases a;rename_i hc;simp only[hc];split at a;rename_i hok;rw[Wj,show(xq m (LZ d.ef)&&xJ m d.al)=φ from hok];refine QA c (λs W=>?_) y a;intro z j;split at j;rename_i hok2;rw[show(ya m W d.ld&&DC d.s.n s.n)=φ from hok2];exact g {d with s,ef:=(i,d.s.h,W)::d.ef} z j;cases j;cases a;rename_i h1 h2 h3;have:∀(A B C D:Option α),(match Ku o.op with|1=>A|2=>B|3=>C|_=>D)=D:=λA B C D=>(by split;exact CO mo h1;exact CO mo h2;exact CO mo h3;rfl);have e:=this;split;exact CO mo h1;exact CO mo h2;exact CO mo h3;split at a;rename_i v hv';rw[hv'];exact wM c (λs=>g {d with s}) y a;cases a
def z0(X:CtxF)(ops:List Oper):List Oper->List Nat->Nat->DF->Option SV
 |[],_,_,d=>ξ d.s
 |o::r,m::ms,i,d=>
  match zh ops d.s.t o with
  |true=>rL X i m o d λd=>z0 X ops r ms (i+1) d
  |false=>xH X d.s o.dst undef d.s.h d.s.n [] λs=>z0 X ops r ms (i+1) {d with s}
 |_,_,_,_=>θ
def Wm{X:Ctx}{Z3:CtxF}(b:CtxTo X Z3)(ops:List Oper):∀(l:List Oper) (ms:List Nat) (i:Nat) (d:Dr),To vw (wp X ops l ms i d) (z0 Z3 ops l ms i (dv d)):=by
 intro l;induction l with
 |nil=>intro ms i d y a;unfold z0 at a;injection a with a;exact⟨d.s,by unfold wp;rfl,a⟩
 |cons o l ih=>
  intro ms i d;cases ms with
  |nil=>intro y a;cases a
  |cons m ms=>
   intro y a;unfold z0 at a;unfold wp;rw[mr];split at a;rename_i hw;rw[show zh ops (nth d.s.t) o=φ from hw];exact Wl b (λd=>ih ms (i+1) d) y a;rename_i hw;rw[show zh ops (nth d.s.t) o=χ from hw];exact wM b (λs=>ih ms (i+1) {d with s}) y a
def fY(f:SV->Option (Ex×SV)):Nat->SV->Option (Ex×SV)
 |0,_=>θ
 |n+1,s=>match f s with|some (.normal,s')=>fY f n s'|r=>r
noncomputable def Lz(r:Ex×St):Ex×SV:=(r.1,vw r.2)
def Wo{f:St->Option (Ex×St)}{g:SV->Option (Ex×SV)}(h:∀s,To Lz (f s) (g (vw s))):∀(n:Nat) (s:St),To Lz (fZ f n s) (fY g n (vw s)):=by
 intro n;induction n with
 |zero=>intro s y a;cases a
 |succ n ih=>
  intro s y a;unfold fY at a;show ∃x,(match f s with|some (.normal,s')=>fZ f n s'|r=>r)=ξ x/\Lz x=y;split at a;rename_i s' hs;have⟨⟨e,d⟩,c,b⟩:=h s _ hs;simp only[Lz,Fm]at b;obtain⟨rfl,rfl⟩:=b;rw[c];exact ih d y a;rename_i hne;have⟨⟨e,d⟩,c,b⟩:=h s _ a;subst b;refine⟨(e,d),?_,ω⟩;rw[c];cases e with
  |normal=>exact CO a (hne _)
  |exit=>rfl
  |ret=>rfl
def cK(X:CtxF)(g:ψ)(ps:List Tmp)(assign body:Code)(s:SV):Option (Ex×SV):=
 match g,X.round with
 | .func (.func gf) first cap,θ=>
  match X.C.call gf (first.toList++([.func (.yield (3*(s.n+1)+2)) #[] #[]]++cap.toList)) (upd (upd s.h (3*s.n+2) (ξ .dfr)) (3*(s.n+1)+2) (ξ (.loop φ θ s.t X.nt ps assign body (3*s.n+2)))) (s.n+1+1)with
  |some (_,h3,n3,w3)=>
   match h3 (3*(s.n+1)+2),h3 (3*s.n+2)with
   |some (.loop r p _ _ _ _ _ _),ξ .dfr=>
    match N4 r p with
    |some x=>ξ (x,⟨s.t,upd (upd h3 (3*(s.n+1)+2) θ) (3*s.n+2) θ,n3,addW X.n0 w3 s.w⟩)
    |none=>θ
   |_,_=>θ
  |none=>θ
 |_,_=>θ
def Wp{X:Ctx}{Z3:CtxF}(d:CtxTo X Z3)(g:ψ)(f:List Tmp)(a c:Code)(s:St):To Lz (qQ X g f a c s) (cK Z3 g f a c (vw s)):=by
 intro y b;unfold cK at b;unfold qQ;split at b;rename_i gf first cap hr
 rw[d.round,hr];simp only[xm,HE,d.nt,d.n0];split at b;rename_i v3 g3 n3 w3 hc;have e:upd (upd (vw s).h (3*(vw s).n+2) (ξ BF.dfr)) (3*((vw s).n+1)+2) (ξ (.loop φ θ (vw s).t Z3.nt f a c (3*(vw s).n+2)))=
     hv (HK (HK s.h (3*s.n+2) (ξ .dfr)) (3*(s.n+1)+2) (ξ (.loop φ θ s.t Z3.nt f a c (3*s.n+2)))):=by
    rw[uJ,uJ];rfl
 rw[e]at hc;have⟨⟨G,l,F,H⟩,q,u⟩:=d.C.call _ _ _ _ _ hc;simp only[rv,Fm]at u;obtain⟨rfl,rfl,rfl,rfl⟩:=u;have q:X.C.call gf (first.toList++([Value.func (Fn.yield (3*(s.n+1)+2)) #[] #[]]++cap.toList)) (HK (HK s.h (3*s.n+2) (ξ .dfr)) (3*(s.n+1)+2) (ξ (.loop φ θ s.t Z3.nt f a c (3*s.n+2)))) (s.n+1+1)=ξ (G,l,F,H):=q;rw[q];simp only;split at b;rename_i r p t' nt' ps' as' bd' d' hl hd;have⟨J,B,j⟩:=uC hl;have⟨I,A,D⟩:=uC hd;cases J<;>simp[Blk.view]at j;cases I<;>simp[Blk.view]at D;obtain⟨rfl,rfl,_⟩:=j;rw[show Hp.at l (3*(s.n+1)+2)=_ from B,show Hp.at l (3*s.n+2)=_ from A];simp only;split at b;rename_i x hj;injection b with b;subst b;rw[hj];refine⟨_,ω,?_⟩;simp only[Lz,vw,uJ];rfl;cases b;cases b;cases b;cases b
def xk(X:CtxF):Code->SV->Option (Ex×SV)
 | .skip,s=>ξ (.normal,s)
 | .region _ ops d,s=>(match d with
   |false=>(match seqF X ops.toList ops.toList s with|some s=>ξ (.normal,s)|none=>θ)
   |true=>(match z0 X ops.toList ops.toList (xA ops.toList []) 0 ⟨s,[],[],[]⟩with|some s=>ξ (.normal,s)|none=>θ))
 | .seq a b,s=>(match xk X a s with|some (.normal,s')=>xk X b s'|r=>r)
 | .cond c a b,s=>(match Kn s.t c with| CV φ=>xk X a s| CV χ=>xk X b s|_=>θ)
 | .block id b,s=>(match xk X b s with|some (.exit j,s')=>(match D5 j id with|true=>ξ (.normal,s')|false=>ξ (.exit j,s'))|r=>r)
 | .loop b,s=>fY (xk X b) X.L s
 | .rangeFunc f ps assign body,s=>cK X (Kn s.t f) ps.toList assign body s
 | .exit id,s=>ξ (.exit id,s)
 | .scope b,s=>xk X b s
 | .label _,s=>ξ (.normal,s)
 | .goto _,_=>θ
 | .ret,s=>ξ (.ret,s)
 | .refuse _,_=>θ
def eI{X:Ctx}{Z3:CtxF}(A:CtxTo X Z3):∀(c:Code) (s:St),To Lz (vG X c s) (xk Z3 c (vw s)):=by
 intro c;induction c with
 |skip=>intro s y g;injection g with g;exact⟨_,ω,g⟩
 |label l=>intro s y g;injection g with g;exact⟨_,ω,g⟩
 |exit id=>intro s y g;injection g with g;exact⟨_,ω,g⟩
 |ret=>intro s y g;injection g with g;exact⟨_,ω,g⟩
 |goto l=>intro s y g;cases g
 |refuse l=>intro s y g;cases g
 |region id ops d=>
  intro s y g;cases d with
  |false=>
   unfold xk at g;simp only at g;split at g;rename_i u hs;injection g with g;subst g;obtain⟨B,p,rfl⟩:=Wh A _ _ s _ hs;refine⟨(.normal,B),?_,ω⟩;show(match tM X ops.toList ops.toList s with|some s=>ξ (Ex.normal,s)|none=>θ)=_;rw[p];cases g
  |true=>
   unfold xk at g;simp only at g;split at g;rename_i u hs;injection g with g;subst g;obtain⟨B,p,rfl⟩:=Wm A _ _ _ 0 ⟨s,[],[],[]⟩ _ hs;refine⟨(.normal,B),?_,ω⟩;show(match wp X ops.toList ops.toList (xA ops.toList []) 0 ⟨s,[],[],[]⟩with|some s=>ξ (Ex.normal,s)|none=>θ)=_;rw[p];cases g
 |seq a b iha ihb=>
  intro s y g;unfold xk at g;show ∃x,(match vG X a s with|some (.normal,s')=>vG X b s'|r=>r)=ξ x/\Lz x=y;split at g;rename_i s' hs;have⟨⟨e,u⟩,p,q⟩:=iha s _ hs;simp only[Lz,Fm]at q;obtain⟨rfl,rfl⟩:=q;rw[p];exact ihb u y g;rename_i hne;have⟨⟨e,u⟩,p,q⟩:=iha s _ g;subst q;refine⟨(e,u),?_,ω⟩;rw[p];cases e with
  |normal=>exact CO g (hne _)
  |exit=>rfl
  |ret=>rfl
 |cond c a b iha ihb=>
  intro s y g;unfold xk at g;show ∃x,(match ev s.t c with| CV φ=>vG X a s| CV χ=>vG X b s|_=>θ)=ξ x/\Lz x=y;rw[eK];split at g;rename_i hv';rw[show Kn (nth s.t) c=_ from hv'];exact iha s y g;rename_i hv';rw[show Kn (nth s.t) c=_ from hv'];exact ihb s y g;cases g
 |block id b ihb=>
  intro s y g;unfold xk at g;show ∃x,(match vG X b s with|some (.exit j,s')=>(match D5 j id with|true=>ξ (Ex.normal,s')|false=>ξ (.exit j,s'))|r=>r)=ξ x/\Lz x=y;split at g;rename_i j s' hs;have⟨⟨e,u⟩,p,q⟩:=ihb s _ hs;simp only[Lz,Fm]at q;obtain⟨rfl,rfl⟩:=q;rw[p];simp only;split at g;rename_i hj;injection g with g;subst g;first|(rw[hj];exact⟨_,ω,ω⟩)|exact⟨_,ω,ω⟩
  rename_i hj;injection g with g;subst g;first|(rw[hj];exact⟨_,ω,ω⟩)|exact⟨_,ω,ω⟩
  rename_i hne;have⟨⟨e,u⟩,p,q⟩:=ihb s _ g;subst q;refine⟨(e,u),?_,ω⟩;rw[p];cases e with
  |normal=>rfl
  |exit j=>exact CO g (hne _ _)
  |ret=>rfl
 |loop b ihb=>
  intro s;show To Lz (fZ (vG X b) X.L s) (fY (xk Z3 b) Z3.L (vw s));rw[A.L];exact Wo ihb _ _
 |scope b ihb=>intro s;exact ihb s
 |rangeFunc f ps asg bd _ _=>
  intro s;show To Lz (qQ X (ev s.t f) ps.toList asg bd s) (cK Z3 (Kn (nth s.t) f) ps.toList asg bd (vw s));rw[eK];exact Wp A _ _ _ _ _
def resF(E:Env)(s:SV):List ResultVar->Option (List ψ)
 |[]=>ξ []
 | .tmp t::r=>(match resF E s r with|some l=>ξ (s.t t::l)|none=>θ)
 | .cell a t::r=>
  match s.t a with
  | CZ (ξ ad)=>(match yB E t s.h ad,resF E s r with|some v,ξ l=>ξ (v::l)|_,_=>θ)
  |_=>θ
def Wq(E:Env)(s:St):∀l,resE E s l=resF E (vw s) l:=by
 intro l;induction l with
 |nil=>rfl
 |cons r l ih=>
  cases r with
  |tmp t=>
   show(match resE E s l with|some l=>ξ (nth s.t t::l)|none=>θ)=(match resF E (vw s) l with|some l=>ξ ((vw s).t t::l)|none=>θ);rw[ih];rfl
  |cell a t=>
   show(match nth s.t a with| CZ (ξ ad)=>(match oN E t s.h ad,resE E s l with|some v,ξ l=>ξ (v::l)|_,_=>θ)|_=>θ)=(match (vw s).t a with| CZ (ξ ad)=>(match yB E t (vw s).h ad,resF E (vw s) l with|some v,ξ l=>ξ (v::l)|_,_=>θ)|_=>θ);simp only[ih,bg];rfl
def mj(args:List ψ):TF:=λj=>args.getD j undef
theorem Wr(args:List ψ)(d:Nat){t:Tr ψ}(h:∀j,nth t j=if 0<=j/\j<0+O args then args.getD (j-0) undef else nth (Tr.mk undef d) j):nth t=mj args:=by grind [mj,Tr.mk,Tr.get_mk]
def Ws:∀(args:List ψ) (i:Nat) (t:Tr ψ),∃t',(∀k:Tr ψ->Option β,oq args i t k=k t')/\∀j,nth t' j=if i<=j/\j<i+O args then args.getD (j-i) undef else nth t j:=by
 intro args;induction args with
 |nil=>intro i t;exact⟨t,λk=>rfl,λj=>by rw[CP cA]⟩
 |cons v args ih=>
  intro i t;have⟨c,b,a⟩:=ih (i+1) (HK t i v);refine⟨c,λk=>?_,λj=>?_⟩;show Tr.set t i v (λt=>oq args (i+1) t k)=_;rw[HE,b];rw[a,fT];simp only[DM,upd];by_cases hj:j=i;subst hj;rw[CP Z,CQ ω,CQ Z];simp;by_cases hr:i+1<=j/\j<i+1+O args;rw[CQ hr,CQ Z];rw[show j-i=(j-(i+1))+1 from Z];simp;rw[CP hr,CP hj,CP Z]
def qm(vs:List ψ):ψ:=match vs with|[v]=>v|vs=>.tuple ⟨vs⟩
def endF(E:Env)(f:FuncId)(h:HF)(n:Nat)(s:SV)(vs:List ψ):ψ×HF×Nat×List Nat:=
 match E.pure f&&uQ vs,s.w with
 |true,[]=>(qm vs,h,n,[])
 |_,w=>(qm vs,s.h,s.n,w)
def Mt(E:Env)(C:CalF)(L:Nat)(f:FuncId)(args:List ψ)(h:HF)(n:Nat):Option (ψ×HF×Nat×List Nat):=
 match E.fn f with
 |some fn=>
  match fn.body with
  |some body=>
   match DC (O args) fn.ntmps with
   |true=>
    match xk {E,C,L,round:=θ,n0:=n,nt:=fn.ntmps} body ⟨mj args,h,n,[]⟩with
    |some (.exit _,_)=>θ
    |some (_,s)=>
     match resF E s fn.results.toList with
     |some vs=>ξ (endF E f h n s vs)
     |none=>θ
    |none=>θ
   |false=>θ
  |none=>θ
 |none=>θ
def Wt{C:Cal}{F:CalF}{L:Nat}(u:CalTo C F)(f:FuncId)(args:List ψ)(h:Hp)(n:Nat):To rv (Mp E C L f args h n) (Mt E F L f args (hv h) n):=by
 intro y a;unfold Mt at a;unfold Mp;split at a;rename_i fn hfn;simp only[hfn];split at a;rename_i body hb;simp only[hb];split at a;rename_i hle;simp only[hle];have⟨i,B,A⟩:=Ws (β:=ψ×Hp×Nat×List Nat) args 0 (Tr.mk undef E.dT);rw[B];have l:nth i=mj args:=Wr args _ A;have o:=eI (X:={E,C,L,round:=θ,n0:=n,nt:=fn.ntmps}) (Z3:={E,C:=F,L,round:=θ,n0:=n,nt:=fn.ntmps}) ⟨ω,u,ω,ω,ω,ω⟩ body {t:=i,h,n,w:=[]};have m:vw {t:=i,h,n,w:=[]}=⟨mj args,hv h,n,[]⟩:=by simp[vw,l]
 rw[m]at o;cases he:xk {E,C:=F,L,round:=θ,n0:=n,nt:=fn.ntmps} body ⟨mj args,hv h,n,[]⟩with
 |none=>rw[he]at a;cases a
 |some r=>
  have⟨⟨e,s⟩,p,q⟩:=o r he;subst q;rw[he]at a;rw[p];have g:(match resF E (vw s) fn.results.toList with|some c=>ξ (endF E f (hv h) n (vw s) c)|none=>θ)=ξ y->
       ∃x,(match resE E s fn.results.toList with
        |some c=>oU c λc=>(match E.pure f&&uQ c,s.w with
         |true,[]=>ξ ((match c with|[v]=>v|c=>It ⟨c⟩),h,n,[])
         |_,w=>ξ ((match c with|[v]=>v|c=>It ⟨c⟩),s.h,s.n,w))
        |none=>θ)=ξ x/\rv x=y:=λa=>by
      rw[Wq];cases hr:resF E (vw s) fn.results.toList with
      |none=>rw[hr]at a;cases a
      |some c=>
       rw[hr]at a;injection a with a
       subst a;simp only[mT];unfold endF;cases hp:E.pure f&&uQ c with
       |true=>
        cases hw:s.w with
        |nil=>
         rw[show(vw s).w=[]from hw];exact⟨_,ω,ω⟩
        |cons b w=>
         rw[show(vw s).w=b::w from hw];exact⟨_,ω,ω⟩
       |false=>
        refine⟨_,ω,?_⟩;rfl
  cases e with
  |exit j=>cases a
  |normal=>exact g a
  |ret=>exact g a
 cases a;cases a;cases a
def mK(nt:Nat):List Tmp->List ψ->TF->Option TF
 |p::ps,v::vs,t=>(match DC nt p with|true=>θ|false=>mK nt ps vs (upd t p v))
 |_,_,t=>ξ t
def Wu(nt:Nat):∀(a:List Tmp) (vs:List ψ) (t:Tr ψ) (τ:TF),mK nt a vs (nth t)=ξ τ->∃b,(∀{β:Type} (k:Tr ψ->Option β),vv.setPs nt a vs t k=k b)/\nth b=τ:=by
 intro a;induction a with
 |nil=>intro vs t τ h;unfold mK at h;injection h with h;exact⟨t,λk=>by unfold vv.setPs;rfl,h⟩
 |cons p a ih=>
  intro vs t τ h;cases vs with
  |nil=>unfold mK at h;injection h with h;exact⟨t,λk=>by unfold vv.setPs;rfl,h⟩
  |cons v vs=>
   unfold mK at h;split at h;cases h;rename_i hp;have⟨b,c,e⟩:=ih vs (HK t p v) τ (by rw[fT];exact h);refine⟨b,λk=>?_,e⟩;unfold vv.setPs;simp only[hp,HE];exact c k
def O7(E:Env)(C:CalF)(L:Nat)(l:Nat)(args:List ψ)(h:HF)(n:Nat):Option (ψ×HF×Nat×List Nat):=
 match h l with
 |some (.loop φ θ t0 nt0 ps0 assign0 body0 _)=>
  match D5 (O args) (O ps0),mK nt0 ps0 args t0 with
  |true,ξ t1=>
   match xk {E,C,L,round:=ξ l,n0:=n,nt:=nt0} assign0 ⟨t1,h,n,[]⟩with
   |some (.normal,s1)=>
    match s1.h l with
    |some (.loop φ θ t nt ps assign body d)=>
     match xk {E,C,L,round:=ξ l,n0:=n,nt:=nt0} body0 {s1 with h:=upd s1.h l (ξ (.loop χ θ t nt ps assign body d)),w:=l::s1.w}with
     |some (x,s2)=>
      match s2.h l with
      |some (.loop _ _ t nt ps assign body d)=>
       match x with
       | .normal=>ξ (CV φ,upd s2.h l (ξ (.loop φ θ t nt ps assign body d)),s2.n,l::s2.w)
       | .ret=>ξ (CV χ,upd s2.h l (ξ (.loop χ (ξ .ret) t nt ps assign body d)),s2.n,l::s2.w)
       | .exit id=>ξ (CV χ,upd s2.h l (ξ (.loop χ (ξ (.exit id)) t nt ps assign body d)),s2.n,l::s2.w)
      |_=>θ
     |none=>θ
    |_=>θ
   |_=>θ
  |_,_=>θ
 |_=>θ
def pR{x:Blk}{r:Bool}{p:Option Code}{τ:TF}{c:List Tmp}{a b:Code}(h:x.view=.loop r p τ nt c a b d):∃t,x=.loop r p t nt c a b d/\nth t=τ:=by cases x<;>simp[Blk.view]at h;obtain⟨rfl,rfl,rfl,rfl,rfl,rfl,rfl,rfl⟩:=h;exact⟨_,ω,ω⟩
def Wv{C:Cal}{F:CalF}{L:Nat}(H:CalTo C F)(l:Nat)(args:List ψ)(h:Hp)(n:Nat):To rv (vv E C L l args h n) (O7 E F L l args (hv h) n):=by
 intro y a;unfold O7 at a;unfold vv;split at a;rename_i τ0 nt0 ps0 assign0 body0 d0 hl;have⟨x,I,s⟩:=uC hl;obtain⟨J,rfl,rfl⟩:=pR s;rw[I];simp only;split at a;rename_i τ1 hb hs;simp only[hb];obtain⟨K,B,rfl⟩:=Wu nt0 ps0 args J _ hs;rw[B];have m:CtxTo {E,C,L,round:=ξ l,n0:=n,nt:=nt0} {E,C:=F,L,round:=ξ l,n0:=n,nt:=nt0}:=⟨ω,H,ω,ω,ω,ω⟩;split at a;rename_i b he1;have⟨⟨e,b⟩,D,i⟩:=eI m assign0 {t:=K,h,n,w:=[]} _ he1;simp only[Lz,Fm]at i;obtain⟨rfl,rfl⟩:=i;rw[D];simp only;split at a;rename_i τ nt ps assign body d hl1;have⟨N,p,c⟩:=uC hl1;obtain⟨t,rfl,rfl⟩:=pR c;rw[show Hp.at b.h l=_ from p];simp only[HE];split at a;rename_i xe u he2;have o:({vw b with h:=upd (vw b).h l (ξ (.loop χ θ (nth t) nt ps assign body d)),w:=l::(vw b).w}:SV)=vw {b with h:=HK b.h l (ξ (.loop χ θ t nt ps assign body d)),w:=l::b.w}:=(by simp only[vw,uJ];rfl);rw[o]at he2;have⟨⟨A,u⟩,G,j⟩:=eI m body0 _ _ he2;simp only[Lz,Fm]at j;obtain⟨rfl,rfl⟩:=j;rw[G];simp only;split at a;rename_i r' p' τ' nt' ps' as' bd' d' hl2;have⟨Z1,q,g⟩:=uC hl2;obtain⟨M,rfl,rfl⟩:=pR g;rw[show Hp.at u.h l=_ from q];simp only;cases A with
 |normal=>
  injection a with a;exact Ch
 |ret=>
  injection a with a;exact Ch
 |exit id=>
  injection a with a;exact Ch
 cases a;cases a;cases a;cases a;cases a;cases a
noncomputable def orcF(orc:FuncId->List ψ->Option ψ)(G:HF->Prop)(f:FuncId)(args:List ψ)(h:HF):Option ψ:=
 open Classical in if G h then orc f args else θ
noncomputable def calO(E:Env)(L:Nat)(orc:FuncId->List ψ->Option ψ)(G:HF->Prop):Nat->Cal
 |0=>⟨λ_ _ _ _=>θ,λ_ _ _ _=>θ⟩
 |k+1=>⟨λf a h n=>(match orcF orc G f a (hv h)with|some v=>ξ (v,h,n,[])|none=>Mp E (calO E L orc G k) L f a h n),λl a h n=>vv E (calO E L orc G k) L l a h n⟩
noncomputable def calF(E:Env)(L:Nat)(orc:FuncId->List ψ->Option ψ)(G:HF->Prop):Nat->CalF
 |0=>⟨λ_ _ _ _=>θ,λ_ _ _ _=>θ⟩
 |k+1=>⟨λf a h n=>(match orcF orc G f a h with|some v=>ξ (v,h,n,[])|none=>Mt E (calF E L orc G k) L f a h n),λl a h n=>O7 E (calF E L orc G k) L l a h n⟩
def Ww(E:Env)(L:Nat)(c:FuncId->List ψ->Option ψ)(G:HF->Prop):∀k,CalTo (calO E L c G k) (calF E L c G k):=by
 intro k;induction k with
 |zero=>exact⟨λf a h n y b=>(by cases b),λl a h n y b=>(by cases b)⟩
 |succ k ih=>
  refine⟨λf a h n y b=>?_,λl a h n=>Wv ih l a h n⟩;have b:(match orcF c G f a (hv h)with|some v=>ξ (v,hv h,n,[])|none=>Mt E (calF E L c G k) L f a (hv h) n)=ξ y:=b;show ∃x,(match orcF c G f a (hv h)with|some v=>ξ (v,h,n,[])|none=>Mp E (calO E L c G k) L f a h n)=ξ x/\rv x=y;cases ho:orcF c G f a (hv h)with
  |some v=>rw[ho]at b;injection b with b;subst b;exact⟨_,ω,ω⟩
  |none=>rw[ho]at b;exact Wt ih f a h n y b
def O8(X:Rel)(G:HF->Prop)(f:FuncId)(args:List ψ)(v:ψ):Prop:=
 ∀(k:Nat) (ρ:Ren) (h:Hp) (n:Nat) (w:World),G (hv h)->Sim X ρ h w->KK (3*n) h->
  (callFunc f (args.map (conc ρ)).toArray).run X.P w=.ok (.enter f (args.map (conc ρ)).toArray) w/\
  CallsIn Fence.wide k X.P f (args.map (conc ρ)).toArray w λe w'=>∃ρ',e=.returned (conc ρ' v)/\Post X ρ n h w [] ρ' v h n w'
def Wx{X:Rel}{reg:Array Oper->Bool}(q:EnvOk2 X.E X.P)(L:Nat)(m:∀c,X.ok c↔xf reg c=φ)(s:∀f fn c,X.E.fn f=ξ fn->fn.body=ξ c->xf reg c=φ)
  (p:∀(C:Ctx) ρ0 h0 w0,C.E=X.E->CalOk X C.C->MX X C ρ0 h0 w0 reg){b:FuncId->List ψ->Option ψ}{G:HF->Prop}(y:∀f args v,b f args=ξ v->O8 X G f args v):∀d,CalOk X (calO X.E L b G d):=by
 intro d;induction d with
 |zero=>exact⟨λf args h n v e j W a=>ux,λl args h n v e j W a=>ux⟩
 |succ d ih=>
  refine⟨λf args h n v e j W a k ρ w i g o=>?_,λl args h n v e j W a k ρ w i g o=>oB q ih m p a k ρ w i g o⟩;have a:(match orcF b G f args (hv h)with|some v=>ξ (v,h,n,[])|none=>Mp X.E (calO X.E L b G d) L f args h n)=ξ (v,e,j,W):=a;cases ho:orcF b G f args (hv h)with
  |some u=>
   rw[ho]at a;simp only[H5,Fm]at a;obtain⟨rfl,rfl,rfl,rfl⟩:=a;unfold orcF at ho;split at ho;exact y f args u ho k ρ h n w mo i g;cases ho
  |none=>
   rw[ho]at a;exact bE q ih m s p a k ρ w i g o
def Wy{X:Rel}{G:HF->Prop}{C:Cal}(H:CalOk X C){h0 hx:Hp}{M:Nat}(p:C.call f args h0 n0=ξ (v,hx,M,[]))(I:∀x∈args,closed x=φ)(g:closed v=φ)
  (i:∀h:Hp,G (hv h)->∀b x,h0.at b=ξ x->h.at b=ξ x)(y:KK (3*n0) h0):O8 X G f args v:=by
 intro k ρ h n w o q L;have A:Sim X ρ h0 w:=⟨λb x l=>q.blk b x (i h o b x l),λb s l u m=>by
  have⟨x,hx⟩:=DL.1 l;have⟨N,B⟩:=DL.1 u;exact q.inj b s (by rw[i h o b x hx];rfl) (by rw[i h o s N B];rfl) m⟩
 have⟨D,F⟩:=H.call _ _ _ _ _ _ _ _ p k ρ w A y (λx hx=>Nb.closed (I x hx));refine⟨D,F.mono λe Z1⟨P,m,a⟩=>⟨ρ,by rw[m,yA g,yA g],?_⟩⟩;exact(Post.refl q L (Nb.closed g)).grow (λj K=>a.fr j K λc J=>by cases J) a.size a.os a.tape a.out
end Go.GL
/- The sanity check of the laws returns true: a closed run of the evaluator. -/
namespace Go.Proofs.YteoagenjaemllaaGreatDoor
open Go Go.GL
namespace GK
def u(k:IntKind)(l:List Int):List ψ:=l.map λn=>U k n
def d64:List ψ:=u .u8 [0,1,56,2,57,49,28,3,61,58,42,50,38,29,17,4,62,47,59,36,45,43,51,22,53,39,33,30,24,18,12,5,63,55,48,27,60,41,37,16,46,35,44,21,52,32,23,11,54,26,40,15,34,20,31,10,25,14,19,9,13,8,7,6]
def p10:List ψ:=u .u64 [1,10,100,1000,10000,100000,1000000,10000000,100000000,1000000000,10000000000,100000000000,1000000000000,10000000000000,100000000000000,1000000000000000,10000000000000000,100000000000000000,1000000000000000000,10000000000000000000]
def d32:List ψ:=u .u8 [0,1,28,2,29,14,24,3,30,22,20,15,25,17,4,8,31,27,13,23,21,19,16,7,26,12,18,6,11,5,10,9]
noncomputable def h0:Hp:=HK (HK (HK (Tr.mk θ 13) 3 (ξ (.ro d64))) 0 (ξ (.ro p10))) 12 (ξ (.ro d32))
def O9:Option (ψ×Hp×Nat×List Nat)->Bool
 |some (CV φ,_,_,[])=>φ
 |_=>χ
def Wz{r:Option (ψ×Hp×Nat×List Nat)}(h:O9 r=φ):∃hx nx,r=ξ (CV φ,hx,nx,[]):=by unfold O9 at h;split at h;exact⟨_,_,ω⟩;cases h
set_option maxRecDepth 1000000 in
def WA:O9 ((calN Kw 1000000 60).call 6 [] h0 20)=φ:=by kernel_rfl
def QC(b:Nat):h0.at b=if b=12 then ξ (.ro d32)else if b=0 then ξ (.ro p10)else if b=3 then ξ (.ro d64)else θ:=by unfold h0;show Tr.get θ _ b=_;rw[IQ θ ω,IQ θ ω,IQ θ ω,Tr.get_mk]
def nb_u{k:IntKind}{l:List Int}{m:Nat}:∀v∈u k l,Nb m v:=λv a=>by
 unfold u at a;rw[List.mem_map]at a;obtain⟨n,_,rfl⟩:=a;exact Nb.int
def WB:KK (3*20) h0:=λb x a=>by
 rw[QC]at a;split at a
 .rename_i e;exact Cn
 split at a
 .rename_i e;exact Cn
 split at a
 .rename_i e;exact Cn
 cases a
def G(h:HF):Prop:=h 3=ξ (.ro d64)/\h 0=ξ (.ro p10)/\h 12=ξ (.ro d32)
def gM{x:Blk}{c:List ψ}(h:x.view=.ro c):x=.ro c:=by cases x<;>simp[Blk.view]at h;subst h;rfl
def G_at{h:Hp}(l:G (hv h)):∀b x,h0.at b=ξ x->h.at b=ξ x:=λb x a=>by
 have⟨g,i,j⟩:=l;have⟨q,c,m⟩:=uC g;have⟨s,d,o⟩:=uC i;have⟨u,f,p⟩:=uC j;rw[QC]at a;split at a
 .rename_i e;injection a with a;subst e a;rw[f,gM p]
 split at a
 .rename_i e;injection a with a;subst e a;rw[d,gM o]
 split at a
 .rename_i e;injection a with a;subst e a;rw[c,gM m]
 cases a
def orc(f:FuncId)(a:List ψ):Option ψ:=
 match D5 f 6 with
 |true=>(match a with|[]=>ξ (CV φ)|_=>θ)
 |false=>θ
def orc_ok:∀f a v,orc f a=ξ v->O8 MZ G f a v:=λf a v h=>by
 unfold orc at h;split at h
 .rename_i b;have b:=DU b;subst b;split at h
  .injection h with h
   subst h;have⟨c,g,e⟩:=Wz WA;exact Wy (V5 1000000 60) e (λx c=>CO c C6) ω (λh d=>G_at d) WB
  cases h
 cases h
end GK
def LL:Nat:=1180591620717411303424
noncomputable def Kp(k:Nat):CalF:=calF Kw LL GK.orc GK.G k
def WC(k:Nat):CalOk MZ (calO Kw LL GK.orc GK.G k):=
 Wx (X:=MZ) (reg:=regOk) bK LL (λ_=>GQ) bM (λC e c d b a=>mW bK b a) GK.orc_ok k
def WD(k:Nat):CalTo (calO Kw LL GK.orc GK.G k) (Kp k):=Ww Kw LL GK.orc GK.G k
def WE(k:Nat){h:HF}(a:GK.G h)(n:Nat):(Kp (k+1)).call 6 [] h n=ξ (CV φ,h,n,[]):=by show(match orcF GK.orc GK.G 6 [] h with|some v=>ξ (v,h,n,[])|none=>Mt Kw (Kp k) LL 6 [] h n)=_;unfold orcF;rw[CQ a];rfl
def WF(k:Nat){f:FuncId}{a:List ψ}(b:GK.orc f a=θ)(h:HF)(n:Nat):(Kp (k+1)).call f a h n=Mt Kw (Kp k) LL f a h n:=by show(match orcF GK.orc GK.G f a h with|some v=>ξ (v,h,n,[])|none=>Mt Kw (Kp k) LL f a h n)=_;have:orcF GK.orc GK.G f a h=θ:=(by unfold orcF;rw[b];split<;>rfl);rw[this]
end Go.Proofs.YteoagenjaemllaaGreatDoor
namespace Go.GL
open Go
variable {ops r:List Oper}{n m i bytes size cap len off id bt n' n0 sz j l b c a:Nat}{o:Oper}{w ms W:List Nat}{d:Tmp}{al ld:List (Nat×Nat)}{v z:ψ}{ty e ty' xT t:TypeId}{args new cs vs:List ψ}{E:Env}{ik' ik:IntKind}{pos:String}{hi x y:Operand}{α:Type}{af:Array Edge}{f:FuncId}{g:Option (Nat×Bool)}
variable {u:Nat}{sT:TypeId}{h h':HF}
def EC(X:CtxF)(c:Code)(s:SV)(Q:Ex->SV->Prop):Prop:=∃e s',xk X c s=ξ (e,s')/\Q e s'
abbrev qu(X:CtxF)(ops:List Oper)(t:TF)(o:Oper)(d:Tmp)(P:Prop):Prop:=zh ops t o=φ/\o.dst=ξ d/\zv X.nt (ξ d)=φ/\P
def EO(X:CtxF)(ops l:List Oper)(s:SV)(Q:SV->Prop):Prop:=∃s',seqF X ops l s=ξ s'/\Q s'
def CF(C:CalF)(f:FuncId)(args:List ψ)(h:HF)(n:Nat)(Q:ψ->HF->Nat->List Nat->Prop):Prop:=∃v h' n' w,C.call f args h n=ξ (v,h',n',w)/\Q v h' n' w
theorem vH{e:Ex}{s:SV}{R:Ex->SV->Prop}:(∃e' s',ξ (e,s)=ξ (e',s')/\R e' s')↔R e s:=by grind
section
variable {X:CtxF}{s:SV}{Q:Ex->SV->Prop}
def sW{c:Code}{a:Ex->SV->Prop}(h:EC X c s Q)(q:∀e s,Q e s->a e s):EC X c s a:=by have⟨e,u,b,p⟩:=h;exact⟨e,u,b,q _ _ p⟩
theorem yu:EC X .skip s Q↔Q .normal s:=by grind [EC,xk]
theorem WG:EC X (.exit i) s Q↔Q (.exit i) s:=by grind [EC,xk]
theorem WH:EC X .ret s Q↔Q .ret s:=by grind [EC,xk]
theorem WI:EC X (.label l) s Q↔Q .normal s:=by grind [EC,xk]
def WJ{c:Code}:EC X (.scope c) s Q↔EC X c s Q:=GQ
def after(X:CtxF)(b:Code)(Q:Ex->SV->Prop):Ex->SV->Prop
 | .normal,s=>EC X b s Q
 |e,s=>Q e s
def zK{b:Code}:after X b Q .normal s↔EC X b s Q:=GQ
def WK{b:Code}:after X b Q (.exit i) s↔Q (.exit i) s:=GQ
def WL{b:Code}:after X b Q .ret s↔Q .ret s:=GQ
def yY{a b:Code}:EC X (.seq a b) s Q↔EC X a s (after X b Q):=by
 unfold EC;rw[xk];cases h:xk X a s with
 |none=>simp
 |some r=>
  have⟨e,c⟩:=r;cases e<;>simp only[vH]<;>exact GQ
def pp(id:Nat)(Q:Ex->SV->Prop):Ex->SV->Prop
 | .exit j,s=>if j=id then Q .normal s else Q (.exit j) s
 |e,s=>Q e s
def iG:pp id Q .normal s↔Q .normal s:=GQ
def WM:pp id Q .ret s↔Q .ret s:=GQ
def WN:pp id Q (.exit j) s↔if j=id then Q .normal s else Q (.exit j) s:=GQ
def QD{b:Code}:EC X (.block id b) s Q↔EC X b s (pp id Q):=by
 unfold EC;rw[xk];cases h:xk X b s with
 |none=>simp
 |some r=>
  have⟨e,a⟩:=r;cases e with
  |exit j=>
   by_cases hj:j=id;subst hj;simp only[IF,vH,pp,if_true];have:D5 j id=χ:=by
    cases hb:D5 j id with
    |false=>rfl
    |true=>exact CO (DU hb) hj
   simp only[this,vH,pp,CP hj]
  |normal=>simp only[vH,pp]
  |ret=>simp only[vH,pp]
def ze{c:Operand}{a b:Code}(h:Kn s.t c=CV φ):EC X (.cond c a b) s Q↔EC X a s Q:=by unfold EC;rw[xk,h]
def za{c:Operand}{a b:Code}(h:Kn s.t c=CV χ):EC X (.cond c a b) s Q↔EC X b s Q:=by unfold EC;rw[xk,h]
def ug{ops:Array Oper}:EC X (.region id ops χ) s Q↔EO X ops.toList ops.toList s (Q .normal):=by
 unfold EC EO;rw[xk];cases h:seqF X ops.toList ops.toList s with
 |none=>simp
 |some r=>simp only[vH];simp
def WO{c:Code}(I:Nat->SV->Prop)(p:∀m s,I m s->EC X c s λe a=>match e with| .normal=>∃b,b<m/\I b a|e=>Q e a)(u:I m s)(hm:m<X.L):EC X (.loop c) s Q:=by
 have A:∀(L m:Nat) (s:SV),m<L->I m s->∃e a,fY (xk X c) L s=ξ (e,a)/\Q e a:=by
  intro L;induction L with
  |zero=>intro m s hm;exact CO hm (Nat.not_lt_zero _)
  |succ L ih=>
   intro m s hm u;have⟨e,C,B,q⟩:=p m s u;unfold fY;rw[B];cases e with
   |normal=>
    have⟨b,D,y⟩:=q;exact ih b C Z y
   |exit i=>exact⟨_,_,ω,q⟩
   |ret=>exact⟨_,_,ω,q⟩
 exact A X.L m s hm u
end
section
variable {X:CtxF}{s:SV}{Q:SV->Prop}{d:Option Tmp}
theorem xg:EO X ops [] s Q↔Q s:=by grind [EO,seqF]
def WP(b:zh ops s.t o=χ)(a:zv X.nt o.dst=φ):EO X ops (o::r) s Q↔EO X ops r ⟨putF s.t o.dst undef,s.h,s.n,s.w⟩ Q:=by unfold EO;rw[seqF,b];simp only[xH,a,addW]
def WQ(c:zh ops s.t o=φ)(b:zv X.nt o.dst=φ)(a:Ku o.op=0)(hv:yy X.E o.op (Kn s.t)=ξ v):
  EO X ops (o::r) s Q↔EO X ops r ⟨putF s.t o.dst v,s.h,s.n,s.w⟩ Q:=by unfold EO;rw[seqF,c];simp only[Lt,a,hv,xH,b,addW]
theorem WR(p:zh ops s.t o=φ)(a:zv X.nt o.dst=φ)(b:o.op=.convert t e x)(hb:vI X.E t e (Kn s.t x)=θ)(c:rX X.E t e (Kn s.t x) s.h=θ)(hv:kZ X.E t e (Kn s.t x)=ξ v):
  EO X ops (o::r) s Q↔EO X ops r ⟨putF s.t o.dst v,s.h,s.n,s.w⟩ Q:=by simp_all [EO,seqF,Ku,KD,Kn,θ,yy,hv,only,Lt,xH,addW]
theorem WS{a:Addr}(q:zh ops s.t o=φ)(c:zv X.nt o.dst=φ)(p:o.op=.load t x)(b:Kn s.t x=CZ (ξ a))(hv:yB X.E t s.h a=ξ v):
  EO X ops (o::r) s Q↔EO X ops r ⟨putF s.t o.dst v,s.h,s.n,s.w⟩ Q:=by simp_all [EO,seqF,Ku,po,Kn,only,hv,Lt,xH,addW]
def jm{m:Mk}(p:zh ops s.t o=φ)(b:zv X.nt o.dst=φ)(a:Ku o.op=2)(hm:KD X.E o.op (Kn s.t)=ξ m):
  EO X ops (o::r) s Q↔EO X ops r ⟨putF s.t o.dst (m.val s.n),upd s.h (m.name s.n) (ξ (.row m.c m.e)),s.n+1,s.w⟩ Q:=by unfold EO;rw[seqF,p];simp only[Lt,a,hm,Mr,xH,b,addW]
def rS(p:zh ops s.t o=φ)(b:zv X.nt o.dst=φ)(a:Ku o.op=3)(c:effF X.E o.op (Kn s.t) s.h s.n=ξ (.val v h n w)):
  EO X ops (o::r) s Q↔EO X ops r ⟨putF s.t o.dst v,h,n,addW X.n0 w s.w⟩ Q:=by unfold EO;rw[seqF,p];simp only[Lt,a,mf,c,xH,b]
def WT(P:ψ->HF->Nat->List Nat->Prop)(A:zh ops s.t o=φ)(q:zv X.nt o.dst=φ)(p:Ku o.op=3)(u:effF X.E o.op (Kn s.t) s.h s.n=ξ (.enter f args))(a:CF X.C f args s.h s.n P)
  (h:∀v h n w,P v h n w->EO X ops r ⟨putF s.t o.dst v,h,n,addW X.n0 w s.w⟩ Q):EO X ops (o::r) s Q:=by have⟨v,c,B,D,b,y⟩:=a;have:=h v c B D y;unfold EO at this⊢;rw[seqF,A];simp only[Lt,p,mf,u,b,xH,q];exact this
end
def oL:∀(l:List Oper) (acc:List Nat),O (xA l acc)=O acc+O l:=by
 intro l;induction l with
 |nil=>intro acc;simp[xA]
 |cons o l ih=>intro acc;simp[xA,ih];omega
def WU{X:CtxF}{ops:List Oper}:∀(l:List Oper) (ms:List Nat) (i:Nat) (s:SV) (ld:List (Nat×Nat)),O l<=O ms->l.all (λo=>H4 (Ku o.op) 2)=φ->z0 X ops l ms i ⟨s,[],ld,[]⟩=seqF X ops l s:=by
 intro l;induction l with
 |nil=>intro ms i s ld _ _;simp[z0,seqF]
 |cons o l ih=>
  intro ms i s ld q p;cases ms with
  |nil=>simp at q
  |cons m ms=>
   simp only[J8,DY]at p;have a:O l<=O ms:=by simpa using q
   have u:Ku o.op<2:=Dt p.1;unfold z0 seqF;simp only;cases hw:zh ops s.t o with
   |false=>
    simp only;congr 1;funext s1;exact ih ms (i+1) s1 ld a p.2
   |true=>
    simp only;unfold rL Lt;cases hc:Ku o.op with
    |zero=>
     simp only[hc];cases yy X.E o.op (Kn s.t)with
     |none=>rfl
     |some v=>
      simp only;congr 1;funext s1;exact ih ms (i+1) s1 ld a p.2
    |succ c=>
     cases c with
     |zero=>
      simp only[hc,wn];cases po X.E o.op (Kn s.t) s.h with
      |none=>rfl
      |some vb=>
       have⟨v,b⟩:=vb;simp only[LM,qn,Eg];congr 1;funext s1;exact ih ms (i+1) s1 _ a p.2
     |succ c=>omega
def N6{X:CtxF}{ops:Array Oper}{s:SV}{Q:Ex->SV->Prop}(a:ops.toList.all (λo=>H4 (Ku o.op) 2)=φ):EC X (.region id ops φ) s Q↔EO X ops.toList ops.toList s (Q .normal):=by
 unfold EC EO;rw[xk];rw[WU _ _ _ _ _ (by rw[oL];simp) a];cases h:seqF X ops.toList ops.toList s with
 |none=>simp
 |some r=>simp only[vH];simp
def gk(t:TF):List (Nat×ψ)->TF
 |[]=>t
 |(i,v)::r=>upd (gk t r) i v
def tJ(t:TF):List (Nat×ψ)->Prop
 |[]=>True
 |(i,v)::r=>t i=v/\tJ t r
def wU{t:TF}:∀{l:List (Nat×ψ)},tJ t l->gk t l=t:=by
 intro l;induction l with
 |nil=>intro _;rfl
 |cons p l ih=>
  intro h;have⟨i,v⟩:=p;have⟨a,g⟩:=h;show upd (gk t l) i v=t;rw[ih g,upd_self a]
def cut(l:List (Nat×ψ))(I:HF->Nat->List Nat->Prop)(Q:Ex->SV->Prop):Ex->SV->Prop
 | .normal,s=>tJ s.t l/\I s.h s.n s.w
 |e,s=>Q e s
def LH{l:List (Nat×ψ)}{I:HF->Nat->List Nat->Prop}{Q:Ex->SV->Prop}{s:SV}(a:tJ s.t l)(g:I s.h s.n s.w):cut l I Q .normal s:=⟨a,g⟩
def WX{l:List (Nat×ψ)}{I:HF->Nat->List Nat->Prop}{Q:Ex->SV->Prop}{s:SV}:cut l I Q (.exit i) s↔Q (.exit i) s:=GQ
def WY{l:List (Nat×ψ)}{I:HF->Nat->List Nat->Prop}{Q:Ex->SV->Prop}{s:SV}:cut l I Q .ret s↔Q .ret s:=GQ
def MG{X:CtxF}{a b:Code}{s:SV}{Q:Ex->SV->Prop}(l:List (Nat×ψ))(I:HF->Nat->List Nat->Prop)(u:EC X a s (cut l I (after X b Q)))(hb:∀t h n w,I h n w->EC X b ⟨gk t l,h,n,w⟩ Q):EC X a s (after X b Q):=by
 refine sW u λe g j=>?_;cases e with
 |normal=>
  have⟨p,q⟩:=j;have:=hb g.t g.h g.n g.w q;rw[wU p]at this;exact this
 |exit i=>exact j
 |ret=>exact j
def qY{α:Type}(live:α->List (Nat×ψ))(I:α->HF->Nat->List Nat->Prop)(μ:α->Nat)(a:α)(Q:Ex->SV->Prop):Ex->SV->Prop
 | .normal,s=>∃a',μ a'<μ a/\tJ s.t (live a')/\I a' s.h s.n s.w
 |e,s=>Q e s
def goOn{g:α->List (Nat×ψ)}{I:α->HF->Nat->List Nat->Prop}{μ:α->Nat}{a:α}{Q:Ex->SV->Prop}{s:SV}(j:α)(p:μ j<μ a)(q:tJ s.t (g j))(h3:I j s.h s.n s.w):qY g I μ a Q .normal s:=⟨j,p,q,h3⟩
def er{g:α->List (Nat×ψ)}{I:α->HF->Nat->List Nat->Prop}{μ:α->Nat}{a:α}{Q:Ex->SV->Prop}{s:SV}:qY g I μ a Q (.exit i) s↔Q (.exit i) s:=GQ
def WZ{g:α->List (Nat×ψ)}{I:α->HF->Nat->List Nat->Prop}{μ:α->Nat}{a:α}{Q:Ex->SV->Prop}{s:SV}:qY g I μ a Q .ret s↔Q .ret s:=GQ
def ye{X:CtxF}{c:Code}{t:TF}{h:HF}{n:Nat}{w:List Nat}{Q:Ex->SV->Prop}(g:α->List (Nat×ψ))(I:α->HF->Nat->List Nat->Prop)(μ:α->Nat)(a:α)(hl:tJ t (g a))(p:I a h n w)(hm:μ a<X.L)
  (j:∀a t h n w,I a h n w->EC X c ⟨gk t (g a),h,n,w⟩ (qY g I μ a Q)):EC X (.loop c) ⟨t,h,n,w⟩ Q:=by
 refine WO (I:=λm s=>∃a,μ a=m/\tJ s.t (g a)/\I a s.h s.n s.w) ?_ ⟨a,ω,hl,p⟩ hm;rintro m⟨t,h,n,w⟩⟨a,rfl,hl,p⟩;have:=j a t h n w p;rw[wU hl]at this;refine sW this λe s q=>?_;cases e with
 |normal=>
  have⟨u,A,B,C⟩:=q;exact⟨μ u,A,u,ω,B,C⟩
 |exit i=>exact q
 |ret=>exact q
section
variable {X:CtxF}{t:TF}{h:HF}{Q:SV->Prop}
def Nw(a:zh ops t o=χ/\o.dst=ξ d/\zv X.nt (ξ d)=φ)(k:EO X ops r ⟨upd t d undef,h,n,w⟩ Q):EO X ops (o::r) ⟨t,h,n,w⟩ Q:=by have⟨a,g,j⟩:=a;rw[WP a (by rw[g];exact j),g];exact k
def zS(a:qu X ops t o d (Ku o.op=0))(hv:yy X.E o.op (Kn t)=ξ v)(k:EO X ops r ⟨upd t d v,h,n,w⟩ Q):EO X ops (o::r) ⟨t,h,n,w⟩ Q:=by have⟨a,g,p,j⟩:=a;rw[WQ a (by rw[g];exact p) j hv,g];exact k
def Zz{p:BinOp}{ty ty':TypeId}{x y:Operand}{A B v:ψ}(c:qu X ops t o d (o.op=.binOp p ty x y ty'/\Kn t x=A/\Kn t y=B))(e:binE X.E p ty A B=ξ v)(k:EO X ops r ⟨upd t d v,h,n,w⟩ Q):EO X ops (o::r) ⟨t,h,n,w⟩ Q:=by have⟨a,b,c,f,g,j⟩:=c;refine zS ⟨a,b,c,Ad⟩ ?_ k;rw[f];show binE X.E p ty (Kn t x) (Kn t y)=_;rw[g,j];exact e
def st_I{a:Int}(g:qu X ops t o d (Ku o.op=0/\yy X.E o.op (Kn t)=ξ (U ik a)))(k:EO X ops r ⟨upd t d (U ik a),h,n,w⟩ Q):EO X ops (o::r) ⟨t,h,n,w⟩ Q:=by exact Cf
def st_B{a:Bool}(g:qu X ops t o d (Ku o.op=0/\yy X.E o.op (Kn t)=ξ (CV a)))(k:EO X ops r ⟨upd t d (CV a),h,n,w⟩ Q):EO X ops (o::r) ⟨t,h,n,w⟩ Q:=by exact Cf
def st_S{a:Option Addr}(g:qu X ops t o d (Ku o.op=0/\yy X.E o.op (Kn t)=ξ (Y a l c)))(k:EO X ops r ⟨upd t d (Y a l c),h,n,w⟩ Q):EO X ops (o::r) ⟨t,h,n,w⟩ Q:=by exact Cf
def st_P(a:qu X ops t o d (Ku o.op=0/\yy X.E o.op (Kn t)=ξ (CZ (ξ ⟨b,off,θ⟩))))(k:EO X ops r ⟨upd t d (CZ (ξ ⟨b,off,θ⟩)),h,n,w⟩ Q):EO X ops (o::r) ⟨t,h,n,w⟩ Q:=by exact BU
def st_T{s:ByteArray}(a:qu X ops t o d (Ku o.op=0/\yy X.E o.op (Kn t)=ξ (CY s)))(k:EO X ops r ⟨upd t d (CY s),h,n,w⟩ Q):EO X ops (o::r) ⟨t,h,n,w⟩ Q:=by exact BU
def st_A{cs:Array ψ}(a:qu X ops t o d (Ku o.op=0/\yy X.E o.op (Kn t)=ξ (.agg cs)))(k:EO X ops r ⟨upd t d (.agg cs),h,n,w⟩ Q):EO X ops (o::r) ⟨t,h,n,w⟩ Q:=by exact BU
def st_U{cs:Array ψ}(a:qu X ops t o d (Ku o.op=0/\yy X.E o.op (Kn t)=ξ (.tuple cs)))(k:EO X ops r ⟨upd t d (.tuple cs),h,n,w⟩ Q):EO X ops (o::r) ⟨t,h,n,w⟩ Q:=by exact BU
def vZ{x:Int}(h: -9223372036854775808<=x/\x<9223372036854775808):DE .i64 x=x:=by simp only[DE,FS,EP];simp;omega
def uI{x:Operand}{a b:Int}(j:qu X ops t o d (o.op=.binOp .add ty x y ty'/\Kn t x=U .i64 a/\Kn t y=U .i64 b))(g: -9223372036854775808<=a+b/\a+b<9223372036854775808)
  (k:EO X ops r ⟨upd t d (U .i64 (a+b)),h,n,w⟩ Q):EO X ops (o::r) ⟨t,h,n,w⟩ Q:=by refine Zz j ?_ k;show ξ (U .i64 (DE .i64 (a+b)))=_;rw[vZ g]
def Ma{x:Operand}{a b:Int}(j:qu X ops t o d (o.op=.binOp .sub ty x y ty'/\Kn t x=U .i64 a/\Kn t y=U .i64 b))(g: -9223372036854775808<=a-b/\a-b<9223372036854775808)
  (k:EO X ops r ⟨upd t d (U .i64 (a-b)),h,n,w⟩ Q):EO X ops (o::r) ⟨t,h,n,w⟩ Q:=by refine Zz j ?_ k;show ξ (U .i64 (DE .i64 (a-b)))=_;rw[vZ g]
def st_mul{x:Operand}{a b:Int}(s:zh ops t o=φ)(j:o.dst=ξ d)(p:zv X.nt (ξ d)=φ)(g:o.op=.binOp .mul ty x y ty')(hx:Kn t x=U .i64 a)(u:Kn t y=U .i64 b)(q: -9223372036854775808<=a*b/\a*b<9223372036854775808)
  (k:EO X ops r ⟨upd t d (U .i64 (a*b)),h,n,w⟩ Q):EO X ops (o::r) ⟨t,h,n,w⟩ Q:=by refine zS ⟨s,j,p,gY⟩ ?_ k;rw[g];show binE X.E .mul ty (Kn t x) (Kn t y)=_;rw[hx,u];show ξ (U .i64 (DE .i64 (a*b)))=_;rw[vZ q]
def QE{x:Operand}{a b:Int}(j:qu X ops t o d (o.op=.binOp .rem ty x y ty'/\Kn t x=U ik a/\Kn t y=U ik b))(g:b≠0)
  (k:EO X ops r ⟨upd t d (U ik (a.tmod b)),h,n,w⟩ Q):EO X ops (o::r) ⟨t,h,n,w⟩ Q:=by
 refine Zz j ?_ k;have:ikEq ik ik=φ:=by cases ik<;>rfl
 simp only[binE,isSh,this,intE,CP g]
def yC(ik:IntKind):ikEq ik ik=φ:=by cases ik<;>rfl
def lW{x:Operand}{a b:Int}(g:qu X ops t o d (o.op=.binOp .lss ty x y ty'/\Kn t x=U ik a/\Kn t y=U ik b))
  (k:EO X ops r ⟨upd t d (CV (decide (a<b))),h,n,w⟩ Q):EO X ops (o::r) ⟨t,h,n,w⟩ Q:=by refine Zz g ?_ k;simp only[binE,isSh,yC,intE,MW]
def Ny{x:Operand}{a b:Int}(g:qu X ops t o d (o.op=.binOp .leq ty x y ty'/\Kn t x=U ik a/\Kn t y=U ik b))
  (k:EO X ops r ⟨upd t d (CV (decide (a<=b))),h,n,w⟩ Q):EO X ops (o::r) ⟨t,h,n,w⟩ Q:=by refine Zz g ?_ k;simp only[binE,isSh,yC,intE,gF]
def M4{x:Operand}{a b:Int}(g:qu X ops t o d (o.op=.binOp .gtr ty x y ty'/\Kn t x=U ik a/\Kn t y=U ik b))
  (k:EO X ops r ⟨upd t d (CV (decide (b<a))),h,n,w⟩ Q):EO X ops (o::r) ⟨t,h,n,w⟩ Q:=by refine Zz g ?_ k;simp only[binE,isSh,yC,intE,MW]
def MH{x:Operand}{a b:Int}(g:qu X ops t o d (o.op=.binOp .geq ty x y ty'/\Kn t x=U ik a/\Kn t y=U ik b))
  (k:EO X ops r ⟨upd t d (CV (decide (b<=a))),h,n,w⟩ Q):EO X ops (o::r) ⟨t,h,n,w⟩ Q:=by refine Zz g ?_ k;simp only[binE,isSh,yC,intE,gF]
def Mu{x:Operand}{a b:Int}(g:qu X ops t o d (o.op=.binOp .eql ty x y ty'/\Kn t x=U ik a/\Kn t y=U ik b))
  (k:EO X ops r ⟨upd t d (CV (decide (a=b))),h,n,w⟩ Q):EO X ops (o::r) ⟨t,h,n,w⟩ Q:=by refine Zz g ?_ k;exact Ci
def N7{x:Operand}{a b:Int}(g:qu X ops t o d (o.op=.binOp .neq ty x y ty'/\Kn t x=U ik a/\Kn t y=U ik b))
  (k:EO X ops r ⟨upd t d (CV (!decide (a=b))),h,n,w⟩ Q):EO X ops (o::r) ⟨t,h,n,w⟩ Q:=by refine Zz g ?_ k;exact Ci
def wO(b o k:Nat):Addr.add ⟨b,o,θ⟩ k=⟨b,o+k,θ⟩:=pM _ ω k
def oe{e:TypeId}{x i:Operand}{z:ψ}{j:Int}(a:qu X ops t o d (o.op=.indexAddr ty x i/\X.E.und ty=ξ (.slice e)/\X.E.inf e=ξ (sz,bt,z)/\Kn t x=Y (ξ ⟨b,off,θ⟩) len cap/\Kn t i=U ik j))(u:0<=j/\j<len)(k:EO X ops r ⟨upd t d (CZ (ξ ⟨b,off+j.toNat*sz,θ⟩)),h,n,w⟩ Q):EO X ops (o::r) ⟨t,h,n,w⟩ Q:=by have⟨a,p,s,g,A,hi,B,q⟩:=a;refine zS ⟨a,p,s,gY⟩ ?_ k;rw[g];show yV X.E ty (Kn t x) (Kn t i)=_;rw[B,q];simp only[yV,A,hi,CQ u,wO]
def zX{E:Env}{h:HF}{x:BF}{c:List ψ}(p:isAgg E ty=ξ χ)(hb:h b=ξ x)(hx:x.cells=ξ c/\c[off]?=ξ v):yB E ty h ⟨b,off,θ⟩=ξ v:=by have⟨hx,g⟩:=hx;have a:=(C4.1 g).1;have j:DC (off+1) (O c)=φ:=C8 a;have:(c.drop off).take 1=[v]:=(by rw[EX a];simp[(C4.1 g).2]);simp only[yB,p,tR,hb,hx,j,F3,Eg,this]
theorem yw{E:Env}{h:HF}{z:ψ}{x:BF}{c:List ψ}(a:isAgg E ty=ξ φ/\E.inf ty=ξ (sz,bt,z))(hb:h b=ξ x)(hx:x.cells=ξ c)(hl:off+sz<=O c)(g:(c.drop off).take sz=cs):yB E ty h ⟨b,off,θ⟩=ξ (.agg cs.toArray):=by have⟨a,hi⟩:=a;grind [only,yB,tR,DC,C8,F3,Eg]
def z7{x:Operand}{a:Addr}(g:qu X ops t o d (o.op=.load ty x/\Kn t x=CZ (ξ a)))(hv:yB X.E ty h a=ξ v)
  (k:EO X ops r ⟨upd t d v,h,n,w⟩ Q):EO X ops (o::r) ⟨t,h,n,w⟩ Q:=by have⟨g,j,p,q,s⟩:=g;rw[WS g (by rw[j];exact p) q s hv,j];exact k
def zT{x:Operand}{y:BF}{c:List ψ}(a:qu X ops t o d (o.op=.load ty x/\isAgg X.E ty=ξ χ/\Kn t x=CZ (ξ ⟨b,off,θ⟩)))(hb:h b=ξ y)(g:y.cells=ξ c/\c[off]?=ξ v)
  (k:EO X ops r ⟨upd t d v,h,n,w⟩ Q):EO X ops (o::r) ⟨t,h,n,w⟩ Q:=by have⟨a,q,s,u,j,A⟩:=a;have⟨g,p⟩:=g;exact z7 ⟨a,q,s,u,A⟩ (zX j hb ⟨g,p⟩) k
def xV{e:TypeId}{z:ψ}(a:qu X ops t o d (o.op=.alloc e/\X.E.inf e=ξ (sz,bt,z)))
  (k:EO X ops r ⟨upd t d (ι (3*n+2)),upd h (3*n+2) (ξ (.row (zn z) e)),n+1,w⟩ Q):EO X ops (o::r) ⟨t,h,n,w⟩ Q:=by
 have⟨a,g,q,j,hi⟩:=a;have p:KD X.E o.op (Kn t)=ξ ⟨zn z,e,χ,θ⟩:=by rw[j];simp only[KD,hi]
 rw[jm a (by rw[g];exact q) (by rw[j];rfl) p,g];exact k
def pZ{e:TypeId}(a:qu X ops t o d (Ku o.op=2/\KD X.E o.op (Kn t)=ξ ⟨cs,e,χ,ξ (l,c)⟩))
  (k:EO X ops r ⟨upd t d (Y (ξ ⟨3*n+2,0,θ⟩) l c),upd h (3*n+2) (ξ (.row cs e)),n+1,w⟩ Q):EO X ops (o::r) ⟨t,h,n,w⟩ Q:=by exact Cv
def Lu{e:TypeId}(a:qu X ops t o d (Ku o.op=2/\KD X.E o.op (Kn t)=ξ ⟨cs,e,χ,θ⟩))
  (k:EO X ops r ⟨upd t d (ι (3*n+2)),upd h (3*n+2) (ξ (.row cs e)),n+1,w⟩ Q):EO X ops (o::r) ⟨t,h,n,w⟩ Q:=by exact Cv
def W0(m:Nat)(z:ψ):rep m [z]=C3 m z:=by
 induction m with
 |zero=>rfl
 |succ m ih=>show[z]++rep m [z]=_;rw[ih];rfl
def vB{e:TypeId}{l c:Operand}{z:ψ}(g:qu X ops t o d (o.op=.makeSlice ty l c/\X.E.und ty=ξ (.slice e)/\X.E.inf e=ξ (sz,bt,z)/\Kn t l=U ik (len:Int)/\Kn t c=U ik' (cap:Int)/\O (zn z)=sz))(a:len<=cap/\cap*bt<=1099511627776/\cap<=1099511627776)
  (k:EO X ops r ⟨upd t d (Y (ξ ⟨3*n+2,0,θ⟩) len cap),upd h (3*n+2) (ξ (.row (rep cap (zn z)) e)),n+1,w⟩ Q):EO X ops (o::r) ⟨t,h,n,w⟩ Q:=by
 have⟨g,j,F,p,G,hi,C,B,H⟩:=g;have D:KD X.E o.op (Kn t)=ξ ⟨rep cap (zn z),e,χ,ξ (len,cap)⟩:=by
  rw[p];show tn X.E ty (Kn t l) (Kn t c)=_;rw[C,B];have q:=C8 a.1;have s:=C8 a.2.1;have u:=C8 a.2.2;have A:D5 (O (zn z)) sz=φ:=by rw[H];exact B8
  show(match X.E.und ty,U ik (.ofNat len),U ik' (.ofNat cap)with|some (.slice e),U _ (.ofNat len),U _ (.ofNat cap)=>_|_,_,_=>θ)=_;simp only[G,hi,q,s,u,A,Eg]
 rw[jm g (by rw[j];exact F) Ba D,j];exact k
def kX{w:List Nat}(h:3*n0<=b):addW n0 [b] w=w:=by simp only[addW,C8 h]
def pN{w:List Nat}(h:b<3*n0):addW n0 [b] w=b::w:=by
 have:DC (3*n0) b=χ:=by
  cases hb:DC (3*n0) b with
  |false=>rfl
  |true=>have:=Dt hb;omega
 simp only[addW,this]
theorem uZ{h:HF}{c:List ψ}{e:TypeId}(hb:h b=ξ (.row c e))(hl:off+O vs<=O c)(a:ones vs=φ):LY h ⟨b,off,θ⟩ vs=ξ (upd h b (ξ (.row (zu c off vs) e))):=by grind [only,LY,DC,C8,F3,Eg]
def splice_one(c:List ψ)(off:Nat)(v:ψ)(h:off<O c):zu c off [v]=c.set off v:=by unfold zu;rw[H3];simp[h]
def xn{E:Env}{a x:Operand}{z:ψ}{c:List ψ}{e:TypeId}(hi:E.inf ty=ξ (sz,bt,z))(q:Kn t a=CZ (ξ ⟨b,off,θ⟩))(j:O (zn (Kn t x))=sz)(p:ones (zn (Kn t x))=φ)(hb:h b=ξ (.row c e))(hl:off+sz<=O c):
  effF E (.store ty a x) (Kn t) h n=ξ (.val undef (upd h b (ξ (.row (zu c off (zn (Kn t x))) e))) n [b]):=by
 have g:D5 (O (zn (Kn t x))) sz=φ:=by rw[j];exact IF sz
 simp only[effF,uG,q,hi,g,uZ hb (by rw[j];exact hl) p]
theorem yF{a x:Operand}{z:ψ}{c:List ψ}{e:TypeId}(j:zh ops t o=φ/\o.dst=θ/\o.op=.store ty a x/\X.E.inf ty=ξ (sz,bt,z)/\Kn t a=CZ (ξ ⟨b,off,θ⟩)/\zn (Kn t x)=cs/\O cs=sz/\ones cs=φ)(hb:h b=ξ (.row c e))(hl:off+sz<=O c)(g:3*X.n0<=b)
  (k:EO X ops r ⟨t,upd h b (ξ (.row (zu c off cs) e)),n,w⟩ Q):EO X ops (o::r) ⟨t,h,n,w⟩ Q:=by
 obtain⟨j,p,q,hi,u,B,A,s⟩:=j;subst B;rw[rS j Ba (by rw[q];rfl) (by rw[q];exact xn hi u A s hb hl),p];simp only[kX g];exact k
def W1(c cs:List ψ)(h:O cs=O c):zu c 0 cs=cs:=by unfold zu;simp[h]
def yc{a x:Operand}{z:ψ}{c:List ψ}(cs:List ψ){e:TypeId}(j:zh ops t o=φ/\o.dst=θ/\o.op=.store ty a x/\X.E.inf ty=ξ (sz,bt,z)/\Kn t a=ι b/\zn (Kn t x)=cs/\O cs=sz)(p:ones cs=φ)(hb:h b=ξ (.row c e))(hl:O c=sz)(g:3*X.n0<=b)
  (k:EO X ops r ⟨t,upd h b (ξ (.row cs e)),n,w⟩ Q):EO X ops (o::r) ⟨t,h,n,w⟩ Q:=by have⟨j,s,u,hi,q,B,A⟩:=j;refine yF ⟨j,s,u,hi,q,B,A,p⟩ hb Z g ?_;rw[W1 c cs Z];exact k
def W2{a x:Operand}{z:ψ}{c:List ψ}{e:TypeId}(A:zh ops t o=φ)(j:o.dst=θ)(p:o.op=.store ty a x)(hi:X.E.inf ty=ξ (sz,bt,z))(s:Kn t a=CZ (ξ ⟨b,off,θ⟩))(hx:zn (Kn t x)=cs)(u:O cs=sz)(q:ones cs=φ)(hb:h b=ξ (.row c e))(hl:off+sz<=O c)(g:b<3*X.n0)
  (k:EO X ops r ⟨t,upd h b (ξ (.row (zu c off cs) e)),n,b::w⟩ Q):EO X ops (o::r) ⟨t,h,n,w⟩ Q:=by subst hx;rw[rS A (by rw[j];rfl) Ba (by rw[p];exact xn hi s u q hb hl),j];simp only[pN g];exact k
def zF(P:ψ->HF->Nat->List Nat->Prop)(j:qu X ops t o d (Ku o.op=3/\effF X.E o.op (Kn t) h n=ξ (.enter f args)))(a:CF X.C f args h n P)
  (k:∀v h' n' g,P v h' n' g->EO X ops r ⟨upd t d v,h',n',addW X.n0 g w⟩ Q):EO X ops (o::r) ⟨t,h,n,w⟩ Q:=by have⟨j,p,u,q,s⟩:=j;refine WT P j (by rw[p];exact u) q s a λv h' n' g A=>?_;rw[p];exact k v h' n' g A
def QF(q:zh ops t o=φ)(a:o.dst=ξ d)(p:zv X.nt (ξ d)=φ)(g:Ku o.op=3)(j:effF X.E o.op (Kn t) h n=ξ (.val v h n []))(k:EO X ops r ⟨upd t d v,h,n,w⟩ Q):EO X ops (o::r) ⟨t,h,n,w⟩ Q:=by rw[rS q (by rw[a];exact p) g j,a];exact k
def wm{e:TypeId}{x:Operand}{a:Int}(g:qu X ops t o d (o.op=.convert ty e x/\vI X.E ty e (Kn t x)=θ/\rX X.E ty e (Kn t x) h=θ))(hv:kZ X.E ty e (Kn t x)=ξ (U ik a))(k:EO X ops r ⟨upd t d (U ik a),h,n,w⟩ Q):EO X ops (o::r) ⟨t,h,n,w⟩ Q:=by have⟨g,j,q,s,p,u⟩:=g;rw[WR g (by rw[j];exact q) s p u hv,j];exact k
def QG(cap sz b off:Nat):offA cap 0 sz ⟨b,off,θ⟩=⟨b,off,θ⟩:=by unfold offA;split;rfl;rw[wO];simp
def td{e:TypeId}{x:Operand}{z:ψ}{j:Int}(m:Nat)(a:qu X ops t o d (o.op=.slice ty x θ (ξ hi) θ/\X.E.und ty=ξ (.slice e)/\X.E.inf e=ξ (sz,bt,z)/\Kn t x=Y (ξ ⟨b,off,θ⟩) len cap/\Kn t hi=U ik j))(hm:j=(m:Int))(F:m<=cap)(k:EO X ops r ⟨upd t d (Y (ξ ⟨b,off,θ⟩) m cap),h,n,w⟩ Q):EO X ops (o::r) ⟨t,h,n,w⟩ Q:=by
 have⟨a,u,B,p,C,g,D,A⟩:=a;refine zS ⟨a,u,B,Ba⟩ ?_ k;rw[p];subst hm;show xc X.E ty (Kn t x) θ (ξ (Kn t hi))=_;rw[D,A];have q:(0:Int)<=(m:Int)/\(m:Int)<=cap:=Z;have s:(gro b&&(DC 1 0&&DC cap 0))=χ:=by cases gro b<;>rfl
 simp only[xc,C,g,KV,CQ q,Ew,s,QG,GC]
def yM{sT:TypeId}{w':List Nat}{s x:Operand}(g:qu X ops t o d (o.op=.call {callee:=.builtin .append,args:=#[s,x],argTypes:=#[sT,xT]}/\(match X.E.und xT with|some (.int _)=>χ|none=>χ|_=>φ)=φ))(p:yW X.E h n sT (Kn t s) (Kn t x)=ξ (.val v h' n' w'))
  (k:EO X ops r ⟨upd t d v,h',n',addW X.n0 w' w⟩ Q):EO X ops (o::r) ⟨t,h,n,w⟩ Q:=by
 have⟨g,hd,hn,j,a⟩:=g;have q:effF X.E o.op (Kn t) h n=ξ (.val v h' n' w'):=by
  rw[j];show appF X.E [sT,xT] [Kn t s,Kn t x] h n=_;unfold appF;cases hu:X.E.und xT with
  |none=>rw[hu]at a;cases a
  |some u=>
   cases u with
   |int _=>rw[hu]at a;cases a
   |_=>simp only[hu];exact p
 rw[rS g (by rw[hd];exact hn) (by rw[j];rfl) q,hd];exact k
end
def argS(h:HF)(size:Nat)(v:ψ)(m:Nat)(cs:List ψ):Prop:=lenOf? v=ξ m/\yD h size m v=ξ cs
section
variable {h:HF}{sT:TypeId}{x:ψ}
def append_nil(hu:E.und sT=ξ (.slice e))(hi:E.inf e=ξ (size,bytes,z))(C:O (zn z)=size)(u:1<=size)(A:1<=bytes)(hx:argS h size x m new)(hm:1<=m)(hb:m*bytes<=1099511627776):
  yW E h n sT (η) x=ξ (.val (Y (ξ ⟨3*n+1,0,θ⟩) m m) (upd h (3*n+1) (ξ (.row new e))) (n+1) []):=by
 have⟨B,hc⟩:=hx;have a:DC (m*bytes) 1099511627776=φ:=C8 hb;have g:D5 (O (zn z)) size=φ:=by rw[C];exact B8
 have j:DC 1 size=φ:=C8 u;have p:DC 1 bytes=φ:=C8 A;have q:DC m 0=χ:=by
  cases hb:DC m 0 with
  |false=>rfl
  |true=>have:=Dt hb;omega
 have s:yD h size 0 (η)=ξ []:=rfl;simp only[yW,hu,hi,B,hc,Dl,a,g,j,p,q,s,Eg,MF,DR]
def ue{c:List ψ}(hu:E.und sT=ξ (.slice e))(hi:E.inf e=ξ (size,bytes,z))(J:O (zn z)=size)(D:1<=size)(F:1<=bytes)(hx:argS h size x m new)(hm:1<=m)(hb:(len+m)*bytes<=1099511627776)
  (G:gro b=φ)(g:h b=ξ (.row c e))(hc:O c=len*size)(I:ones (c++new)=φ)(hn:O new=m*size):
  yW E h n sT (Y (ξ ⟨b,0,θ⟩) len len) x=ξ (.val (Y (ξ ⟨3*n+1,0,θ⟩) (len+m) (len+m)) (upd (upd h b θ) (3*n+1) (ξ (.row (c++new) e))) (n+1) [b]):=by
 have⟨H,a⟩:=hx;have j:DC ((len+m)*bytes) 1099511627776=φ:=C8 hb;have p:D5 (O (zn z)) size=φ:=by rw[J];exact B8
 have q:DC 1 size=φ:=C8 D;have s:DC 1 bytes=φ:=C8 F;have u:DC (len+m) len=χ:=by
  cases hb:DC (len+m) len with
  |false=>rfl
  |true=>have:=Dt hb;omega
 have A:yD h size len (Y (ξ ⟨b,0,θ⟩) len len)=ξ c:=(by simp only[yD];by_cases h0:len*size=0;rw[CQ h0];rw[h0]at hc;rw[De.1 hc];rw[CP h0];have:DC (0+len*size) (O c)=φ:=C8 Z;simp only[tR,g,BF.cells,this,F3,Eg,DO];rw[C7 Z]);have B:jM h b (len*size) e=φ:=(by simp only[jM,g,hc,IF,Eg]);have C:D5 (O (c++new)) ((len+m)*size)=φ:=(by rw[show(c++new).length=(len+m)*size from by rw[C1,hc,hn,Dq]];exact B8);simp only[yW,hu,hi,H,a,j,p,q,s,u,A,B,C,Eg,MF,G,I,IF,F3]
end
section
variable {X:CtxF}{t:TF}{h:HF}{Q:SV->Prop}
def QH(x:Nat):DE .u8 (x:Int)=((x%256:Nat):Int):=by simp only[DE,FS,EP];simp
def jA(c:qu X ops t o d (o.op=.binOp .sub ty x y ty'/\Kn t x=U .u8 (a:Int)/\Kn t y=U .u8 (b:Int)))(f:b<=a/\a<256)
  (k:EO X ops r ⟨upd t d (U .u8 ((a-b:Nat):Int)),h,n,w⟩ Q):EO X ops (o::r) ⟨t,h,n,w⟩ Q:=by refine Zz c ?_ k;show ξ (U .u8 (DE .u8 ((a:Int)-b)))=_;rw[show(a:Int)-b=((a-b:Nat):Int)from Z,QH,Di Z]
def mE{D:TD}(c:qu X ops t o d (o.op=.convert ty e x/\Kn t x=U ik (a:Int)/\X.E.und ty=ξ D/\X.E.und e=ξ (.int .u8)))
  (k:EO X ops r ⟨upd t d (U .u8 ((a%256:Nat):Int)),h,n,w⟩ Q):EO X ops (o::r) ⟨t,h,n,w⟩ Q:=by have⟨c,g,j,l,f,m,i⟩:=c;refine wm ⟨c,g,j,l,Ad,Ad⟩ ?_ k;rw[f];simp only[kZ,m,i,QH]
def rb(x:Nat):DE .u32 (x:Int)=((x%4294967296:Nat):Int):=by simp only[DE,FS,EP];simp
def xu(f:qu X ops t o d (o.op=.binOp .add ty x y ty'/\Kn t x=U .u32 (a:Int)/\Kn t y=U .u32 (b:Int)))(c:a+b<4294967296)
  (k:EO X ops r ⟨upd t d (U .u32 ((a+b:Nat):Int)),h,n,w⟩ Q):EO X ops (o::r) ⟨t,h,n,w⟩ Q:=by refine Zz f ?_ k;show ξ (U .u32 (DE .u32 ((a:Int)+b)))=_;rw[show(a:Int)+b=((a+b:Nat):Int)from Z,rb,Di c]
def W3(i:zh ops t o=φ)(f:o.dst=ξ d)(g:zv X.nt (ξ d)=φ)(c:o.op=.binOp .add ty x y ty')(hx:Kn t x=U .u32 (a:Int))(j:Kn t y=U .u32 (b:Int))
  (k:EO X ops r ⟨upd t d (U .u32 (((a+b)%4294967296:Nat):Int)),h,n,w⟩ Q):EO X ops (o::r) ⟨t,h,n,w⟩ Q:=by refine zS ⟨i,f,g,AF⟩ ?_ k;rw[c];show binE X.E .add ty (Kn t x) (Kn t y)=_;rw[hx,j];show ξ (U .u32 (DE .u32 ((a:Int)+b)))=_;rw[show(a:Int)+b=((a+b:Nat):Int)from Z,rb]
def QI(c:qu X ops t o d (o.op=.binOp .sub ty x y ty'/\Kn t x=U .u32 (a:Int)/\Kn t y=U .u32 (b:Int)))(f:b<=a/\a<4294967296)
  (k:EO X ops r ⟨upd t d (U .u32 ((a-b:Nat):Int)),h,n,w⟩ Q):EO X ops (o::r) ⟨t,h,n,w⟩ Q:=by refine Zz c ?_ k;show ξ (U .u32 (DE .u32 ((a:Int)-b)))=_;rw[show(a:Int)-b=((a-b:Nat):Int)from Z,rb,Di Z]
def xM(f:qu X ops t o d (o.op=.binOp .mul ty x y ty'/\Kn t x=U .u32 (a:Int)/\Kn t y=U .u32 (b:Int)))(c:a*b<4294967296)
  (k:EO X ops r ⟨upd t d (U .u32 ((a*b:Nat):Int)),h,n,w⟩ Q):EO X ops (o::r) ⟨t,h,n,w⟩ Q:=by refine Zz f ?_ k;show ξ (U .u32 (DE .u32 ((a:Int)*b)))=_;rw[show(a:Int)*b=((a*b:Nat):Int)from by simp,rb,Di c]
def wT(i:qu X ops t o d (o.op=.binOp .quo ty x y ty'/\Kn t x=U .u32 (a:Int)/\Kn t y=U .u32 (b:Int)))(g:b≠0/\a<4294967296)
  (k:EO X ops r ⟨upd t d (U .u32 ((a/b:Nat):Int)),h,n,w⟩ Q):EO X ops (o::r) ⟨t,h,n,w⟩ Q:=by refine Zz i ?_ k;have f:¬(b:Int)=0:=Z;have e:(a:Int).tdiv b=((a/b:Nat):Int):=rfl;have c:a/b<4294967296:=Dw (EL _ _) g.2;simp only[binE,isSh,yC,intE,CP f,e,rb,Di c]
def wR(f:qu X ops t o d (o.op=.binOp .rem ty x y ty'/\Kn t x=U .u32 (a:Int)/\Kn t y=U .u32 (b:Int)))(g:b≠0)
  (k:EO X ops r ⟨upd t d (U .u32 ((a%b:Nat):Int)),h,n,w⟩ Q):EO X ops (o::r) ⟨t,h,n,w⟩ Q:=by refine Zz f ?_ k;have c:¬(b:Int)=0:=Z;have e:(a:Int).tmod b=((a%b:Nat):Int):=rfl;simp only[binE,isSh,yC,intE,CP c,e]
def QJ(l:qu X ops t o d (o.op=.binOp .or ty x y ty'/\Kn t x=U .u32 (a:Int)/\Kn t y=U .u32 (b:Int)))(g:a<4294967296/\b<4294967296)
  (k:EO X ops r ⟨upd t d (U .u32 ((a|||b:Nat):Int)),h,n,w⟩ Q):EO X ops (o::r) ⟨t,h,n,w⟩ Q:=by
 refine Zz l ?_ k;have i:(Fx 32 (a:Int))=E0 32 a:=by simp
 have j:(Fx 32 (b:Int))=E0 32 b:=by simp
 have c:(E0 32 a|||E0 32 b).toNat=a|||b:=by simp[Di g.1,Di g.2]
 have f:a|||b<4294967296:=(by rw[<-c];exact(E0 32 a|||E0 32 b).isLt);show ξ (U .u32 (DE .u32 (((Fx 32 (a:Int))|||(Fx 32 (b:Int))).toNat:Int)))=_;rw[i,j,c,rb,Di f]
def W5{s:Nat}(j:zh ops t o=φ)(g:o.dst=ξ d)(i:zv X.nt (ξ d)=φ)(c:o.op=.binOp .shl ty x y ty')(hx:Kn t x=U .u32 (a:Int))(l:Kn t y=U ik (s:Int))(m:s<=32)
  (k:EO X ops r ⟨upd t d (U .u32 ((a*2^s%4294967296:Nat):Int)),h,n,w⟩ Q):EO X ops (o::r) ⟨t,h,n,w⟩ Q:=by
 refine zS ⟨j,g,i,AF⟩ ?_ k;rw[c];show binE X.E .shl ty (Kn t x) (Kn t y)=_;rw[hx,l];have f:¬(s:Int)<0:=Z;have e:min (s:Int).toNat (EP .u32)=s:=by simp[EP];omega
 simp only[binE,isSh,Ns,CP f,e];rw[show(a:Int)*2^s=((a*2^s:Nat):Int)from by simp,rb]
def QK{s:Nat}(f:qu X ops t o d (o.op=.binOp .shr ty x y ty'/\Kn t x=U .u32 (a:Int)/\Kn t y=U ik (s:Int)))(g:s<=32)
  (k:EO X ops r ⟨upd t d (U .u32 ((a/2^s:Nat):Int)),h,n,w⟩ Q):EO X ops (o::r) ⟨t,h,n,w⟩ Q:=by
 refine Zz f ?_ k;have c:¬(s:Int)<0:=Z;have e:min (s:Int).toNat (EP .u32)=s:=by simp[EP];omega
 exact BK
def ft{D:TD}(c:qu X ops t o d (o.op=.convert ty e x/\Kn t x=U ik (a:Int)/\X.E.und ty=ξ D/\X.E.und e=ξ (.int .u32)))
  (k:EO X ops r ⟨upd t d (U .u32 ((a%4294967296:Nat):Int)),h,n,w⟩ Q):EO X ops (o::r) ⟨t,h,n,w⟩ Q:=by have⟨c,g,j,l,f,m,i⟩:=c;refine wm ⟨c,g,j,l,Ad,Ad⟩ ?_ k;rw[f];simp only[kZ,m,i,rb]
def xR(x:Nat):DE .u64 (x:Int)=((x%18446744073709551616:Nat):Int):=by simp only[DE,FS,EP];simp
def jr(x y:Nat)(hx:x<18446744073709551616)(c:y<18446744073709551616):DE .u64 ((x:Int)-y)=(((x+18446744073709551616-y)%18446744073709551616:Nat):Int):=by simp only[DE,FS,EP];simp;omega
def yT(f:qu X ops t o d (o.op=.binOp .add ty x y ty'/\Kn t x=U .u64 (a:Int)/\Kn t y=U .u64 (b:Int)))(c:a+b<18446744073709551616)
  (k:EO X ops r ⟨upd t d (U .u64 ((a+b:Nat):Int)),h,n,w⟩ Q):EO X ops (o::r) ⟨t,h,n,w⟩ Q:=by refine Zz f ?_ k;show ξ (U .u64 (DE .u64 ((a:Int)+b)))=_;rw[show(a:Int)+b=((a+b:Nat):Int)from Z,xR,Di c]
def uo(c:qu X ops t o d (o.op=.binOp .add ty x y ty'/\Kn t x=U .u64 (a:Int)/\Kn t y=U .u64 (b:Int)))
  (k:EO X ops r ⟨upd t d (U .u64 (((a+b)%18446744073709551616:Nat):Int)),h,n,w⟩ Q):EO X ops (o::r) ⟨t,h,n,w⟩ Q:=by refine Zz c ?_ k;show ξ (U .u64 (DE .u64 ((a:Int)+b)))=_;rw[show(a:Int)+b=((a+b:Nat):Int)from Z,xR]
def ym(c:qu X ops t o d (o.op=.binOp .sub ty x y ty'/\Kn t x=U .u64 (a:Int)/\Kn t y=U .u64 (b:Int)))(f:b<=a/\a<18446744073709551616)
  (k:EO X ops r ⟨upd t d (U .u64 ((a-b:Nat):Int)),h,n,w⟩ Q):EO X ops (o::r) ⟨t,h,n,w⟩ Q:=by refine Zz c ?_ k;show ξ (U .u64 (DE .u64 ((a:Int)-b)))=_;rw[show(a:Int)-b=((a-b:Nat):Int)from Z,xR,Di Z]
def sd(f:qu X ops t o d (o.op=.binOp .sub ty x y ty'/\Kn t x=U .u64 (a:Int)/\Kn t y=U .u64 (b:Int)))(c:a<18446744073709551616/\b<18446744073709551616)
  (k:EO X ops r ⟨upd t d (U .u64 (((a+18446744073709551616-b)%18446744073709551616:Nat):Int)),h,n,w⟩ Q):EO X ops (o::r) ⟨t,h,n,w⟩ Q:=by refine Zz f ?_ k;show ξ (U .u64 (DE .u64 ((a:Int)-b)))=_;rw[jr a b c.1 c.2]
def xt(f:qu X ops t o d (o.op=.binOp .mul ty x y ty'/\Kn t x=U .u64 (a:Int)/\Kn t y=U .u64 (b:Int)))(c:a*b<18446744073709551616)
  (k:EO X ops r ⟨upd t d (U .u64 ((a*b:Nat):Int)),h,n,w⟩ Q):EO X ops (o::r) ⟨t,h,n,w⟩ Q:=by refine Zz f ?_ k;show ξ (U .u64 (DE .u64 ((a:Int)*b)))=_;rw[show(a:Int)*b=((a*b:Nat):Int)from by simp,xR,Di c]
def wk(c:qu X ops t o d (o.op=.binOp .mul ty x y ty'/\Kn t x=U .u64 (a:Int)/\Kn t y=U .u64 (b:Int)))
  (k:EO X ops r ⟨upd t d (U .u64 (((a*b)%18446744073709551616:Nat):Int)),h,n,w⟩ Q):EO X ops (o::r) ⟨t,h,n,w⟩ Q:=by refine Zz c ?_ k;show ξ (U .u64 (DE .u64 ((a:Int)*b)))=_;rw[show(a:Int)*b=((a*b:Nat):Int)from by simp,xR]
def xN(i:qu X ops t o d (o.op=.binOp .quo ty x y ty'/\Kn t x=U .u64 (a:Int)/\Kn t y=U .u64 (b:Int)))(g:b≠0/\a<18446744073709551616)
  (k:EO X ops r ⟨upd t d (U .u64 ((a/b:Nat):Int)),h,n,w⟩ Q):EO X ops (o::r) ⟨t,h,n,w⟩ Q:=by refine Zz i ?_ k;have f:¬(b:Int)=0:=Z;have e:(a:Int).tdiv b=((a/b:Nat):Int):=rfl;have c:a/b<18446744073709551616:=Dw (EL _ _) g.2;simp only[binE,isSh,yC,intE,CP f,e,xR,Di c]
def vO(f:qu X ops t o d (o.op=.binOp .rem ty x y ty'/\Kn t x=U .u64 (a:Int)/\Kn t y=U .u64 (b:Int)))(g:b≠0)
  (k:EO X ops r ⟨upd t d (U .u64 ((a%b:Nat):Int)),h,n,w⟩ Q):EO X ops (o::r) ⟨t,h,n,w⟩ Q:=by refine Zz f ?_ k;have c:¬(b:Int)=0:=Z;have e:(a:Int).tmod b=((a%b:Nat):Int):=rfl;simp only[binE,isSh,yC,intE,CP c,e]
def wG(l:qu X ops t o d (o.op=.binOp .or ty x y ty'/\Kn t x=U .u64 (a:Int)/\Kn t y=U .u64 (b:Int)))(g:a<18446744073709551616/\b<18446744073709551616)
  (k:EO X ops r ⟨upd t d (U .u64 ((a|||b:Nat):Int)),h,n,w⟩ Q):EO X ops (o::r) ⟨t,h,n,w⟩ Q:=by
 refine Zz l ?_ k;have i:(Fx 64 (a:Int))=E0 64 a:=by simp
 have j:(Fx 64 (b:Int))=E0 64 b:=by simp
 have c:(E0 64 a|||E0 64 b).toNat=a|||b:=by simp[Di g.1,Di g.2]
 have f:a|||b<18446744073709551616:=(by rw[<-c];exact(E0 64 a|||E0 64 b).isLt);show ξ (U .u64 (DE .u64 (((Fx 64 (a:Int))|||(Fx 64 (b:Int))).toNat:Int)))=_;rw[i,j,c,xR,Di f]
def mF(l:qu X ops t o d (o.op=.binOp .and ty x y ty'/\Kn t x=U .u64 (a:Int)/\Kn t y=U .u64 (b:Int)))(g:a<18446744073709551616/\b<18446744073709551616)
  (k:EO X ops r ⟨upd t d (U .u64 ((a&&& b:Nat):Int)),h,n,w⟩ Q):EO X ops (o::r) ⟨t,h,n,w⟩ Q:=by
 refine Zz l ?_ k;have i:(Fx 64 (a:Int))=E0 64 a:=by simp
 have j:(Fx 64 (b:Int))=E0 64 b:=by simp
 have c:(E0 64 a&&& E0 64 b).toNat=a&&& b:=by simp[Di g.1,Di g.2]
 have f:a&&& b<18446744073709551616:=(by rw[<-c];exact(E0 64 a&&& E0 64 b).isLt);show ξ (U .u64 (DE .u64 (((Fx 64 (a:Int))&&& (Fx 64 (b:Int))).toNat:Int)))=_;rw[i,j,c,xR,Di f]
def xK{s:Nat}(f:qu X ops t o d (o.op=.binOp .shl ty x y ty'/\Kn t x=U .u64 (a:Int)/\Kn t y=U ik (s:Int)))(g:s<=64)
  (k:EO X ops r ⟨upd t d (U .u64 ((a*2^s%18446744073709551616:Nat):Int)),h,n,w⟩ Q):EO X ops (o::r) ⟨t,h,n,w⟩ Q:=by
 refine Zz f ?_ k;have c:¬(s:Int)<0:=Z;have e:min (s:Int).toNat (EP .u64)=s:=by simp[EP];omega
 simp only[binE,isSh,Ns,CP c,e];rw[show(a:Int)*2^s=((a*2^s:Nat):Int)from by simp,xR]
def yn{s:Nat}(f:qu X ops t o d (o.op=.binOp .shr ty x y ty'/\Kn t x=U .u64 (a:Int)/\Kn t y=U ik (s:Int)))(g:s<=64)
  (k:EO X ops r ⟨upd t d (U .u64 ((a/2^s:Nat):Int)),h,n,w⟩ Q):EO X ops (o::r) ⟨t,h,n,w⟩ Q:=by
 refine Zz f ?_ k;have c:¬(s:Int)<0:=Z;have e:min (s:Int).toNat (EP .u64)=s:=by simp[EP];omega
 exact BK
def N8{D:TD}(c:qu X ops t o d (o.op=.convert ty e x/\Kn t x=U ik (a:Int)/\X.E.und ty=ξ D/\X.E.und e=ξ (.int .u64)))
  (k:EO X ops r ⟨upd t d (U .u64 ((a%18446744073709551616:Nat):Int)),h,n,w⟩ Q):EO X ops (o::r) ⟨t,h,n,w⟩ Q:=by have⟨c,g,j,l,f,m,i⟩:=c;refine wm ⟨c,g,j,l,Ad,Ad⟩ ?_ k;rw[f];simp only[kZ,m,i,xR]
def jC{a b:Int}(c:qu X ops t o d (o.op=.binOp .lss ty x y ty'/\Kn t x=U ik a/\Kn t y=U ik b))(j:a<b)
  (k:EO X ops r ⟨upd t d (CV φ),h,n,w⟩ Q):EO X ops (o::r) ⟨t,h,n,w⟩ Q:=by have⟨c,f,g,i,l,m⟩:=c;refine lW ⟨c,f,g,i,l,m⟩ ?_;exact Ck
def N9{a b:Int}(c:qu X ops t o d (o.op=.binOp .lss ty x y ty'/\Kn t x=U ik a/\Kn t y=U ik b))(j:¬(a<b))
  (k:EO X ops r ⟨upd t d (CV χ),h,n,w⟩ Q):EO X ops (o::r) ⟨t,h,n,w⟩ Q:=by have⟨c,f,g,i,l,m⟩:=c;refine lW ⟨c,f,g,i,l,m⟩ ?_;exact Ce
def oa{a b:Int}(c:qu X ops t o d (o.op=.binOp .leq ty x y ty'/\Kn t x=U ik a/\Kn t y=U ik b))(j:a<=b)
  (k:EO X ops r ⟨upd t d (CV φ),h,n,w⟩ Q):EO X ops (o::r) ⟨t,h,n,w⟩ Q:=by have⟨c,f,g,i,l,m⟩:=c;refine Ny ⟨c,f,g,i,l,m⟩ ?_;exact Ck
def mD{a b:Int}(c:qu X ops t o d (o.op=.binOp .leq ty x y ty'/\Kn t x=U ik a/\Kn t y=U ik b))(j:¬(a<=b))
  (k:EO X ops r ⟨upd t d (CV χ),h,n,w⟩ Q):EO X ops (o::r) ⟨t,h,n,w⟩ Q:=by have⟨c,f,g,i,l,m⟩:=c;refine Ny ⟨c,f,g,i,l,m⟩ ?_;exact Ce
def MI{a b:Int}(c:qu X ops t o d (o.op=.binOp .gtr ty x y ty'/\Kn t x=U ik a/\Kn t y=U ik b))(j:b<a)
  (k:EO X ops r ⟨upd t d (CV φ),h,n,w⟩ Q):EO X ops (o::r) ⟨t,h,n,w⟩ Q:=by have⟨c,f,g,i,l,m⟩:=c;refine M4 ⟨c,f,g,i,l,m⟩ ?_;exact Ck
def M5{a b:Int}(c:qu X ops t o d (o.op=.binOp .gtr ty x y ty'/\Kn t x=U ik a/\Kn t y=U ik b))(j:¬(b<a))
  (k:EO X ops r ⟨upd t d (CV χ),h,n,w⟩ Q):EO X ops (o::r) ⟨t,h,n,w⟩ Q:=by have⟨c,f,g,i,l,m⟩:=c;refine M4 ⟨c,f,g,i,l,m⟩ ?_;exact Ce
def jD{a b:Int}(c:qu X ops t o d (o.op=.binOp .geq ty x y ty'/\Kn t x=U ik a/\Kn t y=U ik b))(j:b<=a)
  (k:EO X ops r ⟨upd t d (CV φ),h,n,w⟩ Q):EO X ops (o::r) ⟨t,h,n,w⟩ Q:=by have⟨c,f,g,i,l,m⟩:=c;refine MH ⟨c,f,g,i,l,m⟩ ?_;exact Ck
def Nz{a b:Int}(c:qu X ops t o d (o.op=.binOp .geq ty x y ty'/\Kn t x=U ik a/\Kn t y=U ik b))(j:¬(b<=a))
  (k:EO X ops r ⟨upd t d (CV χ),h,n,w⟩ Q):EO X ops (o::r) ⟨t,h,n,w⟩ Q:=by have⟨c,f,g,i,l,m⟩:=c;refine MH ⟨c,f,g,i,l,m⟩ ?_;exact Ce
def Oa{a b:Int}(c:qu X ops t o d (o.op=.binOp .eql ty x y ty'/\Kn t x=U ik a/\Kn t y=U ik b))(j:a=b)
  (k:EO X ops r ⟨upd t d (CV φ),h,n,w⟩ Q):EO X ops (o::r) ⟨t,h,n,w⟩ Q:=by have⟨c,f,g,i,l,m⟩:=c;refine Mu ⟨c,f,g,i,l,m⟩ ?_;exact Ck
def Ob{a b:Int}(c:qu X ops t o d (o.op=.binOp .eql ty x y ty'/\Kn t x=U ik a/\Kn t y=U ik b))(j:¬(a=b))
  (k:EO X ops r ⟨upd t d (CV χ),h,n,w⟩ Q):EO X ops (o::r) ⟨t,h,n,w⟩ Q:=by have⟨c,f,g,i,l,m⟩:=c;refine Mu ⟨c,f,g,i,l,m⟩ ?_;exact Ce
def Oc{a b:Int}(c:qu X ops t o d (o.op=.binOp .neq ty x y ty'/\Kn t x=U ik a/\Kn t y=U ik b))(j:¬(a=b))
  (k:EO X ops r ⟨upd t d (CV φ),h,n,w⟩ Q):EO X ops (o::r) ⟨t,h,n,w⟩ Q:=by exact BY
def Od{a b:Int}(c:qu X ops t o d (o.op=.binOp .neq ty x y ty'/\Kn t x=U ik a/\Kn t y=U ik b))(j:a=b)
  (k:EO X ops r ⟨upd t d (CV χ),h,n,w⟩ Q):EO X ops (o::r) ⟨t,h,n,w⟩ Q:=by exact BY
def vj{a:Int}{D:TD}(c:qu X ops t o d (o.op=.convert ty e x/\Kn t x=U ik a/\X.E.und ty=ξ D/\X.E.und e=ξ (.int .i64)))(m: -9223372036854775808<=a/\a<9223372036854775808)
  (k:EO X ops r ⟨upd t d (U .i64 a),h,n,w⟩ Q):EO X ops (o::r) ⟨t,h,n,w⟩ Q:=by have⟨c,g,j,l,f,p,i⟩:=c;refine wm ⟨c,g,j,l,Ad,Ad⟩ ?_ k;rw[f];simp only[kZ,p,i,vZ m]
end
def cutx{α:Type}(live:α->List (Nat×ψ))(I:α->HF->Nat->List Nat->Prop)(Q:Ex->SV->Prop):Ex->SV->Prop
 | .normal,s=>∃a,tJ s.t (live a)/\I a s.h s.n s.w
 |e,s=>Q e s
def zA{g:α->List (Nat×ψ)}{I:α->HF->Nat->List Nat->Prop}{Q:Ex->SV->Prop}{s:SV}(a:α)(j:tJ s.t (g a))(p:I a s.h s.n s.w):cutx g I Q .normal s:=⟨a,j,p⟩
def W6{a:α->List (Nat×ψ)}{I:α->HF->Nat->List Nat->Prop}{Q:Ex->SV->Prop}{s:SV}{i:Nat}:cutx a I Q (.exit i) s↔Q (.exit i) s:=GQ
def W7{a:α->List (Nat×ψ)}{I:α->HF->Nat->List Nat->Prop}{Q:Ex->SV->Prop}{s:SV}:cutx a I Q .ret s↔Q .ret s:=GQ
def yj{X:CtxF}{a b:Code}{s:SV}{Q:Ex->SV->Prop}(g:α->List (Nat×ψ))(I:α->HF->Nat->List Nat->Prop)(B:EC X a s (cutx g I (after X b Q)))(hb:∀z t h n w,I z h n w->EC X b ⟨gk t (g z),h,n,w⟩ Q):EC X a s (after X b Q):=by
 refine sW B λe j p=>?_;cases e with
 |normal=>
  have⟨z,q,A⟩:=p;have:=hb z j.t j.h j.n j.w A;rw[wU q]at this;exact this
 |exit i=>exact p
 |ret=>exact p
section
variable {X:CtxF}{t:TF}{h:HF}{Q:SV->Prop}
def fh{j:Int}(m:Nat)(a:qu X ops t o d (o.op=.slice ty x θ (ξ hi) θ/\X.E.und ty=ξ (.slice e)/\X.E.inf e=ξ (sz,bt,z)/\Kn t x=Y θ len cap/\Kn t hi=U ik j/\j=(m:Int)))(G:m<=cap)(k:EO X ops r ⟨upd t d (Y θ m cap),h,n,w⟩ Q):EO X ops (o::r) ⟨t,h,n,w⟩ Q:=by have⟨a,s,C,p,D,g,F,A,B⟩:=a;refine zS ⟨a,s,C,Ba⟩ ?_ k;rw[p];subst B;show xc X.E ty (Kn t x) θ (ξ (Kn t hi))=_;rw[F,A];have q:(0:Int)<=(m:Int)/\(m:Int)<=cap:=Z;simp only[xc,D,g,KV,CQ q,Ew,GC]
end
def ED(X:CtxF)(ops l:List Oper)(ms:List Nat)(i:Nat)(d:DF)(Q:SV->Prop):Prop:=∃s',z0 X ops l ms i d=ξ s'/\Q s'
def zl{X:CtxF}{ops:Array Oper}{s:SV}{Q:Ex->SV->Prop}(ms:List Nat)(hm:xA ops.toList []=ms)(k:ED X ops.toList ops.toList ms 0 ⟨s,[],[],[]⟩ (Q .normal)):EC X (.region id ops φ) s Q:=by have⟨j,a,g⟩:=k;refine⟨.normal,j,?_,g⟩;rw[xk];simp only[hm,a]
section
variable {X:CtxF}{t:TF}{h:HF}{ef:List (Nat×HF×List Nat)}{Q:SV->Prop}
theorem lz{s:SV}:ED X ops [] ms i ⟨s,al,ld,ef⟩ Q↔Q s:=by grind [ED,z0]
def Pa(q:zh ops t o=χ)(j:o.dst=ξ d)(p:zv X.nt (ξ d)=φ)(k:ED X ops r ms (i+1) ⟨⟨upd t d undef,h,n,w⟩,al,ld,ef⟩ Q):ED X ops (o::r) (m::ms) i ⟨⟨t,h,n,w⟩,al,ld,ef⟩ Q:=by have⟨s,a,g⟩:=k;refine⟨s,?_,g⟩;unfold z0;simp only[q,xH,j,p,addW];exact a
def yQ(C:zh ops t o=φ)(A:o.dst=ξ d)(B:zv X.nt (ξ d)=φ)(a:(Ku o.op==0||Ku o.op==4)=φ)(hv:yy X.E o.op (Kn t)=ξ v)(k:ED X ops r ms (i+1) ⟨⟨upd t d v,h,n,w⟩,al,ld,ef⟩ Q):ED X ops (o::r) (m::ms) i ⟨⟨t,h,n,w⟩,al,ld,ef⟩ Q:=by
 have⟨D,q,s⟩:=k;refine⟨D,?_,s⟩;unfold z0;simp only[C];unfold rL;have g:Ku o.op≠1:=λe=>by rw[e]at a;cases a
 have j:Ku o.op≠2:=λe=>by rw[e]at a;cases a
 have p:Ku o.op≠3:=λe=>by rw[e]at a;cases a
 split;exact CO mo g;exact CO mo j;exact CO mo p;simp only[hv,xH,A,B,addW];exact q
def dr_I{a:Int}(g:qu X ops t o d ((Ku o.op==0||Ku o.op==4)=φ/\yy X.E o.op (Kn t)=ξ (U ik a)))(k:ED X ops r ms (i+1) ⟨⟨upd t d (U ik a),h,n,w⟩,al,ld,ef⟩ Q):ED X ops (o::r) (m::ms) i ⟨⟨t,h,n,w⟩,al,ld,ef⟩ Q:=by exact Co
def dr_B{a:Bool}(g:qu X ops t o d ((Ku o.op==0||Ku o.op==4)=φ/\yy X.E o.op (Kn t)=ξ (CV a)))(k:ED X ops r ms (i+1) ⟨⟨upd t d (CV a),h,n,w⟩,al,ld,ef⟩ Q):ED X ops (o::r) (m::ms) i ⟨⟨t,h,n,w⟩,al,ld,ef⟩ Q:=by exact Co
def dr_S{a:Option Addr}(g:qu X ops t o d ((Ku o.op==0||Ku o.op==4)=φ/\yy X.E o.op (Kn t)=ξ (Y a l c)))(k:ED X ops r ms (i+1) ⟨⟨upd t d (Y a l c),h,n,w⟩,al,ld,ef⟩ Q):ED X ops (o::r) (m::ms) i ⟨⟨t,h,n,w⟩,al,ld,ef⟩ Q:=by exact Co
def dr_P(a:qu X ops t o d ((Ku o.op==0||Ku o.op==4)=φ/\yy X.E o.op (Kn t)=ξ (CZ (ξ ⟨b,off,θ⟩))))(k:ED X ops r ms (i+1) ⟨⟨upd t d (CZ (ξ ⟨b,off,θ⟩)),h,n,w⟩,al,ld,ef⟩ Q):ED X ops (o::r) (m::ms) i ⟨⟨t,h,n,w⟩,al,ld,ef⟩ Q:=by exact B1
def dr_T{s:ByteArray}(a:qu X ops t o d ((Ku o.op==0||Ku o.op==4)=φ/\yy X.E o.op (Kn t)=ξ (CY s)))(k:ED X ops r ms (i+1) ⟨⟨upd t d (CY s),h,n,w⟩,al,ld,ef⟩ Q):ED X ops (o::r) (m::ms) i ⟨⟨t,h,n,w⟩,al,ld,ef⟩ Q:=by exact B1
def dr_A{cs:Array ψ}(a:qu X ops t o d ((Ku o.op==0||Ku o.op==4)=φ/\yy X.E o.op (Kn t)=ξ (.agg cs)))(k:ED X ops r ms (i+1) ⟨⟨upd t d (.agg cs),h,n,w⟩,al,ld,ef⟩ Q):ED X ops (o::r) (m::ms) i ⟨⟨t,h,n,w⟩,al,ld,ef⟩ Q:=by exact B1
def dr_U{cs:Array ψ}(a:qu X ops t o d ((Ku o.op==0||Ku o.op==4)=φ/\yy X.E o.op (Kn t)=ξ (.tuple cs)))(k:ED X ops r ms (i+1) ⟨⟨upd t d (.tuple cs),h,n,w⟩,al,ld,ef⟩ Q):ED X ops (o::r) (m::ms) i ⟨⟨t,h,n,w⟩,al,ld,ef⟩ Q:=by exact B1
def Pb{a b:Int}(g:qu X ops t o d (o.op=.binOp .add ty x y ty'/\Kn t x=U .i64 a/\Kn t y=U .i64 b))(s: -9223372036854775808<=a+b/\a+b<9223372036854775808)
  (k:ED X ops r ms (i+1) ⟨⟨upd t d (U .i64 (a+b)),h,n,w⟩,al,ld,ef⟩ Q):ED X ops (o::r) (m::ms) i ⟨⟨t,h,n,w⟩,al,ld,ef⟩ Q:=by have⟨g,p,q,j,A,B⟩:=g;refine yQ g p q (by rw[j];rfl) ?_ k;rw[j];show binE X.E .add ty (Kn t x) (Kn t y)=_;rw[A,B];show ξ (U .i64 (DE .i64 (a+b)))=_;rw[vZ s]
def Pc{a b:Int}(g:qu X ops t o d (o.op=.binOp .sub ty x y ty'/\Kn t x=U .i64 a/\Kn t y=U .i64 b))(s: -9223372036854775808<=a-b/\a-b<9223372036854775808)
  (k:ED X ops r ms (i+1) ⟨⟨upd t d (U .i64 (a-b)),h,n,w⟩,al,ld,ef⟩ Q):ED X ops (o::r) (m::ms) i ⟨⟨t,h,n,w⟩,al,ld,ef⟩ Q:=by have⟨g,p,q,j,A,B⟩:=g;refine yQ g p q (by rw[j];rfl) ?_ k;rw[j];show binE X.E .sub ty (Kn t x) (Kn t y)=_;rw[A,B];show ξ (U .i64 (DE .i64 (a-b)))=_;rw[vZ s]
def yd{g:HF}(j:qu X ops t o d (o.op=.load ty x/\Kn t x=CZ (ξ ⟨b,off,θ⟩)/\wn m ef i h=(u,g)))(hv:yB X.E ty g ⟨b,off,θ⟩=ξ v)(a:LM u b ef=φ/\qn m b al=φ)
  (k:ED X ops r ms (i+1) ⟨⟨upd t d v,h,n,w⟩,al,(i,b)::ld,ef⟩ Q):ED X ops (o::r) (m::ms) i ⟨⟨t,h,n,w⟩,al,ld,ef⟩ Q:=by
 have⟨j,C,F,p,H,G⟩:=j;have⟨a,q⟩:=a;have⟨I,s,A⟩:=k;refine⟨I,?_,A⟩;unfold z0;simp only[j];unfold rL;have B:Ku o.op=1:=by rw[p];rfl
 have D:po X.E o.op (Kn t) g=ξ (v,b):=by rw[p];simp only[po,H,hv]
 simp only[B,G,D,a,q,Eg,xH,C,F,addW];exact s
def QL{a:Mk}(A:zh ops t o=φ)(q:o.dst=ξ d)(s:zv X.nt (ξ d)=φ)(p:Ku o.op=2)(hm:KD X.E o.op (Kn t)=ξ a)
  (k:ED X ops r ms (i+1) ⟨⟨upd t d (a.val n),upd h (a.name n) (ξ (.row a.c a.e)),n+1,w⟩,(i,a.name n)::al,ld,ef⟩ Q):ED X ops (o::r) (m::ms) i ⟨⟨t,h,n,w⟩,al,ld,ef⟩ Q:=by have⟨B,g,j⟩:=k;refine⟨B,?_,j⟩;unfold z0;simp only[A];unfold rL;simp only[p,hm,Mr,xH,q,s,addW];exact g
def QM(p:zh ops t o=φ)(g:o.dst=ξ d)(j:zv X.nt (ξ d)=φ)(a:Ku o.op=2)(hm:KD X.E o.op (Kn t)=ξ ⟨cs,e,χ,ξ (l,c)⟩)
  (k:ED X ops r ms (i+1) ⟨⟨upd t d (Y (ξ ⟨3*n+2,0,θ⟩) l c),upd h (3*n+2) (ξ (.row cs e)),n+1,w⟩,(i,3*n+2)::al,ld,ef⟩ Q):ED X ops (o::r) (m::ms) i ⟨⟨t,h,n,w⟩,al,ld,ef⟩ Q:=QL p g j a hm k
def W9(p:zh ops t o=φ)(g:o.dst=ξ d)(j:zv X.nt (ξ d)=φ)(a:Ku o.op=2)(hm:KD X.E o.op (Kn t)=ξ ⟨cs,e,χ,θ⟩)
  (k:ED X ops r ms (i+1) ⟨⟨upd t d (ι (3*n+2)),upd h (3*n+2) (ξ (.row cs e)),n+1,w⟩,(i,3*n+2)::al,ld,ef⟩ Q):ED X ops (o::r) (m::ms) i ⟨⟨t,h,n,w⟩,al,ld,ef⟩ Q:=QL p g j a hm k
def mX(C:zh ops t o=φ)(B:zv X.nt o.dst=φ)(s:Ku o.op=3)(A:effF X.E o.op (Kn t) h n=ξ (.val v h' n' W))(a:xq m ef=φ)(g:xJ m al=φ)(h3:ya m W ld=φ)(j:n<=n')
  (k:ED X ops r ms (i+1) ⟨⟨putF t o.dst v,h',n',addW X.n0 W w⟩,al,ld,(i,h,W)::ef⟩ Q):ED X ops (o::r) (m::ms) i ⟨⟨t,h,n,w⟩,al,ld,ef⟩ Q:=by have⟨D,p,q⟩:=k;refine⟨D,?_,q⟩;unfold z0;simp only[C];unfold rL;simp only[s,a,g,Eg,mf,A,xH,B,h3,C8 j];exact p
def wa(P:ψ->HF->Nat->List Nat->Prop)(g:qu X ops t o d (Ku o.op=3/\effF X.E o.op (Kn t) h n=ξ (.enter f args)/\xq m ef=φ/\xJ m al=φ))(a:CF X.C f args h n P)
  (k:∀v h' n' W,P v h' n' W->ya m W ld=φ/\n<=n'/\ED X ops r ms (i+1) ⟨⟨upd t d v,h',n',addW X.n0 W w⟩,al,ld,(i,h,W)::ef⟩ Q):ED X ops (o::r) (m::ms) i ⟨⟨t,h,n,w⟩,al,ld,ef⟩ Q:=by have⟨g,G,I,F,H,p,q⟩:=g;have⟨v,h',n',W,j,J⟩:=a;have⟨s,A,K,B,D⟩:=k v h' n' W J;refine⟨K,?_,D⟩;unfold z0;simp only[g];unfold rL;simp only[F,p,q,Eg,mf,H,j,xH,G,I,s,C8 A];exact B
theorem uT{a:Operand}{c:List ψ}(p:zh ops t o=φ/\o.dst=θ/\o.op=.store ty a x/\X.E.inf ty=ξ (sz,bt,z)/\Kn t a=CZ (ξ ⟨b,off,θ⟩)/\zn (Kn t x)=cs/\O cs=sz)(C:ones cs=φ)(hb:h b=ξ (.row c e))(hl:off+sz<=O c)(j:3*X.n0<=b)(g:xq m ef=φ/\xJ m al=φ/\ya m [b] ld=φ)
  (k:ED X ops r ms (i+1) ⟨⟨t,upd h b (ξ (.row (zu c off cs) e)),n,w⟩,al,ld,(i,h,[b])::ef⟩ Q):ED X ops (o::r) (m::ms) i ⟨⟨t,h,n,w⟩,al,ld,ef⟩ Q:=by
 obtain⟨p,q,s,hi,D,G,F⟩:=p;obtain⟨g,A,B⟩:=g;subst G;refine mX p (by rw[q];rfl) (by rw[s];rfl) (by rw[s];exact xn hi D F C hb hl) g A B CS ?_;rw[q,kX j];exact k
def iV{s:Operand}(B:zh ops t o=φ)(hd:o.dst=ξ d)(hn:zv X.nt (ξ d)=φ)(a:o.op=.call {callee:=.builtin .append,args:=#[s,x],argTypes:=#[sT,xT]})(hx:(match X.E.und xT with|some (.int _)=>χ|none=>χ|_=>φ)=φ)(q:yW X.E h n sT (Kn t s) (Kn t x)=ξ (.val v h' n' W))(g:xq m ef=φ)(j:xJ m al=φ)(h3:ya m W ld=φ)(p:n<=n')
  (k:ED X ops r ms (i+1) ⟨⟨upd t d v,h',n',addW X.n0 W w⟩,al,ld,(i,h,W)::ef⟩ Q):ED X ops (o::r) (m::ms) i ⟨⟨t,h,n,w⟩,al,ld,ef⟩ Q:=by
 have A:effF X.E o.op (Kn t) h n=ξ (.val v h' n' W):=by
  rw[a];show appF X.E [sT,xT] [Kn t s,Kn t x] h n=_;unfold appF;cases hu:X.E.und xT with
  |none=>rw[hu]at hx;cases hx
  |some u=>
   cases u with
   |int _=>rw[hu]at hx;cases hx
   |_=>simp only[hu];exact q
 refine mX B (by rw[hd];exact hn) (by rw[a];rfl) A g j h3 p ?_;rw[hd];exact k
end
section
variable {X:CtxF}{t:TF}{h:HF}{ef:List (Nat×HF×List Nat)}{Q:SV->Prop}
def QN{a b:Int}(c:o.op=.binOp .lss ty x y ty')(hx:Kn t x=U ik a)(g:Kn t y=U ik b):yy E o.op (Kn t)=ξ (CV (decide (a<b))):=by rw[c];show binE E .lss ty (Kn t x) (Kn t y)=_;rw[hx,g];simp only[binE,isSh,yC,intE,MW]

def QO{a b:Int}(c:qu X ops t o d (o.op=.binOp .lss ty x y ty'/\Kn t x=U ik a/\Kn t y=U ik b))(p:a<b)
  (k:ED X ops r ms (i+1) ⟨⟨upd t d (CV φ),h,n,w⟩,al,ld,ef⟩ Q):ED X ops (o::r) (m::ms) i ⟨⟨t,h,n,w⟩,al,ld,ef⟩ Q:=by have⟨c,j,l,g,q,s⟩:=c;exact yQ c j l gY (by rw[QN g q s,CN p]) k
def QP{a b:Int}(c:qu X ops t o d (o.op=.binOp .lss ty x y ty'/\Kn t x=U ik a/\Kn t y=U ik b))(p:¬(a<b))
  (k:ED X ops r ms (i+1) ⟨⟨upd t d (CV χ),h,n,w⟩,al,ld,ef⟩ Q):ED X ops (o::r) (m::ms) i ⟨⟨t,h,n,w⟩,al,ld,ef⟩ Q:=by have⟨c,j,l,g,q,s⟩:=c;exact yQ c j l gY (by rw[QN g q s,CM p]) k
def QQ{a b:Int}(c:o.op=.binOp .leq ty x y ty')(hx:Kn t x=U ik a)(g:Kn t y=U ik b):yy E o.op (Kn t)=ξ (CV (decide (a<=b))):=by rw[c];show binE E .leq ty (Kn t x) (Kn t y)=_;rw[hx,g];simp only[binE,isSh,yC,intE,gF]

def QR{a b:Int}(c:qu X ops t o d (o.op=.binOp .leq ty x y ty'/\Kn t x=U ik a/\Kn t y=U ik b))(p:a<=b)
  (k:ED X ops r ms (i+1) ⟨⟨upd t d (CV φ),h,n,w⟩,al,ld,ef⟩ Q):ED X ops (o::r) (m::ms) i ⟨⟨t,h,n,w⟩,al,ld,ef⟩ Q:=by have⟨c,j,l,g,q,s⟩:=c;exact yQ c j l gY (by rw[QQ g q s,CN p]) k
def QT{a b:Int}(c:qu X ops t o d (o.op=.binOp .leq ty x y ty'/\Kn t x=U ik a/\Kn t y=U ik b))(p:¬(a<=b))
  (k:ED X ops r ms (i+1) ⟨⟨upd t d (CV χ),h,n,w⟩,al,ld,ef⟩ Q):ED X ops (o::r) (m::ms) i ⟨⟨t,h,n,w⟩,al,ld,ef⟩ Q:=by have⟨c,j,l,g,q,s⟩:=c;exact yQ c j l gY (by rw[QQ g q s,CM p]) k
def QU{a b:Int}(c:o.op=.binOp .gtr ty x y ty')(hx:Kn t x=U ik a)(g:Kn t y=U ik b):yy E o.op (Kn t)=ξ (CV (decide (b<a))):=by rw[c];show binE E .gtr ty (Kn t x) (Kn t y)=_;rw[hx,g];simp only[binE,isSh,yC,intE,MW]

def QW{a b:Int}(c:qu X ops t o d (o.op=.binOp .gtr ty x y ty'/\Kn t x=U ik a/\Kn t y=U ik b))(p:b<a)
  (k:ED X ops r ms (i+1) ⟨⟨upd t d (CV φ),h,n,w⟩,al,ld,ef⟩ Q):ED X ops (o::r) (m::ms) i ⟨⟨t,h,n,w⟩,al,ld,ef⟩ Q:=by have⟨c,j,l,g,q,s⟩:=c;exact yQ c j l gY (by rw[QU g q s,CN p]) k
def QX{a b:Int}(c:qu X ops t o d (o.op=.binOp .gtr ty x y ty'/\Kn t x=U ik a/\Kn t y=U ik b))(p:¬(b<a))
  (k:ED X ops r ms (i+1) ⟨⟨upd t d (CV χ),h,n,w⟩,al,ld,ef⟩ Q):ED X ops (o::r) (m::ms) i ⟨⟨t,h,n,w⟩,al,ld,ef⟩ Q:=by have⟨c,j,l,g,q,s⟩:=c;exact yQ c j l gY (by rw[QU g q s,CM p]) k
def QY{a b:Int}(c:o.op=.binOp .geq ty x y ty')(hx:Kn t x=U ik a)(g:Kn t y=U ik b):yy E o.op (Kn t)=ξ (CV (decide (b<=a))):=by rw[c];show binE E .geq ty (Kn t x) (Kn t y)=_;rw[hx,g];simp only[binE,isSh,yC,intE,gF]

def QZ{a b:Int}(c:qu X ops t o d (o.op=.binOp .geq ty x y ty'/\Kn t x=U ik a/\Kn t y=U ik b))(p:b<=a)
  (k:ED X ops r ms (i+1) ⟨⟨upd t d (CV φ),h,n,w⟩,al,ld,ef⟩ Q):ED X ops (o::r) (m::ms) i ⟨⟨t,h,n,w⟩,al,ld,ef⟩ Q:=by have⟨c,j,l,g,q,s⟩:=c;exact yQ c j l gY (by rw[QY g q s,CN p]) k
def Q0{a b:Int}(c:qu X ops t o d (o.op=.binOp .geq ty x y ty'/\Kn t x=U ik a/\Kn t y=U ik b))(p:¬(b<=a))
  (k:ED X ops r ms (i+1) ⟨⟨upd t d (CV χ),h,n,w⟩,al,ld,ef⟩ Q):ED X ops (o::r) (m::ms) i ⟨⟨t,h,n,w⟩,al,ld,ef⟩ Q:=by have⟨c,j,l,g,q,s⟩:=c;exact yQ c j l gY (by rw[QY g q s,CM p]) k
def Q1{a b:Int}(c:o.op=.binOp .eql ty x y ty')(hx:Kn t x=U ik a)(g:Kn t y=U ik b):yy E o.op (Kn t)=ξ (CV (decide (a=b))):=by rw[c];show binE E .eql ty (Kn t x) (Kn t y)=_;rw[hx,g];exact Ci
def Q2{a b:Int}(c:qu X ops t o d (o.op=.binOp .eql ty x y ty'/\Kn t x=U ik a/\Kn t y=U ik b))(p:a=b)
  (k:ED X ops r ms (i+1) ⟨⟨upd t d (CV φ),h,n,w⟩,al,ld,ef⟩ Q):ED X ops (o::r) (m::ms) i ⟨⟨t,h,n,w⟩,al,ld,ef⟩ Q:=by have⟨c,j,l,g,q,s⟩:=c;exact yQ c j l gY (by rw[Q1 g q s,CN p]) k
def Q3{a b:Int}(c:qu X ops t o d (o.op=.binOp .eql ty x y ty'/\Kn t x=U ik a/\Kn t y=U ik b))(p:¬(a=b))
  (k:ED X ops r ms (i+1) ⟨⟨upd t d (CV χ),h,n,w⟩,al,ld,ef⟩ Q):ED X ops (o::r) (m::ms) i ⟨⟨t,h,n,w⟩,al,ld,ef⟩ Q:=by have⟨c,j,l,g,q,s⟩:=c;exact yQ c j l gY (by rw[Q1 g q s,CM p]) k
def Q4{a b:Int}(c:o.op=.binOp .neq ty x y ty')(hx:Kn t x=U ik a)(g:Kn t y=U ik b):yy E o.op (Kn t)=ξ (CV (!decide (a=b))):=by rw[c];show binE E .neq ty (Kn t x) (Kn t y)=_;rw[hx,g];exact Ci
def Q5{a b:Int}(c:qu X ops t o d (o.op=.binOp .neq ty x y ty'/\Kn t x=U ik a/\Kn t y=U ik b))(p:¬(a=b))
  (k:ED X ops r ms (i+1) ⟨⟨upd t d (CV φ),h,n,w⟩,al,ld,ef⟩ Q):ED X ops (o::r) (m::ms) i ⟨⟨t,h,n,w⟩,al,ld,ef⟩ Q:=by have⟨c,j,l,g,q,s⟩:=c;exact yQ c j l gY (by rw[Q4 g q s];simp[p]) k
def Q6{a b:Int}(c:qu X ops t o d (o.op=.binOp .neq ty x y ty'/\Kn t x=U ik a/\Kn t y=U ik b))(p:a=b)
  (k:ED X ops r ms (i+1) ⟨⟨upd t d (CV χ),h,n,w⟩,al,ld,ef⟩ Q):ED X ops (o::r) (m::ms) i ⟨⟨t,h,n,w⟩,al,ld,ef⟩ Q:=by have⟨c,j,l,g,q,s⟩:=c;exact yQ c j l gY (by rw[Q4 g q s];simp[p]) k
def Oe{c:Operand}{j:Int}(a:qu X ops t o d (o.op=.indexAddr ty x c/\X.E.und ty=ξ (.slice e)/\X.E.inf e=ξ (sz,bt,z)/\Kn t x=Y (ξ ⟨b,off,θ⟩) len cap/\Kn t c=U ik j))(v:0<=j/\j<len)(k:ED X ops r ms (i+1) ⟨⟨upd t d (CZ (ξ ⟨b,off+j.toNat*sz,θ⟩)),h,n,w⟩,al,ld,ef⟩ Q):ED X ops (o::r) (m::ms) i ⟨⟨t,h,n,w⟩,al,ld,ef⟩ Q:=by have⟨a,l,s,g,A,p,B,q⟩:=a;refine yQ a l s gY ?_ k;rw[g];show yV X.E ty (Kn t x) (Kn t c)=_;rw[B,q];simp only[yV,A,p,CQ v,wO]
def sj:∀{l:List (Nat×Nat)},ya m [] l=φ:=by
 intro l;induction l with
 |nil=>rfl
 |cons x l ih=>
  have⟨i,b⟩:=x;unfold ya;rw[show memN b []=χ from ω,GX,Jx];exact ih
def Pd:∀{l:List (Nat×HF×List Nat)},(∀x∈l,x.2.2=[])->LM u b l=φ:=by
 intro l;induction l with
 |nil=>intro _;rfl
 |cons x l ih=>
  intro h;have⟨e,g,W⟩:=x;have a:W=[]:=h (e,g,W) cA;subst a;unfold LM;rw[show memN b []=χ from ω,GX,Jx];exact ih λy c=>h y (by simp[c])
def Mv(P:ψ->Prop)(g:qu X ops t o d (Ku o.op=3/\effF X.E o.op (Kn t) h n=ξ (.enter f args)/\xq m ef=φ/\xJ m al=φ))(a:CF X.C f args h n λv j l w=>j=h/\l=n/\w=[]/\P v)
  (k:∀v,P v->ED X ops r ms (i+1) ⟨⟨upd t d v,h,n,w⟩,al,ld,(i,h,[])::ef⟩ Q):ED X ops (o::r) (m::ms) i ⟨⟨t,h,n,w⟩,al,ld,ef⟩ Q:=by have⟨g,A,D,s,B,p,q⟩:=g;refine wa _ ⟨g,A,D,s,B,p,q⟩ a λv j l W c=>?_;obtain⟨rfl,rfl,rfl,c⟩:=c;exact⟨sj,CS,k v c⟩
end
theorem NV:(∀(X:CtxF) (s:SV) (Q:Ex->SV->Prop) (a b:Code),EC X (.seq a b) s Q↔EC X a s (after X b Q))/\(∀(X:CtxF) (s:SV) (Q:Ex->SV->Prop) (i:Nat) (o:Array Oper),EC X (.region i o χ) s Q↔EO X o.toList o.toList s (Q .normal))/\(∀(X:CtxF) (s:SV) (Q:Ex->SV->Prop) (i:Nat) (b:Code),EC X (.block i b) s Q↔EC X b s (pp i Q))/\(∀(X:CtxF) (s:SV) (Q:Ex->SV->Prop) (c:Code),EC X (.scope c) s Q↔EC X c s Q)/\(∀(X:CtxF) (s:SV) (Q:Ex->SV->Prop),EC X .skip s Q↔Q .normal s)/\(∀(X:CtxF) (s:SV) (Q:Ex->SV->Prop) (i:Nat),EC X (.exit i) s Q↔Q (.exit i) s)/\(∀(X:CtxF) (s:SV) (Q:Ex->SV->Prop),EC X .ret s Q↔Q .ret s)/\(∀(X:CtxF) (s:SV) (Q:Ex->SV->Prop) (l:Nat),EC X (.label l) s Q↔Q .normal s)/\
  (∀(X:CtxF) (o:List Oper) (s:SV) (Q:SV->Prop),EO X o [] s Q↔Q s)/\(∀(X:CtxF) (o:List Oper) (ms:List Nat) (i:Nat) (s:SV) (al ld:List (Nat×Nat)) (ef:List (Nat×HF×List Nat)) (Q:SV->Prop),ED X o [] ms i ⟨s,al,ld,ef⟩ Q↔Q s)/\(∀(X:CtxF) (s:SV) (Q:Ex->SV->Prop) (b:Code),after X b Q .normal s↔EC X b s Q)/\(∀(X:CtxF) (s:SV) (Q:Ex->SV->Prop) (b:Code) (i:Nat),after X b Q (.exit i) s↔Q (.exit i) s)/\(∀(X:CtxF) (s:SV) (Q:Ex->SV->Prop) (b:Code),after X b Q .ret s↔Q .ret s)/\
  (∀(s:SV) (Q:Ex->SV->Prop) (i:Nat),pp i Q .normal s↔Q .normal s)/\(∀(s:SV) (Q:Ex->SV->Prop) (i j:Nat),pp i Q (.exit j) s↔if j=i then Q .normal s else Q (.exit j) s)/\(∀(s:SV) (Q:Ex->SV->Prop) (i:Nat),pp i Q .ret s↔Q .ret s)/\(∀(α:Type) (l:α->List (Nat×ψ)) (I:α->HF->Nat->List Nat->Prop) (μ:α->Nat) (a:α) (Q:Ex->SV->Prop) (s:SV) (i:Nat),qY l I μ a Q (.exit i) s↔Q (.exit i) s)/\(∀(α:Type) (l:α->List (Nat×ψ)) (I:α->HF->Nat->List Nat->Prop) (μ:α->Nat) (a:α) (Q:Ex->SV->Prop) (s:SV),qY l I μ a Q .ret s↔Q .ret s)/\
  (∀(l:List (Nat×ψ)) (I:HF->Nat->List Nat->Prop) (Q:Ex->SV->Prop) (s:SV) (i:Nat),cut l I Q (.exit i) s↔Q (.exit i) s)/\(∀(l:List (Nat×ψ)) (I:HF->Nat->List Nat->Prop) (Q:Ex->SV->Prop) (s:SV),cut l I Q .ret s↔Q .ret s)/\(∀(α:Type) (l:α->List (Nat×ψ)) (I:α->HF->Nat->List Nat->Prop) (Q:Ex->SV->Prop) (s:SV) (i:Nat),cutx l I Q (.exit i) s↔Q (.exit i) s)/\(∀(α:Type) (l:α->List (Nat×ψ)) (I:α->HF->Nat->List Nat->Prop) (Q:Ex->SV->Prop) (s:SV),cutx l I Q .ret s↔Q .ret s)/\(∀(α:Sort 1) [Decidable True] (a b:α),(if True then a else b)=a)/\(∀(α:Sort 1) [Decidable False] (a b:α),(if False then a else b)=b)/\(∀(a b:Prop) [Decidable True],(if True then a else b)=a)/\(∀(a b:Prop) [Decidable False],(if False then a else b)=b)/\((1:Nat)=0↔False)/\((0:Nat)=1↔False):=
 ⟨λ_ _ _ _ _=>yY,λ_ _ _ _ _=>ug,λ_ _ _ _ _=>QD,λ_ _ _ _=>WJ,λ_ _ _=>yu,λ_ _ _ _=>WG,λ_ _ _=>WH,λ_ _ _ _=>WI,λ_ _ _ _=>xg,λ_ _ _ _ _ _ _ _ _=>lz,λ_ _ _ _=>zK,λ_ _ _ _ _=>WK,λ_ _ _ _=>WL,λ_ _ _=>iG,λ_ _ _ _=>WN,λ_ _ _=>WM,λ_ _ _ _ _ _ _ _=>er,λ_ _ _ _ _ _ _=>WZ,λ_ _ _ _ _=>WX,λ_ _ _ _=>WY,λ_ _ _ _ _ _=>W6,λ_ _ _ _ _=>W7,λ_ _ _ _=>CQ trivial,λ_ _ _ _=>CP id,λ_ _ _=>CQ trivial,λ_ _ _=>CP id,iff_false_intro Nat.one_ne_zero,iff_false_intro Nat.zero_ne_one⟩
def zN{p q:Prop}(k:q)(e:q->p:=by intro k;simp only[NV,Nat.reduceEqDiff,reduceCtorEq];exact k):p:=e k
section
variable {X:CtxF}{t:TF}{h:HF}{Q:SV->Prop}
def zR(k:EO X ops r ⟨upd t d v,h,n,w⟩ Q)(f:EO X ops r ⟨upd t d v,h,n,w⟩ Q->EO X ops (o::r) ⟨t,h,n,w⟩ Q:=by first|exact jC R6 Z|exact N9 R6 Z|exact oa R6 Z|exact mD R6 Z|exact MI R6 Z|exact M5 R6 Z|exact jD R6 Z|exact Nz R6 Z|exact Oa R6 Z|exact Ob R6 Z|exact Oc R6 Z|exact Od R6 Z|exact lW R6|exact Ny R6|exact M4 R6|exact MH R6|exact Mu R6|exact N7 R6|exact uI R6 Z|exact Ma R6 Z|exact st_I R5|exact st_B R5|exact st_S R5|exact st_P R5|exact st_T R5|exact st_A R5|exact st_U R5|exact zS (v:=.pointer θ) R4 rfl|exact Nw R3):EO X ops (o::r) ⟨t,h,n,w⟩ Q:=f k
def zM(k:EO X ops r ⟨upd t d v,h,n,w⟩ Q)(f:EO X ops r ⟨upd t d v,h,n,w⟩ Q->EO X ops (o::r) ⟨t,h,n,w⟩ Q:=by first|exact st_I R5|exact st_B R5|exact st_S R5|exact st_P R5|exact st_T R5|exact st_A R5|exact st_U R5|exact zS (v:=.pointer θ) R4 rfl|exact Nw R3):EO X ops (o::r) ⟨t,h,n,w⟩ Q:=f k
end
section
variable {X:CtxF}{t:TF}{h:HF}{ef:List (Nat×HF×List Nat)}{Q:SV->Prop}
def zD(k:ED X ops r ms (i+1) ⟨⟨upd t d v,h,n,w⟩,al,ld,ef⟩ Q)(f:ED X ops r ms (i+1) ⟨⟨upd t d v,h,n,w⟩,al,ld,ef⟩ Q->ED X ops (o::r) (m::ms) i ⟨⟨t,h,n,w⟩,al,ld,ef⟩ Q:=by first|exact QO R6 Z|exact QP R6 Z|exact QR R6 Z|exact QT R6 Z|exact QW R6 Z|exact QX R6 Z|exact QZ R6 Z|exact Q0 R6 Z|exact Q2 R6 Z|exact Q3 R6 Z|exact Q5 R6 Z|exact Q6 R6 Z|exact Pb R6 Z|exact Pc R6 Z|exact dr_I R5|exact dr_B R5|exact dr_S R5|exact dr_P R5|exact dr_T R5|exact dr_A R5|exact dr_U R5|exact Pa ω ω ω):ED X ops (o::r) (m::ms) i ⟨⟨t,h,n,w⟩,al,ld,ef⟩ Q:=f k
def zE(k:ED X ops r ms (i+1) ⟨⟨upd t d v,h,n,w⟩,al,ld,ef⟩ Q)(f:ED X ops r ms (i+1) ⟨⟨upd t d v,h,n,w⟩,al,ld,ef⟩ Q->ED X ops (o::r) (m::ms) i ⟨⟨t,h,n,w⟩,al,ld,ef⟩ Q:=by first|exact Pb R6 Z|exact Pc R6 Z|exact dr_I R5|exact dr_B R5|exact dr_S R5|exact dr_P R5|exact dr_T R5|exact dr_A R5|exact dr_U R5|exact Pa ω ω ω):ED X ops (o::r) (m::ms) i ⟨⟨t,h,n,w⟩,al,ld,ef⟩ Q:=f k
end
def zAA{p q:Prop}(k:q)(e:q->p:=by intro k;repeat (first|refine zR ?_|refine zN ?_|refine(ze ω).mpr ?_|refine(za ω).mpr ?_);exact k):p:=e k
structure ZH (q:Prop):Prop where go:q
def oQ{p q:Prop}(k:q)(e:ZH q->p:=by intro k;(repeat refine zR ?_);refine zN ?_;exact k.go):p:=e ⟨k⟩
def mM{p q:Prop}(k:q)(e:ZH q->p:=by intro k;refine zN ?_;refine oQ ?_;exact k.go):p:=e ⟨k⟩
def mZ{p q:Prop}(k:q)(e:ZH q->p:=by intro k;refine zM ?_;refine zM ?_;exact k.go):p:=e ⟨k⟩
def lF{p q:Prop}(k:q)(e:ZH q->p:=by intro k;refine oQ ?_;rw[za rfl];exact k.go):p:=e ⟨k⟩
def lI{p q:Prop}(k:q)(e:ZH q->p:=by intro k;refine oQ ?_;rw[ze rfl];exact k.go):p:=e ⟨k⟩
def kG{p q:Prop}(k:q)(e:ZH q->p:=by intro k;refine zN ?_;(repeat refine zR ?_);exact k.go):p:=e ⟨k⟩
def Za{p q:Prop}(k:q)(e:ZH q->p:=by intro k;refine zN ?_;refine zM ?_;exact k.go):p:=e ⟨k⟩
def Zb{p q:Prop}(k:q)(e:ZH q->p:=by intro k;refine lF ?_;refine zN ?_;exact k.go):p:=e ⟨k⟩
def Zc{p q:Prop}(k:q)(e:ZH q->p:=by intro k;refine oQ ?_;(repeat refine zR ?_);exact k.go):p:=e ⟨k⟩
def Ze{p q:Prop}(k:q)(e:ZH q->p:=by intro k;refine zM ?_;refine zN ?_;exact k.go):p:=e ⟨k⟩
def Zg{p q:Prop}(k:q)(e:ZH q->p:=by intro k;refine oQ ?_;refine oQ ?_;exact k.go):p:=e ⟨k⟩
def Zh{p q:Prop}(k:q)(e:ZH q->p:=by intro k;refine lI ?_;refine zN ?_;exact k.go):p:=e ⟨k⟩
def Zi{p q:Prop}(k:q)(e:ZH q->p:=by intro k;refine lI ?_;refine mM ?_;exact k.go):p:=e ⟨k⟩
def Zj{p q:Prop}(k:q)(e:ZH q->p:=by intro k;refine lF ?_;refine mM ?_;exact k.go):p:=e ⟨k⟩
def Zk{p q:Prop}(k:q)(e:ZH q->p:=by intro k;refine lI ?_;refine kG ?_;exact k.go):p:=e ⟨k⟩
def Zl{p q:Prop}(k:q)(e:ZH q->p:=by intro k;refine zN ?_;refine mZ ?_;exact k.go):p:=e ⟨k⟩
def Zm{p q:Prop}(k:q)(e:ZH q->p:=by intro k;refine mM ?_;(repeat refine zR ?_);exact k.go):p:=e ⟨k⟩
def Zn{p q:Prop}(k:q)(e:ZH q->p:=by intro k;refine zM ?_;refine Za ?_;exact k.go):p:=e ⟨k⟩
def Zo{p q:Prop}(k:q)(e:ZH q->p:=by intro k;refine mZ ?_;refine zM ?_;exact k.go):p:=e ⟨k⟩
def Zp{p q:Prop}(k:q)(e:ZH q->p:=by intro k;refine Zh ?_;refine mZ ?_;exact k.go):p:=e ⟨k⟩
def Zr{p q:Prop}(k:q)(e:ZH q->p:=by intro k;refine lF ?_;refine Za ?_;exact k.go):p:=e ⟨k⟩
def Zs{p q:Prop}(k:q)(e:ZH q->p:=by intro k;refine mZ ?_;refine zR ?_;exact k.go):p:=e ⟨k⟩
def Zt{p q:Prop}(k:q)(e:ZH q->p:=by intro k;refine lF ?_;refine kG ?_;exact k.go):p:=e ⟨k⟩
def Zu{p q:Prop}(k:q)(e:ZH q->p:=by intro k;refine mM ?_;refine oQ ?_;exact k.go):p:=e ⟨k⟩
def Zv{p q:Prop}(k:q)(e:ZH q->p:=by intro k;refine oQ ?_;refine mZ ?_;exact k.go):p:=e ⟨k⟩
def Zw{p q:Prop}(k:q)(e:ZH q->p:=by intro k;rw[za rfl];refine zN ?_;exact k.go):p:=e ⟨k⟩
def Zx{p q:Prop}(k:q)(e:ZH q->p:=by intro k;refine lI ?_;refine Za ?_;exact k.go):p:=e ⟨k⟩
def Zy{p q:Prop}(k:q)(e:ZH q->p:=by intro k;refine Zb ?_;refine mZ ?_;exact k.go):p:=e ⟨k⟩
end Go.GL
namespace Go.Proofs.YteoagenjaemllaaGreatDoor
open Go Go.GL
variable {ops:List Oper}{n bytes size cap off bt lo m' n' n0 sz c' id c1 c2 l1 l2 b k m d j V a r c B P:Nat}{w ln W A C:List Nat}{o o2:Oper}{cells args new cs:List ψ}{body:Code}{ty' e' ty xT e2 e3 e:TypeId}{fn:Func}{d1 d2 n1 n2 z2 v z:ψ}{α:Type}{ik:IntKind}{ji:Int}{a1 a2:Option Addr}{f:FuncId}{x y:Operand}{E:Env}{q:Rat}
variable {sT:TypeId}{h' h:HF}{ld:List Nat}
def rI:Ex->Bool| .exit _=>χ|_=>φ
noncomputable def Lg(k n nt:Nat):CtxF:={E:=Kw,C:=Kp k,L:=LL,round:=θ,n0:=n,nt:=nt}
def jn{h:HF}{n:Nat}{P:ψ->HF->Nat->List Nat->Prop}(u:GK.orc f args=θ)(j:Kw.fn f=ξ fn)(hb:fn.body=ξ body)(l:DC (O args) fn.ntmps=φ)
  (hx:EC (Lg k n fn.ntmps) body ⟨mj args,h,n,[]⟩ λe s=>rI e=φ/\∃a,resF Kw s fn.results.toList=ξ a/\P (endF Kw f h n s a).1 (endF Kw f h n s a).2.1 (endF Kw f h n s a).2.2.1 (endF Kw f h n s a).2.2.2):CF (Kp (k+1)) f args h n P:=by
 have⟨e,s,c,p,a,g,q⟩:=hx;refine⟨_,_,_,_,?_,q⟩;rw[WF k u h n];unfold Mt;unfold Lg at c;simp only[j,hb,l,c];cases e with
 |exit i=>cases p
 |normal=>simp only[g]
 |ret=>simp only[g]
def RetH(fn:Func)(P:ψ->HF->Nat->List Nat->Prop):Ex->SV->Prop:=λe s=>rI e=φ/\∃vs,resF Kw s fn.results.toList=ξ vs/\uQ vs=χ/\P (qm vs) s.h s.n s.w
def retH{P:ψ->HF->Nat->List Nat->Prop}{e:Ex}{s:SV}(a:List ψ)(c:rI e=φ/\resF Kw s fn.results.toList=ξ a/\uQ a=χ)(i:P (qm a) s.h s.n s.w):RetH fn P e s:=by have⟨c,j,g⟩:=c;exact⟨c,a,j,g,i⟩
def zw{h:HF}{n:Nat}{P:ψ->HF->Nat->List Nat->Prop}(a:GK.orc f args=θ/\Kw.fn f=ξ fn/\fn.body=ξ body/\DC (O args) fn.ntmps=φ)
  (hx:EC (Lg k n fn.ntmps) body ⟨mj args,h,n,[]⟩ (RetH fn P)):CF (Kp (k+1)) f args h n P:=by have⟨a,g,u,i⟩:=a;refine jn a g u i (sW hx λe s⟨j,c,l,p,q⟩=>⟨j,c,l,?_⟩);have e:endF Kw f h n s c=(qm c,s.h,s.n,s.w):=(by unfold endF;rw[p,Bool.and_false]);rw[e];exact q
def RetF(fn:Func)(P:ψ->Prop):Ex->SV->Prop:=λe s=>rI e=φ/\∃vs,resF Kw s fn.results.toList=ξ vs/\uQ vs=φ/\s.w=[]/\P (qm vs)
def retF{P:ψ->Prop}{e:Ex}{s:SV}(a:List ψ)(g:rI e=φ)(j:resF Kw s fn.results.toList=ξ a)(c:uQ a=φ/\s.w=[])(i:P (qm a)):RetF fn P e s:=by have⟨c,l⟩:=c;exact⟨g,a,j,c,l,i⟩
def VF(C:CalF)(f:FuncId)(args:List ψ)(h:HF)(n:Nat)(P:ψ->Prop):Prop:=CF C f args h n λv h' n' w=>h'=h/\n'=n/\w=[]/\P v
def zO{h:HF}{n:Nat}{P:ψ->Prop}(a:GK.orc f args=θ/\Kw.fn f=ξ fn/\fn.body=ξ body/\DC (O args) fn.ntmps=φ)
  (hx:EC (Lg k n fn.ntmps) body ⟨mj args,h,n,[]⟩ (RetF fn P)):VF (Kp (k+1)) f args h n P:=by have⟨a,g,y,i⟩:=a;refine jn a g y i (sW hx λe s⟨j,c,l,p,q,u⟩=>⟨j,c,l,?_⟩);have e:endF Kw f h n s c=(qm c,h,n,[]):=(by unfold endF;rw[p,q];rfl);rw[e];exact⟨ω,ω,ω,u⟩
section
variable {X:CtxF}{r:List Oper}{t:TF}{h:HF}{Q:SV->Prop}{d:Tmp}
def yi(P:ψ->Prop)(g:qu X ops t o d (Ku o.op=3/\effF X.E o.op (Kn t) h n=ξ (.enter f args)))(a:VF X.C f args h n P)
  (k:∀v,P v->EO X ops r ⟨upd t d v,h,n,w⟩ Q):EO X ops (o::r) ⟨t,h,n,w⟩ Q:=by have⟨g,j,p,i,l⟩:=g;refine zF _ ⟨g,j,p,i,l⟩ a λv h' n' q c=>?_;obtain⟨rfl,rfl,rfl,c⟩:=c;exact k v c
end
def wc{C:CalF}{h:HF}{n:Nat}{P a:ψ->HF->Nat->List Nat->Prop}(i:CF C f args h n P)(j:∀v h' n' w,P v h' n' w->a v h' n' w):CF C f args h n a:=by have⟨v,h',n',w,c,g⟩:=i;exact⟨v,h',n',w,c,j _ _ _ _ g⟩
def zi{s:SV}{a:Tmp}(h:s.t a=v):resF Kw s [.tmp a]=ξ [v]:=by simp only[resF,h]
def Xa{s:SV}{a:Tmp}{c:Addr}(g:s.t a=CZ (ξ c))(hl:yB Kw ty s.h c=ξ v):resF Kw s [.cell a ty]=ξ [v]:=by simp only[resF,g,hl]
def uq{P:ψ->HF->Nat->List Nat->Prop}{e:Ex}{t:TF}{h:HF}{n:Nat}{w:List Nat}{a:Tmp}(c:rI e=φ/\fn.results.toList=[.cell a ty]/\t a=ι b/\GL.isAgg Kw ty=ξ φ/\Kw.inf ty=ξ (sz,bt,z))(hb:h b=ξ (.row cs e'))(hl:O cs=sz)(l:P (.agg cs.toArray) h n w):RetH fn P e ⟨t,h,n,w⟩:=by have⟨c,p,g,i,j⟩:=c;refine retH [.agg cs.toArray] ⟨c,?_,ω⟩ l;rw[p];exact Xa g (yw ⟨i,j⟩ hb ω Z pq)
def Ko(n:Nat)(h h':HF):Prop:=∀b,b<3*n->h' b=h b
def Ko.refl(n:Nat)(h:HF):Ko n h h:=λ_ _=>rfl
def Ko.trans{n:Nat}{a b c:HF}(h:Ko n a b)(h':Ko n' b c)(i:n<=n'):Ko n a c:=λk g=>(h' k Z).trans (h k g)
def rR{h:HF}{n:Nat}(i:GK.G h)(e:Ko n h h')(j:20<=n):GK.G h':=by have⟨a,c,g⟩:=i;exact⟨(e _ Z).trans a,(e _ Z).trans c,(e _ Z).trans g⟩
def Ko.upd{n:Nat}{h:HF}{x:Option BF}(hb:3*n<=b):Ko n h (GL.upd h b x):=λk a=>zm Z
def Ko.mono{n:Nat}{h:HF}(e:Ko n' h h')(c:n<=n'):Ko n h h':=λk a=>e k Z
inductive Sl (h:HF) (n sz:Nat):ψ->List ψ->Prop
 |nil {a:Option Addr} {c:Nat} (ha:a=θ\/∃b off sp,a=ξ ⟨b,off,sp⟩/\b<3*n):Sl h n sz (Y a 0 c) []
 |at_ {b off len cap:Nat} {x:BF} {cs cells:List ψ} (hb:b<3*n) (hx:h b=ξ x) (hc:x.cells=ξ cs) (hcap:len<=cap) (hl:off+len*sz<=O cs) (he:(cs.drop off).take (len*sz)=cells):Sl h n sz (Y (ξ ⟨b,off,θ⟩) len cap) cells
def xC(n:Nat):ψ->Prop
 | Y (ξ a) _ _=>3*n<=a.block
 |_=>True
theorem uw{n:Nat}{a:Option Addr}(h:a=θ\/∃b off sp,a=ξ ⟨b,off,sp⟩/\b<3*n)(c:n<=n'):a=θ\/∃b off sp,a=ξ ⟨b,off,sp⟩/\b<3*n':=by grind
def Sl.ext{h:HF}{n:Nat}{c:List ψ}(s:Sl h n sz v c)(e:Ko n h h')(a:n<=n'):Sl h' n' sz v c:=by
 cases s with
 |nil ha=>exact .nil (uw ha a)
 |at_ hb hx hc hcap hl he=>exact .at_ Z (by rw[e _ hb];exact hx) hc hcap hl he
def Sl.keep{h:HF}{n:Nat}{c:List ψ}(s:Sl h n sz v c)(g:∀a l cap,v=Y (ξ a) l cap->h' a.block=h a.block)(i:n<=n'):Sl h' n' sz v c:=by
 cases s with
 |nil ha=>exact .nil (uw ha i)
 |at_ hb hx hc hcap hl he=>exact .at_ Z (by rw[g _ _ _ rfl];exact hx) hc hcap hl he
def Sl.old{h:HF}{n:Nat}{c:List ψ}{x:Option BF}(s:Sl h n sz v c)(g:xC m v)(hb:b<3*m):Sl (GL.upd h b x) n sz v c:=
 s.keep (λa l cap e=>by subst e;exact zm (by have:3*m<=a.block:=g;omega)) CS
theorem xC.mono(h:xC m v)(hm:m'<=m):xC m' v:=by unfold xC at*;split<;>simp_all;omega
def Sl.ones{h:HF}{n:Nat}{c:List ψ}(s:Sl h n sz v c)(r:List ψ):ones (v::r)=ones r:=by cases s<;>rfl
def Sl.inv{h:HF}{n:Nat}{a:Option Addr}{len:Nat}{c:List ψ}(s:Sl h n sz (Y a len cap) c)(hl:len≠0):∃b off x cs,a=ξ ⟨b,off,θ⟩/\b<3*n/\h b=ξ x/\x.cells=ξ cs/\len<=cap/\off+len*sz<=O cs/\(cs.drop off).take (len*sz)=c:=by
 cases s with
 |nil ha=>exact CO ω hl
 |at_ hb hx hc hcap hl he=>exact⟨_,_,_,_,ω,hb,hx,hc,hcap,hl,he⟩
theorem Sl.len{h:HF}{n:Nat}{c:List ψ}(s:Sl h n sz v c):∃a l cap,v=Y a l cap/\O c=l*sz:=by cases s<;>grind
section
variable {X:CtxF}{r:List Oper}{t:TF}{h:HF}{Q:SV->Prop}{d:Tmp}
def pY(c:qu X ops t o d (o.op=.convert ty e x/\vI X.E ty e (Kn t x)=θ))(u:rX X.E ty e (Kn t x) h=ξ v)(k:EO X ops r ⟨upd t d v,h,n,w⟩ Q):EO X ops (o::r) ⟨t,h,n,w⟩ Q:=by
 have⟨c,q,s,a,l⟩:=c;have⟨y,g,i⟩:=k;refine⟨y,?_,i⟩;rw[seqF,c];have p:Ku o.op=4:=by rw[a];rfl
 have j:KD X.E o.op (Kn t)=θ:=by rw[a];exact l
 simp only[Lt,p,j];rw[a];simp only[u,xH,q,s,addW];exact g
end
inductive Gro (h:HF) (lo n:Nat) (e:TypeId) (sz:Nat):ψ->Nat->List ψ->Prop
 |nil:Gro h lo n e sz (Y θ 0 0) 0 []
 |at_ {b len:Nat} {c:List ψ} (hg:gro b=φ) (hlo:3*lo<=b) (hb:b<3*n) (hr:h b=ξ (.row c e)) (hl:O c=len*sz) (ho:ones c=φ):Gro h lo n e sz (Y (ξ ⟨b,0,θ⟩) len len) len c
def Gro.ext{h:HF}{n:Nat}{len:Nat}{c:List ψ}(g:Gro h lo n e sz v len c)(a:Ko n h h')(i:n<=n'):Gro h' lo n' e sz v len c:=by
 cases g with
 |nil=>exact .nil
 |at_ hg hlo hb hr hl ho=>exact .at_ hg hlo Z (by rw[a _ hb];exact hr) hl ho
def Gro.sl{h:HF}{n:Nat}{len:Nat}{c:List ψ}(g:Gro h lo n e sz v len c):Sl h n sz v c:=by
 cases g with
 |nil=>exact .nil (.inl ω)
 |at_ hg hlo hb hr hl ho=>exact .at_ hb hr ω CS Z pq
def Gro.fresh{h:HF}{n:Nat}{len:Nat}{c:List ψ}(g:Gro h lo n e sz v len c):xC lo v:=by
 cases g with
 |nil=>trivial
 |at_ hg hlo hb hr hl ho=>exact hlo
theorem Gro.shape{h:HF}{n:Nat}{len:Nat}{c:List ψ}(g:Gro h lo n e sz v len c):∃a,v=Y a len len/\O c=len*sz:=by cases g<;>grind
def Keep(v:ψ)(n:Nat)(h h':HF):Prop:=∀b,b<3*n->(∀o l c,v≠Y (ξ ⟨b,o,θ⟩) l c)->h' b=h b
def Below(m:Nat):ψ->Prop
 | Y (ξ a) _ _=>a.block<3*m
 |_=>True
def Gro.below{h:HF}{n:Nat}{len:Nat}{c:List ψ}(g:Gro h lo n e sz v len c):Below n v:=by
 cases g with
 |nil=>trivial
 |at_ hg hlo hb hr hl ho=>exact hb
def Sl.below{h:HF}{n:Nat}{c:List ψ}(s:Sl h n sz v c):Below n v:=by
 cases s with
 |nil ha=>
  obtain rfl|⟨b,g,i,rfl,a⟩:=ha;trivial;exact a
 |at_ a hx hc hcap hl he=>exact a
def Sl.app{h:HF}{n:Nat}{u:ψ}{c:List ψ}(s:Sl h n sz u c)(j:Keep v n h h')(hv:Below m v)(i:xC m u)(p:n<=n'):Sl h' n' sz u c:=by
 cases s with
 |nil ha=>exact .nil (uw ha p)
 |at_ hb hx hc hcap hl he=>
  refine .at_ Z ?_ hc hcap hl he;rw[j _ hb λo l c e=>by subst e;have a:_<3*m:=hv;have g:3*m<=_:=i;simp only at a g;omega];exact hx
def yZ{a b:List ψ}(c:ones a=φ)(hb:ones b=φ):ones (a++b)=φ:=by
 induction a with
 |nil=>exact hb
 |cons v a ih=>cases v<;>simp[ones]at c⊢ <;>exact ih c
theorem uD(n:Nat):gro (3*n+1)=φ:=by simp_all [gro]
theorem zV{w:List Nat}(h:∀b∈W,3*n0<=b):addW n0 W w=w:=by induction W generalizing w<;>simp_all [addW,DC,C8]
def uf{h:HF}{n len:Nat}{x:ψ}{c:List ψ}(hu:E.und sT=ξ (.slice e))(hi:E.inf e=ξ (size,bytes,z))(l:O (zn z)=size)(a:1<=size/\1<=bytes)(g:Gro h lo n e size v len c)(hx:argS h size x m new)(hm:1<=m)(hb:(len+m)*bytes<=1099511627776)(hl:O new=m*size)(i:ones new=φ)(p:lo<=n):
  ∃v' h' W,yW E h n sT v x=ξ (.val v' h' (n+1) W)/\Gro h' lo (n+1) e size v' (len+m) (c++new)/\Ko lo h h'/\Keep v n h h'/\(∀b∈W,3*lo<=b)/\xC n v':=by
 cases g with
 |nil=>
  refine⟨_,_,_,append_nil hu hi l a.1 a.2 hx hm AO,?_,λb hb=>zm Z,λb hb _=>zm Z,λb hb=>CO hb C6,sn⟩;rw[Dl];exact .at_ (uD n) Z Z (zg _ _ _) hl i
 |at_ g hlo2 hb2 hr hl2 ho2=>
  refine⟨_,_,_,ue hu hi l a.1 a.2 hx hm hb g hr hl2 (yZ ho2 i) hl,?_,λb hb=>?_,λb hb j=>?_,λb hb=>?_,sn⟩;exact .at_ (uD n) Z Z (zg _ _ _) (by rw[C1,hl2,hl,Dq]) (yZ ho2 i);rw[zm Z,zm Z];rw[zm Z,zm (λe=>j 0 len len (by rw[e]))];simp at hb;omega
section
variable {X:CtxF}{r:List Oper}{t:TF}{h:HF}{Q:SV->Prop}{d:Tmp}
def cm{s:Operand}{len:Nat}{c:List ψ}(g:qu X ops t o d (o.op=.call {callee:=.builtin .append,args:=#[s,x],argTypes:=#[sT,xT]}/\(match X.E.und xT with|some (.int _)=>χ|none=>χ|_=>φ)=φ/\X.E.und sT=ξ (.slice e)/\X.E.inf e=ξ (size,bytes,z)/\O (zn z)=size))(p:1<=size/\1<=bytes)(C:Gro h lo n e size (Kn t s) len c)(hx:argS h size (Kn t x) m new)(hm:1<=m)(hb:(len+m)*bytes<=1099511627776)(hl:O new=m*size)(j:ones new=φ)(i:X.n0<=lo/\lo<=n)
  (k:∀a h',Gro h' lo (n+1) e size a (len+m) (c++new)->Ko lo h h'->Keep (Kn t s) n h h'->EO X ops r ⟨upd t d a,h',n+1,w⟩ Q):EO X ops (o::r) ⟨t,h,n,w⟩ Q:=by have⟨g,hd,hn,F,l,G,D,H⟩:=g;have⟨a,h',W,q,u,y,B,A,_⟩:=uf G D H p C hx hm hb hl j i.2;refine yM ⟨g,hd,hn,F,l⟩ q ?_;rw[zV λb hb=>by have:=A b hb;omega];exact k a h' u y B
end
def Sl.take{h:HF}{n:Nat}{a:Option Addr}{len:Nat}{c:List ψ}(s:Sl h n sz (Y a len cap) c)(m:Nat)(hm:m<=len):Sl h n sz (Y a m cap) (c.take (m*sz)):=by
 have i:=s.below;by_cases h0:len=0;have:m=0:=Z;subst this;rw[Ep,E1];cases a with
 |none=>exact .nil (.inl ω)
 |some a=>
  cases s with
  |nil ha=>exact .nil ha
  |at_ i u l g hl p=>exact .nil (.inr ⟨_,_,_,ω,i⟩)
 obtain⟨b,A,x,cs,rfl,j,u,l,g,y,p⟩:=s.inv h0;have q:m*sz<=len*sz:=C9 _ hm;refine .at_ j u l Z Z ?_;rw[<-p,GY,Ee q]
def yp{h:HF}{len:Nat}{x:BF}(hx:h b=ξ x)(a:x.cells=ξ cs/\O cs=len*sz):argS h sz (Y (ξ ⟨b,0,θ⟩) len cap) len cs:=by have⟨a,c⟩:=a;refine⟨ω,?_⟩;simp only[yD];by_cases h0:len*sz=0;rw[CQ h0];rw[h0]at c;rw[De.1 c];rw[CP h0];have:DC (0+len*sz) (O cs)=φ:=C8 Z;simp only[tR,hx,a,this,F3,Eg,DO];rw[C7 Z]
def uX{h:HF}{n:Nat}{a:Option Addr}{len:Nat}{c:List ψ}(s:Sl h n sz (Y a len cap) c):argS h sz (Y a len cap) len c:=by
 cases s with
 |nil ha=>
  refine⟨ω,?_⟩;obtain rfl|⟨b,g,i,rfl,_⟩:=ha<;>simp[yD]
 |at_ hb hx hc hcap hl he=>
  refine⟨ω,?_⟩;simp only[yD];by_cases h0:len*sz=0;rw[CQ h0,<-he,h0];simp;rw[CP h0];have:DC (_+len*sz) _=φ:=C8 hl;simp only[tR,hx,hc,this,F3,Eg,he]
def Xb{cs cells:List ψ}{off m j k:Nat}(a:(cs.drop off).take m=cells)(hj:j+k<=m):(cs.drop (off+j)).take k=(cells.drop j).take k:=by rw[<-a,List.drop_take,GY,EH,Ee Z]
section
variable {len:Nat}
def u32s(l:List Nat):List ψ:=l.map λd:Nat=>U .u32 (d:Int)
def zY(l:List Nat):O (u32s l)=O l:=by simp[u32s]
def Q7(a b:List Nat):u32s (a++b)=u32s a++u32s b:=by simp[u32s]
def yf(l:List Nat):List Nat:=(l.reverse.dropWhile (· ==0)).reverse
def wi(l:List Nat):yf (l++[0])=yf l:=by simp[yf]
def xy(l:List Nat)(h:d≠0):yf (l++[d])=l++[d]:=by simp[yf,h]
def snoc{l:List Nat}(h:l≠[]):∃i d,l=i++[d]:=⟨l.dropLast,l.getLast h,(Hb h).symm⟩
theorem qG{u:ψ}(a:(cs.drop off).take m=cells)(hj:cells[j]?=ξ u):cs[off+j]?=ξ u:=by grind
theorem LQ(k:Nat){a:Option Addr}{l:List Nat}(hb:O l<4611686018427387904)(hv:Sl h n 1 (Y a len cap) (u32s l)):CF (Kp (k+1)) 121 [Y a len cap] h n λu o q w=>o=h/\q=n/\w=[]/\u=Y a (O (yf l)) cap/\Sl h n 1 u (u32s (yf l)):=by
 refine zw (fn:=Tryz.f121) R4 ?_;refine mM ?_;have g:len=O l:=by
  have⟨C,B,y,e,A⟩:=hv.len;rw[zY]at A;injection e with e1 e2 e3
  omega
 subst g;refine ye (α:=List Nat) (λc=>[(0,Y a (O c) cap)]) (λc o q w=>o=h/\q=n/\w=[]/\Sl h n 1 (Y a (O c) cap) (u32s c)/\yf c=yf l/\O c<4611686018427387904) (λc=>O c) l ⟨rfl,CR⟩ ⟨rfl,rfl,rfl,hv,rfl,hb⟩ tp ?_;rintro c t _ _ _⟨rfl,rfl,rfl,s,p,D⟩;refine zN ?_;by_cases hl0:c=[]
 .subst hl0;refine Zj ?_;refine retH _ ⟨rfl,(zi rfl),rfl⟩ ⟨rfl,rfl,rfl,?_⟩;rw[<-p];exact⟨rfl,s⟩
 obtain⟨i,d,rfl⟩:=snoc hl0;rw[C1,Db]at*
 cases s with
 |at_ hb2 hx hc hcap hle he=>
  rename_i b off x cs;have f:cs[off+O i]?=ξ (U .u32 (d:Int)):=qG he (by simp[u32s]);repeat refine zR ?_
  refine oe R8 Z ?_;refine zT R6 hx (v:=U .u32 (d:Int)) ⟨hc,(by rw[<-f];congr 1;omega)⟩ ?_;by_cases hd:d=0
  .refine Zk ?_;refine td (O i) R8 Z Z ?_;refine oQ ?_;refine goOn i cA ⟨rfl,CR⟩ ⟨rfl,rfl,rfl,.at_ hb2 hx hc Z Z ?_,?_,Z⟩
   .have:=congrArg (List.take (O i)) he;rw[GY]at this;simpa [u32s,Ee]using this
   rw[<-p,hd,wi]
  refine Zj ?_;refine retH _ ⟨rfl,(zi rfl),rfl⟩ ⟨rfl,rfl,rfl,?_⟩;rw[<-p,xy _ hd];exact⟨by rw[C1];rfl,.at_ hb2 hx hc hcap hle he⟩
end
def val:List Nat->Nat
 |[]=>0
 |d::r=>d+4294967296*val r
def KA(l:List Nat):Prop:=∀d∈l,d<4294967296
theorem Of(a b:List Nat):val (a++b)=val a+4294967296^O a*val b:=by induction a<;>grind [val,only]
def Pe{l:List Nat}(h:KA l):val l<4294967296^O l:=by
 induction l with
 |nil=>simp[val]
 |cons d l ih=>
  have b:=h d cA;have c:=ih λx a=>h x AM;simp only[val,DM,Dj];omega
def wF{P:List Nat->Prop}(b:∀l,P l->P (l++[0]))(a:∀l d,d≠0->P (l++[d]))(h0:P []):∀l,P l:=by
 intro l;induction h:O l generalizing l with
 |zero=>rw[De.1 h];exact h0
 |succ m ih=>
  obtain⟨i,d,rfl⟩:=snoc (l:=l) A1;by_cases hd:d=0;subst hd;exact b i (ih i (by simpa using h));exact a i d hd
def lj:∀l,val (yf l)=val l:=
 wF (λl ih=>by rw[wi,ih,Of];simp[val]) (λl d a=>by rw[xy l a]) rfl
def Q8:∀l,yf (yf l)=yf l:=
 wF (λl ih=>by rw[wi,ih]) (λl d a=>by rw[xy l a,xy l a]) rfl
def Pf:∀l,KA l->KA (yf l):=
 wF (λl ih h=>by rw[wi];exact ih λd a=>h d AM) (λl d a h=>by rw[xy l a];exact h) (λh=>h)
theorem xU:∀l,O (yf l)<=O l:=
 wF (λl ih=>by rw[wi];simp;omega) (λl d a=>by rw[xy l a];exact Ez _) (by simp[yf])
def Norm(l:List Nat):Prop:=KA l/\yf l=l
def Norm.trim{l:List Nat}(h:KA l):Norm (yf l):=⟨Pf l h,Q8 l⟩
def Norm.last{l:List Nat}{d:Nat}(h:Norm (l++[d])):d≠0:=λe=>by
 have a:=h.2;subst e;rw[wi]at a;have:=xU l;rw[a]at this;simp at this;omega
def Norm.pos{l:List Nat}(h:Norm l)(hl:l≠[]):0<val l:=by
 obtain⟨i,d,rfl⟩:=snoc hl;have b:=h.last;rw[Of];have:0<4294967296^O i:=DQ Z;have a:0<val [d]:=by simp[val];omega
 have:=Fv this a;omega
def Norm.zero{l:List Nat}(h:Norm l):val l=0↔l=[]:=by constructor;intro b;apply Df;intro a;have:=h.pos a;omega;rintro rfl;rfl
structure IntR (h:HF)(n:Nat)(c1 c2:ψ)(x:Int)(l:List Nat):Prop where
 neg:c1=CV (decide (x<0))
 sl:Sl h n 1 c2 (u32s l)
 norm:Norm l
 val:val l=x.natAbs
def IntR.ext{h h':HF}{n n':Nat}{a b:ψ}{x:Int}{l:List Nat}(r:IntR h n a b x l)(e:Ko n h h')(c:n<=n'):IntR h' n' a b x l:=⟨r.neg,r.sl.ext e c,r.norm,r.val⟩
theorem Mw(k:Nat)(h:HF)(n:Nat)(neg:Bool)(a:Option Addr)(l c:Nat):CF (Kp (k+1)) 86 [CV neg,Y a l c] h n λv b d w=>v=.agg #[CV (neg&&decide (0<l)),Y a l c]/\d=n+1/\w=[]/\Ko n h b:=by
 refine zw (fn:=Tryz.f86) R4 ?_;refine zN ?_;refine xV R5 ?_;refine zN ?_;cases neg
 .repeat refine zR ?_
  refine yc [CV χ,Y a l c] R7 rfl (zg _ _ _) rfl (by show 3*n<=_;omega) ?_;refine zN ?_;exact uq R5 (zg _ _ _) rfl ⟨rfl,rfl,rfl,by rw[uk];exact Ko.upd Z⟩
 by_cases hl:0<l
 .repeat refine zR ?_
  refine yc [CV φ,Y a l c] R7 rfl (zg _ _ _) rfl (by show 3*n<=_;omega) ?_;refine zN ?_;exact uq R5 (zg _ _ _) rfl ⟨by rw[CN hl];rfl,rfl,rfl,by rw[uk];exact Ko.upd Z⟩
 repeat refine zR ?_
 refine yc [CV χ,Y a l c] R7 rfl (zg _ _ _) rfl (by show 3*n<=_;omega) ?_;refine zN ?_;exact uq R5 (zg _ _ _) rfl ⟨by rw[CM hl];rfl,rfl,rfl,by rw[uk];exact Ko.upd Z⟩
def qK(m:Nat)(h:0<m/\m<=18446744073709551616):DE .u64 (-(m:Int))=((18446744073709551616-m:Nat):Int):=by simp only[DE,FS,EP];simp;omega
def ra(a:Nat)(h:0<a/\a<18446744073709551616):DE .u64 (0-(a:Int))=((18446744073709551616-a:Nat):Int):=by simp only[DE,FS,EP];simp;omega
def Q9(m:Nat)(hm:m<18446744073709551616):KA [m%4294967296,m/4294967296]/\val [m%4294967296,m/4294967296]=m:=by refine⟨λd a=>?_,?_⟩;simp at a;obtain rfl|rfl:=a<;>omega;simp only[val];omega
def Xc(k:Nat)(h:HF)(n:Nat)(x:Int)(hx: -9223372036854775808<=x/\x<9223372036854775808):CF (Kp (k+2)) 92 [U .i64 x] h n λv g i w=>w=[]/\n<=i/\Ko n h g/\∃c1 c2 l,v=.agg #[c1,c2]/\IntR g i c1 c2 x l/\xC n c2/\O l<=2:=by
 refine zw (fn:=Tryz.f92) R4 ?_;obtain⟨m,D⟩:∃m,m=x.natAbs:=⟨_,ω⟩;have d:m<18446744073709551616:=Z;refine zN ?_;refine xV R5<|zN ?_;generalize hh:upd h (3*n+2) _=h1;have A:∃e,h1 (3*n+2)=ξ (.row [CV χ,η] e):=⟨_,gP⟩;have o:Ko n h h1:=by rw[<-hh];exact Cy
 repeat refine zR ?_
 refine wm (ik:=.u64) (a:=((if x<0 then 18446744073709551616-m else m:Nat):Int)) R6 ?_ ?_;show ξ (U .u64 (DE .u64 x))=_;by_cases hn:x<0;rw[CQ hn,show x= -(m:Int)from Z,qK m Z];rw[CP hn,show x=(m:Int)from Z,xR,Di d];refine Zg ?_;refine MG [(0,U .i64 x),(2,ι (3*n+2)),(3,U .u64 (m:Int))] (λg i w=>h1=g/\i=n+1/\w=[]) ?_ ?_;by_cases hn:x<0;rw[ze (by show CV (decide (x<0))=_;rw[CN hn])];refine zN ?_;refine st_I R5<|zS (v:=U .u64 (m:Int)) R4 ?_ ?_;show ξ (U .u64 (DE .u64 (0-((if x<0 then 18446744073709551616-m else m:Nat):Int))))=_;rw[CQ hn,ra _ Z];congr 3;omega;refine oQ ?_;exact LH P3 R3;rw[za (by show CV (decide (x<0))=_;rw[CM hn])];refine zN ?_;exact LH ⟨ω,ω,by show U .u64 ((if x<0 then 18446744073709551616-m else m:Nat):Int)=_;rw[CP hn],CR⟩ R3;rintro t _ _ _⟨rfl,rfl,rfl⟩;refine kG ?_;refine ft R7<|zM ?_;refine yn (s:=32) R6 Z<|ft R7 ?_;have F:m/2^32%4294967296=m/4294967296:=Z;rw[F];refine pZ (cs:=u32s [m%4294967296,m/4294967296]) R5<|zF _ R5 (LQ k (l:=[m%4294967296,m/4294967296]) cA (.at_ Z (zg _ _ _) ω Z (by simp[u32s]) ω)) ?_;rintro H _ _ _⟨rfl,rfl,rfl,rfl,G⟩;refine zF _ R5 (Mw k _ _ (decide (x<0)) _ _ _) ?_;generalize hL:yf [m%4294967296,m/4294967296]=L at*;have u:O L<=2:=by rw[<-hL];exact xU _
 have c:val L=m:=by rw[<-hL,lj,(Q9 m d).2]
 have y:Norm L:=by rw[<-hL];exact Norm.trim (Q9 m d).1
 have p:(decide (x<0)&&decide (0<O L))=decide (x<0):=by
  by_cases hn:x<0;have:L≠[]:=λe=>by rw[e]at c;simp[val]at c;omega
  have:0<O L:=List.length_pos_iff.2 this;simp[this];simp[hn]
 rintro I B n2 _⟨rfl,rfl,rfl,f⟩;have⟨e,C⟩:=A;have j:B (3*n+2)=ξ (.row [CV χ,η] e):=(by rw[f _ Z,zm Z];exact C);refine yc [CV (decide (x<0)),Y (ξ ⟨3*(n+1)+2,0,θ⟩) (O L) 2] ⟨ω,ω,ω,ω,ω,(by show[CV (decide (x<0)&&decide (0<O L)),_]=_;rw[p]),ω⟩ ω j ω dG ?_;refine zN ?_;refine uq R5 (zg _ _ _) ω ⟨ω,Z,λb j=>?_,_,_,L,ω,⟨ω,?_,y,by rw[c,D]⟩,?_,u⟩;rw[zm Z,f b Z,zm Z];exact o b j;exact(G.ext f Z).old (m:=n+1) (show 3*(n+1)<=3*(n+1)+2 from Z) Z;exact gR
structure RatR (h:HF)(n:Nat)(n1 n2 d1 d2:ψ)(q:Rat)(ln ld:List Nat):Prop where
 num:IntR h n n1 n2 q.num ln
 neg:d1=CV χ
 sl:Sl h n 1 d2 (u32s ld)
 norm:Norm ld
 val:val ld=if q.den=1 then 0 else q.den
def Norm.nil:Norm []:=⟨λd a=>CO a C6,ω⟩
def Pg(k:Nat){i j:ψ}{x:Int}{l:List Nat}(hi:IntR h n i j x l):VF (Kp (k+1)) 94 [.agg #[i,j]] h n λv=>v=U .i64 x.sign:=by refine zO (fn:=Tryz.f94) R4 ?_;obtain⟨a,b,c,rfl,f⟩:=hi.sl.len;have g:=hi.neg;subst g;refine zN ?_;refine Lu (cs:=[CV (decide (x<0)),Y a b c]) R5<|Zc ?_;refine zT R6 (zg _ _ _) (v:=CV (decide (x<0))) R2<|oQ ?_;by_cases hx:x<0;rw[ze (by show CV (decide (x<0))=_;rw[CN hx])];refine mM ?_;exact retF _ ω (zi ω) R2 (by rw[Int.sign_eq_neg_one_of_neg hx];rfl);rw[za (by show CV (decide (x<0))=_;rw[CM hx])];refine kG ?_;refine zT R6 (zg _ _ _) (v:=Y a b c) R2 ?_;have d:b=0↔x=0:=(by have m:=hi.norm.zero;have o:=hi.val;rw[zY]at f;rw[<-De]at m;omega);by_cases h0:x=0;have:=d.2 h0;refine Zi ?_;exact retF _ ω (zi ω) R2 (by rw[h0];rfl);have:¬b=0:=λe=>h0 (d.1 e);refine Zj ?_;exact retF _ ω (zi ω) R2 (by rw[Int.sign_eq_one_of_pos Z];rfl)
def Xd(k:Nat)(a:RatR h n n1 n2 d1 d2 q ln ld):VF (Kp (k+2)) 100 [.agg #[n1,n2,d1,d2]] h n λv=>v=U .i64 q.num.sign:=by refine zO (fn:=Tryz.f100) R4<|zN ?_;refine Lu (cs:=[n1,n2,d1,d2]) R5<|Zc ?_;refine z7 (v:=.agg #[n1,n2]) R5 (yw R2 (zg _ _ _) ω zb ω)<|yi _ R5 (Pg k (a.num.ext (Ko.upd Z) Z)) ?_;rintro _ rfl;refine oQ ?_;exact BG
section
variable {len:Nat}
theorem Xe(j:Nat)(z v:ψ)(r:List ψ):zu (C3 (j+1) z++r) j [v]=C3 j z++(v::r):=by grind [zu,C3,DH,List.take_left,List.drop_left]
theorem uR{l:List Nat}(h:l[j]?=ξ d):l.drop j=d::l.drop (j+1):=by obtain⟨b,rfl⟩:=C4.1 h;exact EX b
def Ph(r a:Nat)(f:r<4294967296)(e:a<4294967296):r*2^32%18446744073709551616|||a=r*4294967296+a:=by have c:r*2^32%18446744073709551616=r*4294967296:=Z;rw[c];have:=IG (i:=32) (b:=a) Z r;rw[show r*4294967296=2^32*r from Z,<-this]
def Xf{Vq:Nat}(c:0<d)(b:V=d*Vq+r):(a+4294967296*V)/d=(r*4294967296+a)/d+4294967296*Vq/\(a+4294967296*V)%d=(r*4294967296+a)%d:=by have e:a+4294967296*V=(r*4294967296+a)+d*(4294967296*Vq):=(by rw[b,DW,<-Dp,C5 4294967296 d,Dp];omega);rw[e,Hq _ _ c,FX];exact⟨ω,ω⟩
def Ra(k:Nat){a:Option Addr}{l:List Nat}(hb:O l<1099511627)(hl:KA l)(f:0<d/\d<4294967296)(hv:Sl h n 1 (Y a len cap) (u32s l)):
  CF (Kp (k+2)) 85 [Y a len cap,U .u32 (d:Int)] h n λv m G w=>w=[]/\n<=G/\Ko n h m/\∃u c' L,v=.tuple #[Y u (O L) c',U .u32 ((val l%d:Nat):Int)]/\Sl m G 1 (Y u (O L) c') (u32s L)/\Norm L/\val L=val l/d/\xC n (Y u (O L) c')/\O L<=O l:=by
 refine zw (fn:=Tryz.f85) R4 ?_;have D:len=O l:=(by have⟨u,a3,a0,e,hl⟩:=hv.len;rw[zY]at hl;injection e with A P I;omega);subst D;refine Zm ?_;refine vB R9 Z ?_;rw[show zn (U .u32 0)=[U .u32 0]from ω,W0];refine Zg ?_;refine oQ ?_;refine ye (α:=Nat×List Nat×Nat) (λx=>[(0,Y a (O l) cap),(1,U .u32 (d:Int)),(6,Y (ξ ⟨3*n+2,0,θ⟩) (O l) (O l)),(7,U .u64 ((x.2.2:Nat):Int)),(8,U .i64 ((x.1:Int)-1))])
  (λx m G w=>G=n+1/\w=[]/\Ko n h m/\x.1<=O l/\(∃e,m (3*n+2)=ξ (.row (C3 x.1 (U .u32 0)++u32s x.2.1) e))/\x.1+O x.2.1=O l/\KA x.2.1/\x.2.2<d/\val (l.drop x.1)=d*val x.2.1+x.2.2) (λx=>x.1)
  (O l,[],0) P5 ⟨ω,ω,Ko.upd Z,CS,⟨_,by rw[zg,show u32s []=[]from ω,DJ]⟩,cA,λd f=>CO f C6,f.1,by simp[val]⟩ tp ?_
 rintro⟨j,q,r⟩ t h1 _ _ ⟨rfl,rfl,g,hj,⟨e,i⟩,W,M,F,o⟩;simp only at hj i W M F o;refine zN ?_;cases j with
 |zero=>
  refine Zt ?_;refine zF _ R5 (LQ k (l:=q) Z (.at_ Z i ω Z (by simp[u32s];omega) (by rw[C7 (by simp[u32s];omega)];simp))) ?_;rintro v' _ _ _⟨rfl,rfl,rfl,rfl,hs⟩;refine zM ?_;refine ft R7<|oQ ?_;have T:l.drop 0=l:=rfl;rw[T]at o;refine retH [Y (ξ ⟨3*n+2,0,θ⟩) (O (yf q)) (O l),U .u32 ((val l%d:Nat):Int)] ⟨ω,?_,ω⟩ ⟨ω,Am,g,_,_,yf q,ω,hs,Norm.trim M,?_,?_,?_⟩;have A:val l%d=r%4294967296:=by rw[o,Nat.mul_add_mod,Di F,Di Z]
  rw[A];rfl;rw[lj,o,Nat.mul_add_div f.1,EZ F];omega;exact aD;have:=xU q;omega
 |succ j=>
  have K:j<O l:=Z;obtain⟨c,p⟩:∃c,l[j]?=ξ c:=⟨l[j],by simp[K]⟩;have Z4:c<4294967296:=hl c (C0 p);have C:=uR p;obtain⟨b,Z0,x,Z1,rfl,S,hx,hc,a2,a4,he⟩:=hv.inv Z;have B:Z1[Z0+j]?=ξ (U .u32 (c:Int)):=qG he (by rw[u32s,Dz,p];rfl);have Z3:h1 b=ξ x:=by rw[g b S];exact hx
  refine Zx ?_;refine xK (s:=32) R6 Z<|mZ ?_;refine oe R8 Z<|zT R6 Z3 (v:=U .u32 (c:Int)) ⟨hc,(by rw[<-B];congr 1;omega)⟩ ?_;refine N8 R7 ?_;rw[Di (show c<18446744073709551616 from Z)];refine wG R6 Z ?_;rw[Ph r c Z Z4];refine oQ ?_;obtain⟨R,J⟩:∃R,R=r*4294967296+c:=⟨_,ω⟩;rw[<-J];have H:R/d<4294967296:=(by rw[EF f.1,J];have:r*4294967296+c<(r+1)*4294967296:=Z;have h2:(r+1)*4294967296<=d*4294967296:=C9 _ F;omega);have a1:R<18446744073709551616:=Z;refine mZ ?_;refine mZ ?_;refine N8 R7 ?_;rw[Di (show d<18446744073709551616 from Z)];refine xN R6 Z<|ft R7 ?_;rw[Di H];refine oe R8 Z<|yF (cs:=[U .u32 ((R/d:Nat):Int)]) R8 i (by simp[u32s]) dG ?_;rw[show 0+((j+1:Nat)-1:Int).toNat*1=j from Z,Xe];refine Zl ?_;refine N8 R7 ?_;rw[Di (show d<18446744073709551616 from Z)];refine vO R6 Z<|Zg ?_;have⟨A,P⟩:=Xf (a:=c) f.1 o;refine goOn (j,(R/d)::q,R%d) cA ⟨ω,ω,ω,ω,bJ,CR⟩ ⟨ω,ω,λb hb=>?_,Bp,⟨_,zg _ _ _⟩,by show j+(O q+1)=_;omega,?_,DS _ f.1,?_⟩;exact(zm Z).trans (g b hb);intro y N;obtain rfl|N:=DA.1 N;exact H;exact M y N;show val (l.drop j)=d*(R/d+4294967296*val q)+R%d;rw[C];have I:=Em (c+4294967296*val (l.drop (j+1))) d;rw[A,P,<-J]at I;exact I.symm
end
section
variable {len:Nat}
def decD(V:Nat):List Nat:=if h:V=0 then[]else decD (V/10)++[V%10]
termination_by V
decreasing_by omega
def xo:decD 0=[]:=by rw[decD];simp
theorem wy(h:V≠0):decD V=decD (V/10)++[V%10]:=by rw[decD,dif_neg h]
theorem Rb(a:c<10)(h:V≠0\/c≠0):decD (10*V+c)=decD V++[c]:=by grind [wy]
def Xg:decD V=[]↔V=0:=by constructor;intro h;apply Df;intro a;rw[wy a]at h;simp at h;rintro rfl;exact xo
def KE(l:List Nat):List ψ:=l.map λd:Nat=>U .u8 (d:Int)
theorem rU(l:List Nat):O (KE l)=O l:=by simp[KE]
theorem Xh(l:List Nat):pi (KE l)=ξ (l.map EA):=by induction l<;>simp_all [pi,KE,θ,EA]
def rE(l:List Nat):ones (KE l)=φ:=by
 induction l with
 |nil=>rfl
 |cons d l ih=>exact ih
def decB(V:Nat):List Nat:=(decD V).map (48+ ·)
def Pi(V:Nat):ByteArray:=⟨⟨if V=0 then[48]else(decB V).map EA⟩⟩
def LI(V:Nat):Nat:=if h:V=0 then 0 else LI (V/1000000000)+1
termination_by V
decreasing_by omega
def Rc:LI 0=0:=by rw[LI];simp
def Rd(h:V≠0):LI V=LI (V/1000000000)+1:=by rw[LI,dif_neg h]
def Xi:∀(m V:Nat),V<1000000000^m->LI V<=m:=by
 intro m;induction m with
 |zero=>(intro V h;have:V=0:=by simpa using h);subst this;rw[Rc];exact Ez _
 |succ m ih=>
  intro V h;by_cases h0:V=0;subst h0;rw[Rc];omega;rw[Rd h0];have:=ih (V/1000000000) A6;omega
def Re{l:List Nat}(h:KA l):LI (val l)<=2*O l:=by apply Xi;refine Dm (Pe h) ?_;rw[HZ];exact GT zd _
def valP:List Nat->Nat
 |[]=>0
 |d::r=>d+1000000000*valP r
theorem Xj(a b:List Nat):valP (a++b)=valP a+1000000000^O a*valP b:=by induction a<;>grind [valP,only]
def rg{d:TypeId}{a:Option Addr}{B:List Nat}(b:E.und ty=ξ (.slice d)/\E.und e=ξ .string/\E.und d=ξ (.int .u8))(i:argS h 1 (Y a len c) len (KE B)):rX E ty e (Y a len c) h=ξ (CY ⟨⟨B.map EA⟩⟩):=by have⟨b,f,g⟩:=b;simp only[rX,b,f,g,i.2,Xh]
def gi(a:c<10)(h:V≠0\/c≠0):decB (10*V+c)=decB V++[48+c]:=by unfold decB;rw[Rb a h];simp
def Xk(p s:Nat):10*(p/10^(s+1))+p/10^s%10=p/10^s:=by
 have:p/10^(s+1)=p/10^s/10:=by rw[Dj,FB]
 rw[this];omega
def Xl(s:Nat):10^(s+1)/10=10^s:=by rw[Dj];omega
def Xm{s:Nat}(h:s<=9):10^s<=1000000000:=by have:=Dd (n:=10) Z h;omega
def kY(V:Nat):O (decB V)=O (decD V):=by simp[decB]
theorem Rf(k:Nat){c1 c2:ψ}{x:Int}{l:List Nat}(hi:IntR h n c1 c2 x l)(hb:O l<1000000):VF (Kp (k+3)) 39 [.agg #[c1,c2]] h n λv=>v=CY (Pi x.natAbs):=by
 refine zO (fn:=Tryz.f39) R4 ?_;obtain⟨a,len,u,rfl,ac⟩:=hi.sl.len;have ax:len=O l:=by rw[zY]at ac;omega
 subst ax;have ad:=hi.neg;subst ad;have N:=hi.val;refine zN ?_;refine Lu (cs:=[CV (decide (x<0)),Y a (O l) u]) R5 ?_;refine Zc ?_;refine zT R6 (zg _ _ _) (v:=Y a (O l) u) R2 ?_;refine zM ?_;by_cases h0:l=[]
 .have:O l=0:=by rw[h0];rfl
  refine Zi ?_;have b5:x.natAbs=0:=by rw[<-N,h0];rfl
  exact retF _ rfl (zi rfl) R2 (by rw[b5];rfl)
 have be:O l≠0:=λe=>h0 (De.1 e);refine Zj ?_;repeat refine zR ?_
 refine zT R6 (zg _ _ _) (v:=Y a (O l) u) R2 ?_;refine oQ ?_;generalize hh:upd h (3*n+2) _=h1;have ab:Ko n h h1:=by rw[<-hh];exact Cy
 refine ye (α:=ψ×Option Addr×Nat×List Nat×List Nat) (λz=>[(3,z.1),(4,Y z.2.1 (O z.2.2.2.1) z.2.2.1)])
  (λz i g w=>w=[]/\n+1<=g/\Gro i (n+1) g 145 1 z.1 (O z.2.2.2.2) (u32s z.2.2.2.2)/\Sl i g 1 (Y z.2.1 (O z.2.2.2.1) z.2.2.1) (u32s z.2.2.2.1)/\Norm z.2.2.2.1/\O z.2.2.2.1<=O l/\O z.2.2.2.2+LI (val z.2.2.2.1)<=2*O l/\(∀p∈z.2.2.2.2,p<1000000000)/\val l=valP z.2.2.2.2+1000000000^O z.2.2.2.2*val z.2.2.2.1)
  (λz=>LI (val z.2.2.2.1)) (η,a,u,l,[]) ⟨rfl,rfl,CR⟩ ⟨rfl,CS,.nil,hi.sl.ext ab Z,hi.norm,CS,by have:=Re hi.norm.1;simp;omega,cA,by simp[valP]⟩ (by show LI (val l)<LL;have:=Re hi.norm.1;unfold LL;omega) ?_
 rintro⟨v3,a4,c4,L,P⟩ t h2 q w2 ⟨rfl,bg,G,hs,hN,ag,ai,hP,I⟩;simp only at G hs hN ag ai hP I;refine zN ?_;by_cases hL0:L=[]
 .have a1:O L=0:=by rw[hL0];rfl
  have I:val l=valP P:=by rw[I,hL0];simp[val]
  refine Zj ?_;obtain⟨a3,rfl,_⟩:=G.shape;refine oQ ?_;have b8:O P<4000000:=Z;refine ye (α:=Nat×ψ×Nat) (λz=>[(3,Y a3 (O P) (O P)),(7,z.2.1),(8,U .i64 ((z.1:Int)-1))])
   (λz i g w=>w=[]/\q<=g/\z.1<=O P/\Ko q h2 i/\z.2.2=valP (P.drop z.1)/\Gro i q g 5 1 z.2.1 (O (decD z.2.2)) (KE (decB z.2.2))/\O (decD z.2.2)<=9*(O P-z.1)) (λz=>z.1)
   (O P,η,0) ⟨rfl,rfl,rfl,CR⟩ ⟨rfl,CS,CS,Ko.refl _ _,by simp[valP],by show Gro _ _ _ _ _ _ (O (decD 0)) (KE (decB 0));rw[decB,xo];exact .nil,by rw[xo];simp⟩ (by show O P<LL;unfold LL;omega) ?_
  rintro⟨j,v7,V⟩ t h4 n4 w4 ⟨rfl,az,hj,b6,J,y,ao⟩;simp only at hj J y ao;refine zN ?_;cases j with
  |zero=>
   refine Zb ?_;obtain⟨a7,rfl,_⟩:=y.shape;have al:V=x.natAbs:=by rw[J,<-N,I];rfl
   have aj:V≠0:=by have:=hi.norm.pos h0;omega
   repeat refine zR ?_
   refine pY R5 (rg R3 (uX y.sl)) ?_;refine oQ ?_;exact retF _ rfl (zi rfl) R2 (by rw[<-al,Pi,CP aj];rfl)
  |succ j=>
   have au:j<O P:=Z;obtain⟨p,f⟩:∃p,P[j]?=ξ p:=⟨P[j],by simp[au]⟩;have b0:p<1000000000:=hP p (C0 f);have T:=uR f;have b1:=G.sl;obtain⟨b3,R,x3,af,rfl,am,Z1,an,b9,bb,aq⟩:=b1.inv Z;have S:af[R+j]?=ξ (U .u32 (p:Int)):=qG aq (by rw[u32s,Dz,f];rfl);refine Zi ?_;refine ye (α:=Nat×ψ×Nat) (λz=>[(3,Y (ξ ⟨b3,R,θ⟩) (O P) (O P)),(7,z.2.1),(8,U .i64 (((j+1:Nat):Int)-1)),(9,U .u32 ((10^z.1/10:Nat):Int))])
    (λz i g w=>w=[]/\q<=g/\z.1<=9/\Ko q h2 i/\z.2.2=V*10^(9-z.1)+p/10^z.1/\Gro i q g 5 1 z.2.1 (O (decD z.2.2)) (KE (decB z.2.2))/\O (decD z.2.2)<=9*(O P-(j+1))+(9-z.1)) (λz=>z.1)
    (9,v7,V) ⟨rfl,rfl,rfl,congrArg (U .u32) (show(100000000:Int)=((10^9/10:Nat):Int)from by decide),CR⟩ ⟨rfl,az,CS,b6,by show V=V*10^0+p/10^9;omega,y,by show(decD V).length<=_;omega⟩ (by show 9<LL;unfold LL;omega) ?_
   rintro⟨s,v8,Z4⟩ t h5 n5 w5 ⟨rfl,a0,b4,F,hU,o,a2⟩;simp only at b4 hU o a2;have ae:h5 b3=ξ x3:=by rw[F b3 am];exact Z1
   obtain⟨a8,rfl,_⟩:=o.shape;refine zN ?_;cases s with
   |zero=>
    have hz:((10^0/10:Nat):Int)=0:=rfl;refine Zj ?_;refine goOn (j,Y a8 (O (decD Z4)) (O (decD Z4)),Z4) cA ⟨rfl,rfl,bJ,CR⟩ ⟨rfl,a0,Bp,F,?_,o,by show(decD Z4).length<=9*(O P-j);omega⟩;show Z4=valP (P.drop j);rw[T,hU];simp only[valP,<-J];omega
   |succ s=>
    have ap:10^(s+1)/10=10^s:=Xl s;have bc:=Xm (s:=s) Z;have ba:0<10^s:=DQ Z;rw[ap];generalize hD:10^s=D at*
    refine Zk ?_;refine oe R8 Z ?_;refine zT R6 ae (v:=U .u32 (p:Int)) ⟨an,(by rw[<-S];congr 1;omega)⟩ ?_;refine zM ?_;refine wT R6 Z ?_;refine wR (b:=10) R6 Z ?_;refine xu (a:=48) R6 Z ?_;refine mE R7 ?_;obtain⟨c,hc⟩:∃c,c=p/D%10:=⟨_,rfl⟩;have K:c<10:=Z;rw[<-hc,Di (show 48+c<256 from Z)];have W:V*10^(9-s)+p/D=10*Z4+c:=by
     have e1:=Xk p s;rw[hD]at e1;rw[hU,show 9-s=(9-(s+1))+1 from Z,Dj,hc,<-e1];have:10^(s+1)=10^(s+1):=rfl;generalize p/10^(s+1)=A;generalize 10^(9-(s+1))=B;rw[DW,<-Dp,<-Dp];have:V*B*10=10*V*B:=by rw[C5 (V*B) 10,Dp]
     omega
    refine oQ ?_;have C:O (decD Z4)=0↔Z4=0:=by rw[De,Xg]
    by_cases hA:Z4=0/\c=0
    .have aw:=C.2 hA.1;refine Zr ?_;refine wT (b:=10) R6 Z ?_;refine oQ ?_;refine goOn (s,Y a8 (O (decD Z4)) (O (decD Z4)),Z4) cA ⟨rfl,rfl,rfl,AT,CR⟩ ⟨rfl,a0,by show s<=9;omega,F,?_,o,by show(decD Z4).length<=_;omega⟩;show Z4=V*10^(9-s)+p/10^s;rw[hD,W];omega
    have aa:O (decD (10*Z4+c))=O (decD Z4)+1:=by rw[Rb K Z];simp
    by_cases hU0:Z4=0<;>
    (have aw:=C
     refine Zk ?_;refine pZ (cs:=KE [48+c]) R5 ?_;refine cm (m:=1) R8 zd (o.ext (Ko.upd Z) Zq) (yp (zg _ _ _) R2) CS Z rfl rfl (by show n<=_/\_;omega) ?_;intro v9 h9 Z0 b7 bd;obtain⟨a9,rfl,_⟩:=Z0.shape;refine oQ ?_;refine st_I R5 ?_;refine wT (b:=10) R6 Z ?_;refine oQ ?_;refine goOn (s,Y a9 (O (decD Z4)+1) (O (decD Z4)+1),10*Z4+c) cA ⟨rfl,rfl,rfl,AT,CR⟩ ⟨rfl,by show q<=n5+1+1;omega,by show s<=9;omega,λb hb=>?_,?_,?_,by show(decD (10*Z4+c)).length<=_;omega⟩
     .exact(b7 b hb).trans ((zm Z).trans (F b hb))
     .show 10*Z4+c=V*10^(9-s)+p/10^s;rw[hD,W]
     .show Gro _ _ _ _ _ _ (O (decD (10*Z4+c))) (KE (decB (10*Z4+c)));rw[aa,gi K Z,show KE (decB Z4++[48+c])=KE (decB Z4)++KE [48+c]from by simp[KE]];exact Z0)
 have a1:O L≠0:=λe=>hL0 (De.1 e);have ak:val L≠0:=by have:=hN.pos hL0;omega
 have b0:=Rd ak;refine Zk ?_;refine zF _ R5 (Ra k (d:=1000000000) Z hN.1 Z hs) ?_;rintro _ h3 n3 _⟨rfl,ay,Z1,a5,c5,H,rfl,b2,ah,M,ar,bf⟩;refine oQ ?_;obtain⟨a3,rfl,_⟩:=G.shape;repeat refine zR ?_
 refine pZ (cs:=u32s [val L%1000000000]) R5 ?_;refine cm (m:=1) R8 zd ((G.ext Z1 ay).ext (Ko.upd Z) Zq) (yp (zg _ _ _) R2) CS Z rfl rfl (by show n<=_/\_;omega) ?_;intro v' h6 Z3 bh av;obtain⟨a6,rfl,_⟩:=Z3.shape;refine Zg ?_;refine goOn (Y a6 (O P+1) (O P+1),a5,c5,H,P++[val L%1000000000]) ?_ ⟨rfl,rfl,CR⟩ ⟨rfl,by show n+1<=n3+1+1;omega,?_,?_,ah,by show O H<=_;omega,?_,?_,?_⟩
 .show LI (val H)<LI (val L);rw[M];omega
 .show Gro _ _ _ _ _ _ (O (P++[_])) (u32s (P++[_]));rw[Q7,C1];exact Z3
 .exact(b2.ext (Ko.upd Z) Zq).app av G.below ar Zq
 .show(P++[_]).length+LI (val H)<=_;rw[M,C1,Db];omega
 .intro p f;rcases Ei.1 f with f|f
  .exact hP p f
  simp at f;subst f;omega
 show val l=valP (P++[_])+1000000000^O (P++[_])*val H;rw[Xj,C1,Db,Dj,M,I];simp only[valP];have:=Em (val L) 1000000000;rw[Dp,HP,<-DW];congr 2;omega
end
def ws:∀(m V:Nat),V<10^m->O (decD V)<=m:=by
 intro m;induction m with
 |zero=>(intro V h;have:V=0:=by simpa using h);subst this;rw[xo];exact Ez _
 |succ m ih=>
  intro V h;by_cases h0:V=0;subst h0;rw[xo];simp;rw[wy h0,C1];have:=ih (V/10) A6;simp;omega
def decT(V:Nat):List UInt8:=if V=0 then[48]else(decB V).map EA
def Rg(V:Nat):Pi V=⟨⟨decT V⟩⟩:=rfl
def Rh{l:List Nat}(h:KA l):O (decT (val l))<=10*O l+1:=by unfold decT;split;simp;rw[Da,kY];have:=ws (10*O l) (val l) (Dm (Pe h) (by rw[HZ];exact GT zd _));omega
def ratT(q:Rat):List UInt8:=(if q.num<0 then[45]else[])++(decT q.num.natAbs++(if q.den=1 then[]else 47::decT q.den))
section
variable {X:CtxF}{r:List Oper}{t:TF}{h:HF}{Q:SV->Prop}{d:Tmp}
def Pj{a b:List UInt8}(c:qu X ops t o d (o.op=.binOp .add ty x y ty'/\Kn t x=CY ⟨⟨a⟩⟩/\Kn t y=CY ⟨⟨b⟩⟩))(hl:O a+O b<=1099511627776)
  (k:EO X ops r ⟨upd t d (CY ⟨⟨a++b⟩⟩),h,n,w⟩ Q):EO X ops (o::r) ⟨t,h,n,w⟩ Q:=by refine Zz c ?_ k;simp only[binE,strE,CQ hl]
end
def IntR.of_den{h:HF}{n:Nat}(a:RatR h n n1 n2 d1 d2 q ln ld)(c:q.den≠1):IntR h n d1 d2 (q.den:Int) ld:=by have b:=a.val;rw[CP c]at b;exact⟨by rw[a.neg];simp,a.sl,a.norm,by rw[b];simp⟩
theorem Ri(k:Nat){h:HF}{n:Nat}(l:RatR h n n1 n2 d1 d2 q ln ld)(hb:O ln<1000000/\O ld<1000000):VF (Kp (k+4)) 13 [.agg #[n1,n2,d1,d2]] h n λv=>v=CY ⟨⟨ratT q⟩⟩:=by
 refine zO (fn:=Tryz.f13) R4 ?_;have f:=l.num;have u:=f.neg;subst u;obtain⟨m,A,b,rfl,p⟩:=l.sl.len;have i:A=O ld:=by rw[zY]at p;omega
 subst i;have B:=Rh f.norm.1;rw[f.val]at B;refine zN ?_;refine Lu (cs:=[CV (decide (q.num<0)),n2,d1,Y m (O ld) b]) R5<|Zc ?_;refine z7 (v:=.agg #[CV (decide (q.num<0)),n2]) R5 (yw R2 (zg _ _ _) ω zb ω)<|yi _ R5 (Rf k (f.ext (Ko.upd Z) Z) hb.1) ?_;rintro _ rfl;rw[Rg];refine Zc ?_;refine zT R6 (zg _ _ _) (v:=CV (decide (q.num<0))) R2<|zN ?_;generalize hh:upd h (3*n+2) _=h1;have s:Ko n h h1:=by rw[<-hh];exact Cy
 have c:∃e,h1 (3*n+2)=ξ (.row [CV (decide (q.num<0)),n2,d1,Y m (O ld) b] e):=⟨_,mp⟩;refine MG [(1,ι (3*n+2)),(3,CY ⟨⟨(if q.num<0 then[45]else[])++decT q.num.natAbs⟩⟩)] (λC F w=>h1=C/\F=n+1/\w=[]) ?_ ?_;by_cases hn:q.num<0;rw[ze (by show CV (decide (q.num<0))=_;rw[CN hn])];refine kG ?_;refine Pj (a:=[45]) R6 dO ?_;refine oQ ?_;exact LH ⟨ω,by rw[CQ hn];rfl,CR⟩ R3;rw[za (by show CV (decide (q.num<0))=_;rw[CM hn])];refine zN ?_;exact LH ⟨ω,by rw[CP hn];rfl,CR⟩ R3;rintro t _ _ _⟨rfl,rfl,rfl⟩;have⟨e,c⟩:=c;refine kG ?_;refine zT R6 c (v:=Y m (O ld) b) R2 ?_;have j:O ld=0↔q.den=1:=(by rw[De,<-l.norm.zero,l.val];have:=q.den_pos;split<;>omega);by_cases hd:q.den=1;have:=j.2 hd;refine Zj ?_;exact retF _ ω (zi ω) R2 (by rw[ratT,CQ hd,DJ];rfl);have D:¬(O ld)=0:=λe=>hd (j.1 e);have g:=IntR.of_den l hd;have i:=Rh g.norm.1;rw[g.val,Dk]at i;refine Zk ?_;refine z7 (v:=.agg #[d1,Y m (O ld) b]) R5 (yw R2 c ω zb ω)<|yi _ R5 (Rf k (g.ext s Z) hb.2) ?_;rintro _ rfl;rw[Rg,Dk];refine Pj (a:=[47]) R6 dO ?_;refine Pj R6 ?_ ?_;simp only[C1,DM,FV];split<;>simp<;>omega;refine Zg ?_;exact retF _ ω (zi ω) R2 (by rw[ratT,CP hd];show CY ⟨⟨((if q.num<0 then[45]else[])++decT q.num.natAbs)++([47]++decT q.den)⟩⟩=_;rw[DH];rfl)
section
variable {len:Nat}
def MJ(E:Env):Op->Bool
 | .convert _ d _=>(match E.und d with|some (.int _)=>φ|_=>χ)
 |o=>H4 (Ku o) 2
def Pk{o:Op}(h:MJ E o=φ):Ku o<2\/∃t d x k,o=.convert t d x/\E.und d=ξ (.int k):=by unfold MJ at h;split at h;rename_i t d x;split at h;rename_i k hk;exact .inr ⟨t,d,x,k,ω,hk⟩;cases h;exact .inl (Dt h)
theorem Pl{t d:TypeId}{k:IntKind}(h:E.und d=ξ (.int k))(v:ψ):vI E t d v=θ:=by unfold vI;rw[h];split<;>simp_all
theorem vJ{t d:TypeId}{k:IntKind}(h:E.und d=ξ (.int k))(v:ψ)(g:HF):rX E t d v g=θ:=by unfold rX;rw[h];split<;>simp_all
def eZ{X:CtxF}{ops:List Oper}:∀(l:List Oper) (ms:List Nat) (i:Nat) (s:SV) (ld:List (Nat×Nat)),O l<=O ms->l.all (λo=>MJ X.E o.op)=φ->z0 X ops l ms i ⟨s,[],ld,[]⟩=seqF X ops l s:=by
 intro l;induction l with
 |nil=>intro ms i s ld _ _;simp[z0,seqF]
 |cons o l ih=>
  intro ms i s ld A g;cases ms with
  |nil=>simp at A
  |cons m ms=>
   simp only[J8,DY]at g;have f:O l<=O ms:=by simpa using A
   unfold z0 seqF;simp only;cases hw:zh ops s.t o with
   |false=>
    simp only;congr 1;funext s1;exact ih ms (i+1) s1 ld f g.2
   |true=>
    simp only;unfold rL Lt;obtain D|⟨t,d,x,k,q,u⟩:=Pk g.1;cases p:Ku o.op with
    |zero=>
     simp only[p];cases yy X.E o.op (Kn s.t)with
     |none=>rfl
     |some v=>
      simp only;congr 1;funext s1;exact ih ms (i+1) s1 ld f g.2
    |succ c=>
     cases c with
     |zero=>
      simp only[p,wn];cases po X.E o.op (Kn s.t) s.h with
      |none=>rfl
      |some vb=>
       have⟨v,b⟩:=vb;simp only[LM,qn,Eg];congr 1;funext s1;exact ih ms (i+1) s1 _ f g.2
     |succ c=>omega
    have p:Ku o.op=4:=by rw[q];rfl
    have C:KD X.E o.op (Kn s.t)=θ:=by rw[q];exact Pl u _
    simp only[p,C];cases hp:yy X.E o.op (Kn s.t)with
    |none=>
     rw[q];simp only[vJ u]
    |some v=>
     rw[q];simp only[vJ u];congr 1;funext s1;exact ih ms (i+1) s1 ld f g.2
def wb{X:CtxF}{ops:Array Oper}{s:SV}{Q:Ex->SV->Prop}(f:ops.toList.all (λo=>MJ X.E o.op)=φ):EC X (.region id ops φ) s Q↔EO X ops.toList ops.toList s (Q .normal):=by
 unfold EC EO;rw[xk];rw[eZ _ _ _ _ _ (by rw[oL];simp) f];cases h:seqF X ops.toList ops.toList s with
 |none=>simp
 |some r=>simp only[vH];simp
section
variable {X:CtxF}{r:List Oper}{t:TF}{h:HF}{Q:SV->Prop}{d a:Tmp}
theorem yE{f:α->ψ}{l:List α}{dv:α}{i:Operand}(s:zh ops t o=φ/\o.dst=ξ a/\zv X.nt (ξ a)=φ/\o.op=.indexAddr ty x i/\X.E.und ty=ξ (.slice e)/\X.E.inf e=ξ (1,bt,z)/\Kn t x=v)(F:Sl h m 1 v (l.map f))(hj:Kn t i=U ik ji/\ji=(j:Int))(u:l[j]?=ξ dv)
  (G:∀p,zh ops (upd t a p) o2=φ)(g:o2.dst=ξ d/\zv X.nt (ξ d)=φ/\o2.op=.load e2 (.tmp a)/\GL.isAgg X.E e2=ξ χ)
  (k:∀p,EO X ops r ⟨upd (upd t a p) d (f dv),h,n,w⟩ Q):EO X ops (o::o2::r) ⟨t,h,n,w⟩ Q:=by
 obtain⟨s,L,R,S,T,N,Z4⟩:=s;obtain⟨hj,A⟩:=hj;obtain⟨g,C,D,J⟩:=g;subst A;have Z3:=(C4.1 u).1;obtain⟨Z0,len,cap,rfl,Z1⟩:=F.len;simp only[Da,D1]at Z1;obtain⟨b,off,xb,I,rfl,_,H,K,_,W,M⟩:=F.inv Z;have q:I[off+j]?=ξ (f dv):=qG M (by rw[Dz,u];rfl);refine oe ⟨s,L,R,S,T,N,Z4,hj⟩ Z ?_;refine zT ⟨(G _),g,C,D,J,(zg _ _ _)⟩ H (v:=f dv) ⟨K,(by rw[<-q];congr 1;omega)⟩ ?_;exact k _
def se{D:TD}(f:qu X ops t o d (o.op=.convert ty e x/\Kn t x=U ik (c:Int)/\X.E.und ty=ξ D/\X.E.und e=ξ (.int .u64)))(g:c<18446744073709551616)
  (k:EO X ops r ⟨upd t d (U .u64 (c:Int)),h,n,w⟩ Q):EO X ops (o::r) ⟨t,h,n,w⟩ Q:=by have⟨f,i,p,q,u,s,l⟩:=f;refine N8 ⟨f,i,p,q,u,s,l⟩ ?_;rw[Di g];exact k
def M6{D:TD}(f:qu X ops t o d (o.op=.convert ty e x/\Kn t x=U ik (c:Int)/\X.E.und ty=ξ D/\X.E.und e=ξ (.int .u32)))(g:c<4294967296)
  (k:EO X ops r ⟨upd t d (U .u32 (c:Int)),h,n,w⟩ Q):EO X ops (o::r) ⟨t,h,n,w⟩ Q:=by have⟨f,i,p,q,u,s,l⟩:=f;refine ft ⟨f,i,p,q,u,s,l⟩ ?_;rw[Di g];exact k
def zU{d:Tmp}(k:EO X ops r ⟨upd t d v,h,n,w⟩ Q)(f:EO X ops r ⟨upd t d v,h,n,w⟩ Q->EO X ops (o::r) ⟨t,h,n,w⟩ Q:=by first|exact jC R6 Z|exact N9 R6 Z|exact oa R6 Z|exact mD R6 Z|exact MI R6 Z|exact M5 R6 Z|exact jD R6 Z|exact Nz R6 Z|exact Oa R6 Z|exact Ob R6 Z|exact Oc R6 Z|exact Od R6 Z|exact lW R6|exact Ny R6|exact M4 R6|exact MH R6|exact Mu R6|exact N7 R6|exact uI R6 Z|exact Ma R6 Z|exact se R7 Z|exact M6 R7 Z|exact yT R6 Z|exact xu R6 Z|exact ym R6 Z|exact ym (b:=1) R6 Z|exact QI R6 Z|exact xt R6 Z|exact xM R6 Z|exact yn (s:=32) R6 Z|exact st_I R5|exact st_B R5|exact st_S R5|exact st_P R5|exact st_T R5|exact st_A R5|exact st_U R5|exact zS (v:=.pointer θ) R4 rfl|exact Nw R3):EO X ops (o::r) ⟨t,h,n,w⟩ Q:=f k
def splice_one(c:List ψ)(j:Nat)(v:ψ)(h:j<O c):zu c j [v]=c.set j v:=by unfold zu;rw[H3,CQ h];rfl
theorem uH{c:List ψ}{i:Operand}{q:Nat}(l:zh ops t o=φ/\o.dst=ξ a/\zv X.nt (ξ a)=φ/\o.op=.indexAddr ty x i/\X.E.und ty=ξ (.slice e)/\X.E.inf e=ξ (1,bt,z)/\Kn t x=Y (ξ ⟨b,0,θ⟩) len cap/\Kn t i=U ik ji)(u:ji=(j:Int))(A:j<len/\j<O c)(hb:h b=ξ (.row c e3))(g:3*X.n0<=b)
  (D:∀p,zh ops (upd t a p) o2=φ)(f:o2.dst=θ/\o2.op=.store e2 (.tmp a) y/\X.E.inf e2=ξ (1,q,z2))(N:∀p,zn (Kn (upd t a p) y)=[v])(F:ones [v]=φ)
  (k:∀p,EO X ops r ⟨upd t a p,upd h b (ξ (.row (c.set j v) e3)),n,w⟩ Q):EO X ops (o::o2::r) ⟨t,h,n,w⟩ Q:=by
 obtain⟨l,G,J,K,L,H,M,I⟩:=l;obtain⟨f,C,s⟩:=f;subst u;refine oe ⟨l,G,J,K,L,H,M,I⟩ Z ?_;refine yF ⟨(D _),f,C,s,(zg _ _ _),(N _),rfl,F⟩ hb Z g ?_;rw[show 0+(j:Int).toNat*1=j from Z,splice_one c j v A.2];exact k _
theorem yG{c:List ψ}{i:Operand}{q:Nat}(l:zh ops t o=φ/\o.dst=ξ a/\zv X.nt (ξ a)=φ/\o.op=.indexAddr ty x i/\X.E.und ty=ξ (.slice e)/\X.E.inf e=ξ (1,bt,z)/\Kn t x=Y (ξ ⟨b,off,θ⟩) len cap/\Kn t i=U ik ji)(u:ji=(j:Int))(A:j<len/\off+j<O c)(hb:h b=ξ (.row c e3))(g:b<3*X.n0)
  (D:∀p,zh ops (upd t a p) o2=φ)(f:o2.dst=θ/\o2.op=.store e2 (.tmp a) y/\X.E.inf e2=ξ (1,q,z2))(N:∀p,zn (Kn (upd t a p) y)=[v])(F:ones [v]=φ)
  (k:∀p,EO X ops r ⟨upd t a p,upd h b (ξ (.row (c.set (off+j) v) e3)),n,b::w⟩ Q):EO X ops (o::o2::r) ⟨t,h,n,w⟩ Q:=by
 obtain⟨l,G,J,K,L,H,M,I⟩:=l;obtain⟨f,C,s⟩:=f;subst u;refine oe ⟨l,G,J,K,L,H,M,I⟩ Z ?_;refine W2 (D _) f C s (zg _ _ _) (N _) rfl F hb Z g ?_;rw[show off+(j:Int).toNat*1=off+j from Z,splice_one c (off+j) v A.2];exact k _
end
def tY(l:List Nat)(j d:Nat):(u32s l).set j (U .u32 (d:Int))=u32s (l.set j d):=by unfold u32s;rw[am7]
def NA(n:Nat):rep n [U .u32 0]=u32s (C3 n 0):=by
 induction n with
 |zero=>rfl
 |succ n ih=>
  rw[rep,ih,GU];rfl
def dv(B:Nat):List Nat->Nat
 |[]=>0
 |d::r=>d+B*dv B r
theorem tX(l:List Nat):val l=dv 4294967296 l:=by induction l<;>grind [val,dv]
theorem vm(B:Nat)(a b:List Nat):dv B (a++b)=dv B a+B^O a*dv B b:=by
 induction a with
 |nil=>simp[dv]
 |cons d a ih=>
  simp only[Gn,dv,ih,DM,Dj,DW];rw[<-Dp,C5 (B^O a) B];omega
def qz(B:Nat)(a:List Nat)(d:Nat):dv B (a++[d])=dv B a+B^O a*d:=by rw[vm];simp[dv]
def Mf{l:List Nat}(h:∀d∈l,d<B):dv B l<B^O l:=by
 induction l with
 |nil=>simp[dv]
 |cons d l ih=>
  have p:=h d cA;have f:=ih λx i=>h x (by simp[i]);simp only[dv,DM,Dj];have g:B*(dv B l+1)<=B*B^O l:=Do B f;rw[DW,D1]at g;rw[C5 (B^O l) B];omega
theorem pc(B n:Nat):dv B (C3 n 0)=0:=by induction n<;>grind [dv]
def Mx:∀{l:List Nat} {j o:Nat} (d:Nat),l[j]?=ξ o->dv B (l.set j d)+o*B^j=dv B l+d*B^j:=by
 intro l;induction l with
 |nil=>intro j o d h;simp at h
 |cons x l ih=>
  intro j o d h;cases j with
  |zero=>
   simp only[List.getElem?_cons_zero,H5]at h;subst h;simp only[List.set_cons_zero,dv,EV,D1];omega
  |succ j=>
   simp only[H0]at h;have:=ih d h;simp only[List.set_cons_succ,dv,Dj];have e:B*(dv B (l.set j d)+o*B^j)=B*(dv B l+d*B^j):=by rw[this]
   rw[DW,DW]at e;have f:o*(B^j*B)=B*(o*B^j):=by rw[C5 (B^j) B,E2]
   have e2:d*(B^j*B)=B*(d*B^j):=by rw[C5 (B^j) B,E2]
   rw[f,e2];omega
def ri{l:List Nat}{d:Nat}(h:l[j]?=ξ d):l.take (j+1)=l.take j++[d]:=by obtain⟨f,rfl⟩:=C4.1 h;rw[List.take_succ_eq_append_getElem f]
def wJ{l:List Nat}{d:Nat}(h:l[j]?=ξ d):dv B (l.take (j+1))=dv B (l.take j)+B^j*d:=by have f:=(C4.1 h).1;rw[ri h,qz,DK,Ee Z]
theorem cI(D:List Nat)(m d:Nat):(D++C3 (m+1) 0).set (O D) d=(D++[d])++C3 m 0:=by grind
theorem Pm{V' p d:Nat}(h:V'=V+d*P)(hx:B*c'+d=c+p):V'+c'*(P*B)=V+c*P+p*P:=by grind
end
section
variable {len:Nat}
def cmpZ(a b:Nat):Int:=if a<b then -1 else if a=b then 0 else 1
def sM(h:a<b):cmpZ a b= -1:=by unfold cmpZ;rw[CQ h]
def jd(a:Nat):cmpZ a a=0:=by unfold cmpZ;rw[CP (Nat.lt_irrefl _),CQ rfl]
def sO(h:b<a):cmpZ a b=1:=by unfold cmpZ;rw[CP Z,CP Z]
def Rj{l:List Nat}(c:d≠0):B^O l<=dv B (l++[d]):=by rw[qz];have:B^O l*1<=B^O l*d:=Do _ Z;omega
def Norm.len_lt{B:List Nat}(c:Norm A)(f:Norm B)(h:O A<O B):val A<val B:=by obtain⟨i,d,rfl⟩:=snoc (l:=B) A1;rw[tX,tX];have g:=Mf (B:=4294967296) c.1;have m:=Rj (B:=4294967296) (l:=i) f.last;have o:4294967296^O A<=4294967296^O i:=Dd Z (by simp at h;omega);omega
theorem cv{l:List Nat}(h:l[j]?=ξ d):l=l.take j++(d::l.drop (j+1)):=by grind [uR,Eb]
def Og{x y:Nat}(g:∀d∈A,d<B)(hx:A[j]?=ξ x)(e:C[j]?=ξ y)(c:A.drop (j+1)=C.drop (j+1))(h:x<y):dv B A<dv B C:=by have i:=(C4.1 hx).1;have m:=(C4.1 e).1;rw[cv hx,cv e,vm,vm,c,DK,DK,Ee Z,Ee Z];simp only[dv];have o:dv B (A.take j)<B^j:=(by have:=Mf (B:=B) (l:=A.take j) λd c=>g d (D8 c);exact BL);have f:B^j*(x+B*dv B (C.drop (j+1))+1)<=B^j*(y+B*dv B (C.drop (j+1))):=Do _ Z;rw[DW,D1]at f;omega
def Sl.lenU{a:Option Addr}{l:List Nat}(hv:Sl h n 1 (Y a len cap) (u32s l)):len=O l:=by have⟨i,g,c,e,f⟩:=hv.len;rw[zY]at f;injection e with e1 e2 e3;omega
theorem Rk(k:Nat)(g:Sl h n 1 (Y a1 l1 c1) (u32s A))(i:Sl h n 1 (Y a2 l2 c2) (u32s C))(l:Norm A)(m:Norm C)(hb:O A<1000000000000):
  VF (Kp (k+1)) 153 [Y a1 l1 c1,Y a2 l2 c2] h n λv=>v=U .i64 (cmpZ (val A) (val C)):=by
 refine zO (fn:=Tryz.f153) R4 ?_;have p:=g.lenU;have q:=i.lenU;subst p q;refine mM ?_;by_cases hlen:O A=O C
 .refine Zj ?_;refine ye (α:=Nat) (λj=>[(0,Y a1 (O A) c1),(1,Y a2 (O C) c2),(5,U .i64 ((j:Int)-1))]) (λj s u w=>s=h/\u=n/\w=[]/\j<=O A/\A.drop j=C.drop j) (λj=>j) (O A) ⟨rfl,rfl,rfl,CR⟩ ⟨rfl,rfl,rfl,CS,by rw[EI,hlen,EI]⟩ (by show O A<LL;unfold LL;omega) ?_;rintro j t _ _ _⟨rfl,rfl,rfl,D,f⟩;refine zN ?_;cases j with
  |zero=>
   refine Zj ?_;have o:A=C:=f;subst o;rw[jd];exact BG
  |succ j=>
   obtain⟨x,c⟩:∃x,A[j]?=ξ x:=⟨A[j]'Z,CW Z⟩;obtain⟨y,e⟩:∃y,C[j]?=ξ y:=⟨C[j]'Z,CW Z⟩;refine Zh ?_;rw[N6 rfl];repeat refine zR ?_
   refine yE R7 g ⟨rfl,Z⟩ c (λ_=>rfl) R4 λ_=>?_;repeat refine zR ?_
   refine yE R7 i ⟨rfl,Z⟩ e (λ_=>rfl) R4 λ_=>?_;by_cases hxy:x=y
   .refine Zj ?_;refine goOn j AE ⟨rfl,rfl,bJ,CR⟩ ⟨rfl,rfl,rfl,by show j<=O A;omega,?_⟩;rw[uR c,uR e,hxy,f]
   refine Zh ?_;rw[N6 rfl];repeat refine zR ?_
   refine yE R7 g ⟨rfl,Z⟩ c (λ_=>rfl) R4 λ_=>?_;repeat refine zR ?_
   refine yE R7 i ⟨rfl,Z⟩ e (λ_=>rfl) R4 λ_=>?_;by_cases hlt:x<y
   .refine Zi ?_;rw[sM (by rw[tX,tX];exact Og l.1 c e f hlt)];exact BG
   refine Zj ?_;rw[sO (by rw[tX,tX];exact Og m.1 e c f.symm Z)];exact BG
 refine Zh ?_;by_cases hlt:O A<O C
 .refine Zi ?_;rw[sM (l.len_lt m hlt)];exact BG
 refine Zj ?_;rw[sO (m.len_lt l Z)];exact BG
end
section
variable {len:Nat}
def u64s(l:List Nat):List ψ:=l.map λd:Nat=>U .u64 (d:Int)
def zL(l:List Nat):O (u64s l)=O l:=by simp[u64s]
def vg(a b:List Nat):u64s (a++b)=u64s a++u64s b:=by simp[u64s]
def yk(l:List Nat)(j d:Nat):(u64s l).set j (U .u64 (d:Int))=u64s (l.set j d):=by unfold u64s;rw[am7]
def dX{l:List Nat}(h:l[j]?=ξ d):(u64s l)[j]?=ξ (U .u64 (d:Int)):=by rw[u64s,Dz,h];rfl
def re(l:List Nat)(m:Nat):(u64s l).take m=u64s (l.take m):=by simp[u64s,Gj]
def rf(l:List Nat)(m:Nat):(u64s l).drop m=u64s (l.drop m):=by simp[u64s,List.map_drop]
def xW(l:List Nat):ones (u64s l)=φ:=by
 induction l with
 |nil=>rfl
 |cons d l ih=>exact ih
def xO(n:Nat):rep n [U .u64 0]=u64s (C3 n 0):=by
 induction n with
 |zero=>rfl
 |succ n ih=>
  rw[rep,ih,GU];rfl
def Kq(l:List Nat):Prop:=∀d∈l,d<18446744073709551616
def wv(l:List Nat):Nat:=dv 18446744073709551616 l
def Kq.snoc{D:List Nat}(h:Kq D)(b:d<18446744073709551616):Kq (D++[d]):=λx a=>by
 obtain a|a:=Ei.1 a
 .exact h x a
 simp at a;omega
def Kq.get{l:List Nat}(h:Kq l)(a:l[j]?=ξ d):d<18446744073709551616:=h d (C0 a)
def Kq.nil:Kq []:=λd a=>CO a C6
def Kq.take{l:List Nat}(h:Kq l)(m:Nat):Kq (l.take m):=λd a=>h d (D8 a)
def Kq.drop{l:List Nat}(h:Kq l)(m:Nat):Kq (l.drop m):=λd a=>h d (FO a)
def Kq.zeros(m:Nat):Kq (C3 m 0):=λd a=>by rw[HQ a];decide
def Kq.append{a b:List Nat}(e:Kq a)(hb:Kq b):Kq (a++b):=λx c=>by
 obtain c|c:=Ei.1 c
 .exact e x c
 exact hb x c
def Kq.set{l:List Nat}(h:Kq l)(b:d<18446744073709551616):Kq (l.set j d):=λx a=>by
 obtain a|rfl:=IY a
 .exact h x a
 exact b
def Oh(B:Nat):∀l,dv B (yf l)=dv B l:=
 wF (λl ih=>by rw[wi,ih,vm];simp[dv]) (λl d a=>by rw[xy l a]) rfl
def Xn:∀l,Kq l->Kq (yf l):=
 wF (λl ih h=>by rw[wi];exact ih λd a=>h d AM) (λl d a h=>by rw[xy l a];exact h) (λh=>h)
def NW(l:List Nat):Prop:=Kq l/\yf l=l
def NW.trim{l:List Nat}(h:Kq l):NW (yf l):=⟨Xn l h,Q8 l⟩
def NW.nil:NW []:=⟨Kq.nil,ω⟩
def NW.last{l:List Nat}(h:NW (l++[d])):d≠0:=λe=>by
 have a:=h.2;subst e;rw[wi]at a;have:=xU l;rw[a]at this;simp at this;omega
def NW.one(h0:d≠0)(h:d<18446744073709551616):NW [d]:=⟨Kq.snoc Kq.nil h,xy [] h0⟩
def wW{l:List Nat}(h:Kq l):wv l<18446744073709551616^O l:=Mf h
def NW.low{l:List Nat}(h:NW (l++[d])):18446744073709551616^O l<=wv (l++[d]):=Rj h.last
def NW.pos{l:List Nat}(h:NW l)(hl:l≠[]):0<wv l:=by obtain⟨i,d,rfl⟩:=Go.Proofs.YteoagenjaemllaaGreatDoor.snoc hl;have:=h.low;have:0<18446744073709551616^O i:=DQ Z;omega
def NW.zero{l:List Nat}(h:NW l):wv l=0↔l=[]:=
 ⟨λb=>Df λa=>by have:=h.pos a;omega,λe=>by rw[e];rfl⟩
def NW.len_lt(a:NW A)(b:NW C)(h:O A<O C):wv A<wv C:=by obtain⟨i,d,rfl⟩:=Go.Proofs.YteoagenjaemllaaGreatDoor.snoc (l:=C) A1;have c:=wW a.1;have f:=b.low;have g:18446744073709551616^O A<=18446744073709551616^O i:=Dd Z (by simp at h;omega);omega
def NW.len_le(b:NW A)(h:wv A<18446744073709551616^k):O A<=k:=by apply Df;intro a;obtain⟨i,d,rfl⟩:=Go.Proofs.YteoagenjaemllaaGreatDoor.snoc (l:=A) (by intro e;rw[e]at a;simp at a);have c:=b.low;have f:18446744073709551616^k<=18446744073709551616^O i:=Dd Z (by simp at a;omega);omega
def Xo:∀{A C:List Nat},O A=O C->(∀d∈A,d<B)->(∀d∈C,d<B)->dv B A=dv B C->A=C:=by
 intro A;induction A with
 |nil=>intro C b _ _ _;exact(De.1 b.symm).symm
 |cons a A ih=>
  intro C b f g h;cases C with
  |nil=>simp at b
  |cons c C=>
   have m:=f a cA;have o:=g c cA;simp only[dv]at h;have i:a=c:=(by have:=congrArg (· %B) h;simp only[FX,Di m,Di o]at this;exact this);subst i;have l:dv B A=dv B C:=FY Z (Nat.add_left_cancel h);rw[ih (by simpa using b) (λd e=>f d (by simp[e])) (λd e=>g d (by simp[e])) l]
def NW.inj(b:NW A)(c:NW C)(h:wv A=wv C):A=C:=by obtain a|a|a:=Nat.lt_trichotomy (O A) (O C);have:=b.len_lt c a;omega;exact Xo a b.1 c.1 h;have:=c.len_lt b a;omega
def Sl.lenW{a:Option Addr}{l:List Nat}(hv:Sl h n 1 (Y a len cap) (u64s l)):len=O l:=by have⟨g,f,b,e,c⟩:=hv.len;rw[zL]at c;injection e with e1 e2 e3;omega
theorem xi(k:Nat){a:Option Addr}{l:List Nat}(hb:O l<4611686018427387904)(hsp:∀ad,a=ξ ad->ad.spot=θ)(hv:Sl h n 1 (Y a len cap) (u64s l)):CF (Kp (k+1)) 131 [Y a len cap] h n λG q v w=>q=h/\v=n/\w=[]/\G=Y a (O (yf l)) cap/\Sl h n 1 G (u64s (yf l)):=by
 refine zw (fn:=Tryz.f131) R4 ?_;have i:=hv.lenW;subst i;refine Zu ?_;refine ye (α:=Nat) (λm=>[(0,Y a (O l) cap),(3,U .i64 (m:Int))]) (λm q v w=>h=q/\n=v/\w=[]/\m<=O l/\yf (l.take m)=yf l) (λm=>m) (O l) ⟨rfl,rfl,CR⟩ ⟨rfl,rfl,rfl,CS,by rw[Ds]⟩ tp ?_;rintro m t _ _ _⟨rfl,rfl,rfl,H,u⟩;have o:∀J:TF,yf l=l.take m->O (yf l)=m/\Sl h n 1 (Y a m cap) (u64s (yf l)):=λJ e=>by
  have y:=hv.take m H;rw[D1,re]at y;rw[e];exact⟨gQ,y⟩
 refine zN ?_;cases m with
 |zero=>
  refine Zb ?_;have s:yf l=l.take 0:=by rw[<-u,E1];rfl
  have⟨c,g⟩:=o t s;cases a with
  |none=>
   exact BR
  |some ad=>
   have⟨b,F,I⟩:=ad;obtain rfl:I=θ:=hsp _ rfl;repeat refine zR ?_
   refine td 0 R8 Z Z ?_;exact BR
 |succ m=>
  obtain⟨d,D⟩:∃d,l[m]?=ξ d:=⟨l[m]'Z,CW Z⟩;have p:=ri D;repeat refine zR ?_
  refine yE (f:=λd:Nat=>U .u64 (d:Int)) (j:=m) R7 hv ⟨rfl,Z⟩ D (λ_=>rfl) R4 λ_=>?_;by_cases h0:d=0
  .refine Zi ?_;refine goOn m Z ⟨rfl,bJ,CR⟩ ⟨rfl,rfl,rfl,Z,?_⟩;rw[<-u,p,h0,wi]
  refine Zb ?_;have s:yf l=l.take (m+1):=by rw[<-u,p,xy _ h0]
  have⟨c,g⟩:=o t s;obtain⟨b,F,x,K,rfl,_⟩:=hv.inv Z;repeat refine zR ?_
  refine td (m+1) R8 Z Z ?_;exact BR
end
def cmpI(a b:Int):Int:=if a<b then -1 else if b<a then 1 else 0
theorem Rl(a b:Nat):cmpI (a:Int) (b:Int)=cmpZ a b:=by grind [cmpI,cmpZ]
def iJ(k:Nat)(h:HF)(n:Nat)(a:Int):VF (Kp (k+1)) 176 [U .i64 a] h n λv=>v=CV χ:=by refine zO (fn:=Tryz.f176) R4<|Zu ?_;exact BG
def Xp(k:Nat)(h:HF)(n:Nat)(a b:Int):VF (Kp (k+2)) 157 [U .i64 a,U .i64 b] h n λv=>v=U .i64 (cmpI a b):=by refine zO (fn:=Tryz.f157) R4<|Zm ?_;refine yi _ R5 (iJ k h n a) ?_;rintro _ rfl;refine Zc ?_;refine yi _ R5 (iJ k h n b) ?_;rintro _ rfl;refine oQ ?_;refine Zj ?_;refine Zw ?_;obtain d|e|c:=H6 a b;exact CH;exact CA;exact B9
def qX(k:Nat)(h:HF)(n:Nat)(a:Int):VF (Kp (k+1)) 177 [U .u64 a] h n λv=>v=CV χ:=by refine zO (fn:=Tryz.f177) R4<|Zu ?_;exact BG
def Xq(k:Nat)(h:HF)(n:Nat)(a b:Int):VF (Kp (k+2)) 158 [U .u64 a,U .u64 b] h n λv=>v=U .i64 (cmpI a b):=by refine zO (fn:=Tryz.f158) R4<|Zm ?_;refine yi _ R5 (qX k h n a) ?_;rintro _ rfl;refine Zc ?_;refine yi _ R5 (qX k h n b) ?_;rintro _ rfl;refine oQ ?_;refine Zj ?_;refine Zw ?_;obtain d|e|c:=H6 a b;exact CH;exact CA;exact B9
theorem uF(k:Nat){h:HF}{n:Nat}{g i:Option Addr}{K l L m:Nat}{A C:List Nat}(o:Sl h n 1 (Y g K l) (u64s A))(p:Sl h n 1 (Y i L m) (u64s C))(D:NW A)(F:NW C)(hb:O A<1000000000000):
  VF (Kp (k+3)) 126 [Y g K l,Y i L m] h n λv=>v=U .i64 (cmpZ (wv A) (wv C)):=by
 refine zO (fn:=Tryz.f126) R4 ?_;have M:=o.lenW;have N:=p.lenW;subst M N;refine mM ?_;by_cases hlen:O A=O C
 .refine Zj ?_;refine ye (α:=Nat) (λj=>[(0,Y g (O A) l),(1,Y i (O C) m),(5,U .i64 ((j:Int)-1))]) (λj R S w=>h=R/\n=S/\w=[]/\j<=O A/\A.drop j=C.drop j) (λj=>j) (O A) ⟨rfl,rfl,rfl,CR⟩ ⟨rfl,rfl,rfl,CS,by rw[EI,hlen,EI]⟩ (by show O A<LL;unfold LL;omega) ?_;rintro j t _ _ _⟨rfl,rfl,rfl,Z3,b⟩;refine zN ?_;cases j with
  |zero=>
   refine Zj ?_;rw[DO,DO]at b;subst b;exact retF _ rfl (zi rfl) R2 (by rw[jd];rfl)
  |succ j=>
   obtain⟨x,c⟩:∃x,A[j]?=ξ x:=⟨A[j]'Z,CW Z⟩;obtain⟨y,e⟩:∃x,C[j]?=ξ x:=⟨C[j]'Z,CW Z⟩;refine Zh ?_;rw[N6 rfl];repeat refine zR ?_
   refine yE (f:=λd:Nat=>U .u64 (d:Int)) (j:=j) R7 o ⟨rfl,Z⟩ c (λ_=>rfl) R4 λ_=>?_;repeat refine zR ?_
   refine yE (f:=λd:Nat=>U .u64 (d:Int)) (j:=j) R7 p ⟨rfl,Z⟩ e (λ_=>rfl) R4 λ_=>?_;by_cases hxy:x=y
   .refine Zj ?_;refine goOn j Z ⟨rfl,rfl,bJ,CR⟩ ⟨rfl,rfl,rfl,Z,?_⟩;rw[uR c,uR e,b,hxy]
   refine Zh ?_;refine zl [0,0,3,7,0,0,48,112,255,511] rfl ?_;obtain⟨V,T,Z0,G,rfl,_,u,q,_,_,I⟩:=o.inv Z;obtain⟨W,Z4,x2,H,rfl,_,B,s,_,_,J⟩:=p.inv Z;have Z1:G[T+j]?=ξ (U .u64 (x:Int)):=qG I (dX c);have P:H[Z4+j]?=ξ (U .u64 (y:Int)):=qG J (dX e);repeat refine zD ?_
   refine Oe R8 Z ?_;refine yd R6 (zX rfl u (v:=U .u64 (x:Int)) ⟨q,(by rw[<-Z1];congr 1;omega)⟩) R2 ?_;repeat refine zD ?_
   refine Oe R8 Z ?_;refine yd R6 (zX rfl B (v:=U .u64 (y:Int)) ⟨s,(by rw[<-P];congr 1;omega)⟩) R2 ?_;refine Mv _ R7 (Xq k h n (x:Int) (y:Int)) ?_;rintro _ rfl;repeat refine zD ?_
   refine zN ?_;refine retF _ rfl (zi rfl) R2 ?_;rw[Rl];show U .i64 (cmpZ x y)=U .i64 (cmpZ (wv A) (wv C));congr 1;rcases HV hxy with a|a
   .rw[sM a,sM (show wv A<wv C from Og D.1 c e b a)]
   rw[sO a,sO (show wv C<wv A from Og F.1 e c b.symm a)]
 refine Zk ?_;refine yi _ R5 (Xp k h n (O A:Int) (O C:Int)) ?_;rintro _ rfl;refine oQ ?_;refine retF _ rfl (zi rfl) R2 ?_;rw[Rl];show U .i64 _=U .i64 _;congr 1;rcases HV hlen with a|a
 .rw[sM a,sM (D.len_lt F a)]
 rw[sO a,sO (F.len_lt D a)]
def ResW(n:Nat)(h:HF)(v:ψ)(h':HF)(n':Nat)(w:List Nat)(L:List Nat):Prop:=w=[]/\n<=n'/\Ko n h h'/\Sl h' n' 1 v (u64s L)/\NW L
def sH(k:Nat)(h:HF)(n:Nat){w:Nat}(b:w<18446744073709551616):CF (Kp (k+1)) 104 [U .u64 (w:Int)] h n λv a c W=>∃L,ResW n h v a c W L/\wv L=w/\O L<=1/\xC n v:=by refine zw (fn:=Tryz.f104) R4<|mM ?_;by_cases h0:w=0;subst h0;refine Zi ?_;exact retH _ ⟨ω,(zi ω),ω⟩ ⟨[],⟨ω,CS,Ko.refl _ _,.nil (.inl ω),NW.nil⟩,ω,by decide,CR⟩;refine Zt ?_;refine pZ (cs:=[U .u64 (w:Int)]) R5<|oQ ?_;exact retH _ ⟨ω,(zi ω),ω⟩ ⟨[w],⟨ω,Du _,Ko.upd Z,.at_ (by show 3*n+2<3*(n+1);omega) (zg _ _ _) ω CS CS ω,NW.one h0 b⟩,qe,CS,aD⟩
end Go.Proofs.YteoagenjaemllaaGreatDoor
namespace Go.Proofs.YteoagenjaemllaaGreatDoor
def sE{x:Nat}(hx:x%2=1)(t y:Nat):Dh x (2^t*y)=Dh x y:=by have a:GF x (2^t):=(by apply ao6;unfold GF;rw[E5,Nat.gcd_rec,hx];rfl);exact HG y a.symm
theorem ez(x y:Nat):Dh (min x y) (max x y-min x y)=Dh x y:=by grind [am8,Ee,ac8,Nat.gcd_sub_self_right,Jn,af8,E5]
def Tz(x t:Nat):Prop:=∃o,x=2^t*o/\o%2=1
def Tz.or{x y t:Nat}(h:Tz (x|||y) t):∃a b,x=2^t*a/\y=2^t*b/\(a%2=1\/b%2=1):=by
 have⟨o,e,i⟩:=h;have c:(x|||y)%2^t=0:=by rw[e];exact Hk _ _
 rw[Kg]at c;obtain⟨j,l⟩:x%2^t=0/\y%2^t=0:=Kh.1 c;obtain⟨a,rfl⟩:=Jy j;obtain⟨b,rfl⟩:=Jy l;refine⟨a,b,ω,ω,?_⟩;apply Df;intro m;have f:a%2=0:=Z;have g:b%2=0:=Z;have d:(2^t*a|||2^t*b)%2^(t+1)=0:=(by rw[Kg,Dj,Hr,Hr,f,g,EJ];rfl);rw[e,Dj,Hr,i]at d;have:0<2^t:=DQ Z;omega
def Xr{x y s t o:Nat}(q:Tz (x|||y) s)(hx:x=2^t*o)(f:o%2=1):2^s*Dh o y=Dh x y:=by
 have⟨a,b,c,g,e⟩:=q.or;have u:s<=t:=(by apply Df;intro p;have:2^s=2^t*(2*2^(s-t-1)):=(by rw[<-Dp,<-Dj,<-Ef];congr 1;omega);rw[hx,this,Dp]at c;have:=FY (DQ Z) c;rw[this,Dp,Hk]at f;omega);have d:a=2^(t-s)*o:=by
  have:2^t=2^s*2^(t-s):=by rw[<-Ef];congr 1;omega
  rw[hx,this,Dp]at c;exact(FY (DQ Z) c).symm
 rw[c,g,Nat.gcd_mul_left,sE f,d];congr 1;obtain i|j:=e;have:t-s=0:=(by apply Df;intro p;obtain⟨m,l⟩:∃m,t-s=m+1:=⟨t-s-1,Z⟩;rw[d,l,Dj,Dp,E2,Hk]at i;omega);rw[this,EV,Et];rw[E5,<-sE j (t-s) o,E5]
def Xs{x y t z:Nat}(hx:x%2=1)(a:y=2^t*z)(b:z%2=1):min x z%2=1/\Dh (min x z) (max x z-min x z)=Dh x y/\min x z+(max x z-min x z)<x+y:=by
 refine⟨?_,?_,?_⟩;obtain h|h:=am8 x z;rw[Ee h];exact hx;rw[Jn h];exact b;rw[ez,a,sE hx];have c:z<=y:=by rw[a];exact Nat.le_mul_of_pos_left _ (DQ Z)
 have:min x z+(max x z-min x z)=max x z:=Z;rw[this];omega
end Go.Proofs.YteoagenjaemllaaGreatDoor
namespace Go.Proofs.YteoagenjaemllaaGreatDoor
open Go Go.GL
variable {n c1 c2 l1 l2 len off cap bt sz c' a b c d B P V j m:Nat}{a1 a2:Option Addr}{A C w:List Nat}{ty' ty e:TypeId}{ops r:List Oper}{ik:IntKind}{x y:Operand}{v z:ψ}{o:Oper}
variable {h:HF}
section
variable {X:CtxF}{t:TF}{h:HF}{Q:SV->Prop}{d:Tmp}
def Xt(l:zh ops t o=φ)(f:o.dst=ξ d)(g:zv X.nt (ξ d)=φ)(i:o.op=.binOp .and ty x y ty')(hx:Kn t x=U .u64 (a:Int))(m:Kn t y=U .u64 4294967295)(j:a<18446744073709551616)
  (k:EO X ops r ⟨upd t d (U .u64 ((a%4294967296:Nat):Int)),h,n,w⟩ Q):EO X ops (o::r) ⟨t,h,n,w⟩ Q:=by refine mF (b:=4294967295) ⟨l,f,g,i,hx,m⟩ ⟨j,by decide⟩ ?_;rw[show a&&& 4294967295=a%4294967296 from Ik a 32];exact k
def Xu(j:zh ops t o=φ)(f:o.dst=ξ d)(g:zv X.nt (ξ d)=φ)(i:o.op=.binOp .shr ty x y ty')(hx:Kn t x=U .u64 (a:Int))(l:Kn t y=U ik 32)
  (k:EO X ops r ⟨upd t d (U .u64 ((a/4294967296:Nat):Int)),h,n,w⟩ Q):EO X ops (o::r) ⟨t,h,n,w⟩ Q:=
 yn (s:=32) ⟨j,f,g,i,hx,l⟩ zd k
def zW{d:Tmp}(k:EO X ops r ⟨upd t d v,h,n,w⟩ Q)(f:EO X ops r ⟨upd t d v,h,n,w⟩ Q->EO X ops (o::r) ⟨t,h,n,w⟩ Q:=by first|exact jC R6 Z|exact N9 R6 Z|exact oa R6 Z|exact mD R6 Z|exact MI R6 Z|exact M5 R6 Z|exact jD R6 Z|exact Nz R6 Z|exact Oa R6 Z|exact Ob R6 Z|exact Oc R6 Z|exact Od R6 Z|exact lW R6|exact Ny R6|exact M4 R6|exact MH R6|exact Mu R6|exact N7 R6|exact uI R6 Z|exact Ma R6 Z|exact xt (a:=4294967296) R6 Z|exact Xt ω ω ω ω ω ω Z|exact Xu ω ω ω ω ω rfl|exact se R7 Z|exact M6 R7 Z|exact yT R6 Z|exact xu R6 Z|exact ym R6 Z|exact ym (b:=1) R6 Z|exact QI R6 Z|exact xt R6 Z|exact xM R6 Z|exact yn (s:=32) R6 Z|exact st_I R5|exact st_B R5|exact st_S R5|exact st_P R5|exact st_T R5|exact st_A R5|exact st_U R5|exact zS (v:=.pointer θ) R4 rfl|exact Nw R3):EO X ops (o::r) ⟨t,h,n,w⟩ Q:=f k
def vt{x y:Nat}(f:qu X ops t o d (Ku o.op=3/\effF X.E o.op (Kn t) h n=(match GE.ext 167 [U .u64 (x:Int),U .u64 (y:Int),U .u64 (c:Int)]with|some v=>ξ (.val v h n [])|none=>ξ (.enter 167 [U .u64 (x:Int),U .u64 (y:Int),U .u64 (c:Int)]))))(hb:c<=1)
  (k:EO X ops r ⟨upd t d (.tuple #[U .u64 (((x+y+c)%18446744073709551616:Nat):Int),U .u64 (((x+y+c)/18446744073709551616:Nat):Int)]),h,n,w⟩ Q):EO X ops (o::r) ⟨t,h,n,w⟩ Q:=by have⟨f,i,l,g,j⟩:=f;refine QF f i l g (j.trans ?_) k;have e:GE.ext 167 [U .u64 (x:Int),U .u64 (y:Int),U .u64 (c:Int)]=ξ (.tuple #[U .u64 (((x+y+c)%18446744073709551616:Nat):Int),U .u64 (((x+y+c)/18446744073709551616:Nat):Int)]):=(by show(match DC c 1 with|true=>ξ (It ⟨[U .u64 (.ofNat ((x+y+c)%18446744073709551616)),U .u64 (.ofNat ((x+y+c)/18446744073709551616))]⟩)|false=>θ)=_;rw[C8 hb];rfl);rw[e]
def rn{x y:Nat}(f:qu X ops t o d (Ku o.op=3/\effF X.E o.op (Kn t) h n=(match GE.ext 163 [U .u64 (x:Int),U .u64 (y:Int),U .u64 (c:Int)]with|some v=>ξ (.val v h n [])|none=>ξ (.enter 163 [U .u64 (x:Int),U .u64 (y:Int),U .u64 (c:Int)]))))(hb:c<=1)
  (k:EO X ops r ⟨upd t d (.tuple #[U .u64 (((x+18446744073709551616-y-c)%18446744073709551616:Nat):Int),U .u64 ((if y+c<=x then 0 else 1:Nat):Int)]),h,n,w⟩ Q):EO X ops (o::r) ⟨t,h,n,w⟩ Q:=by
 have⟨f,i,l,g,j⟩:=f;refine QF f i l g (j.trans ?_) k;have e:GE.ext 163 [U .u64 (x:Int),U .u64 (y:Int),U .u64 (c:Int)]=ξ (.tuple #[U .u64 (((x+18446744073709551616-y-c)%18446744073709551616:Nat):Int),U .u64 ((if y+c<=x then 0 else 1:Nat):Int)]):=by
  show(match DC c 1 with|true=>ξ (It ⟨[U .u64 (.ofNat ((x+18446744073709551616-y-c)%18446744073709551616)),U .u64 (.ofNat (match DC (y+c) x with|true=>0|false=>1))]⟩)|false=>θ)=_;rw[C8 hb];by_cases h:y+c<=x;rw[C8 h,CQ h];rfl;rw[CP h];cases hb:DC (y+c) x with
  |true=>exact CO (Dt hb) h
  |false=>rfl
 rw[e]
def fk{i:Operand}{j:Int}(f:qu X ops t o d (o.op=.indexAddr ty x i/\X.E.und ty=ξ (.array len e)/\X.E.inf e=ξ (sz,bt,z)/\Kn t x=CZ (ξ ⟨b,off,θ⟩)/\Kn t i=U ik j))(s:0<=j/\j<len)(k:EO X ops r ⟨upd t d (CZ (ξ ⟨b,off+j.toNat*sz,θ⟩)),h,n,w⟩ Q):EO X ops (o::r) ⟨t,h,n,w⟩ Q:=by have⟨f,l,q,g,u,m,A,p⟩:=f;refine zS ⟨f,l,q,gY⟩ ?_ k;rw[g];show yV X.E ty (Kn t x) (Kn t i)=_;rw[A,p];simp only[yV,u,m,CQ s,wO]
end
def Xv:GK.d64=Jb.map λd:Nat=>U .u8 (d:Int):=rfl
theorem pC(k:Nat)(h:HF)(n:Nat){x y:Nat}(hx:x<18446744073709551616)(g:y<18446744073709551616):VF (Kp (k+1)) 175 [U .u64 (x:Int),U .u64 (y:Int)] h n λv=>v=.tuple #[U .u64 ((x*y/18446744073709551616:Nat):Int),U .u64 ((x*y%18446744073709551616:Nat):Int)]:=by
 refine zO (fn:=Tryz.f175) R4 ?_;obtain⟨i,j,l,f⟩:=Lib.mul64_hi x y hx g;have m:=JF (a:=x/4294967296) (b:=y/4294967296) Z Z;have p:=JF (a:=x/4294967296) (b:=y%4294967296) Z Z;have q:=JF (a:=x%4294967296) (b:=y/4294967296) Z Z;refine mM ?_;repeat refine zW ?_
 refine zN ?_;repeat refine zW ?_
 refine zN ?_;repeat refine zW ?_
 refine zN ?_;repeat refine zW ?_
 refine zN ?_;repeat refine zW ?_
 refine zN ?_;repeat refine zW ?_
 refine zN ?_;repeat refine zW ?_
 refine zN ?_;repeat refine zW ?_
 refine zN ?_;repeat refine zW ?_
 refine zN ?_;repeat refine zW ?_
 refine Zl ?_;refine wk (a:=x) (b:=y) R6 ?_;refine oQ ?_;refine retF [U .u64 _,U .u64 _] rfl rfl R2 ?_;rw[<-f];rfl
def uN(k:Nat)(h:HF)(n:Nat){x y:Nat}(hx:x<18446744073709551616)(i:y<18446744073709551616)(j:c<18446744073709551616):VF (Kp (k+2)) 162 [U .u64 (x:Int),U .u64 (y:Int),U .u64 (c:Int)] h n λv=>v=.tuple #[U .u64 (((x*y+c)%18446744073709551616:Nat):Int),U .u64 (((x*y+c)/18446744073709551616:Nat):Int)]:=by refine zO (fn:=Tryz.f162) R4 ?_;have l:x*y<=18446744073709551615*18446744073709551615:=DG Z Z;refine Zm ?_;refine yi _ R5 (pC k h n hx i) ?_;rintro _ rfl;refine Zv ?_;refine vt (x:=x*y%18446744073709551616) (y:=c) (c:=0) R5 zd<|oQ ?_;refine Zo ?_;refine yT (a:=x*y/18446744073709551616) (b:=(x*y%18446744073709551616+c+0)/18446744073709551616) R6 Z<|oQ ?_;refine retF [U .u64 _,U .u64 _] ω ω R2 ?_;have f:(x*y%18446744073709551616+c+0)%18446744073709551616=(x*y+c)%18446744073709551616:=Z;have g:x*y/18446744073709551616+(x*y%18446744073709551616+c+0)/18446744073709551616=(x*y+c)/18446744073709551616:=Z;rw[<-f,<-g];rfl
def Rm{x:Nat}(hx:x<18446744073709551616)(h0:x≠0):ξ (U .u64 (DE .u64 (0-(x:Int))))=ξ (U .u64 ((18446744073709551616-x:Nat):Int)):=by have e:DE .u64 (0-(x:Int))=((18446744073709551616-x:Nat):Int):=(by simp only[DE,FS,EP];simp;omega);rw[e]
def Xw{i s:Nat}(hl:i<64)(a:Jb.getD i 0=s):GK.d64[0+(i:Int).toNat*1]?=ξ (U .u8 (s:Int)):=by have hl:i<O Jb:=hl;rw[Xv,show 0+(i:Int).toNat*1=i from Z,Dz,CW hl];rw[List.getD_eq_getElem?_getD,CW hl]at a;simp only[Jo]at a;rw[a];rfl
def gW(k:Nat){h:HF}(p:GK.G h)(n:Nat){x:Nat}(hx:x<18446744073709551616)(h0:x≠0):VF (Kp (k+1)) 164 [U .u64 (x:Int)] h n λv=>∃s:Nat,v=U .i64 (s:Int)/\s<64/\∃o,x=2^s*o/\o%2=1:=by
 refine zO (fn:=Tryz.f164) R4 ?_;obtain⟨d,f⟩:x&&& (18446744073709551616-x)=2^aa6 64 x/\aa6 64 x<64:=Lib.lowest_bit 64 x h0 hx;have l:aa6 64 x=Lib.ctzFrom 64 x:=by unfold aa6;rw[CP h0]
 have⟨m,c,_⟩:=Lib.ctzFrom_spec 64 x Z hx;rw[<-l]at c;have⟨e,g⟩:=Lib.deBruijn64_at (aa6 64 x) f;generalize aa6 64 x=s at d f c e g;have j:∃o,x=2^s*o/\o%2=1:=⟨2*m+1,c,by clear c d;omega⟩;refine mM ?_;refine Zy ?_;refine zS (v:=U .u64 ((18446744073709551616-x:Nat):Int)) R4 (Rm hx h0)<|mF (a:=x) (b:=18446744073709551616-x) R6 Z ?_;rw[d];refine wk (a:=2^s) (b:=285870213051353865) R6<|yn (a:=2^s*285870213051353865%18446744073709551616) (s:=58) R6 zd ?_;rw[show(2:Nat)^58=288230376151711744 from rfl];generalize 2^s*285870213051353865%18446744073709551616/288230376151711744=i at e g⊢;refine fk R8 ⟨Int.natCast_nonneg _,Int.ofNat_lt.2 e⟩ ?_;have q:=Xw e g;refine zT R6 p.1 (v:=U .u8 (s:Int)) ⟨ω,q⟩ ?_;refine vj (a:=(s:Int)) R7 Z<|oQ ?_;exact retF _ ω (zi ω) R2 ⟨s,ω,f,j⟩
def Rn(k:Nat){h:HF}(A:GK.G h)(n:Nat){x y:Nat}(hx:x<18446744073709551616)(I:y<18446744073709551616):VF (Kp (k+2)) 132 [U .u64 (x:Int),U .u64 (y:Int)] h n λv=>v=U .u64 ((Dh x y:Nat):Int):=by
 refine zO (fn:=Tryz.f132) R4 ?_;have H:x|||y<18446744073709551616:=Jc (n:=64) hx I;refine mM ?_;by_cases hx0:x=0;subst hx0;refine Zp ?_;refine wG (a:=0) (b:=y) R6 Z<|oQ ?_;exact retF _ ω (zi ω) R2 (by rw[Nat.gcd_zero_left,Nat.zero_or];rfl);by_cases hy0:y=0;subst hy0;refine Zp ?_;refine wG (a:=x) (b:=0) R6 Z<|oQ ?_;exact retF _ ω (zi ω) R2 (by rw[G6,Nat.or_zero];rfl);have C:x|||y≠0:=λe=>hx0 (Kh.1 e).1;refine Zy ?_;refine wG (a:=x) (b:=y) R6 Z<|yi _ R5 (gW k A n H C) ?_;rintro _⟨s,rfl,Z4,D⟩;refine Zv ?_;refine yi _ R5 (gW k A n hx hx0) ?_;rintro _⟨J,rfl,R,d,u,q⟩;refine yn (a:=x) (s:=J) R6 Z ?_;have i:x/2^J=d:=by rw[u];exact Fu _ (DQ Z)
 have M:d<=x:=by rw[<-i];exact Cr
 rw[i];refine oQ ?_;have B:=Xr (s:=s) D u q;refine ye (α:=Nat×Nat) (λz=>[(0,U .u64 (z.1:Int)),(1,U .u64 (z.2:Int)),(5,U .i64 (s:Int))]) (λz L Z1 w=>h=L/\n=Z1/\w=[]/\z.1%2=1/\z.1<18446744073709551616/\z.2<18446744073709551616/\Dh z.1 z.2=Dh d y) (λz=>z.1+z.2) (d,y) P3 ⟨ω,ω,ω,q,by show d<_;omega,I,ω⟩ (by show d+y<LL;unfold LL;omega) ?_;rintro⟨a,b⟩ t _ _ _ ⟨rfl,rfl,rfl,F,m,o,j⟩;simp only at F m o j;refine zN ?_;by_cases hb0:b=0;subst hb0;refine Zb ?_;rw[G6]at j;refine mZ ?_;refine xK (a:=a) (s:=s) R6 Z<|oQ ?_;refine retF _ ω (zi ω) R2 ?_;show U .u64 _=U .u64 _;have P:Dh x y<=x:=Nat.gcd_le_left _ Z;rw[j,C5,B,Di Z];refine Zp ?_;refine yi _ R5 (gW k A n o hb0) ?_;rintro _⟨K,rfl,S,z,p,N⟩;refine yn (a:=b) (s:=K) R6 Z ?_;have c:b/2^K=z:=by rw[p];exact Fu _ (DQ Z)
 have T:z<=b:=by rw[<-c];exact Cr
 rw[c];have⟨l,f,g⟩:=Xs F p N;refine oQ ?_;by_cases hgt:z<a;rw[Jn Z]at l f g;rw[af8 Z]at f g;refine Zi ?_;refine mZ ?_;refine ym (a:=a) (b:=z) R6 Z<|oQ ?_;exact goOn (z,a-z) g P3 ⟨ω,ω,ω,l,by show z<_;omega,by show a-z<_;omega,f.trans j⟩;rw[Ee Z]at l f g;rw[ac8 Z]at f g;refine Zy ?_;refine ym (a:=z) (b:=a) R6 Z<|oQ ?_;exact goOn (a,z-a) g P3 ⟨ω,ω,ω,l,m,by show z-a<_;omega,f.trans j⟩
def NewU(n:Nat)(h:HF)(v:ψ)(h':HF)(n':Nat)(w:List Nat)(L:List Nat):Prop:=w=[]/\n<=n'/\Ko n h h'/\∃a' c',v=Y a' (O L) c'/\Sl h' n' 1 v (u32s L)/\Norm L/\xC n v
def M7{D:List Nat}(h:KA D)(b:d<4294967296):KA (D++[d]):=λx a=>by
 obtain a|a:=Ei.1 a
 .exact h x a
 simp at a;omega
theorem Ro(k:Nat)(H:Sl h n 1 (Y a1 l1 c1) (u32s A))(I:Sl h n 1 (Y a2 l2 c2) (u32s C))(J:KA A)(G:KA C)(hb:O A<1000000000/\O C<1000000000):
  CF (Kp (k+2)) 123 [Y a1 l1 c1,Y a2 l2 c2] h n λv s y w=>∃L,NewU n h v s y w L/\val L=val A+val C:=by
 refine zw (fn:=Tryz.f123) R4 ?_;have W:=H.lenU;have Z1:=I.lenU;subst W Z1;refine Zu ?_;refine yj (α:=(Option Addr×Nat×List Nat)×(Option Addr×Nat×List Nat)) (λz=>[(0,Y z.1.1 (O z.1.2.2) z.1.2.1),(1,Y z.2.1 (O z.2.2.2) z.2.2.1)])
  (λz s y w=>h=s/\n=y/\w=[]/\Sl h n 1 (Y z.1.1 (O z.1.2.2) z.1.2.1) (u32s z.1.2.2)/\Sl h n 1 (Y z.2.1 (O z.2.2.2) z.2.2.1) (u32s z.2.2.2)/\KA z.1.2.2/\KA z.2.2.2/\O z.2.2.2<=O z.1.2.2/\O z.1.2.2<1000000000/\val z.1.2.2+val z.2.2.2=val A+val C) ?_ ?_
 .by_cases hlt:O A<O C
  .rw[ze eU];refine mM ?_;exact zA ((a2,c2,C),(a1,c1,A)) ⟨rfl,rfl,CR⟩ ⟨rfl,rfl,rfl,I,H,G,J,AV,hb.2,EE _ _⟩
  rw[za eS];refine zN ?_;exact zA ((a1,c1,A),(a2,c2,C)) ⟨rfl,rfl,CR⟩ ⟨rfl,rfl,rfl,H,I,J,G,AW,hb.1,rfl⟩
 rintro⟨⟨a1,c1,a⟩,a2,c2,f⟩ t _ _ _ ⟨rfl,rfl,rfl,H,I,J,G,M,hb,u⟩;simp only at H I J G M hb u;rw[<-u];clear u;refine kG ?_;refine vB (len:=O a+1) (cap:=O a+1) R9 Z ?_;rw[show zn (U .u32 0)=[U .u32 0]from rfl,NA];refine Zg ?_;refine oQ ?_;refine ye (α:=List Nat×Nat) (λz=>[(0,Y a1 (O a) c1),(1,Y a2 (O f) c2),(5,Y (ξ ⟨3*n+2,0,θ⟩) (O a+1) (O a+1)),(6,U .u64 (z.2:Int)),(7,U .i64 (O z.1:Int))])
  (λz s y w=>y=n+1/\w=[]/\Ko n h s/\(∃e,s (3*n+2)=ξ (.row (u32s (z.1++C3 (O a-O z.1+1) 0)) e))/\O z.1<=O a/\KA z.1/\z.2<=1/\dv 4294967296 z.1+z.2*4294967296^O z.1=dv 4294967296 (a.take (O z.1))+dv 4294967296 (f.take (O z.1))) (λz=>O a-O z.1)
  ([],0) ⟨rfl,rfl,rfl,rfl,rfl,CR⟩ ⟨rfl,rfl,Ko.upd Z,⟨_,zg _ _ _⟩,CT,λd hd=>CO hd C6,by decide,Az⟩ (by show O a-0<LL;unfold LL;omega) ?_
 rintro⟨D,c⟩ t h1 _ _ ⟨rfl,rfl,F,⟨e,q⟩,Z3,N,hc,T⟩;simp only at q Z3 N hc T;refine zN ?_;by_cases hi:O D=O a
 .refine Zb ?_;rw[hi,Ec]at q;repeat refine zU ?_
  refine uH (j:=O a) (v:=U .u32 (c:Int)) R8 rfl A7 q aD (λ_=>rfl) R3 (λ_=>rfl) rfl λ_=>?_;rw[tY,<-hi,cI,Fp,DJ];refine kG ?_;refine zF _ R5 (LQ k (l:=D++[c]) dO (.at_ Z (zg _ _ _) rfl Z (by simp[u32s]<;>omega) (by rw[C7 (by simp[u32s]<;>omega)];simp))) ?_;rintro v' _ _ _⟨rfl,rfl,rfl,rfl,hs⟩;refine oQ ?_;refine retH _ ⟨rfl,(zi rfl),rfl⟩ ⟨yf (D++[c]),⟨rfl,Am,λb hb=>(zm Z).trans (F b hb),_,_,rfl,hs,Norm.trim (M7 N Z),aD⟩,?_⟩;rw[lj,tX,qz,tX,tX,C5];rw[hi,Ds,C7 M,<-hi]at T;omega
 obtain⟨o,K⟩:∃x,a[O D]?=ξ x:=⟨a[O D]'Z,CW Z⟩;have Z0:o<4294967296:=J o (C0 K);have R:=H.ext F (Du n);have S:=I.ext F (Du n);refine Zk ?_;refine yE R7 R R2 K (λ_=>rfl) R4 λ_=>?_;repeat refine zU ?_
 refine mM ?_;have Z4:(f[O D]?).getD 0<4294967296:=by
  cases hc':f[O D]? with
  |none=>decide
  |some x=>exact G x (C0 hc')
 refine MG [(0,Y a1 (O a) c1),(1,Y a2 (O f) c2),(5,Y (ξ ⟨3*n+2,0,θ⟩) (O a+1) (O a+1)),(6,U .u64 ((c+o+(f[O D]?).getD 0:Nat):Int)),(7,U .i64 (O D:Int))] (λs y w=>h1=s/\y=n+1/\w=[]) ?_ ?_
 .by_cases hj:O D<O f
  .obtain⟨g,i⟩:∃x,f[O D]?=ξ x:=⟨f[O D]'Z,CW Z⟩;have a0:g<4294967296:=G g (C0 i);rw[ze eU];refine kG ?_;refine yE R7 S R2 i (λ_=>rfl) R4 λ_=>?_;repeat refine zU ?_
   refine zN ?_;rw[i];exact LH ⟨rfl,rfl,rfl,rfl,rfl,CR⟩ ⟨rfl,rfl,rfl⟩
  exact B4
 rintro t2 _ _ _⟨rfl,rfl,rfl⟩;generalize i:(f[O D]?).getD 0=g at Z4⊢;refine kG ?_;refine ft R7 ?_;obtain⟨m,hm⟩:∃m,O a-O D=m+1:=⟨O a-O D-1,Z⟩;rw[hm]at q;refine uH (j:=O D) (v:=U .u32 (((c+o+g)%4294967296:Nat):Int)) R8 rfl (by simp[zY];omega) q aD (λ_=>rfl) R3 (λ_=>rfl) rfl λ_=>?_;rw[tY,cI];refine zN ?_;repeat refine zU ?_
 refine mM ?_;refine goOn (D++[(c+o+g)%4294967296],(c+o+g)/4294967296) dO ⟨rfl,rfl,rfl,rfl,p0,CR⟩ ⟨rfl,rfl,λb hb=>(zm Z).trans (F b hb),⟨e,(zg _ _ _).trans (by show ξ (BF.row (u32s (D++[_]++C3 (m+1) 0)) e)=ξ (BF.row (u32s (D++[_]++C3 (O a-O (D++[_])+1) 0)) e);rw[C1,Db,show (O a)-(O D+1)+1=m+1 from Z])⟩,dO,M7 N (DS _ Z),by show _/_<=1;omega,?_⟩;have Z1:dv 4294967296 (f.take (O D+1))=dv 4294967296 (f.take (O D))+4294967296^O D*g:=by
  by_cases hj:O D<O f
  .have:f[O D]?=ξ g:=by rw[<-i,CW hj];rfl
   exact wJ this
  rw[Dn Z]at i;simp only[Jp]at i;rw[C7 Z,C7 Z,<-i];simp
 show dv 4294967296 (D++[_])+_*4294967296^O (D++[_])=dv 4294967296 (a.take (O (D++[_])))+dv 4294967296 (f.take (O (D++[_])));simp only[C1,Db];rw[wJ K,Z1,Dj];have:=Pm (B:=4294967296) (P:=4294967296^O D) (V:=dv 4294967296 D) (V':=dv 4294967296 (D++[(c+o+g)%4294967296])) (c:=c) (p:=o+g) (by rw[qz,C5]) (c':=(c+o+g)/4294967296) Z;rw[this,Dq o g,C5 o,C5 g];omega
theorem Rp{V' o p:Nat}(h:V'+o*P=V+d*P)(hx:B*c'+d=c+p+o):V'+c'*(P*B)=V+c*P+p*P:=by grind
def Sl.own{Z1:List Nat}(a:h b=ξ (.row (u32s Z1) e))(hb:b<3*m)(hl:O Z1=len)(f:len<=cap):Sl h m 1 (Y (ξ ⟨b,0,θ⟩) len cap) (u32s Z1):=
 .at_ hb a ω f tu (by rw[DO,C7 tu])
def M8{Z1:List Nat}(h:KA Z1)(f:d<4294967296):KA (Z1.set j d):=λx a=>by
 obtain a|a:=IY a
 .exact h x a
 omega
theorem Rq(k:Nat)(hA:Sl h n 1 (Y a1 l1 c1) (u32s A))(hC:Sl h n 1 (Y a2 l2 c2) (u32s C))(dA:KA A)(dC:KA C)(hb:O A<1000000000/\O C<1000000000):
  CF (Kp (k+2)) 87 [Y a1 l1 c1,Y a2 l2 c2] h n λv s G w=>∃L,NewU n h v s G w L/\val L=val A*val C:=by
 refine zw (fn:=Tryz.f87) R4 ?_;have e1:=hA.lenU;have S:=hC.lenU;subst e1 S;refine mM ?_;by_cases D:O A=0\/O C=0
 .have hz:val A*val C=0:=by
   rcases D with D|D
   .rw[De.1 D];simp[val]
   rw[De.1 D];simp[val]
  have Z4:∀t:TF,t 4=η->RetH Tryz.f87 (λv s G w=>∃L,NewU n h v s G w L/\val L=val A*val C) .ret ⟨t,h,n,[]⟩:=λt ht=>
   retH [η] ⟨rfl,(zi ht),rfl⟩ ⟨[],⟨rfl,CS,Ko.refl _ _,θ,0,rfl,.nil (.inl rfl),Norm.nil,CR⟩,by rw[hz];rfl⟩
  by_cases h1:O A=0
  .refine Zi ?_;exact Z4 _ rfl
  refine Zi ?_;exact Z4 _ rfl
 have a5:O A≠0:=λe=>D (.inl e);have a6:O C≠0:=λe=>D (.inr e);refine Zt ?_;refine vB (len:=O A+O C) (cap:=O A+O C) R9 Z ?_;rw[show zn (U .u32 0)=[U .u32 0]from rfl,NA];refine Zg ?_;refine ye (α:=Nat×List Nat) (λz=>[(0,Y a1 (O A) c1),(1,Y a2 (O C) c2),(5,Y (ξ ⟨3*n+2,0,θ⟩) (O A+O C) (O A+O C)),(6,U .i64 (z.1:Int))])
  (λz s G w=>G=n+1/\w=[]/\Ko n h s/\(∃e,s (3*n+2)=ξ (.row (u32s z.2) e))/\z.1<=O A/\KA z.2/\O z.2=O A+O C/\z.2.drop (z.1+O C)=C3 (O A-z.1) 0/\dv 4294967296 z.2=dv 4294967296 (A.take z.1)*dv 4294967296 C) (λz=>O A-z.1)
  (0,C3 (O A+O C) 0) ⟨rfl,rfl,rfl,rfl,CR⟩ ⟨rfl,rfl,Ko.upd Z,⟨_,zg _ _ _⟩,CT,λd hd=>by rw[HQ hd];decide,cA,cA,by simp[dv,pc]⟩ Ac ?_
 rintro⟨i,Z1⟩ t h1 _ _ ⟨rfl,rfl,W,⟨e,F⟩,hi,Z3,J,K,Z0⟩;simp only at F hi Z3 J K Z0;refine zN ?_;by_cases hiA:i=O A
 .subst hiA;refine Zt ?_;refine zF _ R5 (LQ k (l:=Z1) Z (Sl.own F Z J CS)) ?_;rintro v' _ _ _⟨rfl,rfl,rfl,rfl,hs⟩;refine oQ ?_;refine retH _ ⟨rfl,(zi rfl),rfl⟩ ⟨yf Z1,⟨rfl,Am,W,_,_,rfl,hs,Norm.trim Z3,aD⟩,?_⟩;rw[lj,tX,tX,tX,Z0,Ds]
 obtain⟨g,N⟩:∃x,A[i]?=ξ x:=⟨A[i]'Z,CW Z⟩;have a3:g<4294967296:=dA g (C0 N);refine Zi ?_;refine oQ ?_;refine ye (α:=Nat×Nat×List Nat) (λz=>[(0,Y a1 (O A) c1),(1,Y a2 (O C) c2),(5,Y (ξ ⟨3*n+2,0,θ⟩) (O A+O C) (O A+O C)),(6,U .i64 (i:Int)),(7,U .u64 (z.2.1:Int)),(8,U .i64 (z.1:Int))])
  (λz s G w=>G=n+1/\w=[]/\Ko n h s/\(∃e,s (3*n+2)=ξ (.row (u32s z.2.2) e))/\z.1<=O C/\KA z.2.2/\O z.2.2=O A+O C/\z.2.1<4294967296/\z.2.2.drop (i+O C)=Z1.drop (i+O C)/\dv 4294967296 z.2.2+z.2.1*4294967296^(i+z.1)=dv 4294967296 Z1+g*4294967296^i*dv 4294967296 (C.take z.1)) (λz=>O C-z.1)
  (0,0,Z1) ⟨rfl,rfl,rfl,rfl,rfl,rfl,CR⟩ ⟨rfl,rfl,W,⟨e,F⟩,CT,Z3,J,by show 0<4294967296;decide,rfl,Az⟩ AH ?_
 rintro⟨j,c,a⟩ t2 h2 _ _ ⟨rfl,rfl,I,⟨S,f⟩,hj,H,u,hc,y,M⟩;simp only at f hj H u hc y M;refine zN ?_;by_cases hjC:j=O C
 .subst hjC;refine Zb ?_;repeat refine zU ?_
  refine uH (j:=i+O C) (v:=U .u32 (c:Int)) R8 Z tu f aD (λ_=>rfl) R3 (λ_=>rfl) rfl λ_=>?_;rw[tY];refine mM ?_;have a0:a[i+O C]?=ξ 0:=by
   have:(a.drop (i+O C))[0]?=(C3 (O A-i) 0)[0]?:=by rw[y,K]
   rw[D9,DV]at this;rw[this,List.getElem?_replicate,CQ Z]
  refine goOn (i+1,a.set (i+O C) c) (by show O A-(i+1)<O A-i;omega) ⟨rfl,rfl,rfl,gL,CR⟩ ⟨rfl,rfl,λb hb=>(zm Z).trans (I b hb),⟨S,zg _ _ _⟩,by show i+1<=O A;omega,M8 H hc,Bg,?_,?_⟩
  .show(a.set (i+O C) c).drop (i+1+O C)=_;rw[FU Z];have:=congrArg (JX 1) (y.trans K);rw[EH]at this;rw[show i+1+O C=i+O C+1 from Z,this];simp;omega
  show dv 4294967296 (a.set (i+O C) c)=dv 4294967296 (A.take (i+1))*dv 4294967296 C;have T:=Mx (B:=4294967296) c a0;rw[Ep,DV]at T;rw[T,M,Ds,wJ N,Dq,Z0,C5 g]
 obtain⟨q,R⟩:∃x,C[j]?=ξ x:=⟨C[j]'Z,CW Z⟩;have a4:q<4294967296:=dC q (C0 R);obtain⟨o,ho⟩:∃x,a[i+j]?=ξ x:=⟨a[i+j]'Z,CW Z⟩;have a7:o<4294967296:=H o (C0 ho);have hp:g*q<=4294967295*4294967295:=DG Z Z;refine Zh ?_;rw[wb rfl];repeat refine zR ?_
 refine yE R7 (hA.ext I (Du n)) R2 N (λ_=>rfl) R4 λ_=>?_;repeat refine zU ?_
 refine yE R7 (hC.ext I (Du n)) R2 R (λ_=>rfl) R4 λ_=>?_;repeat refine zU ?_
 refine yE (j:=i+j) R7 (Sl.own f (show _<3*(n+1)by omega) u CS) ⟨rfl,Z⟩ ho (λ_=>rfl) R4 λ_=>?_;generalize hpp:g*q=p at hp;repeat refine zU ?_
 refine kG ?_;refine ft R7 ?_;refine uH (j:=i+j) (v:=U .u32 (((c+(p+o))%4294967296:Nat):Int)) R8 Z tu f aD (λ_=>rfl) R3 (λ_=>rfl) rfl λ_=>?_;rw[tY];refine zN ?_;repeat refine zU ?_
 refine mM ?_;refine goOn (j+1,(c+(p+o))/4294967296,a.set (i+j) ((c+(p+o))%4294967296)) (by show O C-(j+1)<O C-j;omega) ⟨rfl,rfl,rfl,rfl,rfl,gL,CR⟩ ⟨rfl,rfl,λb hb=>(zm Z).trans (I b hb),⟨S,zg _ _ _⟩,by show j+1<=O C;omega,M8 H (DS _ Z),Bg,by show _/_<_;omega,?_,?_⟩
 .show(a.set (i+j) _).drop (i+O C)=_;rw[FU Z];exact y
 show dv 4294967296 (a.set (i+j) _)+_*4294967296^(i+(j+1))=dv 4294967296 Z1+g*4294967296^i*dv 4294967296 (C.take (j+1));have T:=Rp (B:=4294967296) (c:=c) (p:=p) (c':=(c+(p+o))/4294967296) (Mx (B:=4294967296) ((c+(p+o))%4294967296) ho) Z;rw[show i+(j+1)=i+j+1 from Z,Dj,T,M,wJ R,DW,<-hpp,Ef];have e4:g*4294967296^i*(4294967296^j*q)=g*q*(4294967296^i*4294967296^j):=by
  rw[C5 (4294967296^j) q,<-Dp,Dp g,C5 (4294967296^i) q,<-Dp,Dp (g*q)]
 rw[e4];omega
section
variable {h:HF}
theorem Xx(k:Nat)(I:Sl h n 1 (Y a1 l1 c1) (u32s A))(K:Sl h n 1 (Y a2 l2 c2) (u32s C))(T:KA A)(H:KA C)(hb:O A<1000000000)(R:O C<=O A)(S:val C<=val A):
  CF (Kp (k+2)) 187 [Y a1 l1 c1,Y a2 l2 c2] h n λv q y w=>∃L,NewU n h v q y w L/\val L=val A-val C:=by
 refine zw (fn:=Tryz.f187) R4 ?_;have Z4:=I.lenU;have G:=K.lenU;subst Z4 G;refine Zm ?_;refine vB (len:=O A) (cap:=O A) R9 Z ?_;rw[show zn (U .u32 0)=[U .u32 0]from rfl,NA];refine Zg ?_;refine oQ ?_;refine ye (α:=List Nat×Nat) (λz=>[(0,Y a1 (O A) c1),(1,Y a2 (O C) c2),(5,Y (ξ ⟨3*n+2,0,θ⟩) (O A) (O A)),(6,U .u64 (z.2:Int)),(7,U .i64 (O z.1:Int))])
  (λz q y w=>y=n+1/\w=[]/\Ko n h q/\(∃e,q (3*n+2)=ξ (.row (u32s (z.1++C3 (O A-O z.1) 0)) e))/\O z.1<=O A/\KA z.1/\z.2<=1/\dv 4294967296 z.1+dv 4294967296 (C.take (O z.1))=dv 4294967296 (A.take (O z.1))+z.2*4294967296^O z.1) (λz=>O A-O z.1)
  ([],0) ⟨rfl,rfl,rfl,rfl,rfl,CR⟩ ⟨rfl,rfl,Ko.upd Z,⟨_,zg _ _ _⟩,CT,λd hd=>CO hd C6,by decide,Az⟩ Ac ?_
 rintro⟨D,c⟩ t h1 _ _ ⟨rfl,rfl,p,⟨e,g⟩,Z0,F,hc,N⟩;simp only at g Z0 F hc N;refine zN ?_;by_cases hi:O D=O A
 .refine Zb ?_;rw[hi,Ec,Fp,DJ]at g;repeat refine zR ?_
  refine zF _ R5 (LQ k (l:=D) Z (Sl.own g Z hi CS)) ?_;rintro v' _ _ _⟨rfl,rfl,rfl,rfl,hs⟩;refine oQ ?_;refine retH _ ⟨rfl,(zi rfl),rfl⟩ ⟨yf D,⟨rfl,Am,p,_,_,rfl,hs,Norm.trim F,aD⟩,?_⟩;rw[lj,tX];rw[tX,tX]at S⊢;rw[hi,Ds,C7 R,<-hi]at N;have a4:=Mf (B:=4294967296) F;have Z1:c=0\/c=1:=Z;rcases Z1 with rfl|rfl<;>omega
 obtain⟨o,u⟩:∃x,A[O D]?=ξ x:=⟨A[O D]'Z,CW Z⟩;have a0:o<4294967296:=T o (C0 u);have J:=I.ext p (Du n);have M:=K.ext p (Du n);refine Zk ?_;refine yE R7 J R2 u (λ_=>rfl) R4 λ_=>?_;refine se R7 Z ?_;refine zM ?_;refine sd (a:=o) (b:=c) R6 Z ?_;refine Zg ?_;have P:(C[O D]?).getD 0<4294967296:=by
  cases hc':C[O D]? with
  |none=>decide
  |some x=>exact H x (C0 hc')
 refine MG [(0,Y a1 (O A) c1),(1,Y a2 (O C) c2),(5,Y (ξ ⟨3*n+2,0,θ⟩) (O A) (O A)),(7,U .i64 (O D:Int)),(8,U .u64 (((o+18446744073709551616-(c+(C[O D]?).getD 0))%18446744073709551616:Nat):Int))] (λq y w=>h1=q/\y=n+1/\w=[]) ?_ ?_
 .by_cases hj:O D<O C
  .obtain⟨i,f⟩:∃x,C[O D]?=ξ x:=⟨C[O D]'Z,CW Z⟩;have a3:i<4294967296:=H i (C0 f);rw[ze eU];refine kG ?_;refine yE R7 M R2 f (λ_=>rfl) R4 λ_=>?_;refine se R7 Z ?_;refine sd (a:=(o+18446744073709551616-c)%18446744073709551616) (b:=i) R6 Z ?_;refine oQ ?_;rw[f];exact LH ⟨rfl,rfl,rfl,rfl,by show U .u64 _=U .u64 _;congr 2;simp only[Jo];omega,CR⟩ ⟨rfl,rfl,rfl⟩
  exact B4
 rintro t2 _ _ _⟨rfl,rfl,rfl⟩;generalize f:(C[O D]?).getD 0=i at P⊢;obtain⟨X,hX⟩:∃X,X=(o+18446744073709551616-(c+i))%18446744073709551616:=⟨_,rfl⟩;rw[<-hX];refine kG ?_;refine ft R7 ?_;obtain⟨m,hm⟩:∃m,O A-O D=m+1:=⟨O A-O D-1,Z⟩;rw[hm]at g;refine uH (j:=O D) (v:=U .u32 ((X%4294967296:Nat):Int)) R8 rfl (by simp[zY]<;>omega) g aD (λ_=>rfl) R3 (λ_=>rfl) rfl λ_=>?_;rw[tY,cI];refine Za ?_;refine yn (s:=32) R6 Z ?_;refine mF (a:=X/2^32) (b:=1) R6 Z ?_;rw[Ki];refine Zg ?_;refine goOn (D++[X%4294967296],X/2^32%2) dO ⟨rfl,rfl,rfl,rfl,p0,CR⟩ ⟨rfl,rfl,λb hb=>(zm Z).trans (p b hb),⟨e,(zg _ _ _).trans (by show ξ (BF.row (u32s (D++[_]++C3 m 0)) e)=ξ (BF.row (u32s (D++[_]++C3 (O A-O (D++[_])) 0)) e);rw[C1,Db,show (O A)-(O D+1)=m from Z])⟩,dO,M7 F (DS _ Z),by show _%_<=1;omega,?_⟩;have G:dv 4294967296 (C.take (O D+1))=dv 4294967296 (C.take (O D))+4294967296^O D*i:=by
  by_cases hj:O D<O C
  .have:C[O D]?=ξ i:=by rw[<-f,CW hj];rfl
   exact wJ this
  rw[Dn Z]at f;simp only[Jp]at f;rw[C7 Z,C7 Z,<-f];simp
 show dv 4294967296 (D++[_])+dv 4294967296 (C.take (O (D++[_])))=dv 4294967296 (A.take (O (D++[_])))+_*4294967296^O (D++[_]);simp only[C1,Db];rw[wJ u,G,Dj (n:=4294967296),qz];have V:X%4294967296+i+c=o+X/2^32%2*4294967296:=Z;have W:4294967296^O D*(X%4294967296+i+c)=4294967296^O D*(o+X/2^32%2*4294967296):=by rw[V]
 rw[DW,DW,DW]at W;have Z3:X/2^32%2*(4294967296^O D*4294967296)=4294967296^O D*(X/2^32%2*4294967296):=by rw[E2]
 rw[Z3];have e6:c*4294967296^O D=4294967296^O D*c:=C5 _ _;omega
def Pn{t x s:Nat}(b:s<=32)(a:t<2^s):t|||(x*2^s%4294967296)=t+x*2^s%4294967296:=by have e:x*2^s%4294967296=2^s*(x%2^(32-s)):=(by rw[show(4294967296:Nat)=2^s*2^(32-s)from by rw[<-Ef,show s+(32-s)=32 from Z],C5 x,Hr]);rw[e,Nat.or_comm,<-IG a,EE]
def Rr{t x s:Nat}(a:s<=32)(b:t<2^s):t+x*2^s%4294967296<4294967296:=by rw[<-Pn a b];have c:t<2^32:=Dm b (Dd Z a);exact Jc (n:=32) c (DS _ Z)
def Rs{x s:Nat}(hx:x<4294967296):x*2^s/4294967296<2^s:=by rw[EF Z,C5];exact Nat.mul_lt_mul_of_pos_left hx (DQ Z)
theorem Xy(D:List Nat)(t m d:Nat)(x:Nat):((D++[t]++C3 (m+1) 0).set (O D) d).set (O D+1) x=(D++[d])++[x]++C3 m 0:=by grind
theorem Rt(k:Nat){s:Nat}(K:Sl h n 1 (Y a1 l1 c1) (u32s A))(N:KA A)(hb:O A<1000000000)(Z0:s<32):
  CF (Kp (k+1)) 154 [Y a1 l1 c1,U .u64 (s:Int)] h n λv l H w=>w=[]/\H=n+1/\Ko n h l/\∃L e,v=Y (ξ ⟨3*n+2,0,θ⟩) (O A+1) (O A+1)/\l (3*n+2)=ξ (.row (u32s L) e)/\O L=O A+1/\KA L/\dv 4294967296 L=dv 4294967296 A*2^s:=by
 refine zw (fn:=Tryz.f154) R4 ?_;have Z1:=K.lenU;subst Z1;have J:2^s<=2147483648:=show 2^s<=2^31 from Dd Z Z;have I:0<2^s:=DQ Z;refine Zm ?_;refine vB (len:=O A+1) (cap:=O A+1) R9 Z ?_;rw[show zn (U .u32 0)=[U .u32 0]from rfl,NA];refine Zg ?_;refine ye (α:=List Nat×Nat) (λz=>[(0,Y a1 (O A) c1),(1,U .u64 (s:Int)),(5,Y (ξ ⟨3*n+2,0,θ⟩) (O A+1) (O A+1)),(6,U .i64 (O z.1:Int))])
  (λz l H w=>H=n+1/\w=[]/\Ko n h l/\(∃e,l (3*n+2)=ξ (.row (u32s (z.1++[z.2]++C3 (O A-O z.1) 0)) e))/\O z.1<=O A/\KA z.1/\z.2<2^s/\dv 4294967296 z.1+z.2*4294967296^O z.1=dv 4294967296 (A.take (O z.1))*2^s) (λz=>O A-O z.1)
  ([],0) ⟨rfl,rfl,rfl,rfl,CR⟩ ⟨rfl,rfl,Ko.upd Z,⟨_,(zg _ _ _).trans (by rw[GU];rfl)⟩,CT,λd S=>CO S C6,I,Az⟩ Ac ?_
 rintro⟨D,i⟩ t Z3 _ _ ⟨rfl,rfl,y,⟨e,g⟩,R,G,u,F⟩;simp only at g R G u F;refine zN ?_;by_cases hi:O D=O A
 .refine Zb ?_;rw[hi,Ec,Fp,DJ]at g;refine oQ ?_;refine retH _ ⟨rfl,(zi rfl),rfl⟩ ⟨rfl,rfl,y,D++[i],e,rfl,g,by simp[hi],M7 G Z,?_⟩;rw[hi,Ds,<-hi]at F;rw[qz,C5 (4294967296^_),F]
 obtain⟨f,o⟩:∃x,A[O D]?=ξ x:=⟨A[O D]'Z,CW Z⟩;have q:f<4294967296:=N f (C0 o);have M:=K.ext y (Du n);obtain⟨m,T⟩:∃m,O A-O D=m+1:=⟨O A-O D-1,Z⟩;rw[T]at g;have W:f*2^s<18446744073709551616:=by
  have:f*2^s<=4294967295*2147483648:=DG Z J;omega
 refine Zk ?_;refine yE R7 M R2 o (λ_=>rfl) R4 λ_=>?_;refine se R7 Z ?_;refine zM ?_;refine xK (a:=f) (s:=s) R6 Z ?_;rw[Di W];refine Zc ?_;refine yE (j:=O D) (dv:=i) R7 (Sl.own g (show _<3*(n+1)by omega) dO CS) R2 cA (λ_=>rfl) R4 λ_=>?_;refine zM ?_;refine ft R7 ?_;refine QJ (a:=i) (b:=f*2^s%4294967296) R6 Z ?_;rw[Pn Z u];refine uH (j:=O D) (v:=U .u32 ((i+f*2^s%4294967296:Nat):Int)) R8 rfl (by rw[zY];simp<;>omega) g aD (λ_=>rfl) R3 (λ_=>rfl) rfl λ_=>?_;refine zN ?_;have Z4:=Rs (s:=s) q;repeat refine zU ?_
 refine uH (j:=O D+1) (v:=U .u32 ((f*2^s/2^32:Nat):Int)) R8 Z (by rw[DX,zY];simp<;>omega) (zg _ _ _) aD (λ_=>rfl) R3 (λ_=>rfl) rfl λ_=>?_;rw[uk,tY,tY,Xy];refine mM ?_;refine goOn (D++[i+f*2^s%4294967296],f*2^s/2^32) dO ⟨rfl,rfl,rfl,p0,CR⟩ ⟨rfl,rfl,λb hb=>(zm Z).trans (y b hb),⟨e,(zg _ _ _).trans (by show ξ (BF.row (u32s (D++[_]++[_]++C3 m 0)) e)=ξ (BF.row (u32s (D++[_]++[_]++C3 (O A-O (D++[_])) 0)) e);rw[C1,Db,show (O A)-(O D+1)=m from Z])⟩,dO,M7 G (Rr Z u),by show f*2^s/2^32<2^s;exact Rs q,?_⟩;show dv 4294967296 (D++[_])+_*4294967296^O (D++[_])=dv 4294967296 (A.take (O (D++[_])))*2^s;simp only[C1,Db];have:=Pm (B:=4294967296) (P:=4294967296^O D) (V:=dv 4294967296 D) (V':=dv 4294967296 (D++[i+f*2^s%4294967296])) (c:=i) (p:=f*2^s) (by rw[qz,C5]) (c':=f*2^s/2^32) Z;rw[Dj (n:=4294967296),this,wJ o,Dq,F,F5,C5 (4294967296^O D)]
def DivR(n:Nat)(h:HF)(A C:List Nat)(v:ψ)(h':HF)(n':Nat)(w:List Nat):Prop:=w=[]/\n<=n'/\Ko n h h'/\∃aq cq Lq ar cr Lr,v=.tuple #[Y aq (O Lq) cq,Y ar (O Lr) cr]/\Sl h' n' 1 (Y aq (O Lq) cq) (u32s Lq)/\Sl h' n' 1 (Y ar (O Lr) cr) (u32s Lr)/\Norm Lq/\Norm Lr/\val Lq=val A/val C/\val Lr=val A%val C/\xC n (Y aq (O Lq) cq)/\xC n (Y ar (O Lr) cr)
def Norm.len_le{B:List Nat}(a:Norm A)(b:Norm B)(h:val B<=val A):O B<=O A:=by apply Df;intro c;have:=a.len_lt b Z;omega
end
end Go.Proofs.YteoagenjaemllaaGreatDoor
namespace Go.Proofs.YteoagenjaemllaaGreatDoor
variable {top v1 v2 vr w2 wr B P h r:Nat}
def oJ{a b c P:Nat}(d:a*P<=b)(e:b<c*P):a<c:=by apply Df;intro f;have:c*P<=a*P:=C9 P Z;omega
def kB(hv:0<v1)(d:w2<B)(e:wr<P):((top*B+w2)*P+wr)/((v1*B+v2)*P+vr)<=top/v1:=by
 generalize hQ:((top*B+w2)*P+wr)/((v1*B+v2)*P+vr)=Q;have a:Q*((v1*B+v2)*P+vr)<=(top*B+w2)*P+wr:=by rw[<-hQ];exact J1 _ _
 rw[FF hv];have b:(Q*v1)*(B*P)<=Q*((v1*B+v2)*P+vr):=(by rw[Dp];apply Do;rw[<-Dp,Dq];omega);have c:(top*B+w2)*P+wr<(top+1)*(B*P):=(by have:(top*B+w2+1)*P<=(top*B+B)*P:=C9 _ Z;rw[Dq _ 1,Et]at this;rw[<-Dp,Dq top,Et];omega);have:=oJ (Dy b a) c;omega
def Oi(f:w2<B)(g:wr<P)(e:h*v1+r=top)(j:r*B+w2<h*v2):((top*B+w2)*P+wr)/((v1*B+v2)*P+vr)<h:=by
 generalize hQ:((top*B+w2)*P+wr)/((v1*B+v2)*P+vr)=Q;have b:Q*((v1*B+v2)*P+vr)<=(top*B+w2)*P+wr:=by rw[<-hQ];exact J1 _ _
 apply Df;intro l;have c:(h*(v1*B+v2))*P<=Q*((v1*B+v2)*P+vr):=(by have a:h*((v1*B+v2)*P)<=Q*((v1*B+v2)*P+vr):=DG Z Z;rw[Dp];exact a);have a:(top*B+w2)*P+wr<(top*B+w2+1)*P:=by rw[Dq _ 1,Et];omega
 have d:=oJ (Dy c b) a;rw[<-e,DW,Dq]at d;have i:h*(v1*B)=h*v1*B:=by rw[Dp]
 omega
def Po(hv:0<v1)(d:0<B)(f:vr<P)(e:h*v1+r=top)(l:h*v2<=r*B+w2)(hh:h<B):h<=((top*B+w2)*P+wr)/((v1*B+v2)*P+vr)+1:=by
 have a:0<(v1*B+v2)*P+vr:=(by have:0<v1*B:=Fv hv d;have:0<(v1*B+v2)*P:=Fv Z Z;omega);have g:(h*(v1*B+v2))*P<=(top*B+w2)*P:=by
  apply C9;rw[<-e,DW,Dq];have b:h*(v1*B)=h*v1*B:=by rw[Dp]
  omega
 have i:h*vr<=B*P:=DG Z Z;have j:B*P<=(v1*B+v2)*P:=C9 _ (by
  have:1*B<=v1*B:=C9 _ hv;omega)
 have c:h*((v1*B+v2)*P+vr)<=((top*B+w2)*P+wr)+((v1*B+v2)*P+vr):=(by rw[DW,<-Dp];omega);have b:h<=(((top*B+w2)*P+wr)+((v1*B+v2)*P+vr))/((v1*B+v2)*P+vr):=(by rw[FF a];exact c);rw[Nat.add_div_right _ a]at b;exact b
def Ru(e:vr<P)(d:v2<B)(c:(top*B+w2)*P+wr<B*((v1*B+v2)*P+vr)):top<=v1*B+v2:=by have a:top*(B*P)<=(top*B+w2)*P+wr:=(by rw[<-Dp,Dq];omega);have b:B*((v1*B+v2)*P+vr)<=(v1*B+v2+1)*(B*P):=(by rw[E2];apply Do;rw[Dq _ 1,Et];omega);have:=oJ a (Dm c b);omega
def Pp{B:Nat}{l:List Nat}{m x y:Nat}(hl:O l=m+2)(hx:l[m+1]?=ξ x)(c:l[m]?=ξ y):dv B l=(x*B+y)*B^m+dv B (l.take m):=by have a:=wJ (B:=B) hx;have b:=wJ (B:=B) c;rw[C7 Z]at a;rw[a,b,Dq,Dj,C5 (B^m) y,Dp x B,C5 B,C5 x];omega
def Rv{B:Nat}{l:List Nat}{m x y z:Nat}(hl:O l=m+3)(hx:l[m+2]?=ξ x)(c:l[m+1]?=ξ y)(d:l[m]?=ξ z):dv B l=((x*B+y)*B+z)*B^m+dv B (l.take m):=by have a:=wJ (B:=B) hx;rw[C7 Z]at a;have b:=Pp (B:=B) (l:=l.take (m+2)) (m:=m) (x:=y) (y:=z) gQ (by rw[Ek Z];exact c) (by rw[Ek Z];exact d);rw[GY,Ee Z]at b;rw[a,b,Dq,Dq,Dq,Dq,Ef,show B^2=B*B from by rw[Dj,ae7]];have e:B^m*(B*B)*x=x*B*B*B^m:=(by rw[C5 (B^m*(B*B)) x,C5 (B^m),<-Dp,<-Dp]);rw[e];omega
def Xz{B:Nat}:∀{l:List Nat},0<B->dv B l=0->∀(i x:Nat),l[i]?=ξ x->x=0:=by
 intro l;induction l with
 |nil=>intro _ _ i x h;simp at h
 |cons d l ih=>
  intro e h i x b;simp only[dv]at h;have f:d=0:=Z;have c:B*dv B l=0:=Z;obtain a|a:=Nat.mul_eq_zero.1 c;omega;cases i with
  |zero=>simp at b;omega
  |succ i=>exact ih e a i x (by simpa using b)
def Pq{B:Nat}{l:List Nat}{n:Nat}(b:0<B)(h:dv B l<B^n):dv B (l.drop n)=0/\dv B (l.take n)=dv B l:=by
 have e:dv B l=dv B (l.take n)+B^O (l.take n)*dv B (l.drop n):=by rw[<-vm,Eb]
 by_cases hl:n<=O l;rw[DK,Ee hl]at e;have:dv B (l.drop n)=0:=(by apply Df;intro a;have:B^n*1<=B^n*dv B (l.drop n):=Do _ Z;omega);rw[this,EJ]at e;exact⟨this,Z⟩;rw[List.drop_of_length_le Z,C7 Z];exact⟨ω,ω⟩
end Go.Proofs.YteoagenjaemllaaGreatDoor
namespace Go.Proofs.YteoagenjaemllaaGreatDoor
open Go Go.GL
variable {n1 n K m vc bu j top v1 v2 id n' uc bv hh rc r s:Nat}{w Z4 V W T:List Nat}{qv sv vb vd ve v:ψ}{e ty:TypeId}{ops:Array Oper}{va ua:Option Addr}{E:Env}{o:Oper}{x:Operand}
variable {h h':HF}
def subC:List Nat->Code->Option Code
 |[],c=>ξ c
 |0::p,.seq a _=>subC p a
 |1::p,.seq _ b=>subC p b
 |0::p,.cond _ a _=>subC p a
 |1::p,.cond _ _ b=>subC p b
 |0::p,.block _ b=>subC p b
 |0::p,.loop b=>subC p b
 |0::p,.scope b=>subC p b
 |_,_=>θ
def LA(f:Func)(p:List Nat):Option Code:=match f.body with|some b=>subC p b|none=>θ
section
variable {h:HF}{t:TF}
set_option maxRecDepth 100000
theorem XA(B:Sl h n1 1 (Y va (O V) vc) (u32s V))(P:Sl h n1 1 (Y ua (O Z4) uc) (u32s Z4))(W:O V=m+2)(hl:O Z4<10000000000/\j+m+2<O Z4){v1 v2 top w2 g:Nat}(y:V[m+1]?=ξ v1)(G:V[m]?=ξ v2)(H:Z4[j+m]?=ξ w2)
  (I:2147483648<=v1/\v1<4294967296)(b2:v2<4294967296)(J:w2<4294967296)(R:top<=v1*4294967296+v2)(D:g<=top/v1)(Z3:g<4294967296)(F:∀d e:Nat,d*v1+e=top->e*4294967296+w2<d*v2->g<d)
  {c:Code}(C:LA FC [1,1,1,1,1,1,1,1,1,1,0,1,0,0,1,0,0,1,1,1,0]=ξ c){Q:Ex->SV->Prop}
  (Z1:tJ t [(8,sv),(9,Y va (O V) vc),(10,Y ua (O Z4) uc),(11,U .i64 (O V:Int)),(13,qv),(14,U .i64 (j:Int)),(16,U .u64 ((top/v1:Nat):Int)),(17,U .u64 ((top%v1:Nat):Int))])
  (A:∀(d e:Nat) (t':TF),tJ t' [(8,sv),(9,Y va (O V) vc),(10,Y ua (O Z4) uc),(11,U .i64 (O V:Int)),(13,qv),(14,U .i64 (j:Int)),(16,U .u64 (d:Int))]->d*v1+e=top->d<4294967296->d*v2<=e*4294967296+w2->g<=d->Q .normal ⟨t',h,n1,w⟩):EC (Lg K n (FC).ntmps) c ⟨t,h,n1,w⟩ Q:=by
 obtain rfl:=El (C.symm.trans (rfl:LA FC [1,1,1,1,1,1,1,1,1,1,0,1,0,0,1,0,0,1,1,1,0]=ξ _));clear C;have i:top%v1<v1:=DS _ Z;refine zN ?_;refine ye (α:=Nat×Nat) (λz=>[(8,sv),(9,Y va (O V) vc),(10,Y ua (O Z4) uc),(11,U .i64 (O V:Int)),(13,qv),(14,U .i64 (j:Int)),(16,U .u64 (z.1:Int)),(17,U .u64 (z.2:Int))])
  (λz L S T=>h=L/\n1=S/\w=T/\z.1*v1+z.2=top/\g<=z.1/\z.2<4294967296) (λz=>z.1) (top/v1,top%v1) Z1 ⟨rfl,rfl,rfl,Ar,D,by show _%_<_;omega⟩ sN ?_
 rintro⟨d,e⟩ t2 _ _ _ ⟨rfl,rfl,rfl,l,u,v⟩;simp only at l u v;have Z0:d<18446744073709551616:=by
  have M:d*2147483648<=d*v1:=Do _ I.1;omega
 have f:g<d->(d-1)*v1+(e+v1)=top:=λi=>by
  obtain⟨x,rfl⟩:∃x,d=x+1:=⟨d-1,Z⟩;rw[Dq,Et]at l;simp only[Fh];omega
 have q:g<d->4294967296<=e+v1->d-1<4294967296/\(d-1)*v2<=(e+v1)*4294967296+w2:=λi o=>by
  have M:=f i;have N:d-1<4294967296:=by
   apply Df;intro hn;have:4294967296*v1<=(d-1)*v1:=C9 _ Z;omega
  refine⟨N,?_⟩;have h3:(d-1)*v2<=4294967296*4294967296:=DG Z Z;have h4:4294967296*4294967296<=(e+v1)*4294967296:=C9 _ o;omega
 refine zN ?_;rw[wb rfl];by_cases hB:4294967296<=d
 .repeat refine zU ?_
  refine zN ?_;rw[ze rfl];refine zN ?_;repeat refine zU ?_
  refine kG ?_;refine yE (j:=m+1) R7 B ⟨rfl,Z⟩ y (λ_=>rfl) R4 λ_=>?_;repeat refine zU ?_
  refine zN ?_;by_cases o:4294967296<=e+v1
  .refine Zh ?_;have p:=q Z o;exact A (d-1) (e+v1) _ ⟨rfl,rfl,rfl,rfl,rfl,rfl,rfl,CR⟩ (f Z) p.1 p.2 Z
  refine Zb ?_;exact goOn (d-1,e+v1) (by show d-1<d;omega) ⟨rfl,rfl,rfl,rfl,rfl,rfl,rfl,rfl,CR⟩ ⟨rfl,rfl,rfl,f Z,by show g<=d-1;omega,by show e+v1<_;omega⟩
 have a0:d*v2<=4294967295*4294967295:=DG Z Z;repeat refine zU ?_
 refine yE (j:=m) R7 B ⟨rfl,Z⟩ G (λ_=>rfl) R4 λ_=>?_;refine se R7 Z ?_;refine xt (a:=d) (b:=v2) R6 Z ?_;refine zM ?_;refine xK (a:=e) (s:=32) R6 Z ?_;repeat refine zR ?_
 refine yE (j:=j+m) R7 P ⟨rfl,Z⟩ H (λ_=>rfl) R4 λ_=>?_;refine se R7 Z ?_;refine wG (a:=e*2^32%18446744073709551616) (b:=w2) R6 Z ?_;rw[Ph e w2 v J];by_cases htest:e*4294967296+w2<d*v2
 .have i:=F d e l htest;refine MI R6 (by exact_mod_cast htest) ?_;refine Zh ?_;repeat refine zU ?_
  refine kG ?_;refine yE (j:=m+1) R7 B ⟨rfl,Z⟩ y (λ_=>rfl) R4 λ_=>?_;repeat refine zU ?_
  refine zN ?_;by_cases o:4294967296<=e+v1
  .refine Zh ?_;have p:=q i o;exact A (d-1) (e+v1) _ ⟨rfl,rfl,rfl,rfl,rfl,rfl,rfl,CR⟩ (f i) p.1 p.2 Z
  refine Zb ?_;exact goOn (d-1,e+v1) (by show d-1<d;omega) ⟨rfl,rfl,rfl,rfl,rfl,rfl,rfl,rfl,CR⟩ ⟨rfl,rfl,rfl,f i,by show g<=d-1;omega,by show e+v1<_;omega⟩
 refine M5 R6 Z ?_;refine Zb ?_;exact A d e _ ⟨rfl,rfl,rfl,rfl,rfl,rfl,rfl,CR⟩ l Z Z u
end
theorem Rw{w q:Nat}(a:q*v1+r=top)(hv:0<v1*4294967296+v2)(c:(top*4294967296+w)/(v1*4294967296+v2)<=q)(b:q*v2<=r*4294967296+w):q=(top*4294967296+w)/(v1*4294967296+v2):=by grind [hv,Nat.le_antisymm,FF,DW,Dp,Dq]
section
variable {h:HF}{t:TF}{va vc:ψ}
set_option maxRecDepth 100000
theorem XB{w2:Nat}(I:2147483648<=v1/\v1<4294967296)(T:v2<4294967296)(C:w2<4294967296)(A:top<v1*4294967296+v2)
  {c:Code}(F:LA IK [1,1,1,1,1,1,1,1,1,1,1,1,1,1,0]=ξ c){Q:Ex->SV->Prop}
  (M:tJ t [(2,va),(8,vb),(11,vc),(14,vd),(9,U .u64 (v1:Int)),(10,U .u64 (v2:Int)),(13,U .u64 (w2:Int)),(15,U .u64 ((top/v1:Nat):Int)),(16,U .u64 ((top%v1:Nat):Int))])
  (y:∀(t':TF) (g:Nat),g=(top*4294967296+w2)/(v1*4294967296+v2)->tJ t' [(2,va),(8,vb),(11,vc),(14,vd),(9,U .u64 (v1:Int)),(10,U .u64 (v2:Int)),(13,U .u64 (w2:Int)),(15,U .u64 (g:Int))]->Q .normal ⟨t',h,n1,w⟩):EC (Lg K n (IK).ntmps) c ⟨t,h,n1,w⟩ Q:=by
 obtain rfl:=El (F.symm.trans (rfl:LA IK [1,1,1,1,1,1,1,1,1,1,1,1,1,1,0]=ξ _));clear F;have d:top%v1<v1:=DS _ Z;have o:=kB (B:=4294967296) (P:=1) (v1:=v1) (v2:=v2) (vr:=0) (w2:=w2) (wr:=0) (top:=top) Z C Z;have s:∀a b:Nat,a*v1+b=top->b*4294967296+w2<a*v2->(top*4294967296+w2)/(v1*4294967296+v2)<a:=λa b v p=>by
  have:=Oi (B:=4294967296) (P:=1) (v1:=v1) (v2:=v2) (vr:=0) (w2:=w2) (wr:=0) (top:=top) C Z v p;simpa using this
 simp only[D1,DV]at o;have G:(top*4294967296+w2)/(v1*4294967296+v2)<4294967296:=by
  exact CE
 generalize hgg:(top*4294967296+w2)/(v1*4294967296+v2)=g at o G s;have m:∀q r:Nat,q*v1+r=top->g<=q->q*v2<=r*4294967296+w2->q=g:=λq r v p J=>by
  rw[<-hgg]at p⊢;exact Rw v Z p J
 refine zN ?_;refine ye (α:=Nat×Nat) (λz=>[(2,va),(8,vb),(11,vc),(14,vd),(9,U .u64 (v1:Int)),(10,U .u64 (v2:Int)),(13,U .u64 (w2:Int)),(15,U .u64 (z.1:Int)),(16,U .u64 (z.2:Int))])
  (λz L N Z1=>h=L/\n1=N/\w=Z1/\z.1*v1+z.2=top/\g<=z.1/\z.2<4294967296) (λz=>z.1) (top/v1,top%v1) M ⟨rfl,rfl,rfl,Ar,o,by show _%_<_;omega⟩ sN ?_
 rintro⟨a,b⟩ Z0 _ _ _ ⟨rfl,rfl,rfl,f,u,H⟩;simp only at f u H;have R:a<18446744073709551616:=by
  have D:a*2147483648<=a*v1:=Do _ I.1;omega
 have e:g<a->(a-1)*v1+(b+v1)=top:=λd=>by
  exact CK
 have l:g<a->4294967296<=b+v1->a-1=g:=λd i=>by
  have D:=e d;have Z4:a-1<4294967296:=by
   apply Df;exact CL
  exact Cx
 refine zN ?_;by_cases hB:4294967296<=a
 .repeat refine zW ?_
  refine zN ?_;rw[ze rfl];refine zN ?_;repeat refine zW ?_
  refine zN ?_;repeat refine zW ?_
  refine zN ?_;by_cases i:4294967296<=b+v1
  .repeat refine zW ?_
   refine zN ?_;rw[ze rfl];refine zN ?_;have j:=l Z i;exact BJ
  repeat refine zW ?_
  exact CJ
 have S:a*v2<=4294967295*4294967295:=DG Z Z;by_cases htest:4294967296*b+w2<a*v2
 .have d:=s a b f Z;repeat refine zW ?_
  refine zN ?_;first
   |rw[ze rfl]
   |rw[ze AD]
  refine zN ?_;repeat refine zW ?_
  refine zN ?_;repeat refine zW ?_
  refine zN ?_;by_cases i:4294967296<=b+v1
  .repeat refine zW ?_
   refine zN ?_;rw[ze rfl];refine zN ?_;have j:=l d i;exact BJ
  repeat refine zW ?_
  exact CI
 repeat refine zW ?_
 refine zN ?_;first
  |rw[za rfl]
  |rw[za Av]
 refine zN ?_;have j:=m a b f u Z;exact BJ
theorem XC{w2:Nat}(I:2147483648<=v1/\v1<4294967296)(T:v2<4294967296)(C:w2<4294967296)(A:top<v1*4294967296+v2)
  {c:Code}(F:LA IK [1,1,1,1,1,1,1,1,1,1,1,1,1,1,1,1,1,1,0]=ξ c){Q:Ex->SV->Prop}
  (M:tJ t [(2,va),(8,vb),(15,vc),(17,vd),(9,U .u64 (v1:Int)),(10,U .u64 (v2:Int)),(14,U .u64 (w2:Int)),(18,U .u64 ((top/v1:Nat):Int)),(16,U .u64 ((top%v1:Nat):Int))])
  (y:∀(t':TF) (g:Nat),g=(top*4294967296+w2)/(v1*4294967296+v2)->tJ t' [(2,va),(8,vb),(15,vc),(17,vd),(9,U .u64 (v1:Int)),(10,U .u64 (v2:Int)),(14,U .u64 (w2:Int)),(18,U .u64 (g:Int))]->Q .normal ⟨t',h,n1,w⟩):EC (Lg K n (IK).ntmps) c ⟨t,h,n1,w⟩ Q:=by
 obtain rfl:=El (F.symm.trans (rfl:LA IK [1,1,1,1,1,1,1,1,1,1,1,1,1,1,1,1,1,1,0]=ξ _));clear F;have d:top%v1<v1:=DS _ Z;have o:=kB (B:=4294967296) (P:=1) (v1:=v1) (v2:=v2) (vr:=0) (w2:=w2) (wr:=0) (top:=top) Z C Z;have s:∀a b:Nat,a*v1+b=top->b*4294967296+w2<a*v2->(top*4294967296+w2)/(v1*4294967296+v2)<a:=λa b v p=>by
  have:=Oi (B:=4294967296) (P:=1) (v1:=v1) (v2:=v2) (vr:=0) (w2:=w2) (wr:=0) (top:=top) C Z v p;simpa using this
 simp only[D1,DV]at o;have G:(top*4294967296+w2)/(v1*4294967296+v2)<4294967296:=by
  exact CE
 generalize hgg:(top*4294967296+w2)/(v1*4294967296+v2)=g at o G s;have m:∀q r:Nat,q*v1+r=top->g<=q->q*v2<=r*4294967296+w2->q=g:=λq r v p J=>by
  rw[<-hgg]at p⊢;exact Rw v Z p J
 refine zN ?_;refine ye (α:=Nat×Nat) (λz=>[(2,va),(8,vb),(15,vc),(17,vd),(9,U .u64 (v1:Int)),(10,U .u64 (v2:Int)),(14,U .u64 (w2:Int)),(18,U .u64 (z.1:Int)),(16,U .u64 (z.2:Int))])
  (λz L N Z1=>h=L/\n1=N/\w=Z1/\z.1*v1+z.2=top/\g<=z.1/\z.2<4294967296) (λz=>z.1) (top/v1,top%v1) M ⟨rfl,rfl,rfl,Ar,o,by show _%_<_;omega⟩ sN ?_
 rintro⟨a,b⟩ Z0 _ _ _ ⟨rfl,rfl,rfl,f,u,H⟩;simp only at f u H;have R:a<18446744073709551616:=by
  have D:a*2147483648<=a*v1:=Do _ I.1;omega
 have e:g<a->(a-1)*v1+(b+v1)=top:=λd=>by
  exact CK
 have l:g<a->4294967296<=b+v1->a-1=g:=λd i=>by
  have D:=e d;have Z4:a-1<4294967296:=by
   apply Df;exact CL
  exact Cx
 refine zN ?_;by_cases hB:4294967296<=a
 .repeat refine zW ?_
  refine zN ?_;rw[ze rfl];refine zN ?_;repeat refine zW ?_
  refine zN ?_;repeat refine zW ?_
  refine zN ?_;by_cases i:4294967296<=b+v1
  .repeat refine zW ?_
   refine zN ?_;rw[ze rfl];refine zN ?_;have j:=l Z i;exact BJ
  repeat refine zW ?_
  exact CJ
 have S:a*v2<=4294967295*4294967295:=DG Z Z;by_cases htest:4294967296*b+w2<a*v2
 .have d:=s a b f Z;repeat refine zW ?_
  refine zN ?_;first
   |rw[ze rfl]
   |rw[ze AD]
  refine zN ?_;repeat refine zW ?_
  refine zN ?_;repeat refine zW ?_
  refine zN ?_;by_cases i:4294967296<=b+v1
  .repeat refine zW ?_
   refine zN ?_;rw[ze rfl];refine zN ?_;have j:=l d i;exact BJ
  repeat refine zW ?_
  exact CI
 repeat refine zW ?_
 refine zN ?_;first
  |rw[za rfl]
  |rw[za Av]
 refine zN ?_;have j:=m a b f u Z;exact BJ
end
theorem XD{U0 a b H hv u f c d g c' br' P B:Nat}(i:b+u*P=a+f*P)(l:a+H=U0+(c+d)*P)(o:f+(g+d)=u+br'*B)(p:B*c'+g=hv+c):b+(H+hv*P)=U0+(c'+br')*(P*B):=by grind
def Mg(b:Nat)(h h':HF):Prop:=∀x,x≠b->h' x=h x
def Sl.but{h h':HF}{n n' sz b bv o len cap:Nat}{c:List ψ}(s:Sl h n sz (Y (ξ ⟨bv,o,θ⟩) len cap) c)(hb:Mg b h h')(d:bv≠b)(f:n<=n'):Sl h' n' sz (Y (ξ ⟨bv,o,θ⟩) len cap) c:=
 s.keep (λa l g e=>by injection e with e1;injection e1 with e1;subst e1;exact hb _ d) f
section
variable {h:HF}{t:TF}
set_option maxRecDepth 100000
theorem XE(hV:Sl h n1 1 (Y (ξ ⟨bv,0,θ⟩) (O V) vc) (u32s V))(Z1:bv≠bu)(A:3*n<=bu/\bu<3*n1)(G:h bu=ξ (.row (u32s Z4) e))(T:KA V)(S:KA Z4)(hl:O Z4<10000000000/\j+O V<O Z4)(a0:hh<4294967296)
  {c:Code}(N:LA FC [1,1,1,1,1,1,1,1,1,1,0,1,0,0,1,0,0,1,1,1,1,1,0,1]=ξ c){Q:Ex->SV->Prop}
  (Z3:tJ t [(8,sv),(9,Y (ξ ⟨bv,0,θ⟩) (O V) vc),(10,Y (ξ ⟨bu,0,θ⟩) (O Z4) (O Z4)),(11,U .i64 (O V:Int)),(13,qv),(14,U .i64 (j:Int)),(16,U .u64 (hh:Int)),(18,U .u64 (((0:Nat):Nat):Int)),(19,U .u64 (((0:Nat):Nat):Int)),(20,U .i64 (((0:Nat):Nat):Int))])
  (Z0:∀(c g:Nat) (U2:List Nat) (t':TF) (h':HF),tJ t' [(8,sv),(9,Y (ξ ⟨bv,0,θ⟩) (O V) vc),(10,Y (ξ ⟨bu,0,θ⟩) (O Z4) (O Z4)),(11,U .i64 (O V:Int)),(13,qv),(14,U .i64 (j:Int)),(16,U .u64 (hh:Int)),(18,U .u64 (c:Int)),(19,U .u64 (g:Int))]->Mg bu h h'->h' bu=ξ (.row (u32s U2) e)->KA U2->O U2=O Z4->c<4294967296->g<=1->U2.drop (O V+j)=Z4.drop (O V+j)->dv 4294967296 U2+hh*dv 4294967296 V*4294967296^j=dv 4294967296 Z4+(c+g)*4294967296^(O V+j)->Q .normal ⟨t',h',n1,w⟩):EC (Lg K n (FC).ntmps) c ⟨t,h,n1,w⟩ Q:=by
 obtain rfl:=El (N.symm.trans (rfl:LA FC [1,1,1,1,1,1,1,1,1,1,0,1,0,0,1,0,0,1,1,1,1,1,0,1]=ξ _));clear N;refine zN ?_;refine ye (α:=Nat×Nat×Nat×List Nat) (λz=>[(8,sv),(9,Y (ξ ⟨bv,0,θ⟩) (O V) vc),(10,Y (ξ ⟨bu,0,θ⟩) (O Z4) (O Z4)),(11,U .i64 (O V:Int)),(13,qv),(14,U .i64 (j:Int)),(16,U .u64 (hh:Int)),(18,U .u64 (z.2.1:Int)),(19,U .u64 (z.2.2.1:Int)),(20,U .i64 (z.1:Int))])
  (λz h' n' w'=>n1=n'/\w=w'/\Mg bu h h'/\h' bu=ξ (.row (u32s z.2.2.2) e)/\z.1<=O V/\KA z.2.2.2/\O z.2.2.2=O Z4/\z.2.1<4294967296/\z.2.2.1<=1/\z.2.2.2.drop (z.1+j)=Z4.drop (z.1+j)/\dv 4294967296 z.2.2.2+hh*dv 4294967296 (V.take z.1)*4294967296^j=dv 4294967296 Z4+(z.2.1+z.2.2.1)*4294967296^(z.1+j)) (λz=>O V-z.1)
  (0,0,0,Z4) Z3 ⟨rfl,rfl,λx _=>rfl,G,CT,S,rfl,by show 0<4294967296;decide,by show 0<=1;decide,rfl,Az⟩ (by show O V-0<LL;unfold LL;omega) ?_
 rintro⟨i,c,g,U2⟩ t2 I _ _ ⟨rfl,rfl,l,d,hi,o,p,F,D,y,f⟩;simp only at d hi o p F D y f;refine zN ?_;by_cases hiV:i=O V
 .subst hiV;refine Zb ?_;rw[Ds]at f;exact Z0 c g U2 _ I ⟨rfl,rfl,rfl,rfl,rfl,rfl,rfl,rfl,rfl,CR⟩ l d o p F D y f
 obtain⟨v,C⟩:∃x,V[i]?=ξ x:=⟨V[i]'Z,CW Z⟩;have a2:v<4294967296:=T v (C0 C);obtain⟨u,H⟩:∃x,U2[i+j]?=ξ x:=⟨U2[i+j]'Z,CW Z⟩;have a1:u<4294967296:=o u (C0 H);have hp:hh*v<=4294967295*4294967295:=DG Z Z;have J:Sl I n1 1 (Y (ξ ⟨bu,0,θ⟩) (O Z4) (O Z4)) (u32s U2):=Sl.own d A.2 p CS;have L:=hV.but l Z1 CS;refine Zk ?_;refine yE R7 L R2 C (λ_=>rfl) R4 λ_=>?_;refine se R7 Z ?_;refine xt (a:=hh) (b:=v) R6 Z ?_;generalize hpp:hh*v=pv at hp;repeat refine zU ?_
 refine Za ?_;refine yn (a:=pv+c) (s:=32) R6 Z ?_;refine Zc ?_;refine yE (j:=i+j) R7 J ⟨rfl,Z⟩ H (λ_=>rfl) R4 λ_=>?_;refine se R7 Z ?_;refine zM ?_;refine mF (a:=pv+c) (b:=4294967295) R6 Z ?_;rw[show(pv+c)&&& 4294967295=(pv+c)%4294967296 from Ik _ 32];obtain⟨q,P⟩:∃q,q=(pv+c)%4294967296:=⟨_,rfl⟩;rw[<-P];refine sd (a:=u) (b:=q) R6 Z ?_;refine zM ?_;refine sd (a:=(u+18446744073709551616-q)%18446744073709551616) (b:=g) R6 Z ?_;obtain⟨X,hX⟩:∃X,X=((u+18446744073709551616-q)%18446744073709551616+18446744073709551616-g)%18446744073709551616:=⟨_,rfl⟩;rw[<-hX];have M:X%4294967296+(q+g)=u+X/2^32%2*4294967296:=Z;refine Zc ?_;refine ft R7 ?_;refine uH (j:=i+j) (v:=U .u32 ((X%4294967296:Nat):Int)) R8 Z tu d A.1 (λ_=>rfl) R3 (λ_=>rfl) rfl λ_=>?_;rw[tY];refine Za ?_;refine yn (a:=X) (s:=32) R6 Z ?_;refine mF (a:=X/2^32) (b:=1) R6 Z ?_;rw[Ki];refine Zg ?_;refine goOn (i+1,(pv+c)/2^32,X/2^32%2,U2.set (i+j) (X%4294967296)) (by show O V-(i+1)<O V-i;omega) ⟨rfl,rfl,rfl,rfl,rfl,rfl,rfl,rfl,rfl,gL,CR⟩ ⟨rfl,rfl,λx R=>(zm R).trans (l x R),zg _ _ _,by show i+1<=O V;omega,M8 o (DS _ Z),by show(U2.set _ _).length=_;rw[DX];exact p,by show _/_<_;omega,by show _%_<=1;omega,?_,?_⟩
 .show(U2.set (i+j) _).drop (i+1+j)=Z4.drop (i+1+j);rw[FU Z,show i+1+j=i+j+1 from Z];have:=congrArg (JX 1) y;rw[EH,EH]at this;exact this
 show dv 4294967296 (U2.set (i+j) _)+hh*dv 4294967296 (V.take (i+1))*4294967296^j=dv 4294967296 Z4+((pv+c)/2^32+X/2^32%2)*4294967296^(i+1+j);have W:=Mx (B:=4294967296) (X%4294967296) H;have:=XD (c':=(pv+c)/2^32) (br':=X/2^32%2) (B:=4294967296) (hv:=pv) W f M Z;rw[show i+1+j=i+j+1 from Z,Dj (n:=4294967296),<-this,wJ C,DW,Dq,<-hpp,Ef];congr 2;rw[C5 (4294967296^i) v,<-Dp,Dp]
theorem XF(R:Sl h n1 1 (Y (ξ ⟨bv,0,θ⟩) (O V) vc) (u32s V))(H:bv≠bu)(o:3*n<=bu/\bu<3*n1)(s:h bu=ξ (.row (u32s Z4) e))(L:KA V)(J:KA Z4)(hl:O Z4<10000000000/\j+O V<O Z4)
  {c:Code}(G:LA FC [1,1,1,1,1,1,1,1,1,1,0,1,0,0,1,0,0,1,1,1,1,1,1,1,1,0,1,0,1,1,0,1]=ξ c){Q:Ex->SV->Prop}
  (Z1:tJ t [(8,sv),(9,Y (ξ ⟨bv,0,θ⟩) (O V) vc),(10,Y (ξ ⟨bu,0,θ⟩) (O Z4) (O Z4)),(11,U .i64 (O V:Int)),(13,qv),(14,U .i64 (j:Int)),(16,U .u64 (hh:Int)),(18,U .u64 (((0:Nat):Nat):Int)),(24,U .i64 (((0:Nat):Nat):Int))])
  (P:∀(c:Nat) (U2:List Nat) (t':TF) (h':HF),tJ t' [(8,sv),(9,Y (ξ ⟨bv,0,θ⟩) (O V) vc),(10,Y (ξ ⟨bu,0,θ⟩) (O Z4) (O Z4)),(11,U .i64 (O V:Int)),(13,qv),(14,U .i64 (j:Int)),(16,U .u64 (hh:Int)),(18,U .u64 (c:Int))]->Mg bu h h'->h' bu=ξ (.row (u32s U2) e)->KA U2->O U2=O Z4->c<=1->U2.drop (O V+j)=Z4.drop (O V+j)->dv 4294967296 U2+c*4294967296^(O V+j)=dv 4294967296 Z4+dv 4294967296 V*4294967296^j->Q .normal ⟨t',h',n1,w⟩):EC (Lg K n (FC).ntmps) c ⟨t,h,n1,w⟩ Q:=by
 obtain rfl:=El (G.symm.trans (rfl:LA FC [1,1,1,1,1,1,1,1,1,1,0,1,0,0,1,0,0,1,1,1,1,1,1,1,1,0,1,0,1,1,0,1]=ξ _));clear G;refine zN ?_;refine ye (α:=Nat×Nat×List Nat) (λz=>[(8,sv),(9,Y (ξ ⟨bv,0,θ⟩) (O V) vc),(10,Y (ξ ⟨bu,0,θ⟩) (O Z4) (O Z4)),(11,U .i64 (O V:Int)),(13,qv),(14,U .i64 (j:Int)),(16,U .u64 (hh:Int)),(18,U .u64 (z.2.1:Int)),(24,U .i64 (z.1:Int))])
  (λz h' T W=>n1=T/\w=W/\Mg bu h h'/\h' bu=ξ (.row (u32s z.2.2) e)/\z.1<=O V/\KA z.2.2/\O z.2.2=O Z4/\z.2.1<=1/\z.2.2.drop (z.1+j)=Z4.drop (z.1+j)/\dv 4294967296 z.2.2+z.2.1*4294967296^(z.1+j)=dv 4294967296 Z4+dv 4294967296 (V.take z.1)*4294967296^j) (λz=>O V-z.1)
  (0,0,Z4) Z1 ⟨rfl,rfl,λx _=>rfl,s,CT,J,rfl,by show 0<=1;decide,rfl,Az⟩ (by show O V-0<LL;unfold LL;omega) ?_
 rintro⟨i,c,U2⟩ t2 C _ _ ⟨rfl,rfl,d,a,S,f,g,q,l,b⟩;simp only at a S f g q l b;refine zN ?_;by_cases hiV:i=O V
 .subst hiV;refine Zb ?_;rw[Ds]at b;exact P c U2 _ C ⟨rfl,rfl,rfl,rfl,rfl,rfl,rfl,rfl,CR⟩ d a f g q l b
 obtain⟨v,A⟩:∃x,V[i]?=ξ x:=⟨V[i]'Z,CW Z⟩;have Z0:v<4294967296:=L v (C0 A);obtain⟨u,y⟩:∃x,U2[i+j]?=ξ x:=⟨U2[i+j]'Z,CW Z⟩;have Z3:u<4294967296:=f u (C0 y);have D:Sl C n1 1 (Y (ξ ⟨bu,0,θ⟩) (O Z4) (O Z4)) (u32s U2):=Sl.own a o.2 g CS;have F:=R.but d H CS;refine Zh ?_;rw[wb rfl];repeat refine zR ?_
 refine yE (j:=i+j) R7 D ⟨rfl,Z⟩ y (λ_=>rfl) R4 λ_=>?_;refine se R7 Z ?_;repeat refine zR ?_
 refine yE R7 F R2 A (λ_=>rfl) R4 λ_=>?_;repeat refine zU ?_
 refine kG ?_;refine ft R7 ?_;refine uH (j:=i+j) (v:=U .u32 (((c+(u+v))%4294967296:Nat):Int)) R8 Z tu a o.1 (λ_=>rfl) R3 (λ_=>rfl) rfl λ_=>?_;rw[tY];refine zN ?_;repeat refine zU ?_
 refine mM ?_;refine goOn (i+1,(c+(u+v))/4294967296,U2.set (i+j) ((c+(u+v))%4294967296)) (by show O V-(i+1)<O V-i;omega) ⟨rfl,rfl,rfl,rfl,rfl,rfl,rfl,rfl,gL,CR⟩ ⟨rfl,rfl,λx I=>(zm I).trans (d x I),zg _ _ _,by show i+1<=O V;omega,M8 f (DS _ Z),by show(U2.set _ _).length=_;rw[DX];exact g,by show _/_<=1;omega,?_,?_⟩
 .show(U2.set (i+j) _).drop (i+1+j)=Z4.drop (i+1+j);rw[FU Z,show i+1+j=i+j+1 from Z];have:=congrArg (JX 1) l;rw[EH,EH]at this;exact this
 show dv 4294967296 (U2.set (i+j) _)+(c+(u+v))/4294967296*4294967296^(i+1+j)=dv 4294967296 Z4+dv 4294967296 (V.take (i+1))*4294967296^j;have M:=Rp (B:=4294967296) (c:=c) (p:=v) (c':=(c+(u+v))/4294967296) (Mx (B:=4294967296) ((c+(u+v))%4294967296) y) Z;rw[show i+1+j=i+j+1 from Z,Dj (n:=4294967296),M,b,wJ A,Dq,Ef];have N:4294967296^i*v*4294967296^j=v*(4294967296^i*4294967296^j):=by rw[C5 (4294967296^i) v,Dp]
 rw[N];omega
end
theorem Rx{a x:ψ}(b:uG E ty a x h n=ξ (.val v h' n' W)):n'=n:=by unfold uG at*;grind
theorem jz{a x:ψ}{r:RF}(b:uG E ty a x h n=ξ r):∃v h' n' W,r=.val v h' n' W:=by unfold uG at*;grind
def ie:∀{l:List (Nat×Nat)},xJ m l=φ->ya m W l=φ:=by
 intro l;induction l with
 |nil=>intro _;rfl
 |cons x l ih=>
  intro h;have⟨i,b⟩:=x;unfold xJ at h;split at h;rename_i hb;unfold ya;rw[hb,Bool.true_or];exact ih h;cases h
def qJ(m:Nat):Nat->Bool
 |0=>φ
 |i+1=>m.testBit i&&qJ m i
def dH:∀{i j:Nat},qJ m i=φ->j<i->m.testBit j=φ:=by
 intro i;induction i with
 |zero=>intro j _ a;omega
 |succ i ih=>
  intro j h a;simp only[qJ,DY]at h;by_cases e:j=i;rw[e];exact h.1;exact ih h.2 Z
def XG:∀{l:List (Nat×Nat)},(∀x∈l,m.testBit x.1=φ)->xJ m l=φ:=by
 intro l;induction l with
 |nil=>intro _;rfl
 |cons x l ih=>
  intro h;have⟨i,b⟩:=x;unfold xJ;rw[h (i,b) cA];exact ih λy a=>h y AM
def XH{X:CtxF}{ops:List Oper}{a:Operand}{A:Nat}(I:o.op=.store ty a x):∀(l:List Oper) (ms:List Nat) (i:Nat) (s:SV) (e:List (Nat×Nat)),O l=O ms->l.all (λo=>MJ X.E o.op)=φ->qJ A (i+O l)=φ->(∀y∈e,y.1<i)->z0 X ops (l++[o]) (ms++[A]) i ⟨s,[],e,[]⟩=seqF X ops (l++[o]) s:=by
 intro l;induction l with
 |nil=>
  intro ms i s e C _ G B;have:ms=[]:=De.1 (by simpa using C.symm);subst this;show z0 X ops [o] [A] i ⟨s,[],e,[]⟩=seqF X ops [o] s;unfold z0 seqF;simp only;cases hw:zh ops s.t o with
  |false=>simp only[z0,seqF]
  |true=>
   simp only;have u:Ku o.op=3:=by rw[I];rfl
   unfold rL Lt;simp only[u,xq,xJ,Eg];unfold mf;have K:effF X.E o.op (Kn s.t) s.h s.n=uG X.E ty (Kn s.t a) (Kn s.t x) s.h s.n:=by rw[I];rfl
   rw[K];cases he:uG X.E ty (Kn s.t a) (Kn s.t x) s.h s.n with
   |none=>rfl
   |some r=>
    obtain⟨v,h',n',W,rfl⟩:=jz he;have L:=Rx he;subst L;simp only;have J:ya A W e=φ:=ie (XG λy g=>dH (by simpa using G) (B y g));unfold xH;split;simp only[J,C8 CS,Eg,z0,seqF];rfl
 |cons p l ih=>
  intro ms i s e C w G B;cases ms with
  |nil=>simp at C
  |cons m ms=>
   simp only[J8,DY]at w;have j:O l=O ms:=by simpa using C
   have q:qJ A (i+1+O l)=φ:=by rw[show i+1+O l=i+O (p::l) from by simp;omega];exact G
   have f:∀y∈e,y.1<i+1:=λy g=>by have:=B y g;omega
   show z0 X ops (p::(l++[o])) (m::(ms++[A])) i ⟨s,[],e,[]⟩=seqF X ops (p::(l++[o])) s;unfold z0 seqF;simp only;cases hw:zh ops s.t p with
   |false=>
    simp only;congr 1;funext s1;exact ih ms (i+1) s1 e j w.2 q f
   |true=>
    simp only;unfold rL Lt;obtain M|⟨t,d,x,k,D,F⟩:=Pk w.1;cases u:Ku p.op with
    |zero=>
     simp only[u];cases yy X.E p.op (Kn s.t)with
     |none=>rfl
     |some v=>
      simp only;congr 1;funext s1;exact ih ms (i+1) s1 e j w.2 q f
    |succ c=>
     cases c with
     |zero=>
      simp only[u,wn];cases po X.E p.op (Kn s.t) s.h with
      |none=>rfl
      |some vb=>
       have⟨v,b⟩:=vb;simp only[LM,qn,Eg];congr 1;funext s1;exact ih ms (i+1) s1 _ j w.2 q λy g=>by obtain rfl|g:=DA.1 g;show i<i+1;omega;exact f y g
     |succ c=>omega
    have u:Ku p.op=4:=by rw[D];rfl
    have H:KD X.E p.op (Kn s.t)=θ:=by rw[D];exact Pl F _
    simp only[u,H];cases hpu:yy X.E p.op (Kn s.t)with
    |none=>
     rw[D];simp only[vJ F]
    |some v=>
     rw[D];simp only[vJ F];congr 1;funext s1;exact ih ms (i+1) s1 e j w.2 q f
def Ry(ops:List Oper)(E:Env):Bool:=(match ops.reverse with|o::r=>(match o.op with| .store _ _ _=>r.all (λo=>MJ E o.op)&&qJ ((xA ops []).getLastD 0) (O r)|_=>χ)|[]=>χ)
def Rz{X:CtxF}{s:SV}{Q:Ex->SV->Prop}(b:Ry ops.toList X.E=φ):EC X (.region id ops φ) s Q↔EO X ops.toList ops.toList s (Q .normal):=by
 unfold EC EO;rw[xk];have l:z0 X ops.toList ops.toList (xA ops.toList []) 0 ⟨s,[],[],[]⟩=seqF X ops.toList ops.toList s:=by
  unfold Ry at b;split at b;rename_i o r hr;split at b;rename_i ty a x ho;simp only[DY]at b;have g:ops.toList=r.reverse++[o]:=(by have:=congrArg List.reverse hr;simpa using this);have c:O (xA ops.toList [])=O r+1:=by rw[oL,g];simp
  obtain⟨f,d,j⟩:∃f d,xA ops.toList []=f++[d]:=⟨(xA ops.toList []).dropLast,(xA ops.toList []).getLast (by intro e;rw[e]at c;simp at c),(Hb _).symm⟩;rw[j]at b c⊢;have i:(f++[d]).getLastD 0=d:=by simp
  rw[i]at b;have:=XH (X:=X) (ops:=ops.toList) ho r.reverse f 0 s [] (by simp at c⊢;omega) (by simpa using b.1) (by simpa using b.2) (λy p=>CO p C6);rw[<-g]at this;exact this;cases b;cases b
 rw[l];cases h:seqF X ops.toList ops.toList s with
 |none=>simp
 |some r=>simp only[vH];simp
def Sl.pre{h:HF}{m b len cap:Nat}{e:TypeId}{Z1 T:List Nat}(a:h b=ξ (.row (u32s (Z1++T)) e))(hb:b<3*m)(hl:O Z1=len)(c:len<=cap):Sl h m 1 (Y (ξ ⟨b,0,θ⟩) len cap) (u32s Z1):=
 .at_ hb a ω c (by rw[zY,C1];omega) (by rw[DO,Q7,Fc tu,C7 tu])
theorem Oj{s:Nat}(a:s<=32):2^s*2^(32-s)=4294967296:=by rw[<-Ef,show s+(32-s)=32 from Z]
theorem XI{x y s:Nat}(a:s<=32):(x/2^s+y*2^(32-s)%4294967296)*2^s+x%2^s=x+y%2^s*4294967296:=by grind [Oj,Hh,Dq,Dp,C5,Em]
def RA{x s:Nat}(hx:x<4294967296)(a:s<=32):x/2^s<2^(32-s):=by rw[EF (DQ Z),C5,Oj a];exact hx
def RB(D:List Nat)(x d:Nat)(R:List Nat):(D++x::R).set (O D) d=D++d::R:=by rw[Ej _ _ CS];simp
def RC{α:Type}{X:CtxF}{a:Code}{s:SV}{Q:Ex->SV->Prop}(b:α->List (Nat×ψ))(I:α->HF->Nat->List Nat->Prop)(j:EC X a s (cutx b I Q))(hb:∀z t h n w,I z h n w->Q .normal ⟨gk t (b z),h,n,w⟩):EC X a s Q:=by
 refine sW j λe c d=>?_;cases e with
 |normal=>
  have⟨z,f,g⟩:=d;have:=hb z c.t c.h c.n c.w g;rw[wU f]at this;exact this
 |exit i=>exact d
 |ret=>exact d
section
variable {h:HF}{t:TF}{R:List Nat}
set_option maxRecDepth 100000
def XJ(l:3*n<=bu/\bu<3*n1)(G:h bu=ξ (.row (u32s (R++T)) e))(F:KA R)(hl:O R<10000000000/\O R<=rc)(hs:s<32)
  {c:Code}(N:LA FC [1,1,1,1,1,1,1,1,1,1,1,1,0,1]=ξ c){Q:Ex->SV->Prop}
  (hL:tJ t [(8,U .u64 (s:Int)),(13,qv),(25,Y (ξ ⟨bu,0,θ⟩) (O R) rc),(26,U .i64 (((0:Nat):Nat):Int))])
  (hQ:∀(D:List Nat) (t':TF) (h':HF),tJ t' [(8,U .u64 (s:Int)),(13,qv),(25,Y (ξ ⟨bu,0,θ⟩) (O R) rc)]->Mg bu h h'->h' bu=ξ (.row (u32s (D++T)) e)->KA D->O D=O R->dv 4294967296 D*2^s+(R[0]?).getD 0%2^s=dv 4294967296 R->Q .normal ⟨t',h',n1,w⟩):EC (Lg K n (FC).ntmps) c ⟨t,h,n1,w⟩ Q:=by
 obtain rfl:=El (N.symm.trans (rfl:LA FC [1,1,1,1,1,1,1,1,1,1,1,1,0,1]=ξ _));have a0:0<2^s:=DQ Z;refine zN ?_;refine ye (α:=List Nat) (λD=>[(8,U .u64 (s:Int)),(13,qv),(25,Y (ξ ⟨bu,0,θ⟩) (O R) rc),(26,U .i64 (O D:Int))])
  (λD h' I J=>n1=I/\w=J/\Mg bu h h'/\h' bu=ξ (.row (u32s (D++(R.drop (O D)++T))) e)/\O D<=O R/\KA D/\dv 4294967296 D*2^s+(R[0]?).getD 0%2^s=dv 4294967296 (R.take (O D))+(R[O D]?).getD 0%2^s*4294967296^O D) (λD=>O R-O D)
  [] hL ⟨ω,ω,λx _=>rfl,G,CT,λd hd=>CO hd C6,Az⟩ (by show O R-0<LL;unfold LL;omega) ?_
 rintro D t2 q _ _⟨rfl,rfl,o,f,hD,L,m⟩;refine zN ?_;by_cases hi:O D=O R;refine Zb ?_;rw[hi,EI,DR]at f;rw[hi,Ds,Dn CS]at m;refine hQ D _ q P3 o f L hi ?_;rw[m];simp;obtain⟨x,A⟩:∃x,R[O D]?=ξ x:=⟨R[O D]'Z,CW Z⟩;have C:x<4294967296:=F x (C0 A);have a1:x/2^s<=x:=EL _ _;rw[uR A,Gn]at f;have M:Sl q n1 1 (Y (ξ ⟨bu,0,θ⟩) (O R) rc) (u32s (D++x::R.drop (O D+1))):=Sl.pre (T:=T) (by rw[DH,Gn];exact f) l.2 dO hl.2;refine Zk ?_;refine yE (j:=O D) (dv:=x) R7 M R2 cA (λ_=>rfl) R4 λ_=>?_;refine zM ?_;refine QK (a:=x) (s:=s) R6 Z ?_;refine uH (j:=O D) (v:=U .u32 ((x/2^s:Nat):Int)) R8 ω A7 f l.1 (λ_=>rfl) R3 (λ_=>rfl) ω λ_=>?_;rw[tY,RB];refine mM ?_;have P:(R[O D+1]?).getD 0<4294967296:=by
  cases hc':R[O D+1]? with
  |none=>decide
  |some x=>exact F x (C0 hc')
 refine RC (α:=HF) (λ_=>[(8,U .u64 (s:Int)),(13,qv),(25,Y (ξ ⟨bu,0,θ⟩) (O R) rc),(26,U .i64 (O D:Int))])
  (λg h' I J=>g=h'/\n1=I/\w=J/\Mg bu h g/\g bu=ξ (.row (u32s (D++(x/2^s+(R[O D+1]?).getD 0*2^(32-s)%4294967296)::(R.drop (O D+1)++T))) e)) ?_ ?_
 by_cases hj:O D+1<O R;obtain⟨y,H⟩:∃y,R[O D+1]?=ξ y:=⟨R[O D+1]'Z,CW Z⟩;have a2:y<4294967296:=F y (C0 H);have S:y*2^(32-s)<18446744073709551616:=(by have Z0:2^(32-s)<=2^32:=Dd Z Z;have:y*2^(32-s)<=4294967295*4294967296:=DG Z Z0;omega);rw[ze eU];rw[Rz rfl];have i:upd q bu (ξ (.row (u32s (D++x/2^s::(R.drop (O D+1)++T))) e)) bu=ξ (.row (u32s (D++x/2^s::(R.drop (O D+1)++T))) e):=zg _ _ _;have B:Sl (upd q bu (ξ (.row (u32s (D++x/2^s::(R.drop (O D+1)++T))) e))) n1 1 (Y (ξ ⟨bu,0,θ⟩) (O R) rc) (u32s (D++x/2^s::R.drop (O D+1))):=Sl.pre (T:=T) (by rw[DH,Gn];exact i) l.2 dO hl.2;repeat refine zR ?_
 refine yE (j:=O D) (dv:=x/2^s) R7 B R2 cA (λ_=>rfl) R4 λ_=>?_;repeat refine zR ?_
 refine yE (j:=O D+1) (dv:=y) R7 B ⟨ω,Z⟩ (by rw[List.getElem?_append_right Z,show (O D)+1-O D=1 from Z,H0,D9,DV];exact H) (λ_=>rfl) R4 λ_=>?_;refine se R7 Z<|zM ?_;refine ym (a:=32) (b:=s) R6 Z<|xK (a:=y) (s:=32-s) R6 Z ?_;rw[Di S];refine ft R7<|QJ (a:=x/2^s) (b:=y*2^(32-s)%4294967296) R6 Z ?_;rw[Pn Z (RA C Z)];refine uH (j:=O D) (v:=U .u32 ((x/2^s+y*2^(32-s)%4294967296:Nat):Int)) R8 ω A7 i l.1 (λ_=>rfl) R3 (λ_=>rfl) ω λ_=>?_;rw[tY,RB,uk];refine zN ?_;exact zA _ P4 ⟨ω,ω,ω,λb p=>(zm p).trans (o b p),by rw[H];exact zg _ _ _⟩;rw[za eS];refine zN ?_;exact zA _ P4 ⟨ω,ω,ω,λb p=>(zm p).trans (o b p),by rw[Dn Z];simp only[Jp,Ep,Nat.zero_mod,DV];exact zg _ _ _⟩;rintro g t3 _ _ _⟨rfl,rfl,rfl,u,i⟩;generalize hyy:(R[O D+1]?).getD 0=y at P i;have Z1:x/2^s+y*2^(32-s)%4294967296<4294967296:=Rr Z (RA C Z);refine mM ?_;refine goOn (D++[x/2^s+y*2^(32-s)%4294967296]) dO ⟨ω,ω,ω,p0,CR⟩ ⟨ω,ω,u,?_,dO,M7 L Z1,?_⟩;show g bu=ξ (.row (u32s (D++[_]++(R.drop (O (D++[_]))++T))) e);rw[C1,Db,DH];exact i;rw[C1,Db,qz,wJ A,hyy];rw[A]at m;simp only[Jo]at m;have Z4:=XI (x:=x) (y:=y) (s:=s) Z;generalize x/2^s+y*2^(32-s)%4294967296=d at*;generalize (R[0]?).getD 0%2^s=r0 at*;have V:(d*2^s+x%2^s)*4294967296^O D=(x+y%2^s*4294967296)*4294967296^O D:=by rw[Z4]
 rw[Dq,Dq x]at V;rw[Dq,Dj (n:=4294967296)];have W:4294967296^O D*d*2^s=d*2^s*4294967296^O D:=by rw[C5 (4294967296^O D) d,F5]
 have Z3:y%2^s*(4294967296^O D*4294967296)=y%2^s*4294967296*4294967296^O D:=by rw[C5 (4294967296^O D),<-Dp]
 rw[W,Z3,C5 (4294967296^O D) x];omega
end
end Go.Proofs.YteoagenjaemllaaGreatDoor
namespace Go.Proofs.YteoagenjaemllaaGreatDoor
variable {B P Z4 V a b c c2 i j m top:Nat}{C L:List Nat}
def tZ(h:a*P<b*P):a<b:=by apply Df;intro d;have:b*P<=a*P:=C9 P Z;omega
def XK{T hh L W:Nat}(o:Z4=L+W*P)(l:L<P)(e:0<V)(h:T+hh*V*P=Z4)(p:W/V<=hh):hh=W/V:=by
 have d:hh*V*P<(W+1)*P:=by rw[Dq,Et];omega
 have f:=tZ d;have g:hh<=W/V:=by rw[FF e];omega
 omega
def RE{T hh L W d:Nat}(p:Z4=L+W*P)(f:0<V)(h:T+hh*V*P=Z4+d)(o:T<d)(q:hh<=W/V+1):hh=W/V+1:=by
 have e:W*P<hh*V*P:=Z;have g:=tZ e;have l:¬hh<=W/V:=by rw[FF f];omega
 omega
def XL{x y:Nat}(f:a<P)(hb:b<P)(h:a+x*P=b+y*P):a=b/\x=y:=by
 have d:(a+x*P)%P=(b+y*P)%P:=by rw[h]
 rw[Gq,Gq,Di f,Di hb]at d;subst d;have e:x*P=y*P:=Z;exact⟨ω,Hs Z e⟩
def Pr{l:List Nat}{x:Nat}(hx:l[i]?=ξ x)(d:dv B (l.drop (i+1))=0):dv B l=dv B (l.take i)+x*B^i:=by
 have f:=(C4.1 hx).1;have e:dv B l=dv B (l.take (i+1))+B^O (l.take (i+1))*dv B (l.drop (i+1)):=by rw[<-vm,Eb]
 rw[e,d,EJ,DV,wJ hx,C5]
theorem NB(B:Nat)(l:List Nat)(j:Nat)(h:j<=O l):dv B l=dv B (l.take j)+dv B (l.drop j)*B^j:=by grind [dv,vm,Eb,DK,Ee,C5]
def zZ{l:List Nat}(h:KA l)(hi:i<=O l):dv 4294967296 (l.take i)<4294967296^i:=by have:=Mf (B:=4294967296) (l:=l.take i) λd e=>h d (D8 e);rw[DK,Ee hi]at this;exact this
def XM{Z4 e:List Nat}{hh w0 d:Nat}(g:j<=O Z4)(l:KA Z4)(p:0<V)(y:dv 4294967296 e+hh*V*4294967296^j=dv 4294967296 Z4+(c+d)*4294967296^i)(s:e[i]?=ξ w0)(u:c+d<=w0)(q:dv 4294967296 (Z4.drop j)/V<=hh):
  hh=dv 4294967296 (Z4.drop j)/V/\dv 4294967296 (e.set i (w0-c-d))+dv 4294967296 (Z4.drop j)/V*V*4294967296^j=dv 4294967296 Z4:=by
 have v:=Mx (B:=4294967296) (w0-c-d) s;have f:dv 4294967296 (e.set i (w0-c-d))+hh*V*4294967296^j=dv 4294967296 Z4:=by
  have w:w0*4294967296^i=(w0-c-d)*4294967296^i+(c+d)*4294967296^i:=by rw[<-Dq];congr 1;omega
  omega
 have o:=XK (NB 4294967296 Z4 j g) (zZ l g) p f q;rw[<-o];exact⟨ω,f⟩
def XN{Z4 d e:List Nat}{hh x:Nat}(o:j<=O Z4)(A:KA Z4)(p:0<V)(Z1:V*4294967296^j<=4294967296^i)(l:KA d)(y:KA e)(f:d[i]?=ξ x)(v:dv 4294967296 (d.drop (i+1))=0)(g:e[i]?=ξ x)(w:dv 4294967296 (e.drop (i+1))=0)
  (h3:dv 4294967296 d+hh*V*4294967296^j=dv 4294967296 Z4+4294967296*4294967296^i)(h4:dv 4294967296 e+c2*4294967296^i=dv 4294967296 d+V*4294967296^j)(K:hh<=dv 4294967296 (Z4.drop j)/V+1):
  hh=dv 4294967296 (Z4.drop j)/V+1/\(x+c2)%4294967296=0/\dv 4294967296 (e.set i 0)+dv 4294967296 (Z4.drop j)/V*V*4294967296^j=dv 4294967296 Z4:=by
 have R:=(C4.1 f).1;have S:=(C4.1 g).1;have Z3:x<4294967296:=l x (C0 f);have Z0:=Pr f v;have e4:=Pr g w;have t3:=zZ l (show i<=O d from Z);have N:=zZ y (show i<=O e from Z);have I:dv 4294967296 d<4294967296*4294967296^i:=(by have:(x+1)*4294967296^i<=4294967296*4294967296^i:=C9 _ Z;rw[Dq,Et]at this;omega);have J:=NB 4294967296 Z4 j o;have tl:=zZ A o;have s:=RE J p h3 I K;generalize dv 4294967296 (Z4.drop j)=W at*;obtain⟨r,M⟩:∃r,W=W/V*V+r/\r<V:=⟨W%V,by rw[C5];exact(Em W V).symm,DS _ p⟩;generalize W/V=q at*;have⟨u,T⟩:=M;subst s;have f1:(q+1)*V*4294967296^j=q*V*4294967296^j+V*4294967296^j:=by rw[Dq,Dq,Et]
 have f2:W*4294967296^j=q*V*4294967296^j+r*4294967296^j:=by rw[u,Dq]
 have F:dv 4294967296 (Z4.take j)+r*4294967296^j<4294967296^i:=(by have:(r+1)*4294967296^j<=V*4294967296^j:=C9 _ Z;rw[Dq,Et]at this;omega);have G:dv 4294967296 (e.take i)+(x+c2)*4294967296^i=(dv 4294967296 (Z4.take j)+r*4294967296^j)+4294967296*4294967296^i:=(by rw[Dq x];omega);have⟨g1,H⟩:=XL N F G;refine⟨ω,by rw[H],?_⟩;have D:=Mx (B:=4294967296) 0 g;rw[Ep,DV]at D;omega
def XO{s:Nat}(S:O C=m+2)(G:KA C)(u:C[m+1]?=ξ top)(h1:2147483648<=top*2^s)(h2:top*2^s<4294967296)(hs:s<32)(Z0:O L=O C+1)(p:KA L)(hv:dv 4294967296 L=dv 4294967296 C*2^s):
  ∃d l,yf L=L.take (m+2)/\(L.take (m+2))[m+1]?=ξ d/\(L.take (m+2))[m]?=ξ l/\2147483648<=d/\d<4294967296/\l<4294967296/\dv 4294967296 (L.take (m+2))=dv 4294967296 C*2^s:=by
 have Z1:0<2^s:=DQ Z;have q:=wJ (B:=4294967296) u;rw[C7 Z]at q;have N:=zZ G (show m+1<=O C from Z);have A:(top+1)*2^s<=4294967296:=(by have e:=Oj (s:=s) Z;have:top<2^(32-s):=(by apply tZ (P:=2^s);rw[C5 (2^(32-s)),e];exact h2);have g:(top+1)*2^s<=2^(32-s)*2^s:=C9 _ Z;rw[C5 (2^(32-s)),e]at g;exact g);have D:dv 4294967296 L<4294967296^(m+2):=by
  rw[hv];have g:dv 4294967296 C<(top+1)*4294967296^(m+1):=(by rw[q,Dq,Et,C5 (4294967296^(m+1))];omega);have v:dv 4294967296 C*2^s<(top+1)*4294967296^(m+1)*2^s:=EQ g Z1;have J:(top+1)*4294967296^(m+1)*2^s=(top+1)*2^s*4294967296^(m+1):=F5 _ _ _;have K:(top+1)*2^s*4294967296^(m+1)<=4294967296*4294967296^(m+1):=C9 _ A;have Z3:4294967296*4294967296^(m+1)=4294967296^(m+2):=by rw[Dj (n:=4294967296) (m:=m+1),C5]
  omega
 have⟨R,y⟩:=Pq Z D;have W:O L=m+3:=Z;obtain⟨x,hx⟩:∃x,L[m+2]?=ξ x:=⟨L[m+2]'Z,CW Z⟩;have F:x=0:=Xz Z R 0 x (by rw[D9];exact hx);subst F;have I:L=L.take (m+2)++[0]:=(by have:=ri hx;rw[C7 Z]at this;exact this);obtain⟨d,f⟩:∃x,L[m+1]?=ξ x:=⟨L[m+1]'Z,CW Z⟩;obtain⟨l,o⟩:∃x,L[m]?=ξ x:=⟨L[m]'Z,CW Z⟩;have M:=wJ (B:=4294967296) f;have T:=zZ p (show m+1<=O L from Z);have w:2147483648<=d:=by
  have g:2147483648*4294967296^(m+1)<=dv 4294967296 (L.take (m+2)):=by
   rw[y,hv,q,Dq];have J:4294967296^(m+1)*top*2^s=top*2^s*4294967296^(m+1):=by rw[Dp,C5]
   have K:2147483648*4294967296^(m+1)<=top*2^s*4294967296^(m+1):=C9 _ h1;omega
  have v:dv 4294967296 (L.take (m+2))<(d+1)*4294967296^(m+1):=(by rw[M,Dq,Et,C5 (4294967296^(m+1))];omega);have:=tZ (Dw g v);omega
 refine⟨d,l,?_,by rw[Ek Z];exact f,by rw[Ek Z];exact o,w,p d (C0 f),p l (C0 o),by rw[y,hv]⟩;have H:yf L=yf (L.take (m+2)):=by
  conv=>lhs;rw[I]
  exact wi _
 rw[H,ri f,xy _ Z]
end Go.Proofs.YteoagenjaemllaaGreatDoor
namespace Go.Proofs.YteoagenjaemllaaGreatDoor
open Go Go.GL
variable {n m c1 c2 bytes size l1 l2 n1 bv bu bq vc b K M k:Nat}{a1 a2:Option Addr}{e eq:TypeId}{A C w U0 V:List Nat}{new:List ψ}{ops r:List Oper}{sv z:ψ}{E:Env}{o:Oper}{d:Tmp}
variable {h:HF}{sT:TypeId}
def XP(j q:Nat)(a:List Nat):(C3 (j+1) 0++a).set j q=C3 j 0++q::a:=by have e:C3 (j+1) 0++a=C3 j 0++(0::a):=(by rw[List.replicate_succ',DH];rfl);rw[e,Ej _ _ cA];simp
section
variable {h:HF}{t:TF}
set_option maxRecDepth 100000
def XQ(hV:Sl h n1 1 (Y (ξ ⟨bv,0,θ⟩) (O V) vc) (u32s V))(hd:bv≠bu/\bv≠bq/\bu≠bq)(i:(3*n<=bu/\bu<3*n1)/\(3*n<=bq/\bq<3*n1))(bp:h bu=ξ (.row (u32s U0) e))(bo:h bq=ξ (.row (u32s (C3 (M+1) 0)) eq))(dV:KA V)(be:KA U0)(ac:O V=m+2)(c0:O U0=M+O V+1)(bx:O U0<10000000000){v1 v2:Nat}(a4:V[m+1]?=ξ v1)(b3:V[m]?=ξ v2)(b1:2147483648<=v1/\v1<4294967296)(b2:v2<4294967296)(ag:dv 4294967296 (U0.drop (M+1))<dv 4294967296 V)
  {c:Code}(hc:LA FC [1,1,1,1,1,1,1,1,1,1,0,1]=ξ c){Q:Ex->SV->Prop}
  (hL:tJ t [(8,sv),(9,Y (ξ ⟨bv,0,θ⟩) (O V) vc),(10,Y (ξ ⟨bu,0,θ⟩) (O U0) (O U0)),(11,U .i64 (O V:Int)),(13,Y (ξ ⟨bq,0,θ⟩) (M+1) (M+1)),(14,U .i64 (((M+1:Nat):Int)-1))])
  (hQ:∀(Z4 A:List Nat) (t':TF) (h':HF),tJ t' [(8,sv),(10,Y (ξ ⟨bu,0,θ⟩) (O U0) (O U0)),(11,U .i64 (O V:Int)),(13,Y (ξ ⟨bq,0,θ⟩) (M+1) (M+1))]->(∀b,b≠bu->b≠bq->h' b=h b)->h' bu=ξ (.row (u32s Z4) e)->h' bq=ξ (.row (u32s A) eq)->KA Z4->KA A->O Z4=O U0->O A=M+1->dv 4294967296 Z4+dv 4294967296 V*dv 4294967296 A=dv 4294967296 U0->dv 4294967296 Z4<dv 4294967296 V->Q .normal ⟨t',h',n1,w⟩):EC (Lg K n (FC).ntmps) c ⟨t,h,n1,w⟩ Q:=by
 obtain rfl:=El (hc.symm.trans (rfl:LA FC [1,1,1,1,1,1,1,1,1,1,0,1]=ξ _));have eV:=Pp (B:=4294967296) ac a4 b3;have tV:=zZ dV (show m<=O V from Z);have b8:=Mf (B:=4294967296) dV;have u:0<dv 4294967296 V:=Z;rw[QD];refine ye (α:=Nat×List Nat×List Nat) (λz=>[(8,sv),(9,Y (ξ ⟨bv,0,θ⟩) (O V) vc),(10,Y (ξ ⟨bu,0,θ⟩) (O U0) (O U0)),(11,U .i64 (O V:Int)),(13,Y (ξ ⟨bq,0,θ⟩) (M+1) (M+1)),(14,U .i64 ((z.1:Int)-1))])
  (λz h' n' w'=>n1=n'/\w=w'/\(∀b,b≠bu->b≠bq->h' b=h b)/\h' bu=ξ (.row (u32s z.2.1) e)/\h' bq=ξ (.row (u32s (C3 z.1 0++z.2.2)) eq)/\KA z.2.1/\KA z.2.2/\O z.2.1=O U0/\z.1+O z.2.2=M+1/\dv 4294967296 z.2.1+dv 4294967296 V*dv 4294967296 z.2.2*4294967296^z.1=dv 4294967296 U0/\dv 4294967296 (z.2.1.drop z.1)<dv 4294967296 V) (λz=>z.1)
  (M+1,U0,[]) hL ⟨ω,ω,λb _ _=>rfl,bp,by rw[DJ];exact bo,be,λd hd=>CO hd C6,ω,ω,Az,ag⟩ (by show M+1<LL;unfold LL;omega) ?_
 rintro⟨jj,Z4,A⟩ t2 h2 _ _ ⟨rfl,rfl,W,I,Z3,D,dQ,o,bg,J,ay⟩;simp only at I Z3 D dQ o bg J ay;refine zN ?_;cases jj with
 |zero=>
  refine Zb ?_;refine hQ Z4 A _ h2 P4 W I Z3 D dQ o Z ?_ ay;rw[EV,D1]at J;exact J
 |succ j=>
  obtain⟨f,a8⟩:∃x,Z4[j+m+2]?=ξ x:=⟨Z4[j+m+2]'Z,CW Z⟩;obtain⟨F,ah⟩:∃x,Z4[j+m+1]?=ξ x:=⟨Z4[j+m+1]'Z,CW Z⟩;obtain⟨Z1,ai⟩:∃x,Z4[j+m]?=ξ x:=⟨Z4[j+m]'Z,CW Z⟩;have bc:f<4294967296:=D f (C0 a8);have bd:F<4294967296:=D F (C0 ah);have a9:Z1<4294967296:=D Z1 (C0 ai);obtain⟨xj,b5⟩:∃x,Z4[j]?=ξ x:=⟨Z4[j]'Z,CW Z⟩;have bz:xj<4294967296:=D xj (C0 b5);have hW:dv 4294967296 (Z4.drop j)<4294967296*dv 4294967296 V:=(by rw[uR b5];simp only[dv];omega);have bj:dv 4294967296 (Z4.drop j)<4294967296^(m+3):=by
   rw[ac]at b8;have:4294967296^(m+3)=4294967296*4294967296^(m+2):=by rw[Dj (n:=4294967296) (m:=m+2),C5]
   omega
  have⟨hz,bs⟩:=Pq Z bj;rw[EH]at hz;have e3:=Rv (B:=4294967296) (l:=(Z4.drop j).take (m+3)) (m:=m) (x:=f) (y:=F) (z:=Z1) pe (by rw[Ek Z,D9];exact a8) (by rw[Ek Z,D9];exact ah) (by rw[Ek Z,D9];exact ai);have b6:dv 4294967296 (((Z4.drop j).take (m+3)).take m)<4294967296^m:=zZ (λd hd=>D d (FO (D8 hd))) pe;rw[bs]at e3;have N:Sl h2 n1 1 (Y (ξ ⟨bv,0,θ⟩) (O V) vc) (u32s V):=hV.keep (λa l cc ee=>by injection ee with e1;injection e1 with e1;subst e1;exact W _ hd.1 hd.2.1) CS;have L:Sl h2 n1 1 (Y (ξ ⟨bu,0,θ⟩) (O U0) (O U0)) (u32s Z4):=Sl.own I i.1.2 o CS;rw[<-o]at L;refine Zh ?_;rw[wb rfl];rw[<-o];repeat refine zR ?_
  refine yE (j:=j+m+2) R7 L ⟨ω,Z⟩ a8 (λ_=>rfl) R4 λ_=>?_;refine se R7 Z<|xK (a:=f) (s:=32) R6 Z ?_;repeat refine zR ?_
  refine yE (j:=j+m+1) R7 L ⟨ω,Z⟩ ah (λ_=>rfl) R4 λ_=>?_;refine se R7 Z<|wG (a:=f*2^32%18446744073709551616) (b:=F) R6 Z ?_;rw[Ph f F bc bd];repeat refine zR ?_
  simp only[yY,ug,yu,xg,zK];repeat refine zR ?_
  refine yE (j:=m+1) R7 N ⟨ω,Z⟩ a4 (λ_=>rfl) R4 λ_=>?_;refine se R7 Z<|xN (a:=f*4294967296+F) (b:=v1) R6 Z ?_;repeat refine zR ?_
  simp only[yY,ug,yu,xg,zK];repeat refine zR ?_
  refine yE (j:=m+1) R7 N ⟨ω,Z⟩ a4 (λ_=>rfl) R4 λ_=>?_;refine se R7 Z<|vO (a:=f*4294967296+F) (b:=v1) R6 Z ?_;repeat refine zR ?_
  simp only[yY,ug,yu,xg,zK];have ar:=kB (B:=4294967296) (P:=4294967296^m) (v1:=v1) (v2:=v2) (vr:=dv 4294967296 (V.take m)) (top:=f*4294967296+F) (w2:=Z1) (wr:=dv 4294967296 (((Z4.drop j).take (m+3)).take m)) Z a9 b6;have bk:∀p rr:Nat,p*v1+rr=f*4294967296+F->rr*4294967296+Z1<p*v2->dv 4294967296 (Z4.drop j)/dv 4294967296 V<p:=λp rr h1 h2=>(by rw[e3,eV];exact Oi a9 b6 h1 h2);have bb:=Ru (B:=4294967296) (P:=4294967296^m) (v1:=v1) (v2:=v2) (vr:=dv 4294967296 (V.take m)) (top:=f*4294967296+F) (w2:=Z1) (wr:=dv 4294967296 (((Z4.drop j).take (m+3)).take m)) tV b2 (by rw[<-e3,<-eV];exact hW);rw[<-e3,<-eV]at ar;have ap:dv 4294967296 (Z4.drop j)/dv 4294967296 V<4294967296:=(by rw[EF u];exact hW);refine XA (sv:=sv) (qv:=Y (ξ ⟨bq,0,θ⟩) (M+1) (M+1)) (Z4:=Z4) (V:=V) (m:=m) (j:=j) (g:=dv 4294967296 (Z4.drop j)/dv 4294967296 V) (top:=f*4294967296+F) N L ac Z a4 b3 ai b1 b2 a9 bb ar ap bk ω ⟨ω,ω,ω,ω,ω,bJ,ω,ω,CR⟩ ?_;rintro p rr t4 av ba au bn bl;rw[<-wU av];have b0:p<=dv 4294967296 (Z4.drop j)/dv 4294967296 V+1:=(by rw[e3,eV];exact Po Z Z tV ba bn au);simp only[yY,ug,yu,xg,zK];repeat refine zR ?_
  simp only[yY,ug,yu,xg,zK];repeat refine zR ?_
  simp only[yY,ug,yu,xg,zK];rw[o]at L;refine XE (sv:=sv) (qv:=Y (ξ ⟨bq,0,θ⟩) (M+1) (M+1)) (Z4:=Z4) (V:=V) (j:=j) (hh:=p) N hd.1 i.1 I dV D Z au ω UR ?_;rintro c br C t5 h5 aw G a1 bf R c4 c1 af a5;rw[<-wU aw];have hi:O V+j=j+m+2:=Z;rw[hi]at af a5;have Z0:C[j+m+2]?=ξ f:=by
   have:(C.drop (j+m+2))[0]?=(Z4.drop (j+m+2))[0]?:=by rw[af]
   rw[D9,D9,DV]at this;rw[this];exact a8
  have bt:dv 4294967296 (C.drop (j+m+2+1))=0:=(by have:=congrArg (JX 1) af;rw[EH,EH]at this;rw[this,show j+m+2+1=j+(m+3)from Z];exact hz);have bh:Sl h5 n1 1 (Y (ξ ⟨bu,0,θ⟩) (O Z4) (O Z4)) (u32s C):=Sl.own a1 i.1.2 R CS;simp only[yY,ug,yu,xg,zK];repeat refine zR ?_
  refine yE (j:=j+m+2) R7 bh ⟨ω,Z⟩ Z0 (λ_=>rfl) R4 λ_=>?_;refine se R7 Z<|zM ?_;refine sd (a:=f) (b:=c) R6 Z<|zM ?_;refine sd (a:=(f+18446744073709551616-c)%18446744073709551616) (b:=br) R6 Z ?_;obtain⟨X,hX⟩:∃X,X=((f+18446744073709551616-c)%18446744073709551616+18446744073709551616-br)%18446744073709551616:=⟨_,ω⟩;rw[<-hX];repeat refine zR ?_
  simp only[yY,ug,yu,xg,zK];repeat refine zR ?_
  refine ft R7 ?_;refine uH (j:=j+m+2) (v:=U .u32 ((X%4294967296:Nat):Int)) R8 Z tu a1 i.1.1 (λ_=>rfl) R3 (λ_=>rfl) ω λ_=>?_;rw[tY];simp only[yY,ug,yu,xg,zK];refine zM ?_;refine yn (a:=X) (s:=63) R6 Z<|Mu R6 ?_;simp only[yY,ug,yu,xg,zK];have a0:KA (C.set (j+m+2) (X%4294967296)):=M8 bf (DS _ Z);refine yj (α:=Nat×List Nat×HF) (λz=>[(8,sv),(9,Y (ξ ⟨bv,0,θ⟩) (O V) vc),(10,Y (ξ ⟨bu,0,θ⟩) (O Z4) (O Z4)),(11,U .i64 (O V:Int)),(13,Y (ξ ⟨bq,0,θ⟩) (M+1) (M+1)),(14,U .i64 (j:Int)),(16,U .u64 (z.1:Int))])
   (λz h' n' w'=>z.2.2=h'/\n1=n'/\w=w'/\Mg bu h2 z.2.2/\z.2.2 bu=ξ (.row (u32s z.2.1) e)/\KA z.2.1/\O z.2.1=O Z4/\z.1=dv 4294967296 (Z4.drop j)/dv 4294967296 V/\dv 4294967296 z.2.1+dv 4294967296 (Z4.drop j)/dv 4294967296 V*dv 4294967296 V*4294967296^j=dv 4294967296 Z4) ?_ ?_
  by_cases hcase:c+br<=f;have ad:X/2^63=0/\X%4294967296=f-c-br:=Z;rw[za (by show CV _=_;rw[ad.1];rfl)];refine zN ?_;have⟨r1,r2⟩:=XM Z D u a5 Z0 hcase bl;rw[ad.2];exact zA (p,_,_) P7 ⟨ω,ω,ω,λb S=>(zm S).trans (G b S),zg _ _ _,by rw[<-ad.2];exact a0,by show(C.set _ _).length=_;rw[DX];exact R,r1,r2⟩;have aq:X/2^63=1/\X%4294967296+(c+br)=f+4294967296:=Z;rw[ze (by show CV _=_;rw[aq.1];rfl)];have h3:dv 4294967296 (C.set (j+m+2) (X%4294967296))+p*dv 4294967296 V*4294967296^j=dv 4294967296 Z4+4294967296*4294967296^(j+m+2):=by
   have q1:=Mx (B:=4294967296) (X%4294967296) Z0;have q2:(X%4294967296+(c+br))*4294967296^(j+m+2)=(f+4294967296)*4294967296^(j+m+2):=by rw[aq.2]
   rw[Dq,Dq f]at q2;omega
  have aj:(C.set (j+m+2) (X%4294967296))[j+m+2]?=ξ (X%4294967296):=by rw[List.getElem?_set_self Z]
  have ak:dv 4294967296 ((C.set (j+m+2) (X%4294967296)).drop (j+m+2+1))=0:=by rw[FU Z];exact bt
  have hT:dv 4294967296 (C.set (j+m+2) (X%4294967296))<4294967296*4294967296^(j+m+2):=(by rw[Pr aj ak];have q1:=zZ a0 (show j+m+2<=O (C.set (j+m+2) (X%4294967296)) by rw[DX];omega);have q2:(X%4294967296+1)*4294967296^(j+m+2)<=4294967296*4294967296^(j+m+2):=C9 _ Z;rw[Dq,Et]at q2;omega);have bm:=RE (NB 4294967296 Z4 j Z) u h3 hT b0;have c5:1<=p:=by rw[bm];exact Nat.le_add_left _ _
  generalize hU3:C.set (j+m+2) (X%4294967296)=U3 at*;have b7:O U3=O Z4:=by rw[<-hU3,DX];exact R
  simp only[yY,ug,yu,xg,zK];repeat refine zU ?_
  simp only[yY,ug,yu,xg,zK];repeat refine zR ?_
  simp only[yY,ug,yu,xg,zK];repeat refine zR ?_
  simp only[yY,ug,yu,xg,zK];rw[<-b7];refine XF (sv:=sv) (qv:=Y (ξ ⟨bq,0,θ⟩) (M+1) (M+1)) (Z4:=U3) (V:=V) (j:=j) (hh:=p-1) (h:=upd h5 bu (ξ (.row (u32s U3) e))) (N.keep (λa l cc ee=>by injection ee with e1;injection e1 with e1;subst e1;exact(zm hd.1).trans (G _ hd.1)) CS) hd.1 i.1 (zg _ _ _) dV a0 Z ω P9 ?_;rintro c2 U4 t6 h6 ax al a2 am aa c3 T a6;rw[<-wU ax];rw[hi]at T a6;have b4:U4[j+m+2]?=ξ (X%4294967296):=by
   have:(U4.drop (j+m+2))[0]?=(U3.drop (j+m+2))[0]?:=by rw[T]
   rw[D9,D9,DV]at this;rw[this];exact aj
  have bw:dv 4294967296 (U4.drop (j+m+2+1))=0:=(by have:=congrArg (JX 1) T;rw[EH,EH]at this;rw[this];exact ak);have⟨r1,r2,r3⟩:=XN Z D u (by
   have q1:dv 4294967296 V*4294967296^j<=4294967296^O V*4294967296^j:=C9 _ Z;rw[<-Ef,hi]at q1;exact q1) a0 am aj ak b4 bw h3 a6 b0
  have bi:Sl h6 n1 1 (Y (ξ ⟨bu,0,θ⟩) (O U3) (O U3)) (u32s U4):=Sl.own a2 i.1.2 aa CS;simp only[yY,ug,yu,xg,zK];repeat refine zR ?_
  refine yE (j:=j+m+2) R7 bi ⟨ω,Z⟩ b4 (λ_=>rfl) R4 λ_=>?_;refine zM ?_;refine M6 (c:=c2) R7 Z<|W3 (a:=X%4294967296) (b:=c2) ω ω ω ω ω ω ?_;rw[r2];refine uH (j:=j+m+2) (v:=U .u32 ((0:Nat):Int)) R8 Z tu a2 i.1.1 (λ_=>rfl) R3 (λ_=>rfl) ω λ_=>?_;rw[tY];refine zN ?_;exact zA (p-1,_,_) P7 ⟨ω,ω,ω,λb S=>(zm S).trans ((al b S).trans ((zm S).trans (G b S))),zg _ _ _,M8 am Z,by show(U4.set _ _).length=_;rw[DX];exact aa,by show p-1=_;omega,r3⟩;rintro⟨q,Uf,g⟩ t7 _ _ _ ⟨rfl,rfl,rfl,H,a3,an,ab,az,a7⟩;simp only at H a3 an ab az a7;subst az;generalize hqq:dv 4294967296 (Z4.drop j)/dv 4294967296 V=q at*;have b9:g bq=ξ (.row (u32s (C3 (j+1) 0++A)) eq):=by rw[H bq (Ne.symm hd.2.2)];exact Z3
  refine zN ?_;repeat refine zU ?_
  refine uH (j:=j) (v:=U .u32 (q:Int)) R8 ω A7 b9 i.2.1 (λ_=>rfl) R3 (λ_=>rfl) ω λ_=>?_;rw[tY,XP];refine mM ?_;refine goOn (j,Uf,q::A) AE ⟨ω,ω,by show Y _ _ _=Y _ _ _;rw[o],ω,ω,ω,CR⟩ ⟨ω,ω,λb h1 ao=>(zm ao).trans ((H b h1).trans (W b h1 ao)),(zm hd.2.2).trans a3,zg _ _ _,an,λd ae=>?_,ab,by show j+O (q::A)=M+1;simp;omega,?_,?_⟩;obtain rfl|ae:=DA.1 ae;exact ap;exact dQ d ae;show dv 4294967296 Uf+dv 4294967296 V*dv 4294967296 (q::A)*4294967296^j=dv 4294967296 U0;rw[<-J,<-a7];simp only[dv];rw[Dj (n:=4294967296),DW,Dq,C5 q,HP];congr 2;rw[Dp,Dp,Dp,C5 4294967296 (dv 4294967296 A*4294967296^j),Dp (dv 4294967296 A)];show dv 4294967296 (Uf.drop j)<dv 4294967296 V;have p1:=NB 4294967296 Uf j Z;have p2:=NB 4294967296 Z4 j Z;have p3:=zZ D (show j<=O Z4 from Z);have p4:dv 4294967296 (Z4.drop j)<(q+1)*dv 4294967296 V:=(by rw[<-hqq,C5];exact Nat.lt_mul_div_succ _ u);have p5:dv 4294967296 (Uf.drop j)*4294967296^j<dv 4294967296 V*4294967296^j:=(by have p6:(dv 4294967296 (Z4.drop j)+1)*4294967296^j<=(q+1)*dv 4294967296 V*4294967296^j:=C9 _ p4;rw[Dq,Et,Dq q,Et,Dq]at p6;omega);exact tZ p5
end
theorem XR{a b q r P:Nat}(c:0<P)(hb:0<b)(h:r+b*P*q=a*P)(d:r<b*P):q=a/b/\r=a%b*P:=by grind [Nat.mul_div_mul_right,Hh,Hq,Fv,EZ,FX,Di]
def rV:∀l:List Nat,l.take (O (yf l))=yf l:=
 wF (λl ih=>by rw[wi,Fc (xU l)];exact ih) (λl d a=>by rw[xy l a,Ds]) rfl
section
variable {h:HF}{t:TF}
set_option maxRecDepth 100000
def XS(hA:Sl h n 1 (Y a1 (O A) c1) (u32s A))(hC:Sl h n 1 (Y a2 (O C) c2) (u32s C))(nA:Norm A)(u:Norm C)(y:O C=m+2)(hb:O A<1000000000)(ay:val C<=val A)
  {c:Code}(hc:LA FC [1,1,1]=ξ c)(hL:tJ t [(0,Y a1 (O A) c1),(1,Y a2 (O C) c2)]):EC (Lg (k+2) n (FC).ntmps) c ⟨t,h,n,[]⟩ (RetH FC (DivR n h A C)):=by
 obtain rfl:=El (hc.symm.trans (rfl:LA FC [1,1,1]=ξ _));rw[<-wU hL];have bg:=nA.len_le u ay;obtain⟨f,i⟩:∃x,C[m+1]?=ξ x:=⟨C[m+1]'Z,CW Z⟩;have be:f<4294967296:=u.1 f (C0 i);have bd:f≠0:=(by have e:=ri i;rw[C7 Z]at e;have h1:=u;rw[e]at h1;exact h1.last);refine mM ?_;refine ye (α:=Nat) (λs=>[(0,Y a1 (O A) c1),(1,Y a2 (O C) c2),(8,U .u64 (s:Int))]) (λs h' n' w'=>h=h'/\n=n'/\w'=[]/\s<32/\f*2^s<4294967296) (λs=>32-s) 0 P3 ⟨ω,ω,ω,by decide,by show f*2^0<_;omega⟩ (by show 32-0<LL;decide) ?_;rintro s t2 _ _ _⟨rfl,rfl,rfl,P,a6⟩;refine kG ?_;refine yE (j:=m+1) R7 hC ⟨ω,Z⟩ i (λ_=>rfl) R4 λ_=>?_;refine zM ?_;refine W5 (a:=f) (s:=s) ω ω ω ω ω ω Z ?_;rw[Di a6];by_cases hbig:f*2^s<2147483648;have h2:f*2^(s+1)=f*2^s*2:=by rw[Dj,Dp]
 have b5:s+1<32:=(by apply Df;intro hn;have al:s=31:=Z;subst al;have:1*2^31<=f*2^31:=C9 _ Z;omega);refine Zx ?_;refine yT (a:=s) (b:=1) R6 Z<|oQ ?_;exact goOn (s+1) (by show 32-(s+1)<32-s;omega) P3 ⟨ω,ω,ω,b5,by show f*2^(s+1)<_;omega⟩;refine Zb ?_;have K:2147483648<=f*2^s:=Z;have hp:0<2^s:=DQ Z;have bf:2^s<=2147483648:=show 2^s<=2^31 from Dd Z Z;repeat refine zR ?_
 refine zF _ R5 (Rt (k+1) hC u.1 Z P) ?_;rintro _ h1 _ _⟨rfl,rfl,a9,L,e1,rfl,b0,Z3,dL,vL⟩;have⟨v1,v2,eT,a8,bc,b1,aj,b2,vV⟩:=XO y u.1 i K a6 P Z3 dL vL;have a5:=LQ (k+1) (l:=L) (h:=h1) (n:=n+1) Z (Sl.own b0 Z Z3 CS);rw[eT]at a5;refine zF _ R5 a5 ?_;rintro _ _ _ _⟨e2,e3,rfl,rfl,b6⟩;subst e2 e3;have F:O (L.take (m+2))=m+2:=by rw[DK];omega
 have dV:KA (L.take (m+2)):=λd hd=>dL d (D8 hd);generalize L.take (m+2)=V at*;refine Zc ?_;refine zF _ R5 (Rt (k+1) (hA.ext a9 (Du n)) nA.1 Z P) ?_;rintro _ h2 _ _⟨rfl,rfl,aa,g,e4,rfl,b3,an,S,vU⟩;refine Zg ?_;refine oQ ?_;obtain⟨M,hM⟩:∃M,M=O A-O C:=⟨_,ω⟩;repeat refine zR ?_
 refine vB (len:=M+1) (cap:=M+1) ⟨ω,ω,ω,ω,ω,ω,bJ,bJ,ω⟩ Z ?_;rw[show zn (U .u32 0)=[U .u32 0]from ω,NA];repeat refine zR ?_
 simp only[yY,ug,yu,xg,zK];repeat refine zR ?_
 simp only[yY,ug,yu,xg,zK];have ac:O g=O A+1:=an;have I:dv 4294967296 (g.drop (M+1))<dv 4294967296 V:=by
  obtain⟨v,a7⟩:∃x,g[O A]?=ξ x:=⟨g[O A]'Z,CW Z⟩;have p1:=wJ (B:=4294967296) a7;rw[C7 Z]at p1;have p2:=Mf (B:=4294967296) nA.1;have p3:v<2^s:=(by have o:v*4294967296^O A<2^s*4294967296^O A:=(by have q2:dv 4294967296 A*2^s<4294967296^O A*2^s:=EQ p2 hp;rw[C5 (4294967296^O A) (2^s)]at q2;rw[C5 v];omega);exact tZ o);have bi:O (g.drop (M+1))=m+2:=by rw[List.length_drop];omega
  have ai:(g.drop (M+1))[m+1]?=ξ v:=by rw[D9,show M+1+(m+1)=O A from Z];exact a7
  have p4:=wJ (B:=4294967296) ai;rw[C7 Z]at p4;have p5:dv 4294967296 ((g.drop (M+1)).take (m+1))<4294967296^(m+1):=zZ (λd hd=>S d (FO hd)) Z;have p6:=wJ (B:=4294967296) a8;rw[C7 Z]at p6;have p7:(v+1)*4294967296^(m+1)<=v1*4294967296^(m+1):=C9 _ Z;rw[Dq,Et]at p7;rw[p4,p6,C5 _ v,C5 _ v1];omega
 have ax:Sl (upd h2 (3*(n+1+1)+2) (ξ (.row (u32s (C3 (M+1) 0)) 145))) (n+1+1+1) 1 (Y (ξ ⟨3*n+2,0,θ⟩) (O V) (O C+1)) (u32s V):=(b6.ext aa Zq).ext (Ko.upd Z) Zq;refine XQ (sv:=U .u64 (s:Int)) (bv:=3*n+2) (bu:=3*(n+1)+2) (bq:=3*(n+1+1)+2) (V:=V) (U0:=g) (m:=m) (M:=M) ax Z Z ((zm Z).trans b3) (zg _ _ _) dV S F Z Z a8 bc ⟨b1,aj⟩ b2 I ω ⟨ω,ω,by rw[ac];rfl,ω,ω,bJ,CR⟩ ?_;rintro Z4 w t4 h4 a3 ae H b4 dU dQ av ao ah az;rw[<-wU a3];have ad:=Mf (B:=4294967296) dV;rw[F]at ad;have⟨_,ba⟩:=Pq (l:=Z4) (n:=m+2) Z (show dv 4294967296 Z4<4294967296^(m+2)from Z);have J:0<dv 4294967296 C:=by rw[<-tX];exact u.pos (by intro e;rw[e]at y;simp at y)
 have⟨hq,G⟩:=XR (a:=dv 4294967296 A) (b:=dv 4294967296 C) (q:=dv 4294967296 w) (r:=dv 4294967296 Z4) hp J (by rw[<-vV,ah,vU]) (by rw[<-vV];exact az);have aw:Sl h4 (n+1+1+1) 1 (Y (ξ ⟨3*(n+1)+2,0,θ⟩) (O g) (O g)) (u32s Z4):=Sl.own H Z av CS;have a0:=aw.take (O V) Z;rw[D1,show(u32s Z4).take (O V)=u32s (Z4.take (m+2))from by rw[u32s,u32s,Gj,F]]at a0;have N:Ko n h h4:=λb hb=>by rw[ae b Z Z,zm Z,aa b Z,a9 b hb]
 simp only[yY,ug,yu,xg,zK];repeat refine zR ?_
 refine td (O V) R8 ω Z ?_;have ag:=LQ (k+1) (l:=Z4.take (m+2)) gQ a0;refine zF _ R5 ag ?_;rintro _ _ _ _⟨e5,e6,rfl,rfl,bh⟩;subst e5 e6;have ar:yf (Z4.take (m+2))=Z4.take (O (yf (Z4.take (m+2)))):=(by have o:=rV (Z4.take (m+2));have q2:=xU (Z4.take (m+2));rw[DK]at q2;rw[GY,Ee Z]at o;exact o.symm);have Z0:dv 4294967296 (yf (Z4.take (m+2)))=dv 4294967296 Z4:=by rw[<-tX,lj,tX,ba]
 have aq:=xU (Z4.take (m+2));rw[DK]at aq;have dR:KA (yf (Z4.take (m+2))):=Pf _ λd hd=>dU d (D8 hd);generalize hR:yf (Z4.take (m+2))=R at*;have au:Z4=R++Z4.drop (O R):=by
  conv=>lhs;rw[<-Eb (O R) Z4]
  rw[<-ar]
 rw[au]at H;repeat refine zR ?_
 simp only[yY,ug,yu,xg,zK];repeat refine zR ?_
 simp only[yY,ug,yu,xg,zK];refine XJ (qv:=Y (ξ ⟨3*(n+1+1)+2,0,θ⟩) (M+1) (M+1)) (bu:=3*(n+1)+2) (R:=R) (T:=Z4.drop (O R)) (s:=s) Z H dR Z P ω P4 ?_;rintro D t5 h5 a4 p Z1 dD am W;rw[<-wU a4];have ap:(R[0]?).getD 0%2^s=0:=by
  have o:dv 4294967296 R%2^s=0:=by rw[Z0,G];exact Nat.mul_mod_left _ _
  cases hR':R with
  |nil=>simp
  |cons x r=>
   rw[hR']at o;simp only[dv]at o;rw[<-Oj (show s<=32 from Z),Dp,FX]at o;simpa using o
 rw[ap,DV,Z0,G]at W;have ab:dv 4294967296 D=dv 4294967296 A%dv 4294967296 C:=Hs hp W;have af:h5 (3*(n+1+1)+2)=ξ (.row (u32s w) _):=(p _ Z).trans b4;have bb:=LQ (k+1) (l:=w) (h:=h5) (n:=n+1+1+1) Z (Sl.own af Z ao CS);have b9:=LQ (k+1) (l:=D) (h:=h5) (n:=n+1+1+1) Z (Sl.pre Z1 Z am (show O R<=O g from Z));simp only[yY,ug,yu,xg,zK];repeat refine zR ?_
 refine zF _ R5 bb ?_;rintro _ _ _ _⟨e7,e8,rfl,rfl,b8⟩;subst e7 e8;repeat refine zR ?_
 refine zF _ R5 b9 ?_;rintro _ _ _ _⟨e9,ak,rfl,rfl,b7⟩;subst e9 ak;refine oQ ?_;refine retH [Y (ξ ⟨3*(n+1+1)+2,0,θ⟩) (O (yf w)) (M+1),Y (ξ ⟨3*(n+1)+2,0,θ⟩) (O (yf D)) (O g)] R3 ⟨ω,by show n<=n+1+1+1;omega,λb hb=>(p b Z).trans (N b hb),_,_,yf w,_,_,yf D,ω,b8,b7,Norm.trim dQ,Norm.trim dD,?_,?_,by show 3*n<=3*(n+1+1)+2;omega,gR⟩;rw[lj,tX,tX,tX];exact hq;rw[lj,tX,tX,tX];exact ab
end
section
def XT(n:Nat):gro (3*n+2)=χ:=by exact Cp
def XU{x:ψ}(hu:E.und sT=ξ (.slice e))(hi:E.inf e=ξ (size,bytes,z))(s:O (zn z)=size)(j:1<=size/\1<=bytes)(hx:argS h size x m new)(hb:m*bytes<=1099511627776)(q:gro b=χ)(hl:O new=m*size):
  ∃v' h' n',yW E h n sT (Y (ξ ⟨b,0,θ⟩) 0 0) x=ξ (.val v' h' n' [])/\n<=n'/\Ko n h h'/\(b<3*n->Sl h' n' size v' new)/\(∀c,c<=n->3*c<=b->xC c v')/\∃a,v'=Y a m m:=by
 have⟨d,hc⟩:=hx;have c1:DC (m*bytes) 1099511627776=φ:=C8 hb;have c2:D5 (O (zn z)) size=φ:=by rw[s];exact B8
 have g:DC 1 size=φ:=C8 j.1;have i:DC 1 bytes=φ:=C8 j.2;by_cases hm:m=0;subst hm;have l:new=[]:=De.1 (by rw[hl];simp);subst l;refine⟨Y (ξ ⟨b,0,θ⟩) 0 0,h,n,?_,CS,Ko.refl _ _,λhb=>.nil (.inr ⟨_,_,_,ω,hb⟩),λc _ f=>f,_,ω⟩;simp only[yW,hu,hi,d,hc,Dl,c1,c2,g,i,Eg,show DC 0 0=φ from ω,uB];have o:DC m 0=χ:=by
  cases hb:DC m 0 with
  |false=>rfl
  |true=>have:=Dt hb;omega
 have p:yD h size 0 (Y (ξ ⟨b,0,θ⟩) 0 0)=ξ []:=by simp[yD]
 refine⟨Y (ξ ⟨3*n+1,0,θ⟩) m m,_,n+1,?_,Du _,Ko.upd (b:=3*n+1) (x:=ξ (.row new e)) Z,λ_=>.at_ Z (zg _ _ _) ω CS Z pq,λc f _=>by show 3*c<=3*n+1;omega,_,ω⟩;simp only[yW,hu,hi,d,hc,Dl,c1,c2,g,i,o,p,Eg,MF,q,DR]
set_option maxRecDepth 100000
def RG(k:Nat)(c:Sl h n 1 (Y a1 l1 c1) (u32s A))(i:Sl h n 1 (Y a2 l2 c2) (u32s C))(o:Norm A)(g:Norm C)(p:C≠[])(hb:O A<1000000000):
  CF (Kp (k+3)) 122 [Y a1 l1 c1,Y a2 l2 c2] h n (DivR n h A C):=by
 refine zw (fn:=FC) R4 ?_;have I:=c.lenU;have J:=i.lenU;subst I J;have G:=g.pos p;refine Zm ?_;refine yi _ R5 (Rk (k+1) c i o g Z) ?_;rintro _ rfl;by_cases hlt:val A<val C;rw[sM hlt];refine Zh ?_;refine pZ (cs:=[]) R5 ?_;repeat refine zR ?_
 obtain⟨v',h',Z0,N,g2,P,R,S,a,rfl⟩:=XU (E:=Kw) (h:=upd h (3*n+2) (ξ (.row [] 145))) (n:=n+1) (sT:=41) (b:=3*n+2) ω ω ω zd (uX (c.ext (Ko.upd Z) (Du n))) Z (XT n) (by rw[zY,D1]);refine yM R5 N<|oQ ?_;refine retH [η,Y a (O A) (O A)] R3 ⟨ω,by show n<=Z0;omega,(Ko.upd Z).trans P (Du n),θ,0,[],a,_,A,ω,.nil (.inl ω),R Z,Norm.nil,o,?_,?_,trivial,S n (Du n) Z⟩;rw[EZ hlt];rfl;rw[Di hlt];have Z3:0<=cmpZ (val A) (val C):=(by unfold cmpZ;rw[CP hlt];split<;>decide);generalize cmpZ (val A) (val C)=cz at Z3;refine Zb ?_;by_cases hone:O C=1;obtain⟨d,rfl⟩:∃d,C=[d]:=List.length_eq_one_iff.1 hone;have a0:d≠0:=g.last (l:=[]);have a3:d<4294967296:=g.1 d cA;have q:val [d]=d:=by simp[val]
 refine Zk ?_;refine yE (j:=0) (dv:=d) R7 i R2 ω (λ_=>rfl) R4 λ_=>?_;refine zF _ R5 (Ra k (d:=d) Z o.1 Z c) ?_;rintro _ T f _⟨rfl,v,F,a,s,L,rfl,w,nL,D,u,_⟩;refine Zc ?_;refine pZ (cs:=[U .u32 ((val A%d:Nat):Int)]) R5 ?_;have B:=LQ (k+1) (l:=[val A%d]) (h:=upd T (3*f+2) (ξ (.row [U .u32 ((val A%d:Nat):Int)] 145))) (n:=f+1) cA (Sl.own (Z1:=[val A%d]) (zg _ _ _) Z ω CS);refine zF _ R5 B ?_;rintro _ _ _ _⟨K,M,rfl,rfl,y⟩;subst K M;refine oQ ?_;have V:val A%d<d:=DS _ Z;refine retH [Y a (O L) s,Y (ξ ⟨3*f+2,0,θ⟩) (O (yf [val A%d])) 1] R3 ⟨ω,by show n<=f+1;omega,F.trans (Ko.upd Z) v,a,s,L,_,_,yf [val A%d],ω,w.ext (Ko.upd Z) Zq,y,nL,Norm.trim (λx W=>by simp at W;omega),by rw[D,q],?_,u,by show 3*n<=3*f+2;omega⟩;rw[lj,q];simp[val];have H:O C≠0:=λe=>p (De.1 e);obtain⟨m,Z4⟩:∃m,O C=m+2:=⟨O C-2,Z⟩;repeat refine zR ?_
 simp only[yu,xg,zK,yY];rw[za rfl];simp only[yu,zK];exact XS c i o g Z4 hb Z ω P2
end
section
variable {X:CtxF}{t:TF}{h:HF}{Q:SV->Prop}
def st_mul{ty e:TypeId}{x y:Operand}{a b:Int}(j:zh ops t o=φ)(f:o.dst=ξ d)(g:zv X.nt (ξ d)=φ)(c:o.op=.binOp .mul ty x y e)(hx:Kn t x=U .i64 a)(l:Kn t y=U .i64 b)(i: -9223372036854775808<=a*b/\a*b<9223372036854775808)
  (k:EO X ops r ⟨upd t d (U .i64 (a*b)),h,n,w⟩ Q):EO X ops (o::r) ⟨t,h,n,w⟩ Q:=by refine zS ⟨j,f,g,AF⟩ ?_ k;rw[c];show binE X.E .mul ty (Kn t x) (Kn t y)=_;rw[hx,l];show ξ (U .i64 (DE .i64 (a*b)))=_;rw[vZ i]
end
def RH(k:Nat){h:HF}{n:Nat}{I J:ψ}{x:Int}{l:List Nat}(hi:IntR h n I J x l)(hb:O l<1000000000):VF (Kp (k+1)) 90 [.agg #[I,J]] h n λv=>∃b:Nat,v=U .i64 (b:Int)/\(b=0↔x.natAbs=0)/\(b=1↔x.natAbs=1):=by
 refine zO (fn:=Tryz.f90) R4 ?_;obtain⟨rfl,q,p,y⟩:=hi;obtain⟨a,V,g,rfl,_⟩:=q.len;have Z1:=q.lenU;subst Z1;refine zN ?_;refine Lu (cs:=[CV (decide (x<0)),Y a (O l) g]) R5<|Zc ?_;refine zT R6 (zg _ _ _) (v:=Y a (O l) g) R2 ?_;by_cases h0:l=[];subst h0;refine Zi ?_;refine retF _ ω (zi ω) R2 ⟨0,ω,?_,?_⟩<;>rw[<-y]<;>simp[val];obtain⟨i,f,rfl⟩:=snoc h0;have M:f≠0:=p.last;have N:f<4294967296:=p.1 f cA;have C:O (i++[f])=O i+1:=by simp
 rw[C]at hb q;simp only[C];have H:=q.ext (Ko.upd (b:=3*n+2) (x:=ξ (.row [CV (decide (x<0)),Y a (O i+1) g] 43)) Z) (Du n);refine Zt ?_;refine zT R6 (zg _ _ _) (v:=Y a (O i+1) g) R2<|zM ?_;refine Ma R6 Z<|st_mul ω ω ω ω ω ω Z ?_;refine Zc ?_;refine zT R6 (zg _ _ _) (v:=Y a (O i+1) g) R2 ?_;repeat refine zR ?_
 refine zT R6 (zg _ _ _) (v:=Y a (O i+1) g) R2 ?_;repeat refine zR ?_
 refine yE (j:=O i) (dv:=f) R7 H ⟨ω,Z⟩ cA (λ_=>rfl) R4 λ_=>?_;refine oQ ?_;generalize hh1:upd h (3*n+2) _=h1;refine ye (α:=Nat×Nat) (λz=>[(3,U .i64 ((32*O i+z.1:Nat):Int)),(4,U .u32 (z.2:Int))]) (λz W S T=>S=n+1/\T=[]/\z.2=f/2^z.1/\(z.1=0\/f/2^(z.1-1)≠0)/\z.1<=32) (λz=>33-z.1) (0,f) ⟨bJ,ω,CR⟩ ⟨ω,ω,cA,.inl ω,CT⟩ (by show 33-0<LL;decide) ?_;rintro⟨c,B⟩ Z0 Z3 _ _ ⟨rfl,rfl,m,u,P⟩;simp only at m u P;subst m;refine zN ?_;by_cases hz:f/2^c=0;refine Zj ?_;have K:c≠0:=λe=>by rw[e,EV,Nat.div_one]at hz;exact M hz
 have A:x.natAbs=val i+4294967296^O i*f:=by rw[<-y,Of];simp[val]
 refine retF _ ω (zi ω) R2 ⟨32*O i+c,ω,?_,?_⟩;have G:0<4294967296^O i*f:=Fv (DQ Z) Z;omega;have G:0<4294967296^O i*f:=Fv (DQ Z) Z;by_cases hi0:O i=0;rw[De.1 hi0]at A⊢;simp only[val,FV,EV,Et,Dl,EJ]at A⊢;rw[A];constructor;rintro rfl;rw[ae7]at hz;omega;rintro rfl;obtain F|F:=u;exact CO F K;apply Df;intro R;apply F;exact EZ (Nat.one_lt_two_pow Z);have Z4:4294967296^1*1<=4294967296^O i*f:=DG (Dd Z Z) Z;omega;have D:c+1<=32:=(by apply Df;intro R;have:c=32:=Z;subst this;exact hz (EZ N));have L:f/2^c<=f:=EL _ _;generalize m:f/2^c=B at hz L⊢;refine Zi ?_;refine zM ?_;refine QK (a:=B) (s:=1) R6 Z<|oQ ?_;refine goOn (c+1,B/2^1) (by show 33-(c+1)<33-c;omega) ⟨gL,ω,CR⟩ ⟨ω,ω,?_,.inr (by show f/2^(c+1-1)≠0;rw[Fh,m];exact hz),D⟩;show B/2^1=f/2^(c+1);rw[<-m,FB,<-Ef]
end Go.Proofs.YteoagenjaemllaaGreatDoor
