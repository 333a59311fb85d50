import Derived.KernelRfl
import Derived.Lib.Mul64
import Derived.Lib.TrailingZeros
import Derived.Test.YtdeaddceicfanaaGreatDoorTamA
open Option renaming some→ξ,none→θ
open Bool renaming true→φ,false→χ
open Go renaming Value→ψ
set_option linter.defProp false
open BitVec renaming ofInt→Fl,ofNat→EJ
open Bool renaming and_eq_true→DI,and_false→ai4,and_self→DT,not_false→G5,or_true→Jj
open Classical renaming byContradiction→CW
open Go.GL.Tr renaming get_put→Iy,put→Hn,set_eq→Hi
open Go.IntKind renaming bits→Em,signed→Fw,wrap→Df
open Go.Lib renaming ctz→ab6,deBruijn64tab→ab5,half_mul_le→Js
open Go.Proofs.Tryz renaming f179→I8,f181→Fp
open Go.Value renaming bool→U,int→CC,pointer→CH,slice→Y,string→CG,tuple→Ia
open Iff renaming rfl→GM
open Int renaming lt_trichotomy→HM,natAbs_natCast→CR,tdiv_nonneg→Jt,tmod_nonneg→ag5,toNat_natCast→Ef
open List renaming all_cons→JW,append_assoc→Dh,append_nil→Dm,cons_append→F6,drop→JL,dropLast_concat_getLast→GW,drop_drop→Ey,drop_eq_getElem_cons→EG,drop_length→EQ,drop_set_of_lt→FA,drop_zero→Dy,eq_of_mem_replicate→Hs,getElem?_drop→DX,getElem?_eq_getElem→CD,getElem?_eq_none→Dc,getElem?_eq_some_iff→CK,getElem?_map→Dx,getElem?_take_of_lt→Es,length→O,length_append→CJ,length_cons→DJ,length_eq_zero_iff→CT,length_map→CN,length_pos_iff→Gy,length_set→DH,length_singleton→C0,length_take→DA,map_set→am5,map_take→F2,mem_append→DQ,mem_cons→De,mem_of_getElem?→CE,mem_of_mem_drop→ET,mem_of_mem_take→Dp,mem_or_eq_of_mem_set→IF,nil_append→Dt,not_mem_nil→CO,replicate→CI,replicate_succ→GA,replicate_zero→E7,set_append_right→D1,set_eq_take_append_cons_drop→HH,take_append_drop→DP,take_append_of_le_length→EU,take_length→C3,take_of_length_le→CL,take_take→HL,take_zero→EK
open Nat renaming Coprime→Gl,add_assoc→Gs,add_comm→D6,add_mul→Dq,add_mul_div_left→G7,add_mul_mod_self_left→FC,add_mul_mod_self_right→Ga,add_zero→DE,and_one_is_mod→aa3,and_two_pow_sub_one_eq_mod→H0,beq→DK,beq_refl→HK,ble→Dd,ble_eq_true_of_le→CP,blt→HI,div_add_mod→DN,div_div_eq_div_mul→Fm,div_eq_of_lt→EP,div_le_self→Ei,div_lt_iff_lt_mul→Ee,div_mul_le_self→JP,dvd_of_mod_eq_zero→Jk,eq_of_beq_eq_true→DC,eq_of_mul_eq_mul_left→FD,eq_of_mul_eq_mul_right→G9,gcd→CZ,gcd_comm→EY,gcd_rec→IP,gcd_zero_right→Hy,le_div_iff_mul_le→Fo,le_of_ble_eq_true→Da,le_refl→Ej,le_succ→C8,le_total→am6,le_trans→CU,lt_of_le_of_lt→C7,lt_of_lt_of_le→CS,lt_or_gt_of_ne→Hw,max_eq_left→ag3,max_eq_right→ad4,min→Jh,min_eq_left→DR,min_eq_right→I5,mod_eq_of_lt→C1,mod_lt→Dz,mul_add→DS,mul_assoc→Di,mul_comm→CY,mul_div_cancel_left→Fg,mul_le_mul→C6,mul_le_mul_left→C4,mul_le_mul_right→CM,mul_left_comm→Gm,mul_lt_mul_of_pos_right→Er,mul_mod_mul_left→G8,mul_mod_mul_right→GZ,mul_mod_right→HN,mul_one→DD,mul_pos→Et,mul_right_comm→GO,mul_zero→Eo,one_mul→EM,or_eq_zero_iff→aa2,or_lt_two_pow→IQ,or_mod_two_pow→aa1,pow_add→DV,pow_le_pow_left→Gz,pow_le_pow_right→CQ,pow_mul→HC,pow_pos→Ds,pow_succ→C5,pow_zero→EA,sub_self→DY,sub_zero→GN,two_pow_add_eq_or_of_lt→Iq,zero_add→C9,zero_mul→DU
open Nat.Coprime renaming gcd_mul_left_cancel_right→Hj,pow_right→ao2
open Option renaming getD_none→I7,getD_some→I6,isNone_none→FH,isSome_iff_exists→Do
open Option.some renaming inj→Eb,injEq→HJ
open Prod.mk renaming injEq→E5
open UInt8 renaming ofNat→Ec
set_option maxHeartbeats 8000000
set_option linter.unusedVariables false
set_option linter.unusedSimpArgs false
noncomputable section
namespace Go.GL
open Go
variable{α β:Type}{b i j m n L d n0 nt:Nat}{e:TypeId}{vs args:List ψ}{v:ψ}{w:List Nat}{o:Oper}{E:Env}{f:FuncId}
abbrev TF:=Nat->ψ
inductive BF where
 |row (c:List ψ) (e:TypeId)
 |ro (c:List ψ)
 |loop (ready:Bool) (pending:Option Code) (t:TF) (nt:Nat) (ps:List Tmp) (assign body:Code) (d:Nat)
 |dfr
abbrev HF:=Nat->Option BF
def BF.cells:BF->Option (List ψ)
 | .row c _=>ξ c
 | .ro c=>ξ c
 |_=>θ
def Blk.view:Blk->BF
 | .row c e=>.row c e
 | .ro c=>.ro c
 | .loop r p t nt ps a b d=>.loop r p (nth t) nt ps a b d
 | .dfr=>.dfr
def hv(h:Hp):HF:=λb=>(h.at b).map Blk.view
def upd{α:Type}(f:Nat->α)(i:Nat)(v:α):Nat->α:=λj=>if j=i then v else f j
theorem zg(f:Nat->α)(i:Nat)(v:α):upd f i v i=v:=by simp[upd]
theorem zm{f:Nat->α}{v:α}(h:j≠i):upd f i v j=f j:=by simp[upd,h]
def uk(f:Nat->α)(i:Nat)(v w:α):upd (upd f i v) i w=upd f i w:=by funext j;simp only[upd];split<;>rfl
def upd_self{f:Nat->α}{v:α}(h:f i=v):upd f i v=f:=by funext j;simp only[upd];split;rename_i e;rw[e,h];rfl
def fT(t:Tr ψ)(i:Nat)(v:ψ):nth (Hn t i v)=upd (nth t) i v:=by funext j;exact Iy undef ω t i v j
def uJ(h:Hp)(b:Nat)(x:Option Blk):hv (Hn h b x)=upd (hv h) b (x.map Blk.view):=by funext c;unfold hv upd;rw[show Hp.at (Hn h b x) c=if c=b then x else h.at c from Iy θ ω h b x c];split<;>rfl
def Pe{h:Hp}{x:Blk}(e:h.at b=ξ x):hv h b=ξ x.view:=by simp[hv,e]
def uC{h:Hp}{y:BF}(e:hv h b=ξ y):∃x,h.at b=ξ x/\x.view=y:=by unfold hv at e;simpa using e
def Ws(x:Blk):x.view.cells=x.cells:=by cases x<;>rfl
def Wt{x:Blk}{c:List ψ}(h:x.view=.row c e):x=.row c e:=by cases x<;>simp[Blk.view]at h;obtain⟨rfl,rfl⟩:=h;rfl
def J2(τ:TF):Operand->ψ
 | .tmp i=>τ i
 | .const v=>(match closed v with|true=>v|false=>undef)
 | .global g=>ε (3*g)
 | .func f=>.func (.func f) #[] #[]
def eK(t:Tr ψ):ev t=J2 (nth t):=by funext x;cases x<;>rfl
def LI(h:HF)(a:Addr)(n:Nat):Option (List ψ):=
 match h a.block with
 |some x=>(match x.cells with|some c=>(match Dd (a.off+n) (O c)&&a.spot.isNone with|true=>ξ ((c.drop a.off).take n)|false=>θ)|none=>θ)
 |none=>θ
def bh(h:Hp)(a:Addr)(n:Nat):md h a n=LI (hv h) a n:=by
 unfold md LI;cases e:h.at a.block with
 |none=>simp[hv,e]
 |some x=>rw[Pe e];simp only[Ws];rfl
def LJ(h:HF)(a:Addr)(vs:List ψ):Option HF:=
 match h a.block with
 |some (.row c e)=>(match Dd (a.off+O vs) (O c)&&(a.spot.isNone&&ones vs)with|true=>ξ (upd h a.block (ξ (.row (zu c a.off vs) e)))|false=>θ)
 |_=>θ
def pX{h:Hp}{a:Addr}{g:HF}(d:LJ (hv h) a vs=ξ g):∃h',qN h a vs=ξ h'/\hv h'=g:=by unfold LJ at d;split at d;rename_i c e hb;have⟨x,f,l⟩:=uC hb;have:=Wt l;subst this;split at d;rename_i hc;injection d with d;refine⟨Hn h a.block (ξ (.row (zu c a.off vs) e)),?_,?_⟩;unfold qN;rw[f];simp only[hc,xZ,Hi];rw[uJ,<-d];rfl;cases d;cases d
def yB(E:Env)(t:TypeId)(h:HF)(a:Addr):Option ψ:=
 match isAgg E t,E.inf t with
 |some φ,ξ (sz,_,_)=>(LI h a sz).map λcs=>.agg cs.toArray
 |some χ,_=>match LI h a 1 with|some [v]=>ξ v|_=>θ
 |_,_=>θ
def bg(E:Env)(t:TypeId)(h:Hp)(a:Addr):oN E t h a=yB E t (hv h) a:=by unfold oN yB;simp only[bh];rfl
inductive RF where
 |val (v:ψ) (h:HF) (n:Nat) (w:List Nat)
 |enter (f:FuncId) (args:List ψ)
 |round (l:Nat) (args:List ψ)
def R.view:R->RF
 | .val v h n w=>.val v (hv h) n w
 | .enter f a=>.enter f a
 | .round l a=>.round l a
def yD(h:HF)(size n:Nat):ψ->Option (List ψ)
 | Y (ξ a) _ _=>if n*size=0 then ξ []else LI h a (n*size)
 | Y θ _ _=>ξ []
 | CG s=>ξ ((s.data.toList.take n).map λb=>CC .u8 b.toNat)
 |_=>θ
def sU(h:Hp)(a n:Nat)(v:ψ):wB h a n v=yD (hv h) a n v:=by unfold wB yD;split<;>simp only[bh]
def jM(h:HF)(b cells:Nat)(e:TypeId):Bool:=match h b with|some (.row c e')=>DK (O c) cells&&DK e' e|_=>χ
def Wu(h:Hp)(b cells:Nat)(e:TypeId):N1 h b cells e=jM (hv h) b cells e:=by
 unfold N1 jM;cases hx:h.at b with
 |none=>simp[hv,hx]
 |some x=>rw[Pe hx];cases x<;>rfl
def My(h:HF)(n:Nat)(e:TypeId)(cs:List ψ)(need cells sz:Nat)(base:Option Addr):Option RF:=
 match base with
 |none=>ξ (.val (Y (ξ ⟨3*n+1,0,θ⟩) need need) (upd h (3*n+1) (ξ (.row cs e))) (n+1) [])
 |some a=>
  match gro a.block with
  |true=>
   match DK a.off 0&&(a.spot.isNone&&(jM h a.block cells e&&(ones cs&&DK (O cs) (need*sz))))with
   |true=>ξ (.val (Y (ξ ⟨3*n+1,0,θ⟩) need need) (upd (upd h a.block θ) (3*n+1) (ξ (.row cs e))) (n+1) [a.block])
   |false=>θ
  |false=>ξ (.val (Y (ξ ⟨3*n+1,0,θ⟩) need need) (upd h (3*n+1) (ξ (.row cs e))) (n+1) [])
def To{α β:Type}(view:α->β)(a:Option α)(b:Option β):Prop:=∀y,b=ξ y->∃x,a=ξ x/\view x=y
def Wv(h:Hp)(n:Nat)(e:TypeId)(cs:List ψ)(need cells sz:Nat)(d:Option Addr):To R.view (MN h n e cs need cells sz d) (My (hv h) n e cs need cells sz d):=by
 intro y c;unfold My at c;unfold MN;cases d with
 |none=>
  injection c with c;subst c;exact⟨_,Hi _ _ _ _,Bd⟩
 |some a=>
  simp only at c⊢;cases hg:gro a.block with
  |true=>
   simp only[hg,Wu]at c⊢;split at c;rename_i hc;injection c with c;subst c;simp only[hc,Hi];exact⟨_,ω,Bd⟩;cases c
  |false=>
   simp only[hg]at c⊢;injection c with c;subst c;exact⟨_,Hi _ _ _ _,Bd⟩
def uB(h:HF)(n size need:Nat)(base:Option Addr)(sLen sCap:Nat)(new:List ψ):Option RF:=
 match base,new with
 |_,[]=>ξ (.val (Y base need sCap) h n [])
 |some a,new=>(match LJ h (a.add (sLen*size)) new with|some h=>ξ (.val (Y base need sCap) h n [a.block])|none=>θ)
 |none,_=>θ
def Ww(h:Hp)(n m need:Nat)(d:Option Addr)(l f:Nat)(new:List ψ):To R.view (tq h n m need d l f new) (uB (hv h) n m need d l f new):=by
 intro y c;cases new with
 |nil=>
  cases d<;>(unfold uB at c;unfold tq;injection c with c;subst c;exact⟨_,ω,ω⟩)
 |cons v new=>
  cases d with
  |none=>cases c
  |some a=>
   unfold uB at c;unfold tq;simp only at c⊢;split at c;rename_i g hg;injection c with c;subst c;exact Ce;cases c
def yW(E:Env)(h:HF)(n:Nat)(sT:TypeId)(s x:ψ):Option RF:=
 match E.und sT with
 |some (.slice e)=>
  match E.inf e,s,lenOf? x with
  |some (size,bytes,z),Y base sLen sCap,ξ m=>
   match yD h size m x with
   |some new=>
    match Dd ((sLen+m)*bytes) 1099511627776&&(DK (O (zn z)) size&&Dd 1 size&&Dd 1 bytes)with
    |true=>
     match Dd (sLen+m) sCap with
     |true=>uB h n size (sLen+m) base sLen sCap new
     |false=>
      match yD h size sLen s with
      |some old=>My h n e (old++new) (sLen+m) (sCap*size) size base
      |none=>θ
    |false=>θ
   |none=>θ
  |_,_,_=>θ
 |_=>θ
def Wx(E:Env)(h:Hp)(n:Nat)(sT:TypeId)(s x:ψ):To R.view (qI E h n sT s x) (yW E (hv h) n sT s x):=by intro y a;unfold yW at a;unfold qI;split at a;rename_i e hu;simp only[hu];split at a;rename_i size bytes z base sLen sCap m hi hm;simp only[hi,hm,sU];split at a;rename_i new hnew;simp only[hnew];split at a;rename_i hc;simp only[hc];split at a;rename_i hp;simp only[hp];exact Ww _ _ _ _ _ _ _ _ y a;rename_i hp;simp only[hp];split at a;rename_i old hold;simp only[hold,xZ];exact Wv _ _ _ _ _ _ _ _ y a;cases a;cases a;cases a;cases a;cases a
def MT(E:Env)(h:HF)(n:Nat)(dT:TypeId)(d x:ψ):Option RF:=
 match E.und dT with
 |some (.slice e)=>
  match E.inf e,d,lenOf? x with
  |some (size,_,_),Y base dLen _,ξ m=>
   match yD h size (Jh m dLen) x,base with
   |some [],_=>ξ (.val (goInt (Jh m dLen)) h n [])
   |some cs,ξ a=>(match LJ h a cs with|some h=>ξ (.val (goInt (Jh m dLen)) h n [a.block])|none=>θ)
   |_,_=>θ
  |_,_,_=>θ
 |_=>θ
def Wy(E:Env)(h:Hp)(n:Nat)(l:TypeId)(d x:ψ):To R.view (MO E h n l d x) (MT E (hv h) n l d x):=by
 intro y f;unfold MT at f;unfold MO;split at f;rename_i e hu;simp only[hu];split at f;rename_i size _ _ base dLen c m hi hm;simp only[hi,hm,sU];cases hcs:yD (hv h) size (Jh m dLen) x with
 |none=>rw[hcs]at f;cases base<;>cases f
 |some cs=>
  rw[hcs]at f;cases cs with
  |nil=>
   cases base<;>(simp only at f⊢;injection f with f;subst f;exact⟨_,ω,ω⟩)
  |cons v cs=>
   cases base with
   |none=>cases f
   |some a=>
    simp only at f⊢;split at f;rename_i g hg;injection f with f;subst f;exact Ce;cases f
 cases f;cases f
def uG(E:Env)(t:TypeId)(a x:ψ)(h:HF)(n:Nat):Option RF:=
 match a,E.inf t with
 | CH (ξ ad),ξ (sz,_,_)=>
  match DK (O (zn x)) sz with
  |true=>(match LJ h ad (zn x)with|some h=>ξ (.val undef h n [ad.block])|none=>θ)
  |false=>θ
 |_,_=>θ
def Wz(E:Env)(t:TypeId)(a x:ψ)(h:Hp)(n:Nat):To R.view (mC E t a x h n) (uG E t a x (hv h) n):=by intro y c;unfold uG at c;unfold mC;split at c;rename_i ad sz _ _ hi;simp only[hi];split at c;rename_i hl;simp only[hl];split at c;rename_i g hg;injection c with c;subst c;have⟨l,d,f⟩:=pX hg;rw[d];exact⟨_,ω,by simp[R.view,f]⟩;cases c;cases c;cases c
def QU(E:Env)(f:ψ)(args:List ψ)(h:HF)(n:Nat):Option RF:=
 match f with
 | .func (.func g) first cap=>(match E.ext g (first.toList++(args++cap.toList))with|some v=>ξ (.val v h n [])|none=>ξ (.enter g (first.toList++(args++cap.toList))))
 | .func (.yield l) first _=>ξ (.round l (first.toList++args))
 |_=>θ
def appF(E:Env)(ts:List TypeId)(args:List ψ)(h:HF)(n:Nat):Option RF:=
 match args,ts with
 |[s,x],[sT,xT]=>(match E.und xT with|some (.int _)=>θ|none=>θ|_=>yW E h n sT s x)
 |_,_=>θ
def cpyF(E:Env)(ts:List TypeId)(args:List ψ)(h:HF)(n:Nat):Option RF:=
 match args,ts with
 |[s,x],sT::_=>MT E h n sT s x
 |_,_=>θ
def QW(E:Env)(c:Callee)(ts:List TypeId)(ρ:Operand->ψ)(args:List ψ)(h:HF)(n:Nat):Option RF:=
 match c with
 | .builtin .append=>appF E ts args h n
 | .builtin .copy=>cpyF E ts args h n
 | .value f=>QU E (ρ f) args h n
 |_=>θ
def effF(E:Env)(o:Op)(ρ:Operand->ψ)(h:HF)(n:Nat):Option RF:=
 match o with
 | .store t a x=>uG E t (ρ a) (ρ x) h n
 | .call c=>QW E c.callee c.argTypes.toList ρ (c.args.toList.map ρ) h n
 |_=>θ
def Pf(E:Env)(o:Op)(ρ:Operand->ψ)(h:Hp)(n:Nat):To R.view (effE E o ρ h n) (effF E o ρ (hv h) n):=by
 intro y a;unfold effF at a;unfold effE;split at a;exact Wz _ _ _ _ _ _ y a;rename_i c;unfold QW at a;unfold qH;split at a;rename_i hcal;simp only[hcal];unfold appF at a;unfold appE;split at a;rename_i s x sT xT hs hT;simp only[hs,hT];split at a;cases a;cases a;rename_i h1 h2;cases hu:E.und xT with
 |none=>exact Cu hu h2
 |some d=>
  cases d with
  |int k=>exact Cu hu (h1 k)
  |_=>exact Wx _ _ _ _ _ _ y a
 cases a;rename_i hcal;simp only[hcal];unfold cpyF at a;unfold cpyE;split at a;rename_i s x sT r hs hT;simp only[hs,hT];exact Wy _ _ _ _ _ _ y a;cases a;rename_i f hcal;simp only[hcal];unfold QU at a;unfold Nt;cases hf:ρ f with
 |func p first m=>
  rw[hf]at a;cases p with
  |func g=>
   simp only at a⊢;cases hx:E.ext g (first.toList++(c.args.toList.map ρ++m.toList))with
   |none=>simp only[hx]at a⊢;injection a with a;subst a;exact⟨_,ω,ω⟩
   |some v=>simp only[hx]at a⊢;injection a with a;subst a;exact⟨_,ω,ω⟩
  |yield l=>simp only at a⊢;injection a with a;subst a;exact⟨_,ω,ω⟩
  |_=>cases a
 |_=>rw[hf]at a;cases a
 cases a;cases a
def rX(E:Env)(t d:TypeId)(x:ψ)(h:HF):Option ψ:=
 match x,E.und t,E.und d with
 | Y a len c,ξ (.slice e),ξ .string=>
  match E.und e,yD h 1 len (Y a len c)with
  |some (.int .u8),ξ cs=>(match pi cs with|some l=>ξ (CG ⟨⟨l⟩⟩)|none=>θ)
  |_,_=>θ
 |_,_,_=>θ
def WA(E:Env)(t d:TypeId)(x:ψ)(h:Hp):Nu E t d x h=rX E t d x (hv h):=by unfold Nu rX;simp only[sU];rfl
def po(E:Env)(o:Op)(ρ:Operand->ψ)(h:HF):Option (ψ×Nat):=
 match o with
 | .load t a=>(match ρ a with| CH (ξ ad)=>(match yB E t h ad with|some v=>ξ (v,ad.block)|none=>θ)|_=>θ)
 |_=>θ
def QX(E:Env)(o:Op)(ρ:Operand->ψ)(h:Hp):uA E o ρ h=po E o ρ (hv h):=by unfold uA po;simp only[bg];rfl
structure SV where
 t:TF
 h:HF
 n:Nat
 w:List Nat
def vw(s:St):SV:=⟨nth s.t,hv s.h,s.n,s.w⟩
structure CalF where
 call:FuncId->List ψ->HF->Nat->Option (ψ×HF×Nat×List Nat)
 yl:Nat->List ψ->HF->Nat->Option (ψ×HF×Nat×List Nat)
structure CtxF where
 E:Env
 C:CalF
 L:Nat
 round:Option Nat
 n0:Nat
 nt:Nat
def rv(r:ψ×Hp×Nat×List Nat):ψ×HF×Nat×List Nat:=(r.1,hv r.2.1,r.2.2.1,r.2.2.2)
structure CalTo (C:Cal)(F:CalF):Prop where
 call:∀f args h n,To rv (C.call f args h n) (F.call f args (hv h) n)
 yl:∀l args h n,To rv (C.yl l args h n) (F.yl l args (hv h) n)
structure CtxTo (X:Ctx)(Z3:CtxF):Prop where
 E:X.E=Z3.E
 C:CalTo X.C Z3.C
 L:X.L=Z3.L
 round:X.round=Z3.round
 n0:X.n0=Z3.n0
 nt:X.nt=Z3.nt
def zv(nt:Nat):Option Tmp->Bool
 |some i=> !Nat.ble nt i
 |none=>φ
def putF(τ:TF):Option Tmp->ψ->TF
 |some i,v=>upd τ i v
 |none,_=>τ
def xH{β:Type}(X:CtxF)(s:SV)(d:Option Tmp)(v:ψ)(h:HF)(n:Nat)(w:List Nat)(k:SV->Option β):Option β:=
 match zv X.nt d with
 |true=>k ⟨putF s.t d v,h,n,addW X.n0 w s.w⟩
 |false=>θ
def wM{c:α->β}{X:Ctx}{Z3:CtxF}(a:CtxTo X Z3){s:St}{d:Option Tmp}{h:Hp}{k:St->Option α}{g:SV->Option β}(f:∀s,To c (k s) (g (vw s))):
  To c (done X s d v h n w k) (xH Z3 (vw s) d v (hv h) n w g):=by
 intro y b;unfold xH at b;unfold done;rw[rJ];split at b;rename_i e;cases d with
 |none=>
  simp only[putK,xm];refine f _ y ?_;rw[<-b,a.n0];rfl
 |some i=>
  have e:Dd X.nt i=χ:=by rw[a.nt];simpa [zv]using e
  simp only[putK,e,Hi,xm];refine f _ y ?_;rw[<-b,a.n0];simp[vw,putF,fT]
 cases b
def Mf{β:Type}(X:CtxF)(s:SV)(d:Option Tmp)(m:Mk)(k:SV->Option β):Option β:=
 xH X s d (m.val s.n) (upd s.h (m.name s.n) (ξ (.row m.c m.e))) (s.n+1) [] k
def Pg{a:α->β}{X:Ctx}{Z3:CtxF}(b:CtxTo X Z3){s:St}{d:Option Tmp}{m:Mk}{k:St->Option α}{f:SV->Option β}(g:∀s,To a (k s) (f (vw s))):
  To a (Mc X s d m k) (Mf Z3 (vw s) d m f):=by unfold Mc Mf;rw[xZ,Hi];have:=wM b (s:=s) (d:=d) (v:=m.val s.n) (h:=Hn s.h (m.name s.n) (ξ (.row m.c m.e))) (n:=s.n+1) (w:=[]) g;rw[uJ]at this;exact this
def mf{β:Type}(X:CtxF)(s:SV)(o:Oper)(k:SV->List Nat->Option β):Option β:=
 match effF X.E o.op (J2 s.t) s.h s.n with
 |some (.val v h n w)=>xH X s o.dst v h n w λs=>k s w
 |some (.enter f args)=>(match X.C.call f args s.h s.n with|some (v,h,n,w)=>xH X s o.dst v h n w λs=>k s w|none=>θ)
 |some (.round l args)=>(match X.C.yl l args s.h s.n with|some (v,h,n,w)=>xH X s o.dst v h n w λs=>k s w|none=>θ)
 |none=>θ
def QY{j:α->β}{X:Ctx}{Z3:CtxF}(a:CtxTo X Z3){s:St}{k:St->List Nat->Option α}{B:SV->List Nat->Option β}(u:∀s w,To j (k s w) (B (vw s) w)):
  To j (effK X s o k) (mf Z3 (vw s) o B):=by
 intro y b;unfold mf at b;unfold effK;split at b;rename_i v h n w he;have⟨r,d,e⟩:=Pf _ _ _ _ _ _ he;rw[a.E,eK,show effE Z3.E o.op (J2 (nth s.t)) s.h s.n=ξ r from d];cases r with
 |val F A D p=>
  simp only[R.view,RF.val.injEq]at e;obtain⟨rfl,rfl,rfl,rfl⟩:=e;exact wM a (λs=>u s p) y b
 |enter=>cases e
 |round=>cases e
 rename_i f args he;have⟨r,d,e⟩:=Pf _ _ _ _ _ _ he;rw[a.E,eK,show effE Z3.E o.op (J2 (nth s.t)) s.h s.n=ξ r from d];cases r with
 |enter f' args'=>
  simp only[R.view,RF.enter.injEq]at e;obtain⟨rfl,rfl⟩:=e;simp only;split at b;rename_i v g n w hc;have⟨⟨F,A,D,p⟩,q,c⟩:=a.C.call _ _ _ _ _ hc;simp only[rv,E5]at c;obtain⟨rfl,rfl,rfl,rfl⟩:=c;rw[show X.C.call f' args' s.h s.n=_ from q];exact wM a (λs=>u s p) y b;cases b
 |val=>cases e
 |round=>cases e
 rename_i l args he;have⟨r,d,e⟩:=Pf _ _ _ _ _ _ he;rw[a.E,eK,show effE Z3.E o.op (J2 (nth s.t)) s.h s.n=ξ r from d];cases r with
 |round l' args'=>
  simp only[R.view,RF.round.injEq]at e;obtain⟨rfl,rfl⟩:=e;simp only;split at b;rename_i v g n w hc;have⟨⟨F,A,D,p⟩,q,c⟩:=a.C.yl _ _ _ _ _ hc;simp only[rv,E5]at c;obtain⟨rfl,rfl,rfl,rfl⟩:=c;rw[show X.C.yl l' args' s.h s.n=_ from q];exact wM a (λs=>u s p) y b;cases b
 |val=>cases e
 |enter=>cases e
 cases b
def KO{β:Type}(X:CtxF)(s:SV)(o:Oper)(k:SV->Option β):Option β:=
 match Kd o.op with
 |0=>(match yy X.E o.op (J2 s.t)with|some v=>xH X s o.dst v s.h s.n [] k|none=>θ)
 |1=>(match po X.E o.op (J2 s.t) s.h with|some (v,_)=>xH X s o.dst v s.h s.n [] k|none=>θ)
 |2=>(match Kl X.E o.op (J2 s.t)with|some m=>Mf X s o.dst m k|none=>θ)
 |3=>mf X s o λs _=>k s
 |_=>
  match Kl X.E o.op (J2 s.t)with
  |some m=>Mf X s o.dst m k
  |none=>
   match o.op with
   | .convert t d x=>(match rX X.E t d (J2 s.t x) s.h with|some v=>xH X s o.dst v s.h s.n [] k|none=>(match yy X.E o.op (J2 s.t)with|some v=>xH X s o.dst v s.h s.n [] k|none=>θ))
   |_=>θ
def WB{g:α->β}{X:Ctx}{Z3:CtxF}(e:CtxTo X Z3){s:St}{k:St->Option α}{l:SV->Option β}(f:∀s,To g (k s) (l (vw s))):
  To g (Mx X s o k) (KO Z3 (vw s) o l):=by
 intro y a;have j:ev s.t=J2 (vw s).t:=eK _;unfold KO at a;unfold Mx;rw[e.E,j];cases hc:Kd o.op with
 |zero=>
  simp only[hc]at a⊢;split at a;rename_i v hv';rw[hv'];exact wM e f y a;cases a
 |succ c=>
  cases c with
  |zero=>
   simp only[hc]at a⊢;split at a;rename_i v b hv';rw[QX,show po Z3.E o.op (J2 (vw s).t) (hv s.h)=ξ (v,b)from hv'];exact wM e f y a;cases a
  |succ c=>
   cases c with
   |zero=>
    simp only[hc]at a⊢;split at a;rename_i m hm;rw[hm];exact Pg e f y a;cases a
   |succ c=>
    cases c with
    |zero=>
     simp only[hc]at a⊢;exact QY e (λs _=>f s) y a
    |succ c=>
     simp only[hc]at a⊢;split at a;rename_i m hm;simp only[hm];exact Pg e f y a;rename_i hm;simp only[hm];split at a;rename_i t d x ho;simp only[ho,WA];simp only[ho]at a;cases ht:rX Z3.E t d (J2 (vw s).t x) (vw s).h with
     |some v=>
      rw[ht]at a;rw[show rX Z3.E t d (J2 (vw s).t x) (hv s.h)=ξ v from ht];exact wM e f y a
     |none=>
      rw[ht]at a;rw[show rX Z3.E t d (J2 (vw s).t x) (hv s.h)=θ from ht];simp only at a⊢;split at a;rename_i v hv';rw[hv'];exact wM e f y a;cases a
     cases a
def zh(ops:List Oper)(τ:TF)(o:Oper):Bool:=
 match o.guard with
 |none=>φ
 |some (j,b)=>
  match ops[j]? with
  |some g=>(match g.dst with|some d=>(match τ d with| U c=>(match b,c with|true,φ=>φ|false,χ=>φ|_,_=>χ)|_=>χ)|none=>χ)
  |none=>χ
def mr(a:List Oper)(t:Tr ψ)(o:Oper):vf a t o=zh a (nth t) o:=rfl
def seqF(X:CtxF)(ops:List Oper):List Oper->SV->Option SV
 |[],s=>ξ s
 |o::r,s=>(match zh ops s.t o with|true=>KO X s o (seqF X ops r)|false=>xH X s o.dst undef s.h s.n [] (seqF X ops r))
def WC{X:Ctx}{Z3:CtxF}(b:CtxTo X Z3)(a:List Oper):∀(l:List Oper) (s:St),To vw (tM X a l s) (seqF Z3 a l (vw s)):=by
 intro l;induction l with
 |nil=>intro s y c;injection c with c;exact⟨s,ω,c⟩
 |cons o l ih=>
  intro s;show To vw (Bool.rec (motive:=λ_=>Option St) (done X s o.dst undef s.h s.n [] (tM X a l)) (Mx X s o (tM X a l)) (vf a s.t o)) _;unfold seqF;rw[mr];cases hw:zh a (nth s.t) o with
  |true=>
   rw[show zh a (vw s).t o=φ from hw];exact WB b ih
  |false=>
   rw[show zh a (vw s).t o=χ from hw];exact wM b ih
structure DF where
 s:SV
 al:List (Nat×Nat)
 ld:List (Nat×Nat)
 ef:List (Nat×HF×List Nat)
def LK(l:List (Nat×Hp×List Nat)):List (Nat×HF×List Nat):=l.map λx=>(x.1,hv x.2.1,x.2.2)
def dv(d:Dr):DF:=⟨vw d.s,d.al,d.ld,LK d.ef⟩
def Lo(u b:Nat):List (Nat×HF×List Nat)->Bool
 |[]=>φ
 |(e,_,W)::r=>(match HI e u|| !memN b W with|true=>Lo u b r|false=>χ)
def wn(m:Nat):List (Nat×HF×List Nat)->Nat->HF->Nat×HF
 |[],u,h=>(u,h)
 |(e,g,_)::r,u,h=>(match m.testBit e with|true=>wn m r u h|false=>wn m r e g)
def xq(m:Nat):List (Nat×HF×List Nat)->Bool
 |[]=>φ
 |(j,_)::r=>(match m.testBit j with|true=>xq m r|false=>χ)
def WD(u b:Nat)(l:List (Nat×Hp×List Nat)):qS u b l=Lo u b (LK l):=by
 induction l with
 |nil=>rfl
 |cons x l ih=>
  have⟨e,g,W⟩:=x;show(match HI e u|| !memN b W with|true=>qS u b l|false=>χ)=(match HI e u|| !memN b W with|true=>Lo u b (LK l)|false=>χ);rw[ih]
theorem WE(m:Nat)(l:List (Nat×Hp×List Nat)):gu m l=xq m (LK l):=by induction l<;>grind [gu,xq,LK]
def WF(m:Nat):∀(l:List (Nat×Hp×List Nat)) (u:Nat) (h:Hp),wn m (LK l) u (hv h)=((vQ m l u h).1,hv (vQ m l u h).2):=by
 intro l;induction l with
 |nil=>intro u h;rfl
 |cons x l ih=>
  intro u h;have⟨e,g,W⟩:=x;show(match m.testBit e with|true=>wn m (LK l) u (hv h)|false=>wn m (LK l) e (hv g))=_;unfold vQ;split;rename_i hb;simp only[hb];exact ih u h;rename_i hb;simp only[hb];exact ih e g
def rL{β:Type}(X:CtxF)(i m:Nat)(o:Oper)(d:DF)(k:DF->Option β):Option β:=
 match Kd o.op with
 |1=>
  match wn m d.ef i d.s.h with
  |(u,h)=>
   match po X.E o.op (J2 d.s.t) h with
   |some (v,b)=>(match Lo u b d.ef&&qn m b d.al with|true=>xH X d.s o.dst v d.s.h d.s.n [] λs=>k {d with s,ld:=(i,b)::d.ld}|false=>θ)
   |none=>θ
 |2=>
  match Kl X.E o.op (J2 d.s.t)with
  |some mk=>Mf X d.s o.dst mk λs=>k {d with s,al:=(i,mk.name d.s.n)::d.al}
  |none=>θ
 |3=>
  match xq m d.ef&&xJ m d.al with
  |true=>mf X d.s o λs W=>(match ya m W d.ld&&Dd d.s.n s.n with|true=>k {d with s,ef:=(i,d.s.h,W)::d.ef}|false=>θ)
  |false=>θ
 |_=>(match yy X.E o.op (J2 d.s.t)with|some v=>xH X d.s o.dst v d.s.h d.s.n [] λs=>k {d with s}|none=>θ)
def WG{f:α->β}{X:Ctx}{Z3:CtxF}(c:CtxTo X Z3){d:Dr}{k:Dr->Option α}{p:DF->Option β}(g:∀d,To f (k d) (p (dv d))):
  To f (Nv X i m o d k) (rL Z3 i m o (dv d) p):=by intro y a;have l:ev d.s.t=J2 (dv d).s.t:=eK _;unfold rL at a;unfold Nv;rw[c.E,l];split at a;rename_i hc;simp only[hc];rw[show wn m (dv d).ef i (dv d).s.h=_ from WF m d.ef i d.s.h]at a;generalize vQ m d.ef i d.s.h=uh at a;have⟨u,h⟩:=uh;simp only at a⊢;split at a;rename_i v b hl;rw[QX,hl];simp only;split at a;rename_i hok;rw[WD,show(Lo u b (LK d.ef)&&qn m b d.al)=φ from hok];exact wM c (λs=>g {d with s,ld:=(i,b)::d.ld}) y a;cases a;cases a;rename_i hc;simp only[hc];split at a;rename_i mk hm;rw[hm];exact Pg c (λs=>g {d with s,al:=(i,mk.name d.s.n)::d.al}) y a;cases a;rename_i hc;simp only[hc];split at a;rename_i hok;rw[WE,show(xq m (LK d.ef)&&xJ m d.al)=φ from hok];refine QY c (λs W=>?_) y a;intro z j;split at j;rename_i hok2;rw[show(ya m W d.ld&&Dd d.s.n s.n)=φ from hok2];exact g {d with s,ef:=(i,d.s.h,W)::d.ef} z j;cases j;cases a;rename_i h1 h2 h3;have:∀(A B C D:Option α),(match Kd o.op with|1=>A|2=>B|3=>C|_=>D)=D:=λA B C D=>(by split;exact Cu gY h1;exact Cu gY h2;exact Cu gY h3;rfl);have e:=this;split;exact Cu gY h1;exact Cu gY h2;exact Cu gY h3;split at a;rename_i v hv';rw[hv'];exact wM c (λs=>g {d with s}) y a;cases a
def mL(X:CtxF)(ops:List Oper):List Oper->List Nat->Nat->DF->Option SV
 |[],_,_,d=>ξ d.s
 |o::r,m::ms,i,d=>
  match zh ops d.s.t o with
  |true=>rL X i m o d λd=>mL X ops r ms (i+1) d
  |false=>xH X d.s o.dst undef d.s.h d.s.n [] λs=>mL X ops r ms (i+1) {d with s}
 |_,_,_,_=>θ
def WH{X:Ctx}{Z3:CtxF}(c:CtxTo X Z3)(b:List Oper):∀(l:List Oper) (ms:List Nat) (i:Nat) (d:Dr),To vw (wp X b l ms i d) (mL Z3 b l ms i (dv d)):=by
 intro l;induction l with
 |nil=>intro ms i d y a;unfold mL at a;injection a with a;exact⟨d.s,by unfold wp;rfl,a⟩
 |cons o l ih=>
  intro ms i d;cases ms with
  |nil=>intro y a;cases a
  |cons m ms=>
   intro y a;unfold mL at a;unfold wp;rw[mr];split at a;rename_i hw;rw[show zh b (nth d.s.t) o=φ from hw];exact WG c (λd=>ih ms (i+1) d) y a;rename_i hw;rw[show zh b (nth d.s.t) o=χ from hw];exact wM c (λs=>ih ms (i+1) {d with s}) y a
def fY(f:SV->Option (Ex×SV)):Nat->SV->Option (Ex×SV)
 |0,_=>θ
 |n+1,s=>match f s with|some (.normal,s')=>fY f n s'|r=>r
def KX(r:Ex×St):Ex×SV:=(r.1,vw r.2)
def WI{f:St->Option (Ex×St)}{g:SV->Option (Ex×SV)}(h:∀s,To KX (f s) (g (vw s))):∀(n:Nat) (s:St),To KX (fZ f n s) (fY g n (vw s)):=by
 intro n;induction n with
 |zero=>intro s y a;cases a
 |succ n ih=>
  intro s y a;unfold fY at a;show ∃x,(match f s with|some (.normal,s')=>fZ f n s'|r=>r)=ξ x/\KX x=y;split at a;rename_i s' hs;have⟨⟨e,d⟩,c,b⟩:=h s _ hs;simp only[KX,E5]at b;obtain⟨rfl,rfl⟩:=b;rw[c];exact ih d y a;rename_i hne;have⟨⟨e,d⟩,c,b⟩:=h s _ a;subst b;refine⟨(e,d),?_,ω⟩;rw[c];cases e with
  |normal=>exact Cu a (hne _)
  |exit=>rfl
  |ret=>rfl
def cK(X:CtxF)(g:ψ)(ps:List Tmp)(assign body:Code)(s:SV):Option (Ex×SV):=
 match g,X.round with
 | .func (.func gf) first cap,θ=>
  match X.C.call gf (first.toList++([.func (.yield (3*(s.n+1)+2)) #[] #[]]++cap.toList)) (upd (upd s.h (3*s.n+2) (ξ .dfr)) (3*(s.n+1)+2) (ξ (.loop φ θ s.t X.nt ps assign body (3*s.n+2)))) (s.n+1+1)with
  |some (_,h3,n3,w3)=>
   match h3 (3*(s.n+1)+2),h3 (3*s.n+2)with
   |some (.loop r p _ _ _ _ _ _),ξ .dfr=>
    match N3 r p with
    |some x=>ξ (x,⟨s.t,upd (upd h3 (3*(s.n+1)+2) θ) (3*s.n+2) θ,n3,addW X.n0 w3 s.w⟩)
    |none=>θ
   |_,_=>θ
  |none=>θ
 |_,_=>θ
def WJ{X:Ctx}{Z3:CtxF}(d:CtxTo X Z3)(g:ψ)(f:List Tmp)(a c:Code)(s:St):To KX (qQ X g f a c s) (cK Z3 g f a c (vw s)):=by
 intro y b;unfold cK at b;unfold qQ;split at b;rename_i gf first cap hr
 rw[d.round,hr];simp only[xm,Hi,d.nt,d.n0];split at b;rename_i v3 g3 n3 w3 hc;have e:upd (upd (vw s).h (3*(vw s).n+2) (ξ BF.dfr)) (3*((vw s).n+1)+2) (ξ (.loop φ θ (vw s).t Z3.nt f a c (3*(vw s).n+2)))=
     hv (Hn (Hn s.h (3*s.n+2) (ξ .dfr)) (3*(s.n+1)+2) (ξ (.loop φ θ s.t Z3.nt f a c (3*s.n+2)))):=by
    rw[uJ,uJ];rfl
 rw[e]at hc;have⟨⟨G,l,F,H⟩,q,u⟩:=d.C.call _ _ _ _ _ hc;simp only[rv,E5]at u;obtain⟨rfl,rfl,rfl,rfl⟩:=u;have q:X.C.call gf (first.toList++([Value.func (Fn.yield (3*(s.n+1)+2)) #[] #[]]++cap.toList)) (Hn (Hn s.h (3*s.n+2) (ξ .dfr)) (3*(s.n+1)+2) (ξ (.loop φ θ s.t Z3.nt f a c (3*s.n+2)))) (s.n+1+1)=ξ (G,l,F,H):=q;rw[q];simp only;split at b;rename_i r p t' nt' ps' as' bd' d' hl hd;have⟨J,B,j⟩:=uC hl;have⟨I,A,D⟩:=uC hd;cases J<;>simp[Blk.view]at j;cases I<;>simp[Blk.view]at D;obtain⟨rfl,rfl,_⟩:=j;rw[show Hp.at l (3*(s.n+1)+2)=_ from B,show Hp.at l (3*s.n+2)=_ from A];simp only;split at b;rename_i x hj;injection b with b;subst b;rw[hj];refine⟨_,ω,?_⟩;simp only[KX,vw,uJ];rfl;cases b;cases b;cases b;cases b
def xk(X:CtxF):Code->SV->Option (Ex×SV)
 | .skip,s=>ξ (.normal,s)
 | .region _ ops d,s=>(match d with
   |false=>(match seqF X ops.toList ops.toList s with|some s=>ξ (.normal,s)|none=>θ)
   |true=>(match mL X ops.toList ops.toList (xA ops.toList []) 0 ⟨s,[],[],[]⟩with|some s=>ξ (.normal,s)|none=>θ))
 | .seq a b,s=>(match xk X a s with|some (.normal,s')=>xk X b s'|r=>r)
 | .cond c a b,s=>(match J2 s.t c with| U φ=>xk X a s| U χ=>xk X b s|_=>θ)
 | .block id b,s=>(match xk X b s with|some (.exit j,s')=>(match DK j id with|true=>ξ (.normal,s')|false=>ξ (.exit j,s'))|r=>r)
 | .loop b,s=>fY (xk X b) X.L s
 | .rangeFunc f ps assign body,s=>cK X (J2 s.t f) ps.toList assign body s
 | .exit id,s=>ξ (.exit id,s)
 | .scope b,s=>xk X b s
 | .label _,s=>ξ (.normal,s)
 | .goto _,_=>θ
 | .ret,s=>ξ (.ret,s)
 | .refuse _,_=>θ
def eI{X:Ctx}{Z3:CtxF}(A:CtxTo X Z3):∀(c:Code) (s:St),To KX (vG X c s) (xk Z3 c (vw s)):=by
 intro c;induction c with
 |skip=>intro s y g;injection g with g;exact⟨_,ω,g⟩
 |label l=>intro s y g;injection g with g;exact⟨_,ω,g⟩
 |exit id=>intro s y g;injection g with g;exact⟨_,ω,g⟩
 |ret=>intro s y g;injection g with g;exact⟨_,ω,g⟩
 |goto l=>intro s y g;cases g
 |refuse l=>intro s y g;cases g
 |region id ops d=>
  intro s y g;cases d with
  |false=>
   unfold xk at g;simp only at g;split at g;rename_i u hs;injection g with g;subst g;obtain⟨B,p,rfl⟩:=WC A _ _ s _ hs;refine⟨(.normal,B),?_,ω⟩;show(match tM X ops.toList ops.toList s with|some s=>ξ (Ex.normal,s)|none=>θ)=_;rw[p];cases g
  |true=>
   unfold xk at g;simp only at g;split at g;rename_i u hs;injection g with g;subst g;obtain⟨B,p,rfl⟩:=WH A _ _ _ 0 ⟨s,[],[],[]⟩ _ hs;refine⟨(.normal,B),?_,ω⟩;show(match wp X ops.toList ops.toList (xA ops.toList []) 0 ⟨s,[],[],[]⟩with|some s=>ξ (Ex.normal,s)|none=>θ)=_;rw[p];cases g
 |seq a b iha ihb=>
  intro s y g;unfold xk at g;show ∃x,(match vG X a s with|some (.normal,s')=>vG X b s'|r=>r)=ξ x/\KX x=y;split at g;rename_i s' hs;have⟨⟨e,u⟩,p,q⟩:=iha s _ hs;simp only[KX,E5]at q;obtain⟨rfl,rfl⟩:=q;rw[p];exact ihb u y g;rename_i hne;have⟨⟨e,u⟩,p,q⟩:=iha s _ g;subst q;refine⟨(e,u),?_,ω⟩;rw[p];cases e with
  |normal=>exact Cu g (hne _)
  |exit=>rfl
  |ret=>rfl
 |cond c a b iha ihb=>
  intro s y g;unfold xk at g;show ∃x,(match ev s.t c with| U φ=>vG X a s| U χ=>vG X b s|_=>θ)=ξ x/\KX x=y;rw[eK];split at g;rename_i hv';rw[show J2 (nth s.t) c=_ from hv'];exact iha s y g;rename_i hv';rw[show J2 (nth s.t) c=_ from hv'];exact ihb s y g;cases g
 |block id b ihb=>
  intro s y g;unfold xk at g;show ∃x,(match vG X b s with|some (.exit j,s')=>(match DK j id with|true=>ξ (Ex.normal,s')|false=>ξ (.exit j,s'))|r=>r)=ξ x/\KX x=y;split at g;rename_i j s' hs;have⟨⟨e,u⟩,p,q⟩:=ihb s _ hs;simp only[KX,E5]at q;obtain⟨rfl,rfl⟩:=q;rw[p];simp only;split at g;rename_i hj;injection g with g;subst g;first|(rw[hj];exact⟨_,ω,ω⟩)|exact⟨_,ω,ω⟩
  rename_i hj;injection g with g;subst g;first|(rw[hj];exact⟨_,ω,ω⟩)|exact⟨_,ω,ω⟩
  rename_i hne;have⟨⟨e,u⟩,p,q⟩:=ihb s _ g;subst q;refine⟨(e,u),?_,ω⟩;rw[p];cases e with
  |normal=>rfl
  |exit j=>exact Cu g (hne _ _)
  |ret=>rfl
 |loop b ihb=>
  intro s;show To KX (fZ (vG X b) X.L s) (fY (xk Z3 b) Z3.L (vw s));rw[A.L];exact WI ihb _ _
 |scope b ihb=>intro s;exact ihb s
 |rangeFunc f ps asg bd _ _=>
  intro s;show To KX (qQ X (ev s.t f) ps.toList asg bd s) (cK Z3 (J2 (nth s.t) f) ps.toList asg bd (vw s));rw[eK];exact WJ A _ _ _ _ _
def resF(E:Env)(s:SV):List ResultVar->Option (List ψ)
 |[]=>ξ []
 | .tmp t::r=>(match resF E s r with|some l=>ξ (s.t t::l)|none=>θ)
 | .cell a t::r=>
  match s.t a with
  | CH (ξ ad)=>(match yB E t s.h ad,resF E s r with|some v,ξ l=>ξ (v::l)|_,_=>θ)
  |_=>θ
def WK(E:Env)(s:St):∀l,resE E s l=resF E (vw s) l:=by
 intro l;induction l with
 |nil=>rfl
 |cons r l ih=>
  cases r with
  |tmp t=>
   show(match resE E s l with|some l=>ξ (nth s.t t::l)|none=>θ)=(match resF E (vw s) l with|some l=>ξ ((vw s).t t::l)|none=>θ);rw[ih];rfl
  |cell a t=>
   show(match nth s.t a with| CH (ξ ad)=>(match oN E t s.h ad,resE E s l with|some v,ξ l=>ξ (v::l)|_,_=>θ)|_=>θ)=(match (vw s).t a with| CH (ξ ad)=>(match yB E t (vw s).h ad,resF E (vw s) l with|some v,ξ l=>ξ (v::l)|_,_=>θ)|_=>θ);simp only[ih,bg];rfl
def mj(args:List ψ):TF:=λj=>args.getD j undef
theorem WL(args:List ψ)(d:Nat){t:Tr ψ}(h:∀j,nth t j=if 0<=j/\j<0+O args then args.getD (j-0) undef else nth (Tr.mk undef d) j):nth t=mj args:=by grind [mj,Tr.mk,Tr.get_mk]
def WM:∀(args:List ψ) (i:Nat) (t:Tr ψ),∃t',(∀k:Tr ψ->Option β,oq args i t k=k t')/\∀j,nth t' j=if i<=j/\j<i+O args then args.getD (j-i) undef else nth t j:=by
 intro args;induction args with
 |nil=>intro i t;exact⟨t,λk=>rfl,λj=>by rw[Cv eC]⟩
 |cons v args ih=>
  intro i t;have⟨c,b,a⟩:=ih (i+1) (Hn t i v);refine⟨c,λk=>?_,λj=>?_⟩;show Tr.set t i v (λt=>oq args (i+1) t k)=_;rw[Hi,b];rw[a,fT];simp only[DJ,upd];by_cases hj:j=i;subst hj;rw[Cv Z,Cw ω,Cw Z];simp;by_cases hr:i+1<=j/\j<i+1+O args;rw[Cw hr,Cw Z];rw[show j-i=(j-(i+1))+1 from Z];simp;rw[Cv hr,Cv hj,Cv Z]
def qm(vs:List ψ):ψ:=match vs with|[v]=>v|vs=>.tuple ⟨vs⟩
def endF(E:Env)(f:FuncId)(h:HF)(n:Nat)(s:SV)(vs:List ψ):ψ×HF×Nat×List Nat:=
 match E.pure f&&uQ vs,s.w with
 |true,[]=>(qm vs,h,n,[])
 |_,w=>(qm vs,s.h,s.n,w)
def Mg(E:Env)(C:CalF)(L:Nat)(f:FuncId)(args:List ψ)(h:HF)(n:Nat):Option (ψ×HF×Nat×List Nat):=
 match E.fn f with
 |some fn=>
  match fn.body with
  |some body=>
   match Dd (O args) fn.ntmps with
   |true=>
    match xk {E,C,L,round:=θ,n0:=n,nt:=fn.ntmps} body ⟨mj args,h,n,[]⟩with
    |some (.exit _,_)=>θ
    |some (_,s)=>
     match resF E s fn.results.toList with
     |some vs=>ξ (endF E f h n s vs)
     |none=>θ
    |none=>θ
   |false=>θ
  |none=>θ
 |none=>θ
theorem WN{C:Cal}{F:CalF}(u:CalTo C F)(f:FuncId)(args:List ψ)(h:Hp)(n:Nat):To rv (Md E C L f args h n) (Mg E F L f args (hv h) n):=by
 intro y a;unfold Mg at a;unfold Md;split at a
 .rename_i fn hfn;simp only[hfn];split at a
  .rename_i body hb;simp only[hb];split at a
   .rename_i hle;simp only[hle];obtain⟨i,B,A⟩:=WM args 0 (Tr.mk undef E.dT);rw[B];have l:nth i=mj args:=WL args _ A;have o:=eI (X:={E,C,L,round:=θ,n0:=n,nt:=fn.ntmps}) (Z3:={E,C:=F,L,round:=θ,n0:=n,nt:=fn.ntmps}) ⟨rfl,u,rfl,rfl,rfl,rfl⟩ body {t:=i,h,n,w:=[]};have m:vw {t:=i,h,n,w:=[]}=⟨mj args,hv h,n,[]⟩:=by simp[vw,l]
    rw[m]at o;cases he:xk {E,C:=F,L,round:=θ,n0:=n,nt:=fn.ntmps} body ⟨mj args,hv h,n,[]⟩with
    |none=>rw[he]at a;cases a
    |some r=>
     obtain⟨⟨e,s⟩,p,q⟩:=o r he;subst q;rw[he]at a;rw[p];have g:(match resF E (vw s) fn.results.toList with|some c=>ξ (endF E f (hv h) n (vw s) c)|none=>θ)=ξ y->
       ∃x,(match resE E s fn.results.toList with
        |some c=>oU c λc=>(match E.pure f&&uQ c,s.w with
         |true,[]=>ξ ((match c with|[v]=>v|c=>Ia ⟨c⟩),h,n,[])
         |_,w=>ξ ((match c with|[v]=>v|c=>Ia ⟨c⟩),s.h,s.n,w))
        |none=>θ)=ξ x/\rv x=y:=λa=>by
      rw[WK];cases hr:resF E (vw s) fn.results.toList with
      |none=>rw[hr]at a;cases a
      |some c=>
       rw[hr]at a;injection a with a
       subst a;simp only[mT];unfold endF;cases hp:E.pure f&&uQ c with
       |true=>
        cases hw:s.w with
        |nil=>
         rw[show(vw s).w=[]from hw];exact⟨_,rfl,rfl⟩
        |cons b w=>
         rw[show(vw s).w=b::w from hw];exact⟨_,rfl,rfl⟩
       |false=>
        refine⟨_,rfl,?_⟩;rfl
     cases e with
     |exit j=>cases a
     |normal=>exact g a
     |ret=>exact g a
   cases a
  cases a
 cases a
def mK(nt:Nat):List Tmp->List ψ->TF->Option TF
 |p::ps,v::vs,t=>(match Dd nt p with|true=>θ|false=>mK nt ps vs (upd t p v))
 |_,_,t=>ξ t
def WO(nt:Nat):∀(a:List Tmp) (vs:List ψ) (t:Tr ψ) (τ:TF),mK nt a vs (nth t)=ξ τ->∃b,(∀{β:Type} (k:Tr ψ->Option β),vv.setPs nt a vs t k=k b)/\nth b=τ:=by
 intro a;induction a with
 |nil=>intro vs t τ h;unfold mK at h;injection h with h;exact⟨t,λk=>by unfold vv.setPs;rfl,h⟩
 |cons p a ih=>
  intro vs t τ h;cases vs with
  |nil=>unfold mK at h;injection h with h;exact⟨t,λk=>by unfold vv.setPs;rfl,h⟩
  |cons v vs=>
   unfold mK at h;split at h;cases h;rename_i hp;have⟨b,c,e⟩:=ih vs (Hn t p v) τ (by rw[fT];exact h);refine⟨b,λk=>?_,e⟩;unfold vv.setPs;simp only[hp,Hi];exact c k
def Ph(E:Env)(C:CalF)(L:Nat)(l:Nat)(args:List ψ)(h:HF)(n:Nat):Option (ψ×HF×Nat×List Nat):=
 match h l with
 |some (.loop φ θ t0 nt0 ps0 assign0 body0 _)=>
  match DK (O args) (O ps0),mK nt0 ps0 args t0 with
  |true,ξ t1=>
   match xk {E,C,L,round:=ξ l,n0:=n,nt:=nt0} assign0 ⟨t1,h,n,[]⟩with
   |some (.normal,s1)=>
    match s1.h l with
    |some (.loop φ θ t nt ps assign body d)=>
     match xk {E,C,L,round:=ξ l,n0:=n,nt:=nt0} body0 {s1 with h:=upd s1.h l (ξ (.loop χ θ t nt ps assign body d)),w:=l::s1.w}with
     |some (x,s2)=>
      match s2.h l with
      |some (.loop _ _ t nt ps assign body d)=>
       match x with
       | .normal=>ξ (U φ,upd s2.h l (ξ (.loop φ θ t nt ps assign body d)),s2.n,l::s2.w)
       | .ret=>ξ (U χ,upd s2.h l (ξ (.loop χ (ξ .ret) t nt ps assign body d)),s2.n,l::s2.w)
       | .exit id=>ξ (U χ,upd s2.h l (ξ (.loop χ (ξ (.exit id)) t nt ps assign body d)),s2.n,l::s2.w)
      |_=>θ
     |none=>θ
    |_=>θ
   |_=>θ
  |_,_=>θ
 |_=>θ
def pR{x:Blk}{r:Bool}{p:Option Code}{τ:TF}{c:List Tmp}{a b:Code}(h:x.view=.loop r p τ nt c a b d):∃t,x=.loop r p t nt c a b d/\nth t=τ:=by cases x<;>simp[Blk.view]at h;obtain⟨rfl,rfl,rfl,rfl,rfl,rfl,rfl,rfl⟩:=h;exact⟨_,ω,ω⟩
def WP{C:Cal}{F:CalF}(H:CalTo C F)(l:Nat)(args:List ψ)(h:Hp)(n:Nat):To rv (vv E C L l args h n) (Ph E F L l args (hv h) n):=by
 intro y a;unfold Ph at a;unfold vv;split at a;rename_i τ0 nt0 ps0 assign0 body0 d0 hl;have⟨x,I,s⟩:=uC hl;obtain⟨J,rfl,rfl⟩:=pR s;rw[I];simp only;split at a;rename_i τ1 hb hs;simp only[hb];obtain⟨K,B,rfl⟩:=WO nt0 ps0 args J _ hs;rw[B];have m:CtxTo {E,C,L,round:=ξ l,n0:=n,nt:=nt0} {E,C:=F,L,round:=ξ l,n0:=n,nt:=nt0}:=⟨ω,H,ω,ω,ω,ω⟩;split at a;rename_i b he1;have⟨⟨e,b⟩,D,i⟩:=eI m assign0 {t:=K,h,n,w:=[]} _ he1;simp only[KX,E5]at i;obtain⟨rfl,rfl⟩:=i;rw[D];simp only;split at a;rename_i τ nt ps assign body d hl1;have⟨N,p,c⟩:=uC hl1;obtain⟨t,rfl,rfl⟩:=pR c;rw[show Hp.at b.h l=_ from p];simp only[Hi];split at a;rename_i xe u he2;have o:({vw b with h:=upd (vw b).h l (ξ (.loop χ θ (nth t) nt ps assign body d)),w:=l::(vw b).w}:SV)=vw {b with h:=Hn b.h l (ξ (.loop χ θ t nt ps assign body d)),w:=l::b.w}:=(by simp only[vw,uJ];rfl);rw[o]at he2;have⟨⟨A,u⟩,G,j⟩:=eI m body0 _ _ he2;simp only[KX,E5]at j;obtain⟨rfl,rfl⟩:=j;rw[G];simp only;split at a;rename_i r' p' τ' nt' ps' as' bd' d' hl2;have⟨Z1,q,g⟩:=uC hl2;obtain⟨M,rfl,rfl⟩:=pR g;rw[show Hp.at u.h l=_ from q];simp only;cases A with
 |normal=>
  injection a with a;exact B0
 |ret=>
  injection a with a;exact B0
 |exit id=>
  injection a with a;exact B0
 cases a;cases a;cases a;cases a;cases a;cases a
def orcF(orc:FuncId->List ψ->Option ψ)(G:HF->Prop)(f:FuncId)(args:List ψ)(h:HF):Option ψ:=
 open Classical in if G h then orc f args else θ
def calO(E:Env)(L:Nat)(orc:FuncId->List ψ->Option ψ)(G:HF->Prop):Nat->Cal
 |0=>⟨λ_ _ _ _=>θ,λ_ _ _ _=>θ⟩
 |k+1=>⟨λf a h n=>(match orcF orc G f a (hv h)with|some v=>ξ (v,h,n,[])|none=>Md E (calO E L orc G k) L f a h n),λl a h n=>vv E (calO E L orc G k) L l a h n⟩
def calF(E:Env)(L:Nat)(orc:FuncId->List ψ->Option ψ)(G:HF->Prop):Nat->CalF
 |0=>⟨λ_ _ _ _=>θ,λ_ _ _ _=>θ⟩
 |k+1=>⟨λf a h n=>(match orcF orc G f a h with|some v=>ξ (v,h,n,[])|none=>Mg E (calF E L orc G k) L f a h n),λl a h n=>Ph E (calF E L orc G k) L l a h n⟩
def WQ(E:Env)(L:Nat)(c:FuncId->List ψ->Option ψ)(G:HF->Prop):∀k,CalTo (calO E L c G k) (calF E L c G k):=by
 intro k;induction k with
 |zero=>exact⟨λf a h n y b=>(by cases b),λl a h n y b=>(by cases b)⟩
 |succ k ih=>
  refine⟨λf a h n y b=>?_,λl a h n=>WP ih l a h n⟩;have b:(match orcF c G f a (hv h)with|some v=>ξ (v,hv h,n,[])|none=>Mg E (calF E L c G k) L f a (hv h) n)=ξ y:=b;show ∃x,(match orcF c G f a (hv h)with|some v=>ξ (v,h,n,[])|none=>Md E (calO E L c G k) L f a h n)=ξ x/\rv x=y;cases ho:orcF c G f a (hv h)with
  |some v=>rw[ho]at b;injection b with b;subst b;exact⟨_,ω,ω⟩
  |none=>rw[ho]at b;exact WN ih f a h n y b
def Pi(X:Rel)(G:HF->Prop)(f:FuncId)(args:List ψ)(v:ψ):Prop:=
 ∀(k:Nat) (ρ:Ren) (h:Hp) (n:Nat) (w:World),G (hv h)->Sim X ρ h w->Kq (3*n) h->
  (callFunc f (args.map (conc ρ)).toArray).run X.P w=.ok (.enter f (args.map (conc ρ)).toArray) w/\
  CallsIn Fence.wide k X.P f (args.map (conc ρ)).toArray w λe w'=>∃ρ',e=.returned (conc ρ' v)/\Post X ρ n h w [] ρ' v h n w'
def WR{X:Rel}{reg:Array Oper->Bool}(q:EnvOk2 X.E X.P)(L:Nat)(m:∀c,X.ok c↔xf reg c=φ)(s:∀f fn c,X.E.fn f=ξ fn->fn.body=ξ c->xf reg c=φ)
  (p:∀(C:Ctx) ρ0 h0 w0,C.E=X.E->CalOk X C.C->MQ X C ρ0 h0 w0 reg){b:FuncId->List ψ->Option ψ}{G:HF->Prop}(y:∀f args v,b f args=ξ v->Pi X G f args v):∀d,CalOk X (calO X.E L b G d):=by
 intro d;induction d with
 |zero=>exact⟨λf args h n v e j W a=>tp,λl args h n v e j W a=>tp⟩
 |succ d ih=>
  refine⟨λf args h n v e j W a k ρ w i g o=>?_,λl args h n v e j W a k ρ w i g o=>QP q ih m p a k ρ w i g o⟩;have a:(match orcF b G f args (hv h)with|some v=>ξ (v,h,n,[])|none=>Md X.E (calO X.E L b G d) L f args h n)=ξ (v,e,j,W):=a;cases ho:orcF b G f args (hv h)with
  |some u=>
   rw[ho]at a;simp only[HJ,E5]at a;obtain⟨rfl,rfl,rfl,rfl⟩:=a;unfold orcF at ho;split at ho;exact y f args u ho k ρ h n w gY i g;cases ho
  |none=>
   rw[ho]at a;exact bE q ih m s p a k ρ w i g o
def WS{X:Rel}{G:HF->Prop}{C:Cal}(I:CalOk X C){i hx:Hp}{Z1:Nat}(q:C.call f args i n0=ξ (v,hx,Z1,[]))(J:∀x∈args,closed x=φ)(g:closed v=φ)
  (l:∀h:Hp,G (hv h)->∀b x,i.at b=ξ x->h.at b=ξ x)(A:Kq (3*n0) i):Pi X G f args v:=by
 intro k ρ h n w p s N;have B:Sim X ρ i w:=⟨λb x m=>s.blk b x (l h p b x m),λb u m y o=>by
  have⟨x,hx⟩:=Do.1 m;have⟨P,D⟩:=Do.1 y;exact s.inj b u (by rw[l h p b x hx];rfl) (by rw[l h p u P D];rfl) o⟩
 have⟨F,H⟩:=I.call _ _ _ _ _ _ _ _ q k ρ w B A (λx hx=>Nb.closed (J x hx));refine⟨F,H.mono λe R⟨S,o,a⟩=>⟨ρ,by rw[o,yA g,yA g],?_⟩⟩;exact(Post.refl s N (Nb.closed g)).grow (λj M=>a.fr j M λc K=>by cases K) a.size a.os a.tape a.out
end Go.GL
/- The sanity check of the laws returns true: a closed run of the evaluator. -/
namespace Go.Proofs.YtdeaddceicfanaaGreatDoor
open Go Go.GL
namespace GK
def u(k:IntKind)(l:List Int):List ψ:=l.map λn=>CC k n
def d64:List ψ:=u .u8 [0,1,56,2,57,49,28,3,61,58,42,50,38,29,17,4,62,47,59,36,45,43,51,22,53,39,33,30,24,18,12,5,63,55,48,27,60,41,37,16,46,35,44,21,52,32,23,11,54,26,40,15,34,20,31,10,25,14,19,9,13,8,7,6]
def p10:List ψ:=u .u64 [1,10,100,1000,10000,100000,1000000,10000000,100000000,1000000000,10000000000,100000000000,1000000000000,10000000000000,100000000000000,1000000000000000,10000000000000000,100000000000000000,1000000000000000000,10000000000000000000]
def d32:List ψ:=u .u8 [0,1,28,2,29,14,24,3,30,22,20,15,25,17,4,8,31,27,13,23,21,19,16,7,26,12,18,6,11,5,10,9]
def h0:Hp:=Hn (Hn (Hn (Tr.mk θ 13) 3 (ξ (.ro d64))) 0 (ξ (.ro p10))) 12 (ξ (.ro d32))
def Pj:Option (ψ×Hp×Nat×List Nat)->Bool
 |some (U φ,_,_,[])=>φ
 |_=>χ
def WT{r:Option (ψ×Hp×Nat×List Nat)}(h:Pj r=φ):∃hx nx,r=ξ (U φ,hx,nx,[]):=by unfold Pj at h;split at h;exact⟨_,_,ω⟩;cases h
set_option maxRecDepth 1000000 in
def WU:Pj ((calN Kc 1000000 60).call 5 [] h0 20)=φ:=by kernel_rfl
def QZ(b:Nat):h0.at b=if b=12 then ξ (.ro d32)else if b=0 then ξ (.ro p10)else if b=3 then ξ (.ro d64)else θ:=by unfold h0;show Tr.get θ _ b=_;rw[Iy θ ω,Iy θ ω,Iy θ ω,Tr.get_mk]
def nb_u{k:IntKind}{l:List Int}{m:Nat}:∀v∈u k l,Nb m v:=λv a=>by
 unfold u at a;rw[List.mem_map]at a;obtain⟨n,_,rfl⟩:=a;exact Nb.int
def WX:Kq (3*20) h0:=λb x a=>by
 rw[QZ]at a;split at a
 .rename_i e;exact B6
 split at a
 .rename_i e;exact B6
 split at a
 .rename_i e;exact B6
 cases a
def G(h:HF):Prop:=h 3=ξ (.ro d64)/\h 0=ξ (.ro p10)/\h 12=ξ (.ro d32)
def gM{x:Blk}{c:List ψ}(h:x.view=.ro c):x=.ro c:=by cases x<;>simp[Blk.view]at h;subst h;rfl
def G_at{h:Hp}(l:G (hv h)):∀b x,h0.at b=ξ x->h.at b=ξ x:=λb x a=>by
 have⟨g,i,j⟩:=l;have⟨q,c,m⟩:=uC g;have⟨s,d,o⟩:=uC i;have⟨u,f,p⟩:=uC j;rw[QZ]at a;split at a
 .rename_i e;injection a with a;subst e a;rw[f,gM p]
 split at a
 .rename_i e;injection a with a;subst e a;rw[d,gM o]
 split at a
 .rename_i e;injection a with a;subst e a;rw[c,gM m]
 cases a
def orc(f:FuncId)(a:List ψ):Option ψ:=
 match DK f 5 with
 |true=>(match a with|[]=>ξ (U φ)|_=>θ)
 |false=>θ
def orc_ok:∀f a v,orc f a=ξ v->Pi MS G f a v:=λf a v h=>by
 unfold orc at h;split at h
 .rename_i b;have b:=DC b;subst b;split at h
  .injection h with h
   subst h;have⟨c,g,e⟩:=WT WU;exact WS (Wr 1000000 60) e (λx c=>Cu c CO) ω (λh d=>G_at d) WX
  cases h
 cases h
end GK
def LL:Nat:=1180591620717411303424
def J4(k:Nat):CalF:=calF Kc LL GK.orc GK.G k
def WY(k:Nat):CalOk MS (calO Kc LL GK.orc GK.G k):=
 WR (X:=MS) (reg:=regOk) bK LL (λ_=>GM) bM (λC e c d b a=>mW bK b a) GK.orc_ok k
def W0(k:Nat):CalTo (calO Kc LL GK.orc GK.G k) (J4 k):=WQ Kc LL GK.orc GK.G k
def W1(k:Nat){h:HF}(a:GK.G h)(n:Nat):(J4 (k+1)).call 5 [] h n=ξ (U φ,h,n,[]):=by show(match orcF GK.orc GK.G 5 [] h with|some v=>ξ (v,h,n,[])|none=>Mg Kc (J4 k) LL 5 [] h n)=_;unfold orcF;rw[Cw a];rfl
def W2(k:Nat){f:FuncId}{a:List ψ}(b:GK.orc f a=θ)(h:HF)(n:Nat):(J4 (k+1)).call f a h n=Mg Kc (J4 k) LL f a h n:=by show(match orcF GK.orc GK.G f a h with|some v=>ξ (v,h,n,[])|none=>Mg Kc (J4 k) LL f a h n)=_;have:orcF GK.orc GK.G f a h=θ:=(by unfold orcF;rw[b];split<;>rfl);rw[this]
end Go.Proofs.YtdeaddceicfanaaGreatDoor
namespace Go.GL
open Go
variable{ops r:List Oper}{n m i bytes size cap len off id bt n' n0 sz j l b c a:Nat}{o:Oper}{w ms W:List Nat}{d:Tmp}{al ld:List (Nat×Nat)}{v z:ψ}{ty e ty' xT t:TypeId}{args new cs vs:List ψ}{E:Env}{ik' ik:IntKind}{pos:String}{α β:Type}{af:Array Edge}{x y:Operand}{f:FuncId}{g:Option (Nat×Bool)}
variable{u:Nat}{sT:TypeId}{h h':HF}
def EC(X:CtxF)(c:Code)(s:SV)(Q:Ex->SV->Prop):Prop:=∃e s',xk X c s=ξ (e,s')/\Q e s'
abbrev qt(X:CtxF)(ops:List Oper)(t:TF)(o:Oper)(d:Tmp)(P:Prop):Prop:=zh ops t o=φ/\o.dst=ξ d/\zv X.nt (ξ d)=φ/\P
def EO(X:CtxF)(ops l:List Oper)(s:SV)(Q:SV->Prop):Prop:=∃s',seqF X ops l s=ξ s'/\Q s'
def CF(C:CalF)(f:FuncId)(args:List ψ)(h:HF)(n:Nat)(Q:ψ->HF->Nat->List Nat->Prop):Prop:=∃v h' n' w,C.call f args h n=ξ (v,h',n',w)/\Q v h' n' w
theorem vH{e:Ex}{s:SV}{R:Ex->SV->Prop}:(∃e' s',ξ (e,s)=ξ (e',s')/\R e' s')↔R e s:=by grind
section
variable{X:CtxF}{s:SV}{Q:Ex->SV->Prop}
def sW{c:Code}{a:Ex->SV->Prop}(h:EC X c s Q)(q:∀e s,Q e s->a e s):EC X c s a:=by have⟨e,u,b,p⟩:=h;exact⟨e,u,b,q _ _ p⟩
theorem yu:EC X .skip s Q↔Q .normal s:=by grind [EC,xk]
theorem W3:EC X (.exit i) s Q↔Q (.exit i) s:=by grind [EC,xk]
theorem W5:EC X .ret s Q↔Q .ret s:=by grind [EC,xk]
theorem W6:EC X (.label l) s Q↔Q .normal s:=by grind [EC,xk]
def W7{c:Code}:EC X (.scope c) s Q↔EC X c s Q:=GM
def after(X:CtxF)(b:Code)(Q:Ex->SV->Prop):Ex->SV->Prop
 | .normal,s=>EC X b s Q
 |e,s=>Q e s
def zK{b:Code}:after X b Q .normal s↔EC X b s Q:=GM
def W9{b:Code}:after X b Q (.exit i) s↔Q (.exit i) s:=GM
def Xa{b:Code}:after X b Q .ret s↔Q .ret s:=GM
def yY{a b:Code}:EC X (.seq a b) s Q↔EC X a s (after X b Q):=by
 unfold EC;rw[xk];cases h:xk X a s with
 |none=>simp
 |some r=>
  have⟨e,c⟩:=r;cases e<;>simp only[vH]<;>exact GM
def pp(id:Nat)(Q:Ex->SV->Prop):Ex->SV->Prop
 | .exit j,s=>if j=id then Q .normal s else Q (.exit j) s
 |e,s=>Q e s
def iG:pp id Q .normal s↔Q .normal s:=GM
def Xb:pp id Q .ret s↔Q .ret s:=GM
def Xc:pp id Q (.exit j) s↔if j=id then Q .normal s else Q (.exit j) s:=GM
theorem Q0{b:Code}:EC X (.block id b) s Q↔EC X b s (pp id Q):=by
 unfold EC;rw[xk];cases h:xk X b s with
 |none=>simp
 |some r=>
  have⟨e,a⟩:=r;cases e with
  |exit j=>
   by_cases hj:j=id;subst hj;simp only[HK,vH,pp,if_true];have:DK j id=χ:=by grind [DK,DC]
   simp only[this,vH,pp,Cv hj]
  |normal=>simp only[vH,pp]
  |ret=>simp only[vH,pp]
def ze{c:Operand}{a b:Code}(h:J2 s.t c=U φ):EC X (.cond c a b) s Q↔EC X a s Q:=by unfold EC;rw[xk,h]
def za{c:Operand}{a b:Code}(h:J2 s.t c=U χ):EC X (.cond c a b) s Q↔EC X b s Q:=by unfold EC;rw[xk,h]
def ug{ops:Array Oper}:EC X (.region id ops χ) s Q↔EO X ops.toList ops.toList s (Q .normal):=by
 unfold EC EO;rw[xk];cases h:seqF X ops.toList ops.toList s with
 |none=>simp
 |some r=>simp only[vH];simp
def Xd{c:Code}(I:Nat->SV->Prop)(p:∀m s,I m s->EC X c s λe a=>match e with| .normal=>∃b,b<m/\I b a|e=>Q e a)(u:I m s)(hm:m<X.L):EC X (.loop c) s Q:=by
 have A:∀(L m:Nat) (s:SV),m<L->I m s->∃e a,fY (xk X c) L s=ξ (e,a)/\Q e a:=by
  intro L;induction L with
  |zero=>intro m s hm;exact Cu hm (Nat.not_lt_zero _)
  |succ L ih=>
   intro m s hm u;have⟨e,C,B,q⟩:=p m s u;unfold fY;rw[B];cases e with
   |normal=>
    have⟨b,D,y⟩:=q;exact ih b C Z y
   |exit i=>exact⟨_,_,ω,q⟩
   |ret=>exact⟨_,_,ω,q⟩
 exact A X.L m s hm u
end
section
variable{X:CtxF}{s:SV}{Q:SV->Prop}{d:Option Tmp}
theorem xg:EO X ops [] s Q↔Q s:=by grind [EO,seqF]
def Xe{l:List Oper}{a:SV->Prop}(h:EO X ops l s Q)(p:∀s,Q s->a s):EO X ops l s a:=by have⟨q,b,c⟩:=h;exact⟨q,b,p _ c⟩
def Xf(b:zh ops s.t o=χ)(a:zv X.nt o.dst=φ):EO X ops (o::r) s Q↔EO X ops r ⟨putF s.t o.dst undef,s.h,s.n,s.w⟩ Q:=by unfold EO;rw[seqF,b];simp only[xH,a,addW]
def Xg(c:zh ops s.t o=φ)(b:zv X.nt o.dst=φ)(a:Kd o.op=0)(hv:yy X.E o.op (J2 s.t)=ξ v):
  EO X ops (o::r) s Q↔EO X ops r ⟨putF s.t o.dst v,s.h,s.n,s.w⟩ Q:=by unfold EO;rw[seqF,c];simp only[KO,a,hv,xH,b,addW]
theorem Xh(p:zh ops s.t o=φ)(a:zv X.nt o.dst=φ)(b:o.op=.convert t e x)(hb:vI X.E t e (J2 s.t x)=θ)(c:rX X.E t e (J2 s.t x) s.h=θ)(hv:kZ X.E t e (J2 s.t x)=ξ v):
  EO X ops (o::r) s Q↔EO X ops r ⟨putF s.t o.dst v,s.h,s.n,s.w⟩ Q:=by simp_all [EO,seqF,Kd,Kl,J2,θ,yy,hv,only,KO,xH,addW]
theorem Xi{a:Addr}(q:zh ops s.t o=φ)(c:zv X.nt o.dst=φ)(p:o.op=.load t x)(b:J2 s.t x=CH (ξ a))(hv:yB X.E t s.h a=ξ v):
  EO X ops (o::r) s Q↔EO X ops r ⟨putF s.t o.dst v,s.h,s.n,s.w⟩ Q:=by simp_all [EO,seqF,Kd,po,J2,only,hv,KO,xH,addW]
def jm{m:Mk}(p:zh ops s.t o=φ)(b:zv X.nt o.dst=φ)(a:Kd o.op=2)(hm:Kl X.E o.op (J2 s.t)=ξ m):
  EO X ops (o::r) s Q↔EO X ops r ⟨putF s.t o.dst (m.val s.n),upd s.h (m.name s.n) (ξ (.row m.c m.e)),s.n+1,s.w⟩ Q:=by unfold EO;rw[seqF,p];simp only[KO,a,hm,Mf,xH,b,addW]
def rS(p:zh ops s.t o=φ)(b:zv X.nt o.dst=φ)(a:Kd o.op=3)(c:effF X.E o.op (J2 s.t) s.h s.n=ξ (.val v h n w)):
  EO X ops (o::r) s Q↔EO X ops r ⟨putF s.t o.dst v,h,n,addW X.n0 w s.w⟩ Q:=by unfold EO;rw[seqF,p];simp only[KO,a,mf,c,xH,b]
def Xj(P:ψ->HF->Nat->List Nat->Prop)(A:zh ops s.t o=φ)(q:zv X.nt o.dst=φ)(p:Kd o.op=3)(u:effF X.E o.op (J2 s.t) s.h s.n=ξ (.enter f args))(a:CF X.C f args s.h s.n P)
  (h:∀v h n w,P v h n w->EO X ops r ⟨putF s.t o.dst v,h,n,addW X.n0 w s.w⟩ Q):EO X ops (o::r) s Q:=by have⟨v,c,B,D,b,y⟩:=a;have:=h v c B D y;unfold EO at this⊢;rw[seqF,A];simp only[KO,p,mf,u,b,xH,q];exact this
end
def oL:∀(l:List Oper) (acc:List Nat),O (xA l acc)=O acc+O l:=by
 intro l;induction l with
 |nil=>intro acc;simp[xA]
 |cons o l ih=>intro acc;simp[xA,ih];omega
def Xk{X:CtxF}{ops:List Oper}:∀(l:List Oper) (ms:List Nat) (i:Nat) (s:SV) (ld:List (Nat×Nat)),O l<=O ms->l.all (λo=>HI (Kd o.op) 2)=φ->mL X ops l ms i ⟨s,[],ld,[]⟩=seqF X ops l s:=by
 intro l;induction l with
 |nil=>intro ms i s ld _ _;simp[mL,seqF]
 |cons o l ih=>
  intro ms i s ld q p;cases ms with
  |nil=>simp at q
  |cons m ms=>
   simp only[JW,DI]at p;have a:O l<=O ms:=by simpa using q
   have u:Kd o.op<2:=Da p.1;unfold mL seqF;simp only;cases hw:zh ops s.t o with
   |false=>
    simp only;congr 1;funext s1;exact ih ms (i+1) s1 ld a p.2
   |true=>
    simp only;unfold rL KO;cases hc:Kd o.op with
    |zero=>
     simp only[hc];cases yy X.E o.op (J2 s.t)with
     |none=>rfl
     |some v=>
      simp only;congr 1;funext s1;exact ih ms (i+1) s1 ld a p.2
    |succ c=>
     cases c with
     |zero=>
      simp only[hc,wn];cases po X.E o.op (J2 s.t) s.h with
      |none=>rfl
      |some vb=>
       have⟨v,b⟩:=vb;simp only[Lo,qn,DT];congr 1;funext s1;exact ih ms (i+1) s1 _ a p.2
     |succ c=>omega
def N7{X:CtxF}{ops:Array Oper}{s:SV}{Q:Ex->SV->Prop}(a:ops.toList.all (λo=>HI (Kd o.op) 2)=φ):EC X (.region id ops φ) s Q↔EO X ops.toList ops.toList s (Q .normal):=by
 unfold EC EO;rw[xk];rw[Xk _ _ _ _ _ (by rw[oL];simp) a];cases h:seqF X ops.toList ops.toList s with
 |none=>simp
 |some r=>simp only[vH];simp
def gk(t:TF):List (Nat×ψ)->TF
 |[]=>t
 |(i,v)::r=>upd (gk t r) i v
def tJ(t:TF):List (Nat×ψ)->Prop
 |[]=>True
 |(i,v)::r=>t i=v/\tJ t r
def wU{t:TF}:∀{l:List (Nat×ψ)},tJ t l->gk t l=t:=by
 intro l;induction l with
 |nil=>intro _;rfl
 |cons p l ih=>
  intro h;have⟨i,v⟩:=p;have⟨a,g⟩:=h;show upd (gk t l) i v=t;rw[ih g,upd_self a]
def cut(l:List (Nat×ψ))(I:HF->Nat->List Nat->Prop)(Q:Ex->SV->Prop):Ex->SV->Prop
 | .normal,s=>tJ s.t l/\I s.h s.n s.w
 |e,s=>Q e s
def Le{l:List (Nat×ψ)}{I:HF->Nat->List Nat->Prop}{Q:Ex->SV->Prop}{s:SV}(a:tJ s.t l)(g:I s.h s.n s.w):cut l I Q .normal s:=⟨a,g⟩
def Xl{l:List (Nat×ψ)}{I:HF->Nat->List Nat->Prop}{Q:Ex->SV->Prop}{s:SV}:cut l I Q (.exit i) s↔Q (.exit i) s:=GM
def Xm{l:List (Nat×ψ)}{I:HF->Nat->List Nat->Prop}{Q:Ex->SV->Prop}{s:SV}:cut l I Q .ret s↔Q .ret s:=GM
def Mz{X:CtxF}{a b:Code}{s:SV}{Q:Ex->SV->Prop}(l:List (Nat×ψ))(I:HF->Nat->List Nat->Prop)(u:EC X a s (cut l I (after X b Q)))(hb:∀t h n w,I h n w->EC X b ⟨gk t l,h,n,w⟩ Q):EC X a s (after X b Q):=by
 refine sW u λe g j=>?_;cases e with
 |normal=>
  have⟨p,q⟩:=j;have:=hb g.t g.h g.n g.w q;rw[wU p]at this;exact this
 |exit i=>exact j
 |ret=>exact j
def qY{α:Type}(live:α->List (Nat×ψ))(I:α->HF->Nat->List Nat->Prop)(μ:α->Nat)(a:α)(Q:Ex->SV->Prop):Ex->SV->Prop
 | .normal,s=>∃a',μ a'<μ a/\tJ s.t (live a')/\I a' s.h s.n s.w
 |e,s=>Q e s
def goOn{g:α->List (Nat×ψ)}{I:α->HF->Nat->List Nat->Prop}{μ:α->Nat}{a:α}{Q:Ex->SV->Prop}{s:SV}(j:α)(p:μ j<μ a)(q:tJ s.t (g j))(h3:I j s.h s.n s.w):qY g I μ a Q .normal s:=⟨j,p,q,h3⟩
def er{g:α->List (Nat×ψ)}{I:α->HF->Nat->List Nat->Prop}{μ:α->Nat}{a:α}{Q:Ex->SV->Prop}{s:SV}:qY g I μ a Q (.exit i) s↔Q (.exit i) s:=GM
def Xn{g:α->List (Nat×ψ)}{I:α->HF->Nat->List Nat->Prop}{μ:α->Nat}{a:α}{Q:Ex->SV->Prop}{s:SV}:qY g I μ a Q .ret s↔Q .ret s:=GM
def ye{X:CtxF}{c:Code}{t:TF}{h:HF}{n:Nat}{w:List Nat}{Q:Ex->SV->Prop}(g:α->List (Nat×ψ))(I:α->HF->Nat->List Nat->Prop)(μ:α->Nat)(a:α)(q:tJ t (g a))(p:I a h n w)(hm:μ a<X.L)
  (j:∀a t h n w,I a h n w->EC X c ⟨gk t (g a),h,n,w⟩ (qY g I μ a Q)):EC X (.loop c) ⟨t,h,n,w⟩ Q:=by
 refine Xd (I:=λm s=>∃a,μ a=m/\tJ s.t (g a)/\I a s.h s.n s.w) ?_ ⟨a,ω,q,p⟩ hm;rintro m⟨t,h,n,w⟩⟨a,rfl,q,p⟩;have:=j a t h n w p;rw[wU q]at this;refine sW this λe s u=>?_;cases e with
 |normal=>
  have⟨A,B,C,D⟩:=u;exact⟨μ A,B,A,ω,C,D⟩
 |exit i=>exact u
 |ret=>exact u
section
variable{X:CtxF}{t:TF}{h:HF}{Q:SV->Prop}
def Nw(a:zh ops t o=χ/\o.dst=ξ d/\zv X.nt (ξ d)=φ)(k:EO X ops r ⟨upd t d undef,h,n,w⟩ Q):EO X ops (o::r) ⟨t,h,n,w⟩ Q:=by have⟨a,g,j⟩:=a;rw[Xf a (by rw[g];exact j),g];exact k
def zZ(a:qt X ops t o d (Kd o.op=0))(hv:yy X.E o.op (J2 t)=ξ v)(k:EO X ops r ⟨upd t d v,h,n,w⟩ Q):EO X ops (o::r) ⟨t,h,n,w⟩ Q:=by have⟨a,g,p,j⟩:=a;rw[Xg a (by rw[g];exact p) j hv,g];exact k
def ZF{p:BinOp}{ty ty':TypeId}{x y:Operand}{A B v:ψ}(c:qt X ops t o d (o.op=.binOp p ty x y ty'/\J2 t x=A/\J2 t y=B))(e:binE X.E p ty A B=ξ v)(k:EO X ops r ⟨upd t d v,h,n,w⟩ Q):EO X ops (o::r) ⟨t,h,n,w⟩ Q:=by have⟨a,b,c,f,g,j⟩:=c;refine zZ ⟨a,b,c,o0⟩ ?_ k;rw[f];show binE X.E p ty (J2 t x) (J2 t y)=_;rw[g,j];exact e
def st_I{a:Int}(g:qt X ops t o d (Kd o.op=0/\yy X.E o.op (J2 t)=ξ (CC ik a)))(k:EO X ops r ⟨upd t d (CC ik a),h,n,w⟩ Q):EO X ops (o::r) ⟨t,h,n,w⟩ Q:=by exact BZ
def st_B{a:Bool}(g:qt X ops t o d (Kd o.op=0/\yy X.E o.op (J2 t)=ξ (U a)))(k:EO X ops r ⟨upd t d (U a),h,n,w⟩ Q):EO X ops (o::r) ⟨t,h,n,w⟩ Q:=by exact BZ
def st_S{a:Option Addr}(g:qt X ops t o d (Kd o.op=0/\yy X.E o.op (J2 t)=ξ (Y a l c)))(k:EO X ops r ⟨upd t d (Y a l c),h,n,w⟩ Q):EO X ops (o::r) ⟨t,h,n,w⟩ Q:=by exact BZ
def st_P(a:qt X ops t o d (Kd o.op=0/\yy X.E o.op (J2 t)=ξ (CH (ξ ⟨b,off,θ⟩))))(k:EO X ops r ⟨upd t d (CH (ξ ⟨b,off,θ⟩)),h,n,w⟩ Q):EO X ops (o::r) ⟨t,h,n,w⟩ Q:=by exact BI
def st_T{s:ByteArray}(a:qt X ops t o d (Kd o.op=0/\yy X.E o.op (J2 t)=ξ (CG s)))(k:EO X ops r ⟨upd t d (CG s),h,n,w⟩ Q):EO X ops (o::r) ⟨t,h,n,w⟩ Q:=by exact BI
def st_A{cs:Array ψ}(a:qt X ops t o d (Kd o.op=0/\yy X.E o.op (J2 t)=ξ (.agg cs)))(k:EO X ops r ⟨upd t d (.agg cs),h,n,w⟩ Q):EO X ops (o::r) ⟨t,h,n,w⟩ Q:=by exact BI
def st_U{cs:Array ψ}(a:qt X ops t o d (Kd o.op=0/\yy X.E o.op (J2 t)=ξ (.tuple cs)))(k:EO X ops r ⟨upd t d (.tuple cs),h,n,w⟩ Q):EO X ops (o::r) ⟨t,h,n,w⟩ Q:=by exact BI
def LM{x:Int}(h: -9223372036854775808<=x/\x<9223372036854775808):Df .i64 x=x:=by simp only[Df,Fw,Em];simp;omega
def uI{x:Operand}{a b:Int}(j:qt X ops t o d (o.op=.binOp .add ty x y ty'/\J2 t x=CC .i64 a/\J2 t y=CC .i64 b))(g: -9223372036854775808<=a+b/\a+b<9223372036854775808)
  (k:EO X ops r ⟨upd t d (CC .i64 (a+b)),h,n,w⟩ Q):EO X ops (o::r) ⟨t,h,n,w⟩ Q:=by refine ZF j ?_ k;show ξ (CC .i64 (Df .i64 (a+b)))=_;rw[LM g]
def qO{x:Operand}{a b:Int}(j:qt X ops t o d (o.op=.binOp .sub ty x y ty'/\J2 t x=CC .i64 a/\J2 t y=CC .i64 b))(g: -9223372036854775808<=a-b/\a-b<9223372036854775808)
  (k:EO X ops r ⟨upd t d (CC .i64 (a-b)),h,n,w⟩ Q):EO X ops (o::r) ⟨t,h,n,w⟩ Q:=by refine ZF j ?_ k;show ξ (CC .i64 (Df .i64 (a-b)))=_;rw[LM g]
def st_mul{x:Operand}{a b:Int}(s:zh ops t o=φ)(j:o.dst=ξ d)(p:zv X.nt (ξ d)=φ)(g:o.op=.binOp .mul ty x y ty')(hx:J2 t x=CC .i64 a)(u:J2 t y=CC .i64 b)(q: -9223372036854775808<=a*b/\a*b<9223372036854775808)
  (k:EO X ops r ⟨upd t d (CC .i64 (a*b)),h,n,w⟩ Q):EO X ops (o::r) ⟨t,h,n,w⟩ Q:=by refine zZ ⟨s,j,p,Av⟩ ?_ k;rw[g];show binE X.E .mul ty (J2 t x) (J2 t y)=_;rw[hx,u];show ξ (CC .i64 (Df .i64 (a*b)))=_;rw[LM q]
def Q1{x:Operand}{a b:Int}(j:qt X ops t o d (o.op=.binOp .rem ty x y ty'/\J2 t x=CC ik a/\J2 t y=CC ik b))(g:b≠0)
  (k:EO X ops r ⟨upd t d (CC ik (a.tmod b)),h,n,w⟩ Q):EO X ops (o::r) ⟨t,h,n,w⟩ Q:=by
 refine ZF j ?_ k;have:ikEq ik ik=φ:=by cases ik<;>rfl
 simp only[binE,isSh,this,intE,Cv g]
def yC(ik:IntKind):ikEq ik ik=φ:=by cases ik<;>rfl
def lW{x:Operand}{a b:Int}(g:qt X ops t o d (o.op=.binOp .lss ty x y ty'/\J2 t x=CC ik a/\J2 t y=CC ik b))
  (k:EO X ops r ⟨upd t d (U (decide (a<b))),h,n,w⟩ Q):EO X ops (o::r) ⟨t,h,n,w⟩ Q:=by refine ZF g ?_ k;simp only[binE,isSh,yC,intE,N4]
def Ny{x:Operand}{a b:Int}(g:qt X ops t o d (o.op=.binOp .leq ty x y ty'/\J2 t x=CC ik a/\J2 t y=CC ik b))
  (k:EO X ops r ⟨upd t d (U (decide (a<=b))),h,n,w⟩ Q):EO X ops (o::r) ⟨t,h,n,w⟩ Q:=by refine ZF g ?_ k;simp only[binE,isSh,yC,intE,gF]
def MU{x:Operand}{a b:Int}(g:qt X ops t o d (o.op=.binOp .gtr ty x y ty'/\J2 t x=CC ik a/\J2 t y=CC ik b))
  (k:EO X ops r ⟨upd t d (U (decide (b<a))),h,n,w⟩ Q):EO X ops (o::r) ⟨t,h,n,w⟩ Q:=by refine ZF g ?_ k;simp only[binE,isSh,yC,intE,N4]
def MA{x:Operand}{a b:Int}(g:qt X ops t o d (o.op=.binOp .geq ty x y ty'/\J2 t x=CC ik a/\J2 t y=CC ik b))
  (k:EO X ops r ⟨upd t d (U (decide (b<=a))),h,n,w⟩ Q):EO X ops (o::r) ⟨t,h,n,w⟩ Q:=by refine ZF g ?_ k;simp only[binE,isSh,yC,intE,gF]
def Mh{x:Operand}{a b:Int}(g:qt X ops t o d (o.op=.binOp .eql ty x y ty'/\J2 t x=CC ik a/\J2 t y=CC ik b))
  (k:EO X ops r ⟨upd t d (U (decide (a=b))),h,n,w⟩ Q):EO X ops (o::r) ⟨t,h,n,w⟩ Q:=by refine ZF g ?_ k;simp only[binE,isSh,yC,intE,gG];rfl
def N8{x:Operand}{a b:Int}(g:qt X ops t o d (o.op=.binOp .neq ty x y ty'/\J2 t x=CC ik a/\J2 t y=CC ik b))
  (k:EO X ops r ⟨upd t d (U (!decide (a=b))),h,n,w⟩ Q):EO X ops (o::r) ⟨t,h,n,w⟩ Q:=by refine ZF g ?_ k;simp only[binE,isSh,yC,intE,gG];rfl
theorem wO(b o k:Nat):Addr.add ⟨b,o,θ⟩ k=⟨b,o+k,θ⟩:=pM _ ω k
def Lw{e:TypeId}{x i:Operand}{z:ψ}{j:Int}(a:qt X ops t o d (o.op=.indexAddr ty x i/\X.E.und ty=ξ (.slice e)/\X.E.inf e=ξ (sz,bt,z)/\J2 t x=Y (ξ ⟨b,off,θ⟩) len cap/\J2 t i=CC ik j))(A:0<=j/\j<len)(k:EO X ops r ⟨upd t d (CH (ξ ⟨b,off+j.toNat*sz,θ⟩)),h,n,w⟩ Q):EO X ops (o::r) ⟨t,h,n,w⟩ Q:=by have⟨a,p,u,g,B,q,C,s⟩:=a;refine zZ ⟨a,p,u,Av⟩ ?_ k;rw[g];show yV X.E ty (J2 t x) (J2 t i)=_;rw[C,s];simp only[yV,B,q,Cw A,wO]
def nJ{E:Env}{h:HF}{x:BF}{c:List ψ}(p:isAgg E ty=ξ χ)(hb:h b=ξ x)(hx:x.cells=ξ c/\c[off]?=ξ v):yB E ty h ⟨b,off,θ⟩=ξ v:=by have⟨hx,g⟩:=hx;have a:=(CK.1 g).1;have j:Dd (off+1) (O c)=φ:=CP a;have:(c.drop off).take 1=[v]:=(by rw[EG a];simp[(CK.1 g).2]);simp only[yB,p,LI,hb,hx,j,FH,DT,this]
theorem yw{E:Env}{h:HF}{z:ψ}{x:BF}{c:List ψ}(a:isAgg E ty=ξ φ/\E.inf ty=ξ (sz,bt,z))(hb:h b=ξ x)(hx:x.cells=ξ c)(p:off+sz<=O c)(g:(c.drop off).take sz=cs):yB E ty h ⟨b,off,θ⟩=ξ (.agg cs.toArray):=by have⟨a,j⟩:=a;grind [only,yB,LI,Dd,CP,FH,DT]
def z7{x:Operand}{a:Addr}(g:qt X ops t o d (o.op=.load ty x/\J2 t x=CH (ξ a)))(hv:yB X.E ty h a=ξ v)
  (k:EO X ops r ⟨upd t d v,h,n,w⟩ Q):EO X ops (o::r) ⟨t,h,n,w⟩ Q:=by have⟨g,j,p,q,s⟩:=g;rw[Xi g (by rw[j];exact p) q s hv,j];exact k
def zT{x:Operand}{y:BF}{c:List ψ}(a:qt X ops t o d (o.op=.load ty x/\isAgg X.E ty=ξ χ/\J2 t x=CH (ξ ⟨b,off,θ⟩)))(hb:h b=ξ y)(g:y.cells=ξ c/\c[off]?=ξ v)
  (k:EO X ops r ⟨upd t d v,h,n,w⟩ Q):EO X ops (o::r) ⟨t,h,n,w⟩ Q:=by have⟨a,q,s,u,j,A⟩:=a;have⟨g,p⟩:=g;exact z7 ⟨a,q,s,u,A⟩ (nJ j hb ⟨g,p⟩) k
def xV{e:TypeId}{z:ψ}(a:qt X ops t o d (o.op=.alloc e/\X.E.inf e=ξ (sz,bt,z)))
  (k:EO X ops r ⟨upd t d (ε (3*n+2)),upd h (3*n+2) (ξ (.row (zn z) e)),n+1,w⟩ Q):EO X ops (o::r) ⟨t,h,n,w⟩ Q:=by
 have⟨a,g,s,j,p⟩:=a;have q:Kl X.E o.op (J2 t)=ξ ⟨zn z,e,χ,θ⟩:=by rw[j];simp only[Kl,p]
 rw[jm a (by rw[g];exact s) (by rw[j];rfl) q,g];exact k
def pZ{e:TypeId}(a:qt X ops t o d (Kd o.op=2/\Kl X.E o.op (J2 t)=ξ ⟨cs,e,χ,ξ (l,c)⟩))
  (k:EO X ops r ⟨upd t d (Y (ξ ⟨3*n+2,0,θ⟩) l c),upd h (3*n+2) (ξ (.row cs e)),n+1,w⟩ Q):EO X ops (o::r) ⟨t,h,n,w⟩ Q:=by exact Cf
def Lb{e:TypeId}(a:qt X ops t o d (Kd o.op=2/\Kl X.E o.op (J2 t)=ξ ⟨cs,e,χ,θ⟩))
  (k:EO X ops r ⟨upd t d (ε (3*n+2)),upd h (3*n+2) (ξ (.row cs e)),n+1,w⟩ Q):EO X ops (o::r) ⟨t,h,n,w⟩ Q:=by exact Cf
def Xo(m:Nat)(z:ψ):rep m [z]=CI m z:=by
 induction m with
 |zero=>rfl
 |succ m ih=>show[z]++rep m [z]=_;rw[ih];rfl
def vB{e:TypeId}{l c:Operand}{z:ψ}(g:qt X ops t o d (o.op=.makeSlice ty l c/\X.E.und ty=ξ (.slice e)/\X.E.inf e=ξ (sz,bt,z)/\J2 t l=CC ik (len:Int)/\J2 t c=CC ik' (cap:Int)/\O (zn z)=sz))(a:len<=cap/\cap*bt<=1099511627776/\cap<=1099511627776)
  (k:EO X ops r ⟨upd t d (Y (ξ ⟨3*n+2,0,θ⟩) len cap),upd h (3*n+2) (ξ (.row (rep cap (zn z)) e)),n+1,w⟩ Q):EO X ops (o::r) ⟨t,h,n,w⟩ Q:=by
 have⟨g,j,G,p,H,C,D,B,I⟩:=g;have F:Kl X.E o.op (J2 t)=ξ ⟨rep cap (zn z),e,χ,ξ (len,cap)⟩:=by
  rw[p];show tn X.E ty (J2 t l) (J2 t c)=_;rw[D,B];have q:=CP a.1;have s:=CP a.2.1;have u:=CP a.2.2;have A:DK (O (zn z)) sz=φ:=by rw[I];exact HK _
  show(match X.E.und ty,CC ik (.ofNat len),CC ik' (.ofNat cap)with|some (.slice e),CC _ (.ofNat len),CC _ (.ofNat cap)=>_|_,_,_=>θ)=_;simp only[H,C,q,s,u,A,DT]
 rw[jm g (by rw[j];exact G) A2 F,j];exact k
def wD{w:List Nat}(h:3*n0<=b):addW n0 [b] w=w:=by simp only[addW,CP h]
def pN{w:List Nat}(h:b<3*n0):addW n0 [b] w=b::w:=by
 have:Dd (3*n0) b=χ:=by
  cases hb:Dd (3*n0) b with
  |false=>rfl
  |true=>have:=Da hb;omega
 simp only[addW,this]
theorem uZ{h:HF}{c:List ψ}{e:TypeId}(hb:h b=ξ (.row c e))(g:off+O vs<=O c)(a:ones vs=φ):LJ h ⟨b,off,θ⟩ vs=ξ (upd h b (ξ (.row (zu c off vs) e))):=by grind [only,LJ,Dd,CP,FH,DT]
def splice_one(c:List ψ)(off:Nat)(v:ψ)(h:off<O c):zu c off [v]=c.set off v:=by unfold zu;rw[HH];simp[h]
theorem xn{E:Env}{a x:Operand}{z:ψ}{c:List ψ}{e:TypeId}(hi:E.inf ty=ξ (sz,bt,z))(p:J2 t a=CH (ξ ⟨b,off,θ⟩))(s:O (zn (J2 t x))=sz)(j:ones (zn (J2 t x))=φ)(hb:h b=ξ (.row c e))(q:off+sz<=O c):
  effF E (.store ty a x) (J2 t) h n=ξ (.val undef (upd h b (ξ (.row (zu c off (zn (J2 t x))) e))) n [b]):=by
 have g:DK (O (zn (J2 t x))) sz=φ:=by simp_all
 simp only[effF,uG,p,hi,g,uZ hb (by rw[s];exact q) j]
theorem yF{a x:Operand}{z:ψ}{c:List ψ}{e:TypeId}(j:zh ops t o=φ/\o.dst=θ/\o.op=.store ty a x/\X.E.inf ty=ξ (sz,bt,z)/\J2 t a=CH (ξ ⟨b,off,θ⟩)/\zn (J2 t x)=cs/\O cs=sz/\ones cs=φ)(hb:h b=ξ (.row c e))(B:off+sz<=O c)(g:3*X.n0<=b)
  (k:EO X ops r ⟨t,upd h b (ξ (.row (zu c off cs) e)),n,w⟩ Q):EO X ops (o::r) ⟨t,h,n,w⟩ Q:=by
 obtain⟨j,p,q,A,u,D,C,s⟩:=j;subst D;rw[rS j A2 (by rw[q];rfl) (by rw[q];exact xn A u C s hb B),p];simp only[wD g];exact k
def Xp(c cs:List ψ)(h:O cs=O c):zu c 0 cs=cs:=by unfold zu;simp[h]
def yc{a x:Operand}{z:ψ}{c:List ψ}(cs:List ψ){e:TypeId}(j:zh ops t o=φ/\o.dst=θ/\o.op=.store ty a x/\X.E.inf ty=ξ (sz,bt,z)/\J2 t a=ε b/\zn (J2 t x)=cs/\O cs=sz)(p:ones cs=φ)(hb:h b=ξ (.row c e))(D:O c=sz)(g:3*X.n0<=b)
  (k:EO X ops r ⟨t,upd h b (ξ (.row cs e)),n,w⟩ Q):EO X ops (o::r) ⟨t,h,n,w⟩ Q:=by have⟨j,s,A,u,q,C,B⟩:=j;apply yF ⟨j,s,A,u,q,C,B,p⟩ hb Z g;rw[Xp c cs Z];exact k
def Xq{a x:Operand}{z:ψ}{c:List ψ}{e:TypeId}(B:zh ops t o=φ)(j:o.dst=θ)(p:o.op=.store ty a x)(hi:X.E.inf ty=ξ (sz,bt,z))(s:J2 t a=CH (ξ ⟨b,off,θ⟩))(hx:zn (J2 t x)=cs)(A:O cs=sz)(q:ones cs=φ)(hb:h b=ξ (.row c e))(u:off+sz<=O c)(g:b<3*X.n0)
  (k:EO X ops r ⟨t,upd h b (ξ (.row (zu c off cs) e)),n,b::w⟩ Q):EO X ops (o::r) ⟨t,h,n,w⟩ Q:=by subst hx;rw[rS B (by rw[j];rfl) A2 (by rw[p];exact xn hi s A q hb u),j];simp only[pN g];exact k
def zF(P:ψ->HF->Nat->List Nat->Prop)(j:qt X ops t o d (Kd o.op=3/\effF X.E o.op (J2 t) h n=ξ (.enter f args)))(a:CF X.C f args h n P)
  (k:∀v h' n' g,P v h' n' g->EO X ops r ⟨upd t d v,h',n',addW X.n0 g w⟩ Q):EO X ops (o::r) ⟨t,h,n,w⟩ Q:=by have⟨j,p,u,q,s⟩:=j;refine Xj P j (by rw[p];exact u) q s a λv h' n' g A=>?_;rw[p];exact k v h' n' g A
def Q2(q:zh ops t o=φ)(a:o.dst=ξ d)(p:zv X.nt (ξ d)=φ)(g:Kd o.op=3)(j:effF X.E o.op (J2 t) h n=ξ (.val v h n []))(k:EO X ops r ⟨upd t d v,h,n,w⟩ Q):EO X ops (o::r) ⟨t,h,n,w⟩ Q:=by rw[rS q (by rw[a];exact p) g j,a];exact k
def wm{e:TypeId}{x:Operand}{a:Int}(g:qt X ops t o d (o.op=.convert ty e x/\vI X.E ty e (J2 t x)=θ/\rX X.E ty e (J2 t x) h=θ))(hv:kZ X.E ty e (J2 t x)=ξ (CC ik a))(k:EO X ops r ⟨upd t d (CC ik a),h,n,w⟩ Q):EO X ops (o::r) ⟨t,h,n,w⟩ Q:=by have⟨g,j,q,s,p,u⟩:=g;rw[Xh g (by rw[j];exact q) s p u hv,j];exact k
def Q3(cap sz b off:Nat):offA cap 0 sz ⟨b,off,θ⟩=⟨b,off,θ⟩:=by unfold offA;split;rfl;rw[wO];simp
def td{e:TypeId}{x hi:Operand}{z:ψ}{j:Int}(m:Nat)(a:qt X ops t o d (o.op=.slice ty x θ (ξ hi) θ/\X.E.und ty=ξ (.slice e)/\X.E.inf e=ξ (sz,bt,z)/\J2 t x=Y (ξ ⟨b,off,θ⟩) len cap/\J2 t hi=CC ik j))(hm:j=(m:Int))(F:m<=cap)(k:EO X ops r ⟨upd t d (Y (ξ ⟨b,off,θ⟩) m cap),h,n,w⟩ Q):EO X ops (o::r) ⟨t,h,n,w⟩ Q:=by
 have⟨a,u,B,p,C,g,D,A⟩:=a;refine zZ ⟨a,u,B,A2⟩ ?_ k;rw[p];subst hm;show xc X.E ty (J2 t x) θ (ξ (J2 t hi))=_;rw[D,A];have q:(0:Int)<=(m:Int)/\(m:Int)<=cap:=Z;have s:(gro b&&(Dd 1 0&&Dd cap 0))=χ:=by cases gro b<;>rfl
 simp only[xc,C,g,bnd,Cw q,Ef,s,Q3,GN]
def yM{sT:TypeId}{w':List Nat}{s x:Operand}(g:qt X ops t o d (o.op=.call {callee:=.builtin .append,args:=#[s,x],argTypes:=#[sT,xT]}/\(match X.E.und xT with|some (.int _)=>χ|none=>χ|_=>φ)=φ))(p:yW X.E h n sT (J2 t s) (J2 t x)=ξ (.val v h' n' w'))
  (k:EO X ops r ⟨upd t d v,h',n',addW X.n0 w' w⟩ Q):EO X ops (o::r) ⟨t,h,n,w⟩ Q:=by
 have⟨g,hd,hn,j,a⟩:=g;have q:effF X.E o.op (J2 t) h n=ξ (.val v h' n' w'):=by
  rw[j];show appF X.E [sT,xT] [J2 t s,J2 t x] h n=_;unfold appF;cases hu:X.E.und xT with
  |none=>rw[hu]at a;cases a
  |some u=>
   cases u with
   |int _=>rw[hu]at a;cases a
   |_=>simp only[hu];exact p
 rw[rS g (by rw[hd];exact hn) (by rw[j];rfl) q,hd];exact k
end
def argS(h:HF)(size:Nat)(v:ψ)(m:Nat)(cs:List ψ):Prop:=lenOf? v=ξ m/\yD h size m v=ξ cs
section
variable{h:HF}{sT:TypeId}{x:ψ}
theorem append_nil(C:E.und sT=ξ (.slice e))(hi:E.inf e=ξ (size,bytes,z))(D:O (zn z)=size)(u:1<=size)(A:1<=bytes)(hx:argS h size x m new)(hm:1<=m)(hb:m*bytes<=1099511627776):
  yW E h n sT (η) x=ξ (.val (Y (ξ ⟨3*n+1,0,θ⟩) m m) (upd h (3*n+1) (ξ (.row new e))) (n+1) []):=by
 have⟨B,hc⟩:=hx;have a:Dd (m*bytes) 1099511627776=φ:=CP hb;have g:DK (O (zn z)) size=φ:=by simp_all
 have j:Dd 1 size=φ:=CP u;have p:Dd 1 bytes=φ:=CP A;have q:Dd m 0=χ:=by
  cases hb:Dd m 0 with
  |false=>rfl
  |true=>have:=Da hb;omega
 have s:yD h size 0 (η)=ξ []:=rfl;simp only[yW,C,hi,B,hc,C9,a,g,j,p,q,s,DT,My,Dt]
theorem ue{c:List ψ}(J:E.und sT=ξ (.slice e))(hi:E.inf e=ξ (size,bytes,z))(K:O (zn z)=size)(D:1<=size)(F:1<=bytes)(hx:argS h size x m new)(hm:1<=m)(hb:(len+m)*bytes<=1099511627776)
  (G:gro b=φ)(g:h b=ξ (.row c e))(hc:O c=len*size)(I:ones (c++new)=φ)(hn:O new=m*size):
  yW E h n sT (Y (ξ ⟨b,0,θ⟩) len len) x=ξ (.val (Y (ξ ⟨3*n+1,0,θ⟩) (len+m) (len+m)) (upd (upd h b θ) (3*n+1) (ξ (.row (c++new) e))) (n+1) [b]):=by
 have⟨H,a⟩:=hx;have j:Dd ((len+m)*bytes) 1099511627776=φ:=CP hb;have p:DK (O (zn z)) size=φ:=by simp_all
 have q:Dd 1 size=φ:=CP D;have s:Dd 1 bytes=φ:=CP F;have u:Dd (len+m) len=χ:=by
  cases hb:Dd (len+m) len with
  |false=>rfl
  |true=>have:=Da hb;omega
 have A:yD h size len (Y (ξ ⟨b,0,θ⟩) len len)=ξ c:=(by simp only[yD];by_cases h0:len*size=0;rw[Cw h0];rw[h0]at hc;rw[CT.1 hc];rw[Cv h0];have:Dd (0+len*size) (O c)=φ:=CP Z;simp only[LI,g,BF.cells,this,FH,DT,Dy];rw[CL Z]);have B:jM h b (len*size) e=φ:=(by simp only[jM,g,hc,HK,DT]);have C:DK (O (c++new)) ((len+m)*size)=φ:=(by rw[show(c++new).length=(len+m)*size from by rw[CJ,hc,hn,Dq]];exact HK _);simp only[yW,J,hi,H,a,j,p,q,s,u,A,B,C,DT,My,G,I,HK,FH]
end
section
variable{X:CtxF}{t:TF}{h:HF}{Q:SV->Prop}
def Q4(x:Nat):Df .u8 (x:Int)=((x%256:Nat):Int):=by simp only[Df,Fw,Em];simp
def jA(c:qt X ops t o d (o.op=.binOp .sub ty x y ty'/\J2 t x=CC .u8 (a:Int)/\J2 t y=CC .u8 (b:Int)))(f:b<=a/\a<256)
  (k:EO X ops r ⟨upd t d (CC .u8 ((a-b:Nat):Int)),h,n,w⟩ Q):EO X ops (o::r) ⟨t,h,n,w⟩ Q:=by refine ZF c ?_ k;show ξ (CC .u8 (Df .u8 ((a:Int)-b)))=_;rw[show(a:Int)-b=((a-b:Nat):Int)from Z,Q4,C1 Z]
def mE{D:TD}(c:qt X ops t o d (o.op=.convert ty e x/\J2 t x=CC ik (a:Int)/\X.E.und ty=ξ D/\X.E.und e=ξ (.int .u8)))
  (k:EO X ops r ⟨upd t d (CC .u8 ((a%256:Nat):Int)),h,n,w⟩ Q):EO X ops (o::r) ⟨t,h,n,w⟩ Q:=by have⟨c,g,j,l,f,m,i⟩:=c;refine wm ⟨c,g,j,l,o0,o0⟩ ?_ k;rw[f];simp only[kZ,m,i,Q4]
def rb(x:Nat):Df .u32 (x:Int)=((x%4294967296:Nat):Int):=by simp only[Df,Fw,Em];simp
def xu(f:qt X ops t o d (o.op=.binOp .add ty x y ty'/\J2 t x=CC .u32 (a:Int)/\J2 t y=CC .u32 (b:Int)))(c:a+b<4294967296)
  (k:EO X ops r ⟨upd t d (CC .u32 ((a+b:Nat):Int)),h,n,w⟩ Q):EO X ops (o::r) ⟨t,h,n,w⟩ Q:=by refine ZF f ?_ k;show ξ (CC .u32 (Df .u32 ((a:Int)+b)))=_;rw[show(a:Int)+b=((a+b:Nat):Int)from Z,rb,C1 c]
def Xr(i:zh ops t o=φ)(f:o.dst=ξ d)(g:zv X.nt (ξ d)=φ)(c:o.op=.binOp .add ty x y ty')(hx:J2 t x=CC .u32 (a:Int))(j:J2 t y=CC .u32 (b:Int))
  (k:EO X ops r ⟨upd t d (CC .u32 (((a+b)%4294967296:Nat):Int)),h,n,w⟩ Q):EO X ops (o::r) ⟨t,h,n,w⟩ Q:=by refine zZ ⟨i,f,g,(by rw[c];rfl)⟩ ?_ k;rw[c];show binE X.E .add ty (J2 t x) (J2 t y)=_;rw[hx,j];show ξ (CC .u32 (Df .u32 ((a:Int)+b)))=_;rw[show(a:Int)+b=((a+b:Nat):Int)from Z,rb]
def Q5(c:qt X ops t o d (o.op=.binOp .sub ty x y ty'/\J2 t x=CC .u32 (a:Int)/\J2 t y=CC .u32 (b:Int)))(f:b<=a/\a<4294967296)
  (k:EO X ops r ⟨upd t d (CC .u32 ((a-b:Nat):Int)),h,n,w⟩ Q):EO X ops (o::r) ⟨t,h,n,w⟩ Q:=by refine ZF c ?_ k;show ξ (CC .u32 (Df .u32 ((a:Int)-b)))=_;rw[show(a:Int)-b=((a-b:Nat):Int)from Z,rb,C1 Z]
def xM(f:qt X ops t o d (o.op=.binOp .mul ty x y ty'/\J2 t x=CC .u32 (a:Int)/\J2 t y=CC .u32 (b:Int)))(c:a*b<4294967296)
  (k:EO X ops r ⟨upd t d (CC .u32 ((a*b:Nat):Int)),h,n,w⟩ Q):EO X ops (o::r) ⟨t,h,n,w⟩ Q:=by refine ZF f ?_ k;show ξ (CC .u32 (Df .u32 ((a:Int)*b)))=_;rw[show(a:Int)*b=((a*b:Nat):Int)from by simp,rb,C1 c]
def LW(i:qt X ops t o d (o.op=.binOp .quo ty x y ty'/\J2 t x=CC .u32 (a:Int)/\J2 t y=CC .u32 (b:Int)))(g:b≠0/\a<4294967296)
  (k:EO X ops r ⟨upd t d (CC .u32 ((a/b:Nat):Int)),h,n,w⟩ Q):EO X ops (o::r) ⟨t,h,n,w⟩ Q:=by refine ZF i ?_ k;have f:¬(b:Int)=0:=Z;have e:(a:Int).tdiv b=((a/b:Nat):Int):=rfl;have c:a/b<4294967296:=C7 (Ei _ _) g.2;simp only[binE,isSh,yC,intE,Cv f,e,rb,C1 c]
def wR(f:qt X ops t o d (o.op=.binOp .rem ty x y ty'/\J2 t x=CC .u32 (a:Int)/\J2 t y=CC .u32 (b:Int)))(g:b≠0)
  (k:EO X ops r ⟨upd t d (CC .u32 ((a%b:Nat):Int)),h,n,w⟩ Q):EO X ops (o::r) ⟨t,h,n,w⟩ Q:=by refine ZF f ?_ k;have c:¬(b:Int)=0:=Z;have e:(a:Int).tmod b=((a%b:Nat):Int):=rfl;simp only[binE,isSh,yC,intE,Cv c,e]
def Q6(l:qt X ops t o d (o.op=.binOp .or ty x y ty'/\J2 t x=CC .u32 (a:Int)/\J2 t y=CC .u32 (b:Int)))(g:a<4294967296/\b<4294967296)
  (k:EO X ops r ⟨upd t d (CC .u32 ((a|||b:Nat):Int)),h,n,w⟩ Q):EO X ops (o::r) ⟨t,h,n,w⟩ Q:=by
 refine ZF l ?_ k;have i:(Fl 32 (a:Int))=EJ 32 a:=by simp
 have j:(Fl 32 (b:Int))=EJ 32 b:=by simp
 have c:(EJ 32 a|||EJ 32 b).toNat=a|||b:=by simp[C1 g.1,C1 g.2]
 have f:a|||b<4294967296:=(by rw[<-c];exact(EJ 32 a|||EJ 32 b).isLt);show ξ (CC .u32 (Df .u32 (((Fl 32 (a:Int))|||(Fl 32 (b:Int))).toNat:Int)))=_;rw[i,j,c,rb,C1 f]
def Xs{s:Nat}(j:zh ops t o=φ)(g:o.dst=ξ d)(i:zv X.nt (ξ d)=φ)(c:o.op=.binOp .shl ty x y ty')(hx:J2 t x=CC .u32 (a:Int))(l:J2 t y=CC ik (s:Int))(m:s<=32)
  (k:EO X ops r ⟨upd t d (CC .u32 ((a*2^s%4294967296:Nat):Int)),h,n,w⟩ Q):EO X ops (o::r) ⟨t,h,n,w⟩ Q:=by
 refine zZ ⟨j,g,i,(by rw[c];rfl)⟩ ?_ k;rw[c];show binE X.E .shl ty (J2 t x) (J2 t y)=_;rw[hx,l];have f:¬(s:Int)<0:=Z;have e:min (s:Int).toNat (Em .u32)=s:=by simp[Em];omega
 simp only[binE,isSh,Ns,Cv f,e];rw[show(a:Int)*2^s=((a*2^s:Nat):Int)from by simp,rb]
def Q7{s:Nat}(f:qt X ops t o d (o.op=.binOp .shr ty x y ty'/\J2 t x=CC .u32 (a:Int)/\J2 t y=CC ik (s:Int)))(g:s<=32)
  (k:EO X ops r ⟨upd t d (CC .u32 ((a/2^s:Nat):Int)),h,n,w⟩ Q):EO X ops (o::r) ⟨t,h,n,w⟩ Q:=by
 refine ZF f ?_ k;have c:¬(s:Int)<0:=Z;have e:min (s:Int).toNat (Em .u32)=s:=by simp[Em];omega
 exact Bz
def ft{D:TD}(c:qt X ops t o d (o.op=.convert ty e x/\J2 t x=CC ik (a:Int)/\X.E.und ty=ξ D/\X.E.und e=ξ (.int .u32)))
  (k:EO X ops r ⟨upd t d (CC .u32 ((a%4294967296:Nat):Int)),h,n,w⟩ Q):EO X ops (o::r) ⟨t,h,n,w⟩ Q:=by have⟨c,g,j,l,f,m,i⟩:=c;refine wm ⟨c,g,j,l,o0,o0⟩ ?_ k;rw[f];simp only[kZ,m,i,rb]
def xR(x:Nat):Df .u64 (x:Int)=((x%18446744073709551616:Nat):Int):=by simp only[Df,Fw,Em];simp
def jr(x y:Nat)(hx:x<18446744073709551616)(c:y<18446744073709551616):Df .u64 ((x:Int)-y)=(((x+18446744073709551616-y)%18446744073709551616:Nat):Int):=by simp only[Df,Fw,Em];simp;omega
def yT(f:qt X ops t o d (o.op=.binOp .add ty x y ty'/\J2 t x=CC .u64 (a:Int)/\J2 t y=CC .u64 (b:Int)))(c:a+b<18446744073709551616)
  (k:EO X ops r ⟨upd t d (CC .u64 ((a+b:Nat):Int)),h,n,w⟩ Q):EO X ops (o::r) ⟨t,h,n,w⟩ Q:=by refine ZF f ?_ k;show ξ (CC .u64 (Df .u64 ((a:Int)+b)))=_;rw[show(a:Int)+b=((a+b:Nat):Int)from Z,xR,C1 c]
def uo(c:qt X ops t o d (o.op=.binOp .add ty x y ty'/\J2 t x=CC .u64 (a:Int)/\J2 t y=CC .u64 (b:Int)))
  (k:EO X ops r ⟨upd t d (CC .u64 (((a+b)%18446744073709551616:Nat):Int)),h,n,w⟩ Q):EO X ops (o::r) ⟨t,h,n,w⟩ Q:=by refine ZF c ?_ k;show ξ (CC .u64 (Df .u64 ((a:Int)+b)))=_;rw[show(a:Int)+b=((a+b:Nat):Int)from Z,xR]
def ym(c:qt X ops t o d (o.op=.binOp .sub ty x y ty'/\J2 t x=CC .u64 (a:Int)/\J2 t y=CC .u64 (b:Int)))(f:b<=a/\a<18446744073709551616)
  (k:EO X ops r ⟨upd t d (CC .u64 ((a-b:Nat):Int)),h,n,w⟩ Q):EO X ops (o::r) ⟨t,h,n,w⟩ Q:=by refine ZF c ?_ k;show ξ (CC .u64 (Df .u64 ((a:Int)-b)))=_;rw[show(a:Int)-b=((a-b:Nat):Int)from Z,xR,C1 Z]
def sd(f:qt X ops t o d (o.op=.binOp .sub ty x y ty'/\J2 t x=CC .u64 (a:Int)/\J2 t y=CC .u64 (b:Int)))(c:a<18446744073709551616/\b<18446744073709551616)
  (k:EO X ops r ⟨upd t d (CC .u64 (((a+18446744073709551616-b)%18446744073709551616:Nat):Int)),h,n,w⟩ Q):EO X ops (o::r) ⟨t,h,n,w⟩ Q:=by refine ZF f ?_ k;show ξ (CC .u64 (Df .u64 ((a:Int)-b)))=_;rw[jr a b c.1 c.2]
def xt(f:qt X ops t o d (o.op=.binOp .mul ty x y ty'/\J2 t x=CC .u64 (a:Int)/\J2 t y=CC .u64 (b:Int)))(c:a*b<18446744073709551616)
  (k:EO X ops r ⟨upd t d (CC .u64 ((a*b:Nat):Int)),h,n,w⟩ Q):EO X ops (o::r) ⟨t,h,n,w⟩ Q:=by refine ZF f ?_ k;show ξ (CC .u64 (Df .u64 ((a:Int)*b)))=_;rw[show(a:Int)*b=((a*b:Nat):Int)from by simp,xR,C1 c]
def wk(c:qt X ops t o d (o.op=.binOp .mul ty x y ty'/\J2 t x=CC .u64 (a:Int)/\J2 t y=CC .u64 (b:Int)))
  (k:EO X ops r ⟨upd t d (CC .u64 (((a*b)%18446744073709551616:Nat):Int)),h,n,w⟩ Q):EO X ops (o::r) ⟨t,h,n,w⟩ Q:=by refine ZF c ?_ k;show ξ (CC .u64 (Df .u64 ((a:Int)*b)))=_;rw[show(a:Int)*b=((a*b:Nat):Int)from by simp,xR]
def xN(i:qt X ops t o d (o.op=.binOp .quo ty x y ty'/\J2 t x=CC .u64 (a:Int)/\J2 t y=CC .u64 (b:Int)))(g:b≠0/\a<18446744073709551616)
  (k:EO X ops r ⟨upd t d (CC .u64 ((a/b:Nat):Int)),h,n,w⟩ Q):EO X ops (o::r) ⟨t,h,n,w⟩ Q:=by refine ZF i ?_ k;have f:¬(b:Int)=0:=Z;have e:(a:Int).tdiv b=((a/b:Nat):Int):=rfl;have c:a/b<18446744073709551616:=C7 (Ei _ _) g.2;simp only[binE,isSh,yC,intE,Cv f,e,xR,C1 c]
def vO(f:qt X ops t o d (o.op=.binOp .rem ty x y ty'/\J2 t x=CC .u64 (a:Int)/\J2 t y=CC .u64 (b:Int)))(g:b≠0)
  (k:EO X ops r ⟨upd t d (CC .u64 ((a%b:Nat):Int)),h,n,w⟩ Q):EO X ops (o::r) ⟨t,h,n,w⟩ Q:=by refine ZF f ?_ k;have c:¬(b:Int)=0:=Z;have e:(a:Int).tmod b=((a%b:Nat):Int):=rfl;simp only[binE,isSh,yC,intE,Cv c,e]
def wG(l:qt X ops t o d (o.op=.binOp .or ty x y ty'/\J2 t x=CC .u64 (a:Int)/\J2 t y=CC .u64 (b:Int)))(g:a<18446744073709551616/\b<18446744073709551616)
  (k:EO X ops r ⟨upd t d (CC .u64 ((a|||b:Nat):Int)),h,n,w⟩ Q):EO X ops (o::r) ⟨t,h,n,w⟩ Q:=by
 refine ZF l ?_ k;have i:(Fl 64 (a:Int))=EJ 64 a:=by simp
 have j:(Fl 64 (b:Int))=EJ 64 b:=by simp
 have c:(EJ 64 a|||EJ 64 b).toNat=a|||b:=by simp[C1 g.1,C1 g.2]
 have f:a|||b<18446744073709551616:=(by rw[<-c];exact(EJ 64 a|||EJ 64 b).isLt);show ξ (CC .u64 (Df .u64 (((Fl 64 (a:Int))|||(Fl 64 (b:Int))).toNat:Int)))=_;rw[i,j,c,xR,C1 f]
def mF(l:qt X ops t o d (o.op=.binOp .and ty x y ty'/\J2 t x=CC .u64 (a:Int)/\J2 t y=CC .u64 (b:Int)))(g:a<18446744073709551616/\b<18446744073709551616)
  (k:EO X ops r ⟨upd t d (CC .u64 ((a&&& b:Nat):Int)),h,n,w⟩ Q):EO X ops (o::r) ⟨t,h,n,w⟩ Q:=by
 refine ZF l ?_ k;have i:(Fl 64 (a:Int))=EJ 64 a:=by simp
 have j:(Fl 64 (b:Int))=EJ 64 b:=by simp
 have c:(EJ 64 a&&& EJ 64 b).toNat=a&&& b:=by simp[C1 g.1,C1 g.2]
 have f:a&&& b<18446744073709551616:=(by rw[<-c];exact(EJ 64 a&&& EJ 64 b).isLt);show ξ (CC .u64 (Df .u64 (((Fl 64 (a:Int))&&& (Fl 64 (b:Int))).toNat:Int)))=_;rw[i,j,c,xR,C1 f]
def xK{s:Nat}(f:qt X ops t o d (o.op=.binOp .shl ty x y ty'/\J2 t x=CC .u64 (a:Int)/\J2 t y=CC ik (s:Int)))(g:s<=64)
  (k:EO X ops r ⟨upd t d (CC .u64 ((a*2^s%18446744073709551616:Nat):Int)),h,n,w⟩ Q):EO X ops (o::r) ⟨t,h,n,w⟩ Q:=by
 refine ZF f ?_ k;have c:¬(s:Int)<0:=Z;have e:min (s:Int).toNat (Em .u64)=s:=by simp[Em];omega
 simp only[binE,isSh,Ns,Cv c,e];rw[show(a:Int)*2^s=((a*2^s:Nat):Int)from by simp,xR]
def yn{s:Nat}(f:qt X ops t o d (o.op=.binOp .shr ty x y ty'/\J2 t x=CC .u64 (a:Int)/\J2 t y=CC ik (s:Int)))(g:s<=64)
  (k:EO X ops r ⟨upd t d (CC .u64 ((a/2^s:Nat):Int)),h,n,w⟩ Q):EO X ops (o::r) ⟨t,h,n,w⟩ Q:=by
 refine ZF f ?_ k;have c:¬(s:Int)<0:=Z;have e:min (s:Int).toNat (Em .u64)=s:=by simp[Em];omega
 exact Bz
def N9{D:TD}(c:qt X ops t o d (o.op=.convert ty e x/\J2 t x=CC ik (a:Int)/\X.E.und ty=ξ D/\X.E.und e=ξ (.int .u64)))
  (k:EO X ops r ⟨upd t d (CC .u64 ((a%18446744073709551616:Nat):Int)),h,n,w⟩ Q):EO X ops (o::r) ⟨t,h,n,w⟩ Q:=by have⟨c,g,j,l,f,m,i⟩:=c;refine wm ⟨c,g,j,l,o0,o0⟩ ?_ k;rw[f];simp only[kZ,m,i,xR]
def jC{a b:Int}(c:qt X ops t o d (o.op=.binOp .lss ty x y ty'/\J2 t x=CC ik a/\J2 t y=CC ik b))(j:a<b)
  (k:EO X ops r ⟨upd t d (U φ),h,n,w⟩ Q):EO X ops (o::r) ⟨t,h,n,w⟩ Q:=by have⟨c,f,g,i,l,m⟩:=c;apply lW ⟨c,f,g,i,l,m⟩;exact B3
def Oa{a b:Int}(c:qt X ops t o d (o.op=.binOp .lss ty x y ty'/\J2 t x=CC ik a/\J2 t y=CC ik b))(j:¬(a<b))
  (k:EO X ops r ⟨upd t d (U χ),h,n,w⟩ Q):EO X ops (o::r) ⟨t,h,n,w⟩ Q:=by have⟨c,f,g,i,l,m⟩:=c;apply lW ⟨c,f,g,i,l,m⟩;exact BY
def oa{a b:Int}(c:qt X ops t o d (o.op=.binOp .leq ty x y ty'/\J2 t x=CC ik a/\J2 t y=CC ik b))(j:a<=b)
  (k:EO X ops r ⟨upd t d (U φ),h,n,w⟩ Q):EO X ops (o::r) ⟨t,h,n,w⟩ Q:=by have⟨c,f,g,i,l,m⟩:=c;apply Ny ⟨c,f,g,i,l,m⟩;exact B3
def mD{a b:Int}(c:qt X ops t o d (o.op=.binOp .leq ty x y ty'/\J2 t x=CC ik a/\J2 t y=CC ik b))(j:¬(a<=b))
  (k:EO X ops r ⟨upd t d (U χ),h,n,w⟩ Q):EO X ops (o::r) ⟨t,h,n,w⟩ Q:=by have⟨c,f,g,i,l,m⟩:=c;apply Ny ⟨c,f,g,i,l,m⟩;exact BY
def MC{a b:Int}(c:qt X ops t o d (o.op=.binOp .gtr ty x y ty'/\J2 t x=CC ik a/\J2 t y=CC ik b))(j:b<a)
  (k:EO X ops r ⟨upd t d (U φ),h,n,w⟩ Q):EO X ops (o::r) ⟨t,h,n,w⟩ Q:=by have⟨c,f,g,i,l,m⟩:=c;apply MU ⟨c,f,g,i,l,m⟩;exact B3
def MV{a b:Int}(c:qt X ops t o d (o.op=.binOp .gtr ty x y ty'/\J2 t x=CC ik a/\J2 t y=CC ik b))(j:¬(b<a))
  (k:EO X ops r ⟨upd t d (U χ),h,n,w⟩ Q):EO X ops (o::r) ⟨t,h,n,w⟩ Q:=by have⟨c,f,g,i,l,m⟩:=c;apply MU ⟨c,f,g,i,l,m⟩;exact BY
def jD{a b:Int}(c:qt X ops t o d (o.op=.binOp .geq ty x y ty'/\J2 t x=CC ik a/\J2 t y=CC ik b))(j:b<=a)
  (k:EO X ops r ⟨upd t d (U φ),h,n,w⟩ Q):EO X ops (o::r) ⟨t,h,n,w⟩ Q:=by have⟨c,f,g,i,l,m⟩:=c;apply MA ⟨c,f,g,i,l,m⟩;exact B3
def Nz{a b:Int}(c:qt X ops t o d (o.op=.binOp .geq ty x y ty'/\J2 t x=CC ik a/\J2 t y=CC ik b))(j:¬(b<=a))
  (k:EO X ops r ⟨upd t d (U χ),h,n,w⟩ Q):EO X ops (o::r) ⟨t,h,n,w⟩ Q:=by have⟨c,f,g,i,l,m⟩:=c;apply MA ⟨c,f,g,i,l,m⟩;exact BY
def Ob{a b:Int}(c:qt X ops t o d (o.op=.binOp .eql ty x y ty'/\J2 t x=CC ik a/\J2 t y=CC ik b))(j:a=b)
  (k:EO X ops r ⟨upd t d (U φ),h,n,w⟩ Q):EO X ops (o::r) ⟨t,h,n,w⟩ Q:=by have⟨c,f,g,i,l,m⟩:=c;apply Mh ⟨c,f,g,i,l,m⟩;exact B3
def Oc{a b:Int}(c:qt X ops t o d (o.op=.binOp .eql ty x y ty'/\J2 t x=CC ik a/\J2 t y=CC ik b))(j:¬(a=b))
  (k:EO X ops r ⟨upd t d (U χ),h,n,w⟩ Q):EO X ops (o::r) ⟨t,h,n,w⟩ Q:=by have⟨c,f,g,i,l,m⟩:=c;apply Mh ⟨c,f,g,i,l,m⟩;exact BY
def Od{a b:Int}(c:qt X ops t o d (o.op=.binOp .neq ty x y ty'/\J2 t x=CC ik a/\J2 t y=CC ik b))(j:¬(a=b))
  (k:EO X ops r ⟨upd t d (U φ),h,n,w⟩ Q):EO X ops (o::r) ⟨t,h,n,w⟩ Q:=by exact BJ
def Oe{a b:Int}(c:qt X ops t o d (o.op=.binOp .neq ty x y ty'/\J2 t x=CC ik a/\J2 t y=CC ik b))(j:a=b)
  (k:EO X ops r ⟨upd t d (U χ),h,n,w⟩ Q):EO X ops (o::r) ⟨t,h,n,w⟩ Q:=by exact BJ
def vj{a:Int}{D:TD}(c:qt X ops t o d (o.op=.convert ty e x/\J2 t x=CC ik a/\X.E.und ty=ξ D/\X.E.und e=ξ (.int .i64)))(m: -9223372036854775808<=a/\a<9223372036854775808)
  (k:EO X ops r ⟨upd t d (CC .i64 a),h,n,w⟩ Q):EO X ops (o::r) ⟨t,h,n,w⟩ Q:=by have⟨c,g,j,l,f,p,i⟩:=c;refine wm ⟨c,g,j,l,o0,o0⟩ ?_ k;rw[f];simp only[kZ,p,i,LM m]
end
def cutx{α:Type}(live:α->List (Nat×ψ))(I:α->HF->Nat->List Nat->Prop)(Q:Ex->SV->Prop):Ex->SV->Prop
 | .normal,s=>∃a,tJ s.t (live a)/\I a s.h s.n s.w
 |e,s=>Q e s
def zA{g:α->List (Nat×ψ)}{I:α->HF->Nat->List Nat->Prop}{Q:Ex->SV->Prop}{s:SV}(a:α)(j:tJ s.t (g a))(p:I a s.h s.n s.w):cutx g I Q .normal s:=⟨a,j,p⟩
def Xt{a:α->List (Nat×ψ)}{I:α->HF->Nat->List Nat->Prop}{Q:Ex->SV->Prop}{s:SV}{i:Nat}:cutx a I Q (.exit i) s↔Q (.exit i) s:=GM
def Xu{a:α->List (Nat×ψ)}{I:α->HF->Nat->List Nat->Prop}{Q:Ex->SV->Prop}{s:SV}:cutx a I Q .ret s↔Q .ret s:=GM
def yj{X:CtxF}{a b:Code}{s:SV}{Q:Ex->SV->Prop}(g:α->List (Nat×ψ))(I:α->HF->Nat->List Nat->Prop)(A:EC X a s (cutx g I (after X b Q)))(hb:∀z t h n w,I z h n w->EC X b ⟨gk t (g z),h,n,w⟩ Q):EC X a s (after X b Q):=by
 refine sW A λe j p=>?_;cases e with
 |normal=>
  have⟨z,q,y⟩:=p;have:=hb z j.t j.h j.n j.w y;rw[wU q]at this;exact this
 |exit i=>exact p
 |ret=>exact p
section
variable{X:CtxF}{t:TF}{h:HF}{Q:SV->Prop}
def fh{hi:Operand}{j:Int}(m:Nat)(a:qt X ops t o d (o.op=.slice ty x θ (ξ hi) θ/\X.E.und ty=ξ (.slice e)/\X.E.inf e=ξ (sz,bt,z)/\J2 t x=Y θ len cap/\J2 t hi=CC ik j/\j=(m:Int)))(F:m<=cap)(k:EO X ops r ⟨upd t d (Y θ m cap),h,n,w⟩ Q):EO X ops (o::r) ⟨t,h,n,w⟩ Q:=by have⟨a,s,B,p,C,g,D,y,A⟩:=a;refine zZ ⟨a,s,B,A2⟩ ?_ k;rw[p];subst A;show xc X.E ty (J2 t x) θ (ξ (J2 t hi))=_;rw[D,y];have q:(0:Int)<=(m:Int)/\(m:Int)<=cap:=Z;simp only[xc,C,g,bnd,Cw q,Ef,GN]
end
def ED(X:CtxF)(ops l:List Oper)(ms:List Nat)(i:Nat)(d:DF)(Q:SV->Prop):Prop:=∃s',mL X ops l ms i d=ξ s'/\Q s'
def zl{X:CtxF}{ops:Array Oper}{s:SV}{Q:Ex->SV->Prop}{ms:List Nat}(hm:xA ops.toList []=ms:=by cbv)(k:ED X ops.toList ops.toList ms 0 ⟨s,[],[],[]⟩ (Q .normal)):EC X (.region id ops φ) s Q:=by have⟨j,a,g⟩:=k;refine⟨.normal,j,?_,g⟩;rw[xk];simp only[hm,a]
section
variable{X:CtxF}{t:TF}{h:HF}{ef:List (Nat×HF×List Nat)}{Q:SV->Prop}
theorem MW{s:SV}:ED X ops [] ms i ⟨s,al,ld,ef⟩ Q↔Q s:=by grind [ED,mL]
def Q8{s:SV}{d:Option Tmp}{y:SV}{k:SV->Option β}(e:xH X s d v s.h s.n [] ξ=ξ y):xH X s d v s.h s.n [] k=k y:=by unfold xH at*;split at e;injection e with e;rw[e];cases e
def Pk{p:TF}(k:ED X ops r ms (i+1) ⟨⟨p,h,n,w⟩,al,ld,ef⟩ Q)(e:EO X ops [o] ⟨t,h,n,w⟩ λs=>s=⟨p,h,n,w⟩)(g:(!zh ops t o||Kd o.op==0)=φ):ED X ops (o::r) (m::ms) i ⟨⟨t,h,n,w⟩,al,ld,ef⟩ Q:=by
 obtain⟨A,a,rfl⟩:=e;have⟨y,j,q⟩:=k;refine⟨y,?_,q⟩;have a:(match zh ops t o with|true=>KO X ⟨t,h,n,w⟩ o ξ|false=>xH X ⟨t,h,n,w⟩ o.dst undef h n [] ξ)=ξ _:=a;unfold mL;cases hw:zh ops t o with
 |false=>
  rw[hw]at a;exact(Q8 (s:=⟨t,h,n,w⟩) a).trans j
 |true=>
  rw[hw]at a g;have g:Kd o.op=0:=eq_of_beq g;unfold KO at a;unfold rL;simp only[g]at a⊢;split at a;exact(Q8 (s:=⟨t,h,n,w⟩) a).trans j;cases a
def yQ(g:qt X ops t o d ((Kd o.op==0||Kd o.op==4)=φ/\yy X.E o.op (J2 t)=ξ v))(k:ED X ops r ms (i+1) ⟨⟨upd t d v,h,n,w⟩,al,ld,ef⟩ Q):ED X ops (o::r) (m::ms) i ⟨⟨t,h,n,w⟩,al,ld,ef⟩ Q:=by
 have⟨g,A,B,a,C⟩:=g;have⟨D,s,y⟩:=k;refine⟨D,?_,y⟩;unfold mL;simp only[g];unfold rL;have j:Kd o.op≠1:=λe=>by rw[e]at a;cases a
 have p:Kd o.op≠2:=λe=>by rw[e]at a;cases a
 have q:Kd o.op≠3:=λe=>by rw[e]at a;cases a
 split;exact Cu gY j;exact Cu gY p;exact Cu gY q;simp only[C,xH,A,B,addW];exact s
def yd{g:HF}(j:qt X ops t o d (o.op=.load ty x/\J2 t x=CH (ξ ⟨b,off,θ⟩)/\wn m ef i h=(u,g)))(hv:yB X.E ty g ⟨b,off,θ⟩=ξ v)(a:Lo u b ef=φ/\qn m b al=φ)
  (k:ED X ops r ms (i+1) ⟨⟨upd t d v,h,n,w⟩,al,(i,b)::ld,ef⟩ Q):ED X ops (o::r) (m::ms) i ⟨⟨t,h,n,w⟩,al,ld,ef⟩ Q:=by
 have⟨j,B,D,p,G,F⟩:=j;have⟨a,q⟩:=a;have⟨H,s,y⟩:=k;refine⟨H,?_,y⟩;unfold mL;simp only[j];unfold rL;have A:Kd o.op=1:=by rw[p];rfl
 have C:po X.E o.op (J2 t) g=ξ (v,b):=by rw[p];simp only[po,G,hv]
 simp only[A,F,C,a,q,DT,xH,B,D,addW];exact s
def Pl{a:Mk}(y:zh ops t o=φ)(q:o.dst=ξ d)(s:zv X.nt (ξ d)=φ)(p:Kd o.op=2)(hm:Kl X.E o.op (J2 t)=ξ a)
  (k:ED X ops r ms (i+1) ⟨⟨upd t d (a.val n),upd h (a.name n) (ξ (.row a.c a.e)),n+1,w⟩,(i,a.name n)::al,ld,ef⟩ Q):ED X ops (o::r) (m::ms) i ⟨⟨t,h,n,w⟩,al,ld,ef⟩ Q:=by have⟨A,g,j⟩:=k;refine⟨A,?_,j⟩;unfold mL;simp only[y];unfold rL;simp only[p,hm,Mf,xH,q,s,addW];exact g
def Q9(p:zh ops t o=φ)(g:o.dst=ξ d)(j:zv X.nt (ξ d)=φ)(a:Kd o.op=2)(hm:Kl X.E o.op (J2 t)=ξ ⟨cs,e,χ,ξ (l,c)⟩)
  (k:ED X ops r ms (i+1) ⟨⟨upd t d (Y (ξ ⟨3*n+2,0,θ⟩) l c),upd h (3*n+2) (ξ (.row cs e)),n+1,w⟩,(i,3*n+2)::al,ld,ef⟩ Q):ED X ops (o::r) (m::ms) i ⟨⟨t,h,n,w⟩,al,ld,ef⟩ Q:=Pl p g j a hm k
def Xv(p:zh ops t o=φ)(g:o.dst=ξ d)(j:zv X.nt (ξ d)=φ)(a:Kd o.op=2)(hm:Kl X.E o.op (J2 t)=ξ ⟨cs,e,χ,θ⟩)
  (k:ED X ops r ms (i+1) ⟨⟨upd t d (ε (3*n+2)),upd h (3*n+2) (ξ (.row cs e)),n+1,w⟩,(i,3*n+2)::al,ld,ef⟩ Q):ED X ops (o::r) (m::ms) i ⟨⟨t,h,n,w⟩,al,ld,ef⟩ Q:=Pl p g j a hm k
def mX(B:zh ops t o=φ)(A:zv X.nt o.dst=φ)(s:Kd o.op=3)(y:effF X.E o.op (J2 t) h n=ξ (.val v h' n' W))(a:xq m ef=φ)(g:xJ m al=φ)(h3:ya m W ld=φ)(j:n<=n')
  (k:ED X ops r ms (i+1) ⟨⟨putF t o.dst v,h',n',addW X.n0 W w⟩,al,ld,(i,h,W)::ef⟩ Q):ED X ops (o::r) (m::ms) i ⟨⟨t,h,n,w⟩,al,ld,ef⟩ Q:=by have⟨C,p,q⟩:=k;refine⟨C,?_,q⟩;unfold mL;simp only[B];unfold rL;simp only[s,a,g,DT,mf,y,xH,A,h3,CP j];exact p
def wa(P:ψ->HF->Nat->List Nat->Prop)(g:qt X ops t o d (Kd o.op=3/\effF X.E o.op (J2 t) h n=ξ (.enter f args)/\xq m ef=φ/\xJ m al=φ))(a:CF X.C f args h n P)
  (k:∀v h' n' W,P v h' n' W->ya m W ld=φ/\n<=n'/\ED X ops r ms (i+1) ⟨⟨upd t d v,h',n',addW X.n0 W w⟩,al,ld,(i,h,W)::ef⟩ Q):ED X ops (o::r) (m::ms) i ⟨⟨t,h,n,w⟩,al,ld,ef⟩ Q:=by have⟨g,F,H,D,G,p,q⟩:=g;have⟨v,h',n',W,j,I⟩:=a;have⟨s,y,J,A,B⟩:=k v h' n' W I;refine⟨J,?_,B⟩;unfold mL;simp only[g];unfold rL;simp only[D,p,q,DT,mf,G,j,xH,F,H,s,CP y];exact A
theorem jX{a:Operand}{c:List ψ}(p:zh ops t o=φ/\o.dst=θ/\o.op=.store ty a x/\X.E.inf ty=ξ (sz,bt,z)/\J2 t a=CH (ξ ⟨b,off,θ⟩)/\zn (J2 t x)=cs/\O cs=sz)(B:ones cs=φ)(hb:h b=ξ (.row c e))(F:off+sz<=O c)(j:3*X.n0<=b)(g:xq m ef=φ/\xJ m al=φ/\ya m [b] ld=φ)
  (k:ED X ops r ms (i+1) ⟨⟨t,upd h b (ξ (.row (zu c off cs) e)),n,w⟩,al,ld,(i,h,[b])::ef⟩ Q):ED X ops (o::r) (m::ms) i ⟨⟨t,h,n,w⟩,al,ld,ef⟩ Q:=by
 obtain⟨p,q,s,D,C,H,G⟩:=p;obtain⟨g,y,A⟩:=g;subst H;apply mX p (by rw[q];rfl) (by rw[s];rfl) (by rw[s];exact xn D C G B hb F) g y A Cy;rw[q,wD j];exact k
def iV{s:Operand}(A:zh ops t o=φ)(hd:o.dst=ξ d)(hn:zv X.nt (ξ d)=φ)(a:o.op=.call {callee:=.builtin .append,args:=#[s,x],argTypes:=#[sT,xT]})(hx:(match X.E.und xT with|some (.int _)=>χ|none=>χ|_=>φ)=φ)(q:yW X.E h n sT (J2 t s) (J2 t x)=ξ (.val v h' n' W))(g:xq m ef=φ)(j:xJ m al=φ)(h3:ya m W ld=φ)(p:n<=n')
  (k:ED X ops r ms (i+1) ⟨⟨upd t d v,h',n',addW X.n0 W w⟩,al,ld,(i,h,W)::ef⟩ Q):ED X ops (o::r) (m::ms) i ⟨⟨t,h,n,w⟩,al,ld,ef⟩ Q:=by
 have y:effF X.E o.op (J2 t) h n=ξ (.val v h' n' W):=by
  rw[a];show appF X.E [sT,xT] [J2 t s,J2 t x] h n=_;unfold appF;cases hu:X.E.und xT with
  |none=>rw[hu]at hx;cases hx
  |some u=>
   cases u with
   |int _=>rw[hu]at hx;cases hx
   |_=>simp only[hu];exact q
 apply mX A (by rw[hd];exact hn) (by rw[a];rfl) y g j h3 p;rw[hd];exact k
end
section
variable{X:CtxF}{t:TF}{h:HF}{ef:List (Nat×HF×List Nat)}{Q:SV->Prop}
def bO{ty e:TypeId}{x c:Operand}{b off len cap sz g:Nat}{z:ψ}{ik:IntKind}{j:Int}(a:qt X ops t o d (o.op=.indexAddr ty x c/\X.E.und ty=ξ (.slice e)/\X.E.inf e=ξ (sz,g,z)/\J2 t x=Y (ξ ⟨b,off,θ⟩) len cap/\J2 t c=CC ik j))(u:0<=j/\j<len)(k:ED X ops r ms (i+1) ⟨⟨upd t d (CH (ξ ⟨b,off+j.toNat*sz,θ⟩)),h,n,w⟩,al,ld,ef⟩ Q):ED X ops (o::r) (m::ms) i ⟨⟨t,h,n,w⟩,al,ld,ef⟩ Q:=by have⟨a,l,s,f,v,p,y,q⟩:=a;refine yQ ⟨a,l,s,o0,?_⟩ k;rw[f];show yV X.E ty (J2 t x) (J2 t c)=_;rw[y,q];simp only[yV,v,p,Cw u,wO]
def sj:∀{l:List (Nat×Nat)},ya m [] l=φ:=by
 intro l;induction l with
 |nil=>rfl
 |cons x l ih=>
  have⟨i,b⟩:=x;unfold ya;rw[show memN b []=χ from ω,G5,Jj];exact ih
def Ra{u b:Nat}:∀{l:List (Nat×HF×List Nat)},(∀x∈l,x.2.2=[])->Lo u b l=φ:=by
 intro l;induction l with
 |nil=>intro _;rfl
 |cons x l ih=>
  intro h;have⟨e,g,W⟩:=x;have a:W=[]:=h (e,g,W) eC;subst a;unfold Lo;rw[show memN b []=χ from ω,G5,Jj];exact ih λy c=>h y (by simp[c])
def NA{f:FuncId}{a:List ψ}(P:ψ->Prop)(e:qt X ops t o d (Kd o.op=3/\effF X.E o.op (J2 t) h n=ξ (.enter f a)/\xq m ef=φ/\xJ m al=φ))(b:CF X.C f a h n λv g j w=>g=h/\j=n/\w=[]/\P v)
  (k:∀v,P v->ED X ops r ms (i+1) ⟨⟨upd t d v,h,n,w⟩,al,ld,(i,h,[])::ef⟩ Q):ED X ops (o::r) (m::ms) i ⟨⟨t,h,n,w⟩,al,ld,ef⟩ Q:=by have⟨e,s,y,q,u,l,p⟩:=e;refine wa _ ⟨e,s,y,q,u,l,p⟩ b λv g j W c=>?_;obtain⟨rfl,rfl,rfl,c⟩:=c;exact⟨sj,Cy,k v c⟩
end
theorem NV:(∀(X:CtxF) (s:SV) (Q:Ex->SV->Prop) (a b:Code),EC X (.seq a b) s Q↔EC X a s (after X b Q))/\(∀(X:CtxF) (s:SV) (Q:Ex->SV->Prop) (i:Nat) (o:Array Oper),EC X (.region i o χ) s Q↔EO X o.toList o.toList s (Q .normal))/\(∀(X:CtxF) (s:SV) (Q:Ex->SV->Prop) (i:Nat) (b:Code),EC X (.block i b) s Q↔EC X b s (pp i Q))/\(∀(X:CtxF) (s:SV) (Q:Ex->SV->Prop) (c:Code),EC X (.scope c) s Q↔EC X c s Q)/\(∀(X:CtxF) (s:SV) (Q:Ex->SV->Prop),EC X .skip s Q↔Q .normal s)/\(∀(X:CtxF) (s:SV) (Q:Ex->SV->Prop) (i:Nat),EC X (.exit i) s Q↔Q (.exit i) s)/\(∀(X:CtxF) (s:SV) (Q:Ex->SV->Prop),EC X .ret s Q↔Q .ret s)/\(∀(X:CtxF) (s:SV) (Q:Ex->SV->Prop) (l:Nat),EC X (.label l) s Q↔Q .normal s)/\
  (∀(X:CtxF) (o:List Oper) (s:SV) (Q:SV->Prop),EO X o [] s Q↔Q s)/\(∀(X:CtxF) (o:List Oper) (ms:List Nat) (i:Nat) (s:SV) (al ld:List (Nat×Nat)) (ef:List (Nat×HF×List Nat)) (Q:SV->Prop),ED X o [] ms i ⟨s,al,ld,ef⟩ Q↔Q s)/\(∀(X:CtxF) (s:SV) (Q:Ex->SV->Prop) (b:Code),after X b Q .normal s↔EC X b s Q)/\(∀(X:CtxF) (s:SV) (Q:Ex->SV->Prop) (b:Code) (i:Nat),after X b Q (.exit i) s↔Q (.exit i) s)/\(∀(X:CtxF) (s:SV) (Q:Ex->SV->Prop) (b:Code),after X b Q .ret s↔Q .ret s)/\
  (∀(s:SV) (Q:Ex->SV->Prop) (i:Nat),pp i Q .normal s↔Q .normal s)/\(∀(s:SV) (Q:Ex->SV->Prop) (i j:Nat),pp i Q (.exit j) s↔if j=i then Q .normal s else Q (.exit j) s)/\(∀(s:SV) (Q:Ex->SV->Prop) (i:Nat),pp i Q .ret s↔Q .ret s)/\(∀(α:Type) (l:α->List (Nat×ψ)) (I:α->HF->Nat->List Nat->Prop) (μ:α->Nat) (a:α) (Q:Ex->SV->Prop) (s:SV) (i:Nat),qY l I μ a Q (.exit i) s↔Q (.exit i) s)/\(∀(α:Type) (l:α->List (Nat×ψ)) (I:α->HF->Nat->List Nat->Prop) (μ:α->Nat) (a:α) (Q:Ex->SV->Prop) (s:SV),qY l I μ a Q .ret s↔Q .ret s)/\
  (∀(l:List (Nat×ψ)) (I:HF->Nat->List Nat->Prop) (Q:Ex->SV->Prop) (s:SV) (i:Nat),cut l I Q (.exit i) s↔Q (.exit i) s)/\(∀(l:List (Nat×ψ)) (I:HF->Nat->List Nat->Prop) (Q:Ex->SV->Prop) (s:SV),cut l I Q .ret s↔Q .ret s)/\(∀(α:Type) (l:α->List (Nat×ψ)) (I:α->HF->Nat->List Nat->Prop) (Q:Ex->SV->Prop) (s:SV) (i:Nat),cutx l I Q (.exit i) s↔Q (.exit i) s)/\(∀(α:Type) (l:α->List (Nat×ψ)) (I:α->HF->Nat->List Nat->Prop) (Q:Ex->SV->Prop) (s:SV),cutx l I Q .ret s↔Q .ret s)/\(∀(α:Sort 1) [Decidable True] (a b:α),(if True then a else b)=a)/\(∀(α:Sort 1) [Decidable False] (a b:α),(if False then a else b)=b)/\(∀(a b:Prop) [Decidable True],(if True then a else b)=a)/\(∀(a b:Prop) [Decidable False],(if False then a else b)=b)/\((1:Nat)=0↔False)/\((0:Nat)=1↔False):=
 ⟨λ_ _ _ _ _=>yY,λ_ _ _ _ _=>ug,λ_ _ _ _ _=>Q0,λ_ _ _ _=>W7,λ_ _ _=>yu,λ_ _ _ _=>W3,λ_ _ _=>W5,λ_ _ _ _=>W6,λ_ _ _ _=>xg,λ_ _ _ _ _ _ _ _ _=>MW,λ_ _ _ _=>zK,λ_ _ _ _ _=>W9,λ_ _ _ _=>Xa,λ_ _ _=>iG,λ_ _ _ _=>Xc,λ_ _ _=>Xb,λ_ _ _ _ _ _ _ _=>er,λ_ _ _ _ _ _ _=>Xn,λ_ _ _ _ _=>Xl,λ_ _ _ _=>Xm,λ_ _ _ _ _ _=>Xt,λ_ _ _ _ _=>Xu,λ_ _ _ _=>Cw trivial,λ_ _ _ _=>Cv id,λ_ _ _=>Cw trivial,λ_ _ _=>Cv id,iff_false_intro Nat.one_ne_zero,iff_false_intro Nat.zero_ne_one⟩
def zN{p q:Prop}(e:q->p:=by intro k;simp only[NV,Nat.reduceEqDiff,reduceCtorEq];exact k)(k:q):p:=e k
section
variable{X:CtxF}{t:TF}{h:HF}{Q:SV->Prop}
def zR(f:EO X ops r ⟨upd t d v,h,n,w⟩ Q->EO X ops (o::r) ⟨t,h,n,w⟩ Q:=by first|exact jC R6 Z|exact Oa R6 Z|exact oa R6 Z|exact mD R6 Z|exact MC R6 Z|exact MV R6 Z|exact jD R6 Z|exact Nz R6 Z|exact Ob R6 Z|exact Oc R6 Z|exact Od R6 Z|exact Oe R6 Z|exact lW R6|exact Ny R6|exact MU R6|exact MA R6|exact Mh R6|exact N8 R6|exact uI R6 Z|exact qO R6 Z|exact st_I R5|exact st_B R5|exact st_S R5|exact st_P R5|exact st_T R5|exact st_A R5|exact st_U R5|exact zZ (v:=.pointer θ) R4 rfl|exact Nw R3)(k:EO X ops r ⟨upd t d v,h,n,w⟩ Q):EO X ops (o::r) ⟨t,h,n,w⟩ Q:=f k
def zM(f:EO X ops r ⟨upd t d v,h,n,w⟩ Q->EO X ops (o::r) ⟨t,h,n,w⟩ Q:=by first|exact st_I R5|exact st_B R5|exact st_S R5|exact st_P R5|exact st_T R5|exact st_A R5|exact st_U R5|exact zZ (v:=.pointer θ) R4 rfl|exact Nw R3)(k:EO X ops r ⟨upd t d v,h,n,w⟩ Q):EO X ops (o::r) ⟨t,h,n,w⟩ Q:=f k
end
section
variable{X:CtxF}{t:TF}{h:HF}{ef:List (Nat×HF×List Nat)}{Q:SV->Prop}
def zD{a:TF}(e:EO X ops [o] ⟨t,h,n,w⟩ (λs=>s=⟨a,h,n,w⟩):=by exact zR (k:=xg.2 ω))(hc:(!zh ops t o||Kd o.op==0)=φ:=by rfl)(k:ED X ops r ms (i+1) ⟨⟨a,h,n,w⟩,al,ld,ef⟩ Q):ED X ops (o::r) (m::ms) i ⟨⟨t,h,n,w⟩,al,ld,ef⟩ Q:=Pk k e hc
def zE{a:TF}(e:EO X ops [o] ⟨t,h,n,w⟩ (λs=>s=⟨a,h,n,w⟩):=by first|exact uI R6 Z (xg.2 ω)|exact qO R6 Z (xg.2 ω)|exact zM (k:=xg.2 ω))(hc:(!zh ops t o||Kd o.op==0)=φ:=by rfl)(k:ED X ops r ms (i+1) ⟨⟨a,h,n,w⟩,al,ld,ef⟩ Q):ED X ops (o::r) (m::ms) i ⟨⟨t,h,n,w⟩,al,ld,ef⟩ Q:=Pk k e hc
end
structure ZH (q:Prop):Prop where go:q
def kG{p q:Prop}(e:ZH q->p:=by intro k;(repeat apply(zR));apply(zN);exact k.go)(k:q):p:=e ⟨k⟩
def Za{p q:Prop}(e:ZH q->p:=by intro k;apply(zN);apply(kG);exact k.go)(k:q):p:=e ⟨k⟩
def Zb{p q:Prop}(e:ZH q->p:=by intro k;apply(zM);apply(zM);exact k.go)(k:q):p:=e ⟨k⟩
def Zc{p q:Prop}(e:ZH q->p:=by intro k;apply(kG);rw[za rfl];exact k.go)(k:q):p:=e ⟨k⟩
def Ze{p q:Prop}(e:ZH q->p:=by intro k;apply(kG);rw[ze rfl];exact k.go)(k:q):p:=e ⟨k⟩
def Zg{p q:Prop}(e:ZH q->p:=by intro k;apply(zN);(repeat apply(zR));exact k.go)(k:q):p:=e ⟨k⟩
def Zi{p q:Prop}(e:ZH q->p:=by intro k;apply(zN);apply(zM);exact k.go)(k:q):p:=e ⟨k⟩
def Zj{p q:Prop}(e:ZH q->p:=by intro k;apply(Zc);apply(zN);exact k.go)(k:q):p:=e ⟨k⟩
def Zl{p q:Prop}(e:ZH q->p:=by intro k;apply(kG);(repeat apply(zR));exact k.go)(k:q):p:=e ⟨k⟩
def Zm{p q:Prop}(e:ZH q->p:=by intro k;apply(zM);apply(zN);exact k.go)(k:q):p:=e ⟨k⟩
def Zn{p q:Prop}(e:ZH q->p:=by intro k;apply(kG);apply(kG);exact k.go)(k:q):p:=e ⟨k⟩
def Zo{p q:Prop}(e:ZH q->p:=by intro k;apply(Ze);apply(zN);exact k.go)(k:q):p:=e ⟨k⟩
def Zp{p q:Prop}(e:ZH q->p:=by intro k;apply(Zc);apply(Za);exact k.go)(k:q):p:=e ⟨k⟩
def Zr{p q:Prop}(e:ZH q->p:=by intro k;apply(Ze);apply(Za);exact k.go)(k:q):p:=e ⟨k⟩
def Zs{p q:Prop}(e:ZH q->p:=by intro k;apply(Ze);apply(Zg);exact k.go)(k:q):p:=e ⟨k⟩
def Zt{p q:Prop}(e:ZH q->p:=by intro k;apply(zN);apply(Zb);exact k.go)(k:q):p:=e ⟨k⟩
def Zu{p q:Prop}(e:ZH q->p:=by intro k;apply(Za);(repeat apply(zR));exact k.go)(k:q):p:=e ⟨k⟩
def Zv{p q:Prop}(e:ZH q->p:=by intro k;apply(zM);apply(Zi);exact k.go)(k:q):p:=e ⟨k⟩
def Zw{p q:Prop}(e:ZH q->p:=by intro k;apply(Zb);apply(zM);exact k.go)(k:q):p:=e ⟨k⟩
def Zx{p q:Prop}(e:ZH q->p:=by intro k;apply(Zo);apply(Zb);exact k.go)(k:q):p:=e ⟨k⟩
def Zy{p q:Prop}(e:ZH q->p:=by intro k;apply(Zb);apply(zR);exact k.go)(k:q):p:=e ⟨k⟩
def Zz{p q:Prop}(e:ZH q->p:=by intro k;apply(Zc);apply(Zg);exact k.go)(k:q):p:=e ⟨k⟩
def ZA{p q:Prop}(e:ZH q->p:=by intro k;apply(Za);apply(kG);exact k.go)(k:q):p:=e ⟨k⟩
def ZB{p q:Prop}(e:ZH q->p:=by intro k;apply(Zc);apply(Zi);exact k.go)(k:q):p:=e ⟨k⟩
def ZC{p q:Prop}(e:ZH q->p:=by intro k;apply(kG);apply(Zb);exact k.go)(k:q):p:=e ⟨k⟩
def ZD{p q:Prop}(e:ZH q->p:=by intro k;apply(Ze);apply(Zi);exact k.go)(k:q):p:=e ⟨k⟩
def ZE{p q:Prop}(e:ZH q->p:=by intro k;apply(Zj);apply(Zb);exact k.go)(k:q):p:=e ⟨k⟩
end Go.GL
namespace Go.Proofs.YtdeaddceicfanaaGreatDoor
open Go Go.GL
variable{ops:List Oper}{n bytes size cap off bt lo m' n' n0 sz c' id c1 c2 l1 l2 b k m d j V a r c B P:Nat}{w ln W A C:List Nat}{o o2:Oper}{cells args new cs:List ψ}{body:Code}{ty' e' ty xT e2 e3 e:TypeId}{fn:Func}{d1 d2 n1 n2 z2 v z:ψ}{α:Type}{ik:IntKind}{ji:Int}{a1 a2:Option Addr}{f:FuncId}{x y:Operand}{E:Env}{q:Rat}
variable{sT:TypeId}{h' h:HF}{ld:List Nat}
def rI:Ex->Bool| .exit _=>χ|_=>φ
def KC(k n nt:Nat):CtxF:={E:=Kc,C:=J4 k,L:=LL,round:=θ,n0:=n,nt:=nt}
def jn{h:HF}{n:Nat}{P:ψ->HF->Nat->List Nat->Prop}(u:GK.orc f args=θ)(j:Kc.fn f=ξ fn)(hb:fn.body=ξ body)(l:Dd (O args) fn.ntmps=φ)
  (hx:EC (KC k n fn.ntmps) body ⟨mj args,h,n,[]⟩ λe s=>rI e=φ/\∃a,resF Kc s fn.results.toList=ξ a/\P (endF Kc f h n s a).1 (endF Kc f h n s a).2.1 (endF Kc f h n s a).2.2.1 (endF Kc f h n s a).2.2.2):CF (J4 (k+1)) f args h n P:=by
 have⟨e,s,c,p,a,g,q⟩:=hx;refine⟨_,_,_,_,?_,q⟩;rw[W2 k u h n];unfold Mg;unfold KC at c;simp only[j,hb,l,c];cases e with
 |exit i=>cases p
 |normal=>simp only[g]
 |ret=>simp only[g]
def RetH(fn:Func)(P:ψ->HF->Nat->List Nat->Prop):Ex->SV->Prop:=λe s=>rI e=φ/\∃vs,resF Kc s fn.results.toList=ξ vs/\uQ vs=χ/\P (qm vs) s.h s.n s.w
def retH{P:ψ->HF->Nat->List Nat->Prop}{e:Ex}{s:SV}(a:List ψ)(c:rI e=φ/\resF Kc s fn.results.toList=ξ a/\uQ a=χ)(i:P (qm a) s.h s.n s.w):RetH fn P e s:=by have⟨c,j,g⟩:=c;exact⟨c,a,j,g,i⟩
def zw{h:HF}{n:Nat}{P:ψ->HF->Nat->List Nat->Prop}(a:GK.orc f args=θ/\Kc.fn f=ξ fn/\fn.body=ξ body/\Dd (O args) fn.ntmps=φ)
  (hx:EC (KC k n fn.ntmps) body ⟨mj args,h,n,[]⟩ (RetH fn P)):CF (J4 (k+1)) f args h n P:=by have⟨a,g,u,i⟩:=a;refine jn a g u i (sW hx λe s⟨j,c,l,p,q⟩=>⟨j,c,l,?_⟩);have e:endF Kc f h n s c=(qm c,s.h,s.n,s.w):=(by unfold endF;rw[p,ai4]);rw[e];exact q
def RetF(fn:Func)(P:ψ->Prop):Ex->SV->Prop:=λe s=>rI e=φ/\∃vs,resF Kc s fn.results.toList=ξ vs/\uQ vs=φ/\s.w=[]/\P (qm vs)
def retF{P:ψ->Prop}{e:Ex}{s:SV}(a:List ψ)(g:rI e=φ)(j:resF Kc s fn.results.toList=ξ a)(c:uQ a=φ/\s.w=[])(i:P (qm a)):RetF fn P e s:=by have⟨c,l⟩:=c;exact⟨g,a,j,c,l,i⟩
def VF(C:CalF)(f:FuncId)(args:List ψ)(h:HF)(n:Nat)(P:ψ->Prop):Prop:=CF C f args h n λv h' n' w=>h'=h/\n'=n/\w=[]/\P v
def zO{h:HF}{n:Nat}{P:ψ->Prop}(a:GK.orc f args=θ/\Kc.fn f=ξ fn/\fn.body=ξ body/\Dd (O args) fn.ntmps=φ)
  (hx:EC (KC k n fn.ntmps) body ⟨mj args,h,n,[]⟩ (RetF fn P)):VF (J4 (k+1)) f args h n P:=by have⟨a,g,y,i⟩:=a;refine jn a g y i (sW hx λe s⟨j,c,l,p,q,u⟩=>⟨j,c,l,?_⟩);have e:endF Kc f h n s c=(qm c,h,n,[]):=(by unfold endF;rw[p,q];rfl);rw[e];exact⟨ω,ω,ω,u⟩
section
variable{X:CtxF}{r:List Oper}{t:TF}{h:HF}{Q:SV->Prop}{d:Tmp}
def yi(P:ψ->Prop)(g:qt X ops t o d (Kd o.op=3/\effF X.E o.op (J2 t) h n=ξ (.enter f args)))(a:VF X.C f args h n P)
  (k:∀v,P v->EO X ops r ⟨upd t d v,h,n,w⟩ Q):EO X ops (o::r) ⟨t,h,n,w⟩ Q:=by have⟨g,j,p,i,l⟩:=g;refine zF _ ⟨g,j,p,i,l⟩ a λv h' n' q c=>?_;obtain⟨rfl,rfl,rfl,c⟩:=c;exact k v c
end
def wc{C:CalF}{h:HF}{n:Nat}{P a:ψ->HF->Nat->List Nat->Prop}(i:CF C f args h n P)(j:∀v h' n' w,P v h' n' w->a v h' n' w):CF C f args h n a:=by have⟨v,h',n',w,c,g⟩:=i;exact⟨v,h',n',w,c,j _ _ _ _ g⟩
def zi{s:SV}{a:Tmp}(h:s.t a=v):resF Kc s [.tmp a]=ξ [v]:=by simp only[resF,h]
def Xw{s:SV}{a:Tmp}{c:Addr}(g:s.t a=CH (ξ c))(i:yB Kc ty s.h c=ξ v):resF Kc s [.cell a ty]=ξ [v]:=by simp only[resF,g,i]
def uq{P:ψ->HF->Nat->List Nat->Prop}{e:Ex}{t:TF}{h:HF}{n:Nat}{w:List Nat}{a:Tmp}(c:rI e=φ/\fn.results.toList=[.cell a ty]/\t a=ε b/\GL.isAgg Kc ty=ξ φ/\Kc.inf ty=ξ (sz,bt,z))(hb:h b=ξ (.row cs e'))(q:O cs=sz)(l:P (.agg cs.toArray) h n w):RetH fn P e ⟨t,h,n,w⟩:=by have⟨c,p,g,i,j⟩:=c;refine retH [.agg cs.toArray] ⟨c,?_,ω⟩ l;rw[p];exact Xw g (yw ⟨i,j⟩ hb ω Z aD)
def J3(n:Nat)(h h':HF):Prop:=∀b,b<3*n->h' b=h b
def J3.refl(n:Nat)(h:HF):J3 n h h:=λ_ _=>rfl
def J3.trans{n:Nat}{a b c:HF}(h:J3 n a b)(h':J3 n' b c)(i:n<=n'):J3 n a c:=λk g=>(h' k Z).trans (h k g)
def rR{h:HF}{n:Nat}(i:GK.G h)(e:J3 n h h')(j:20<=n):GK.G h':=by have⟨a,c,g⟩:=i;exact⟨(e _ Z).trans a,(e _ Z).trans c,(e _ Z).trans g⟩
theorem J3.upd{n:Nat}{h:HF}{x:Option BF}(hb:3*n<=b):J3 n h (GL.upd h b x):=λk a=>zm Z
def J3.mono{n:Nat}{h:HF}(e:J3 n' h h')(c:n<=n'):J3 n h h':=λk a=>e k Z
inductive Sl (h:HF) (n sz:Nat):ψ->List ψ->Prop
 |nil {a:Option Addr} {c:Nat} (ha:a=θ\/∃b off sp,a=ξ ⟨b,off,sp⟩/\b<3*n):Sl h n sz (Y a 0 c) []
 |at_ {b off len cap:Nat} {x:BF} {cs cells:List ψ} (hb:b<3*n) (hx:h b=ξ x) (hc:x.cells=ξ cs) (hcap:len<=cap) (hl:off+len*sz<=O cs) (he:(cs.drop off).take (len*sz)=cells):Sl h n sz (Y (ξ ⟨b,off,θ⟩) len cap) cells
def xC(n:Nat):ψ->Prop
 | Y (ξ a) _ _=>3*n<=a.block
 |_=>True
theorem uw{n:Nat}{a:Option Addr}(h:a=θ\/∃b off sp,a=ξ ⟨b,off,sp⟩/\b<3*n)(c:n<=n'):a=θ\/∃b off sp,a=ξ ⟨b,off,sp⟩/\b<3*n':=by grind
def Sl.ext{h:HF}{n:Nat}{c:List ψ}(s:Sl h n sz v c)(e:J3 n h h')(a:n<=n'):Sl h' n' sz v c:=by
 cases s with
 |nil ha=>exact .nil (uw ha a)
 |at_ hb hx hc hcap hl he=>exact .at_ Z (by rw[e _ hb];exact hx) hc hcap hl he
def Sl.keep{h:HF}{n:Nat}{c:List ψ}(s:Sl h n sz v c)(g:∀a l cap,v=Y (ξ a) l cap->h' a.block=h a.block)(i:n<=n'):Sl h' n' sz v c:=by
 cases s with
 |nil ha=>exact .nil (uw ha i)
 |at_ hb hx hc hcap hl he=>exact .at_ Z (by rw[g _ _ _ rfl];exact hx) hc hcap hl he
def Sl.old{h:HF}{n:Nat}{c:List ψ}{x:Option BF}(s:Sl h n sz v c)(g:xC m v)(hb:b<3*m):Sl (GL.upd h b x) n sz v c:=
 s.keep (λa l cap e=>by subst e;exact zm (by have:3*m<=a.block:=g;omega)) Cy
theorem xC.mono(h:xC m v)(hm:m'<=m):xC m' v:=by unfold xC at*;split<;>simp_all;omega
def Sl.ones{h:HF}{n:Nat}{c:List ψ}(s:Sl h n sz v c)(r:List ψ):ones (v::r)=ones r:=by cases s<;>rfl
def Sl.inv{h:HF}{n:Nat}{a:Option Addr}{len:Nat}{c:List ψ}(s:Sl h n sz (Y a len cap) c)(g:len≠0):∃b off x cs,a=ξ ⟨b,off,θ⟩/\b<3*n/\h b=ξ x/\x.cells=ξ cs/\len<=cap/\off+len*sz<=O cs/\(cs.drop off).take (len*sz)=c:=by
 cases s with
 |nil ha=>exact Cu ω g
 |at_ hb hx hc hcap g he=>exact⟨_,_,_,_,ω,hb,hx,hc,hcap,g,he⟩
theorem Sl.len{h:HF}{n:Nat}{c:List ψ}(s:Sl h n sz v c):∃a l cap,v=Y a l cap/\O c=l*sz:=by cases s<;>grind
section
variable{X:CtxF}{r:List Oper}{t:TF}{h:HF}{Q:SV->Prop}{d:Tmp}
def pY(c:qt X ops t o d (o.op=.convert ty e x/\vI X.E ty e (J2 t x)=θ))(u:rX X.E ty e (J2 t x) h=ξ v)(k:EO X ops r ⟨upd t d v,h,n,w⟩ Q):EO X ops (o::r) ⟨t,h,n,w⟩ Q:=by
 have⟨c,q,s,a,l⟩:=c;have⟨y,g,i⟩:=k;refine⟨y,?_,i⟩;rw[seqF,c];have p:Kd o.op=4:=by rw[a];rfl
 have j:Kl X.E o.op (J2 t)=θ:=by rw[a];exact l
 simp only[KO,p,j];rw[a];simp only[u,xH,q,s,addW];exact g
end
inductive Gro (h:HF) (lo n:Nat) (e:TypeId) (sz:Nat):ψ->Nat->List ψ->Prop
 |nil:Gro h lo n e sz (Y θ 0 0) 0 []
 |at_ {b len:Nat} {c:List ψ} (hg:gro b=φ) (hlo:3*lo<=b) (hb:b<3*n) (hr:h b=ξ (.row c e)) (hl:O c=len*sz) (ho:ones c=φ):Gro h lo n e sz (Y (ξ ⟨b,0,θ⟩) len len) len c
def Gro.ext{h:HF}{n:Nat}{len:Nat}{c:List ψ}(g:Gro h lo n e sz v len c)(a:J3 n h h')(i:n<=n'):Gro h' lo n' e sz v len c:=by
 cases g with
 |nil=>exact .nil
 |at_ hg hlo hb hr hl ho=>exact .at_ hg hlo Z (by rw[a _ hb];exact hr) hl ho
def Gro.sl{h:HF}{n:Nat}{len:Nat}{c:List ψ}(g:Gro h lo n e sz v len c):Sl h n sz v c:=by
 cases g with
 |nil=>exact .nil (.inl ω)
 |at_ hg hlo hb hr hl ho=>exact .at_ hb hr ω Cy Z aD
def Gro.fresh{h:HF}{n:Nat}{len:Nat}{c:List ψ}(g:Gro h lo n e sz v len c):xC lo v:=by
 cases g with
 |nil=>trivial
 |at_ hg hlo hb hr hl ho=>exact hlo
theorem Gro.shape{h:HF}{n:Nat}{len:Nat}{c:List ψ}(g:Gro h lo n e sz v len c):∃a,v=Y a len len/\O c=len*sz:=by cases g<;>grind
def Keep(v:ψ)(n:Nat)(h h':HF):Prop:=∀b,b<3*n->(∀o l c,v≠Y (ξ ⟨b,o,θ⟩) l c)->h' b=h b
def Below(m:Nat):ψ->Prop
 | Y (ξ a) _ _=>a.block<3*m
 |_=>True
def Gro.below{h:HF}{n:Nat}{len:Nat}{c:List ψ}(g:Gro h lo n e sz v len c):Below n v:=by
 cases g with
 |nil=>trivial
 |at_ hg hlo hb hr hl ho=>exact hb
def Sl.below{h:HF}{n:Nat}{c:List ψ}(s:Sl h n sz v c):Below n v:=by
 cases s with
 |nil ha=>
  obtain rfl|⟨b,g,i,rfl,a⟩:=ha;trivial;exact a
 |at_ a hx hc hcap hl he=>exact a
def Sl.app{h:HF}{n:Nat}{u:ψ}{c:List ψ}(s:Sl h n sz u c)(j:Keep v n h h')(hv:Below m v)(i:xC m u)(p:n<=n'):Sl h' n' sz u c:=by
 cases s with
 |nil ha=>exact .nil (uw ha p)
 |at_ hb hx hc hcap hl he=>
  refine .at_ Z ?_ hc hcap hl he;rw[j _ hb λo l c e=>by subst e;have a:_<3*m:=hv;have g:3*m<=_:=i;simp only at a g;omega];exact hx
def yZ{a b:List ψ}(c:ones a=φ)(hb:ones b=φ):ones (a++b)=φ:=by
 induction a with
 |nil=>exact hb
 |cons v a ih=>cases v<;>simp[ones]at c⊢ <;>exact ih c
theorem uD(n:Nat):gro (3*n+1)=φ:=by simp_all [gro]
theorem my{w:List Nat}(h:∀b∈W,3*n0<=b):addW n0 W w=w:=by induction W generalizing w<;>simp_all [addW,Dd,CP]
def uf{h:HF}{n len:Nat}{x:ψ}{c:List ψ}(p:E.und sT=ξ (.slice e))(hi:E.inf e=ξ (size,bytes,z))(q:O (zn z)=size)(a:1<=size/\1<=bytes)(g:Gro h lo n e size v len c)(hx:argS h size x m new)(hm:1<=m)(hb:(len+m)*bytes<=1099511627776)(j:O new=m*size)(i:ones new=φ)(s:lo<=n):
  ∃v' h' W,yW E h n sT v x=ξ (.val v' h' (n+1) W)/\Gro h' lo (n+1) e size v' (len+m) (c++new)/\J3 lo h h'/\Keep v n h h'/\(∀b∈W,3*lo<=b)/\xC n v':=by
 cases g with
 |nil=>
  refine⟨_,_,_,append_nil p hi q a.1 a.2 hx hm aD,?_,λb hb=>zm Z,λb hb _=>zm Z,λb hb=>Cu hb CO,rp⟩;rw[C9];exact .at_ (uD n) Z Z (zg _ _ _) j i
 |at_ g hlo2 hb2 hr hl2 ho2=>
  refine⟨_,_,_,ue p hi q a.1 a.2 hx hm hb g hr hl2 (yZ ho2 i) j,?_,λb hb=>?_,λb hb l=>?_,λb hb=>?_,rp⟩;exact .at_ (uD n) Z Z (zg _ _ _) aD (yZ ho2 i);rw[zm Z,zm Z];rw[zm Z,zm (λe=>l 0 len len (by rw[e]))];simp at hb;omega
section
variable{X:CtxF}{r:List Oper}{t:TF}{h:HF}{Q:SV->Prop}{d:Tmp}
def MX{s:Operand}{len:Nat}{c:List ψ}(g:qt X ops t o d (o.op=.call {callee:=.builtin .append,args:=#[s,x],argTypes:=#[sT,xT]}/\(match X.E.und xT with|some (.int _)=>χ|none=>χ|_=>φ)=φ/\X.E.und sT=ξ (.slice e)/\X.E.inf e=ξ (size,bytes,z)/\O (zn z)=size))(p:1<=size/\1<=bytes)(C:Gro h lo n e size (J2 t s) len c)(hx:argS h size (J2 t x) m new)(hm:1<=m)(hb:(len+m)*bytes<=1099511627776)(F:O new=m*size)(j:ones new=φ)(i:X.n0<=lo/\lo<=n)
  (k:∀a h',Gro h' lo (n+1) e size a (len+m) (c++new)->J3 lo h h'->Keep (J2 t s) n h h'->EO X ops r ⟨upd t d a,h',n+1,w⟩ Q):EO X ops (o::r) ⟨t,h,n,w⟩ Q:=by have⟨g,hd,hn,G,l,H,D,I⟩:=g;have⟨a,h',W,q,u,y,B,A,_⟩:=uf H D I p C hx hm hb F j i.2;apply yM ⟨g,hd,hn,G,l⟩ q;rw[my λb hb=>by have:=A b hb;omega];exact k a h' u y B
end
def Sl.take{h:HF}{n:Nat}{a:Option Addr}{len:Nat}{c:List ψ}(s:Sl h n sz (Y a len cap) c)(m:Nat)(hm:m<=len):Sl h n sz (Y a m cap) (c.take (m*sz)):=by
 have i:=s.below;by_cases h0:len=0;have:m=0:=Z;subst this;rw[DU,EK];cases a with
 |none=>exact .nil (.inl ω)
 |some a=>
  cases s with
  |nil ha=>exact .nil ha
  |at_ i u l g hl p=>exact .nil (.inr ⟨_,_,_,ω,i⟩)
 obtain⟨b,A,x,cs,rfl,j,u,l,g,y,p⟩:=s.inv h0;have q:m*sz<=len*sz:=CM _ hm;refine .at_ j u l Z Z ?_;rw[<-p,HL,DR q]
def yp{h:HF}{len:Nat}{x:BF}(hx:h b=ξ x)(a:x.cells=ξ cs/\O cs=len*sz):argS h sz (Y (ξ ⟨b,0,θ⟩) len cap) len cs:=by have⟨a,c⟩:=a;refine⟨ω,?_⟩;simp only[yD];by_cases h0:len*sz=0;rw[Cw h0];rw[h0]at c;rw[CT.1 c];rw[Cv h0];have:Dd (0+len*sz) (O cs)=φ:=CP Z;simp only[LI,hx,a,this,FH,DT,Dy];rw[CL Z]
def uX{h:HF}{n:Nat}{a:Option Addr}{len:Nat}{c:List ψ}(s:Sl h n sz (Y a len cap) c):argS h sz (Y a len cap) len c:=by
 cases s with
 |nil ha=>
  refine⟨ω,?_⟩;obtain rfl|⟨b,g,i,rfl,_⟩:=ha<;>simp[yD]
 |at_ hb hx hc hcap hl he=>
  refine⟨ω,?_⟩;simp only[yD];by_cases h0:len*sz=0;rw[Cw h0,<-he,h0];simp;rw[Cv h0];have:Dd (_+len*sz) _=φ:=CP hl;simp only[LI,hx,hc,this,FH,DT,he]
def Xx{cs cells:List ψ}{off m j k:Nat}(a:(cs.drop off).take m=cells)(hj:j+k<=m):(cs.drop (off+j)).take k=(cells.drop j).take k:=by rw[<-a,List.drop_take,HL,Ey,DR Z]
section
variable{len:Nat}
def u32s(l:List Nat):List ψ:=l.map λd:Nat=>ν (d:Int)
theorem vZ(l:List Nat):O (u32s l)=O l:=by simp[u32s]
theorem Rb(a b:List Nat):u32s (a++b)=u32s a++u32s b:=by simp[u32s]
def yf(l:List Nat):List Nat:=(l.reverse.dropWhile (· ==0)).reverse
def wi(l:List Nat):yf (l++[0])=yf l:=by simp[yf]
def xy(l:List Nat)(h:d≠0):yf (l++[d])=l++[d]:=by simp[yf,h]
def snoc{l:List Nat}(h:l≠[]):∃i d,l=i++[d]:=⟨l.dropLast,l.getLast h,(GW h).symm⟩
theorem qG{u:ψ}(a:(cs.drop off).take m=cells)(hj:cells[j]?=ξ u):cs[off+j]?=ξ u:=by grind
theorem Ly(k:Nat){a:Option Addr}{l:List Nat}(hb:O l<4611686018427387904)(hv:Sl h n 1 (Y a len cap) (u32s l)):CF (J4 (k+1)) 148 [Y a len cap] h n λs g p w=>g=h/\p=n/\w=[]/\s=Y a (O (yf l)) cap/\Sl h n 1 s (u32s (yf l)):=by
 apply zw R4;apply(Za);have f:len=O l:=(by have⟨B,A,y,e,C⟩:=hv.len;grind [vZ]);subst f;apply ye (λc=>[(0,Y a (O c) cap)]) (λc g p w=>g=h/\p=n/\w=[]/\Sl h n 1 (Y a (O c) cap) (u32s c)/\yf c=yf l/\O c<4611686018427387904) (λc=>O c) l ⟨ω,Cx⟩ ⟨ω,ω,ω,hv,ω,hb⟩ sP;rintro c t _ _ _⟨rfl,rfl,rfl,q,o,D⟩;apply(zN);by_cases hl0:c=[];subst hl0;apply(Zp);refine retH _ ⟨ω,(zi ω),ω⟩ ⟨ω,ω,ω,?_⟩;rw[<-o];exact⟨ω,q⟩;obtain⟨i,d,rfl⟩:=snoc hl0;rw[CJ,C0]at*;cases q with
 |at_ hb2 hx hc hcap hle he=>
  rename_i b off x cs;have u:cs[off+O i]?=ξ (ν (d:Int)):=qG he (by simp[u32s]);repeat apply(zR)
  refine Lw R8 Z<|zT R6 hx (v:=ν (d:Int)) ⟨hc,aD⟩ ?_;by_cases hd:d=0;apply(Zs);apply td (O i) R8 Z Z;apply(kG);refine goOn i eC ⟨ω,Cx⟩ ⟨ω,ω,ω,.at_ hb2 hx hc Z Z ?_,?_,Z⟩;have:=congrArg (List.take (O i)) he;grind [u32s,DR];rw[<-o,hd,wi];apply(Zp);refine retH _ ⟨ω,(zi ω),ω⟩ ⟨ω,ω,ω,?_⟩;rw[<-o,xy _ hd];exact⟨by rw[CJ];rfl,.at_ hb2 hx hc hcap hle he⟩
end
def val:List Nat->Nat
 |[]=>0
 |d::r=>d+4294967296*val r
def Kh(l:List Nat):Prop:=∀d∈l,d<4294967296
theorem Of(a b:List Nat):val (a++b)=val a+4294967296^O a*val b:=by induction a<;>grind [val,only]
def Pm{l:List Nat}(h:Kh l):val l<4294967296^O l:=by
 induction l with
 |nil=>simp[val]
 |cons d l ih=>
  have b:=h d eC;have c:=ih λx a=>h x A1;simp only[val,DJ,C5];omega
theorem wF{P:List Nat->Prop}(c:∀l,P l->P (l++[0]))(b:∀l d,d≠0->P (l++[d]))(a:P []):∀l,P l:=by
 intro l;induction h:O l generalizing l with
 |zero=>rw[CT.1 h];exact a
 |succ m ih=>
  obtain⟨i,d,rfl⟩:=snoc (l:=l) aD;grind
theorem LN:∀l,val (yf l)=val l:=
 wF (λl ih=>by rw[wi,ih,Of];simp[val]) (λl d a=>by rw[xy l a]) rfl
def Rc:∀l,yf (yf l)=yf l:=
 wF (λl ih=>by rw[wi,ih]) (λl d a=>by rw[xy l a,xy l a]) rfl
def Pn:∀l,Kh l->Kh (yf l):=
 wF (λl ih h=>by rw[wi];exact ih λd a=>h d A1) (λl d a h=>by rw[xy l a];exact h) (λh=>h)
theorem xU:∀l,O (yf l)<=O l:=
 wF (λl ih=>by rw[wi];simp;omega) (λl d a=>by rw[xy l a];exact Ej _) (by simp[yf])
def Norm(l:List Nat):Prop:=Kh l/\yf l=l
theorem Norm.trim{l:List Nat}(h:Kh l):Norm (yf l):=⟨Pn l h,Rc l⟩
def Norm.last{l:List Nat}{d:Nat}(h:Norm (l++[d])):d≠0:=λe=>by
 have a:=h.2;subst e;rw[wi]at a;have:=xU l;rw[a]at this;simp at this;omega
def Norm.pos{l:List Nat}(h:Norm l)(b:l≠[]):0<val l:=by
 obtain⟨i,d,rfl⟩:=snoc b;have c:=h.last;rw[Of];have:0<4294967296^O i:=Ds Z;have a:0<val [d]:=by simp[val];omega
 have:=Et this a;omega
def Norm.zero{l:List Nat}(h:Norm l):val l=0↔l=[]:=by constructor;intro b;apply CW;intro a;have:=h.pos a;omega;rintro rfl;rfl
structure IntR (h:HF)(n:Nat)(c1 c2:ψ)(x:Int)(l:List Nat):Prop where
 neg:c1=U (decide (x<0))
 sl:Sl h n 1 c2 (u32s l)
 norm:Norm l
 val:val l=x.natAbs
def IntR.ext{h h':HF}{n n':Nat}{a b:ψ}{x:Int}{l:List Nat}(r:IntR h n a b x l)(e:J3 n h h')(c:n<=n'):IntR h' n' a b x l:=⟨r.neg,r.sl.ext e c,r.norm,r.val⟩
theorem Mi(k:Nat)(h:HF)(n:Nat)(b:Bool)(a:Option Addr)(l c:Nat):CF (J4 (k+1)) 111 [U b,Y a l c] h n λv d e w=>v=.agg #[U (b&&decide (0<l)),Y a l c]/\e=n+1/\w=[]/\J3 n h d:=by
 apply zw R4;apply(zN);apply xV R5;apply(zN);cases b
 .repeat apply(zR)
  apply yc [U χ,Y a l c] R7 rfl (zg _ _ _) rfl (by show 3*n<=_;omega);apply(zN);exact uq R5 (zg _ _ _) rfl ⟨rfl,rfl,rfl,by rw[uk];exact J3.upd Z⟩
 by_cases hl:0<l
 .repeat apply(zR)
  apply yc [U φ,Y a l c] R7 rfl (zg _ _ _) rfl (by show 3*n<=_;omega);apply(zN);exact uq R5 (zg _ _ _) rfl ⟨by rw[Ct hl];rfl,rfl,rfl,by rw[uk];exact J3.upd Z⟩
 repeat apply(zR)
 apply yc [U χ,Y a l c] R7 rfl (zg _ _ _) rfl (by show 3*n<=_;omega);apply(zN);exact uq R5 (zg _ _ _) rfl ⟨by rw[BG hl];rfl,rfl,rfl,by rw[uk];exact J3.upd Z⟩
def qK(m:Nat)(h:0<m/\m<=18446744073709551616):Df .u64 (-(m:Int))=((18446744073709551616-m:Nat):Int):=by simp only[Df,Fw,Em];simp;omega
def ra(a:Nat)(h:0<a/\a<18446744073709551616):Df .u64 (0-(a:Int))=((18446744073709551616-a:Nat):Int):=by simp only[Df,Fw,Em];simp;omega
theorem Rd(m:Nat)(hm:m<18446744073709551616):Kh [m%4294967296,m/4294967296]/\val [m%4294967296,m/4294967296]=m:=by refine⟨λd a=>?_,?_⟩;simp at a;obtain rfl|rfl:=a<;>omega;simp only[val];omega
theorem Xy(k:Nat)(h:HF)(n:Nat)(x:Int)(hx: -9223372036854775808<=x/\x<9223372036854775808):CF (J4 (k+2)) 194 [υ x] h n λv d f w=>w=[]/\n<=f/\J3 n h d/\∃c1 c2 l,v=.agg #[c1,c2]/\IntR d f c1 c2 x l/\xC n c2/\O l<=2:=by
 apply zw R4;obtain⟨m,D⟩:∃m,m=x.natAbs:=⟨_,ω⟩;have g:m<18446744073709551616:=Z;apply(zN);apply xV R5;apply(zN);generalize hh:upd h (3*n+2) _=h1;have A:∃e,h1 (3*n+2)=ξ (.row [U χ,η] e):=⟨_,gQ⟩;have j:J3 n h h1:=by grind [J3.upd]
 repeat apply(zR)
 refine wm (ik:=.u64) (a:=((if x<0 then 18446744073709551616-m else m:Nat):Int)) R6 ?_ ?_;show ξ (ι (Df .u64 x))=_;by_cases hn:x<0;rw[Cw hn,show x= -(m:Int)from Z,qK m Z];rw[Cv hn,show x=(m:Int)from Z,xR,C1 g];apply(Zn);refine Mz [(0,υ x),(2,ε (3*n+2)),(3,ι (m:Int))] (λd f w=>h1=d/\f=n+1/\w=[]) ?_ ?_;by_cases hn:x<0;rw[ze (by show U (decide (x<0))=_;rw[Ct hn])];apply(zN);refine st_I R5<|zZ (v:=ι (m:Int)) R4 ?_ ?_;show ξ (ι (Df .u64 (0-((if x<0 then 18446744073709551616-m else m:Nat):Int))))=_;rw[Cw hn,ra _ Z];congr 3;omega;apply(kG);exact Le P3 R3;rw[za (by show U (decide (x<0))=_;rw[BG hn])];apply(zN);exact Le ⟨ω,ω,by show ι ((if x<0 then 18446744073709551616-m else m:Nat):Int)=_;rw[Cv hn],Cx⟩ R3;rintro t _ _ _⟨rfl,rfl,rfl⟩;apply(Zg);apply ft R7;apply(zM);refine yn (s:=32) R6 Z<|ft R7 ?_;have F:m/2^32%4294967296=m/4294967296:=Z;rw[F];refine pZ (cs:=u32s [m%4294967296,m/4294967296]) R5<|zF _ R5 (Ly k (l:=[m%4294967296,m/4294967296]) eC (.at_ Z (zg _ _ _) ω Z (by simp[u32s]) ω)) ?_;rintro H _ _ _⟨rfl,rfl,rfl,rfl,G⟩;apply zF _ R5 (Mi k _ _ (decide (x<0)) _ _ _);generalize hL:yf [m%4294967296,m/4294967296]=L at*;have p:O L<=2:=by rw[<-hL];exact xU _
 have y:val L=m:=by rw[<-hL,LN,(Rd m g).2]
 have u:Norm L:=by grind [Norm.trim,Rd]
 have o:(decide (x<0)&&decide (0<O L))=decide (x<0):=by grind [val,Gy.2]
 rintro I B n2 _⟨rfl,rfl,rfl,c⟩;have⟨e,C⟩:=A;have i:B (3*n+2)=ξ (.row [U χ,η] e):=(by rw[c _ Z,zm Z];exact C);apply yc [U (decide (x<0)),Y (ξ ⟨3*(n+1)+2,0,θ⟩) (O L) 2] ⟨ω,ω,ω,ω,ω,(by show[U (decide (x<0)&&decide (0<O L)),_]=_;rw[o]),ω⟩ ω i ω eF;apply(zN);refine uq R5 (zg _ _ _) ω ⟨ω,Z,λb i=>?_,_,_,L,ω,⟨ω,?_,u,by rw[y,D]⟩,?_,p⟩;rw[zm Z,c b Z,zm Z];exact j b i;exact(G.ext c Z).old (show 3*(n+1)<=3*(n+1)+2 from Z) Z;exact gN
structure RatR (h:HF)(n:Nat)(n1 n2 d1 d2:ψ)(q:Rat)(ln ld:List Nat):Prop where
 num:IntR h n n1 n2 q.num ln
 neg:d1=U χ
 sl:Sl h n 1 d2 (u32s ld)
 norm:Norm ld
 val:val ld=if q.den=1 then 0 else q.den
def Norm.nil:Norm []:=⟨λd a=>Cu a CO,ω⟩
def Po(k:Nat){g i:ψ}{x:Int}{l:List Nat}(hi:IntR h n g i x l):VF (J4 (k+1)) 112 [.agg #[g,i]] h n λv=>v=υ x.sign:=by apply zO R4;obtain⟨a,c,m,rfl,d⟩:=hi.sl.len;have f:=hi.neg;subst f;apply(zN);apply Lb R5;apply(Zl);apply zT R6 (zg _ _ _) R2;apply(kG);by_cases hx:x<0;rw[ze (by show U (decide (x<0))=_;rw[Ct hx])];apply(Za);exact retF _ ω (zi ω) R2 (by rw[Int.sign_eq_neg_one_of_neg hx];rfl);rw[za (by show U (decide (x<0))=_;rw[BG hx])];apply(Zg);apply zT R6 (zg _ _ _) R2;have b:c=0↔x=0:=(by have j:=hi.norm.zero;have o:=hi.val;rw[vZ]at d;rw[<-CT]at j;omega);by_cases h0:x=0;have:=b.2 h0;apply(Zr);exact retF _ ω (zi ω) R2 (by rw[h0];rfl);have:¬c=0:=λe=>h0 (b.1 e);apply(Zp);exact retF _ ω (zi ω) R2 (by rw[Int.sign_eq_one_of_pos Z];rfl)
def Xz(k:Nat)(a:RatR h n n1 n2 d1 d2 q ln ld):VF (J4 (k+2)) 91 [.agg #[n1,n2,d1,d2]] h n λv=>v=υ q.num.sign:=by apply zO R4;apply(zN);apply Lb R5;apply(Zl);refine z7 R5 (yw R2 (zg _ _ _) ω zb ω)<|yi _ R5 (Po k (a.num.ext (J3.upd Z) Z)) ?_;rintro _ rfl;apply(kG);exact Bv
section
variable{len:Nat}
theorem XA(j:Nat)(z v:ψ)(r:List ψ):zu (CI (j+1) z++r) j [v]=CI j z++(v::r):=by grind [zu,CI,Dh,List.take_left,List.drop_left]
theorem uR{l:List Nat}(h:l[j]?=ξ d):l.drop j=d::l.drop (j+1):=by obtain⟨b,rfl⟩:=CK.1 h;exact EG b
theorem Pp(r a:Nat)(e:r<4294967296)(c:a<4294967296):r*2^32%18446744073709551616|||a=r*4294967296+a:=by have b:r*2^32%18446744073709551616=r*4294967296:=Z;rw[b];have:=Iq (i:=32) Z r;grind
theorem XB{Vq:Nat}(b:0<d)(c:V=d*Vq+r):(a+4294967296*V)/d=(r*4294967296+a)/d+4294967296*Vq/\(a+4294967296*V)%d=(r*4294967296+a)%d:=by
 have e:a+4294967296*V=(r*4294967296+a)+d*(4294967296*Vq):=by grind
 rw[e,G7 _ _ b,FC];exact⟨ω,ω⟩
theorem Re(k:Nat){a:Option Addr}{l:List Nat}(hb:O l<1099511627)(T:Kh l)(i:0<d/\d<4294967296)(hv:Sl h n 1 (Y a len cap) (u32s l)):
  CF (J4 (k+2)) 171 [Y a len cap,ν (d:Int)] h n λv m B w=>w=[]/\n<=B/\J3 n h m/\∃p c' L,v=.tuple #[Y p (O L) c',ν ((val l%d:Nat):Int)]/\Sl m B 1 (Y p (O L) c') (u32s L)/\Norm L/\val L=val l/d/\xC n (Y p (O L) c')/\O L<=O l:=by
 apply zw R4;have A:len=O l:=by
  obtain⟨p,a2,Z0,e,T⟩:=hv.len
  grind [vZ]
 subst A;apply(Zu);apply vB R9 Z;rw[show zn (ν 0)=[ν 0]from rfl,Xo];apply(Zn);apply(kG);refine ye (α:=Nat×List Nat×Nat) (λx=>[(0,Y a (O l) cap),(1,ν (d:Int)),(6,Y (ξ ⟨3*n+2,0,θ⟩) (O l) (O l)),(7,ι ((x.2.2:Nat):Int)),(8,υ ((x.1:Int)-1))])
  (λx m B w=>B=n+1/\w=[]/\J3 n h m/\x.1<=O l/\(∃e,m (3*n+2)=ξ (.row (CI x.1 (ν 0)++u32s x.2.1) e))/\x.1+O x.2.1=O l/\Kh x.2.1/\x.2.2<d/\val (l.drop x.1)=d*val x.2.1+x.2.2) (λx=>x.1)
  (O l,[],0) ⟨rfl,rfl,rfl,rfl,rfl,Cx⟩ ⟨rfl,rfl,J3.upd Z,Cy,⟨_,by rw[zg,show u32s []=[]from rfl,Dm]⟩,eC,λd i=>Cu i CO,i.1,by simp[val]⟩ sP ?_
 rintro⟨j,q,r⟩ t h1 _ _ ⟨rfl,rfl,f,hj,⟨e,g⟩,S,I,hr,G⟩;simp only at hj g S I hr G;apply(zN);cases j with
 |zero=>
  apply(Zz);apply zF _ R5 (Ly k (l:=q) Z (.at_ Z g rfl Z (by simp[u32s];omega) (by grind [u32s,CL])));rintro v' _ _ _⟨rfl,rfl,rfl,rfl,hs⟩;apply(zM);apply ft R7;apply(kG);have Z1:l.drop 0=l:=rfl;rw[Z1]at G;refine retH [Y (ξ ⟨3*n+2,0,θ⟩) (O (yf q)) (O l),ν ((val l%d:Nat):Int)] ⟨rfl,?_,rfl⟩ ⟨rfl,Ai,f,_,_,yf q,rfl,hs,Norm.trim I,?_,?_,?_⟩
  .have D:val l%d=r%4294967296:=by grind [Nat.mul_add_mod,C1]
   rw[D];rfl
  .grind [LN,Nat.mul_add_div,EP]
  .exact bJ
  have:=xU q;omega
 |succ j=>
  have H:j<O l:=Z;obtain⟨c,o⟩:∃c,l[j]?=ξ c:=⟨l[j],by simp[H]⟩;have P:c<4294967296:=T c (CE o);have u:=uR o;obtain⟨b,W,x,K,rfl,N,hx,hc,a1,a3,he⟩:=hv.inv Z;have Z3:K[W+j]?=ξ (ν (c:Int)):=qG he (by rw[u32s,Dx,o];rfl);have Z4:h1 b=ξ x:=by rw[f b N];exact hx
  apply(ZD);apply xK (s:=32) R6 Z;apply(Zb);apply Lw R8 Z;apply zT R6 Z4 (v:=ν (c:Int)) ⟨hc,aD⟩;apply N9 R7;rw[C1 (show c<18446744073709551616 by omega)];apply wG R6 Z;rw[Pp r c Z P];apply(kG);obtain⟨R,F⟩:∃R,R=r*4294967296+c:=⟨_,rfl⟩;rw[<-F];have C:R/d<4294967296:=by
   rw[Ee i.1,F];omega
  have a0:R<18446744073709551616:=Z;apply(Zb);apply(Zb);apply N9 R7;rw[C1 (show d<18446744073709551616 by omega)];apply xN R6 Z;apply ft R7;rw[C1 C];apply Lw R8 Z;apply yF (cs:=[ν ((R/d:Nat):Int)]) R8 g (by simp[u32s]) eF;rw[show 0+((j+1:Nat)-1:Int).toNat*1=j from Z,XA];apply(Zt);apply N9 R7;rw[C1 (show d<18446744073709551616 by omega)];apply vO R6 Z;apply(Zn);obtain⟨D,e2⟩:=XB i.1 G;refine goOn (j,(R/d)::q,R%d) eC ⟨rfl,rfl,rfl,rfl,dG,Cx⟩ ⟨rfl,rfl,λb hb=>?_,Be,⟨_,zg _ _ _⟩,by show j+(O q+1)=_;omega,?_,Dz _ i.1,?_⟩
  .exact(zm Z).trans (f b hb)
  .intro y J;rcases De.1 J with rfl|J
   .exact C
   exact I y J
  show val (l.drop j)=d*(R/d+4294967296*val q)+R%d;rw[u];have M:=DN (c+4294967296*val (l.drop (j+1))) d;rw[D,e2,<-F]at M;exact M.symm
end
section
variable{len:Nat}
def decD(V:Nat):List Nat:=if h:V=0 then[]else decD (V/10)++[V%10]
termination_by V
decreasing_by omega
theorem xo:decD 0=[]:=by rw[decD];simp
theorem wy(h:V≠0):decD V=decD (V/10)++[V%10]:=by rw[decD,dif_neg h]
theorem Rf(a:c<10)(h:V≠0\/c≠0):decD (10*V+c)=decD V++[c]:=by grind [wy]
def XC:decD V=[]↔V=0:=by constructor;intro h;apply CW;intro a;rw[wy a]at h;simp at h;rintro rfl;exact xo
def Kn(l:List Nat):List ψ:=l.map λd:Nat=>Γ (d:Int)
theorem rU(l:List Nat):O (Kn l)=O l:=by simp[Kn]
theorem XD(l:List Nat):pi (Kn l)=ξ (l.map Ec):=by induction l<;>simp_all [pi,Kn,θ,Ec]
def rE(l:List Nat):ones (Kn l)=φ:=by
 induction l with
 |nil=>rfl
 |cons d l ih=>exact ih
def decB(V:Nat):List Nat:=(decD V).map (48+ ·)
def Pq(V:Nat):ByteArray:=⟨⟨if V=0 then[48]else(decB V).map Ec⟩⟩
def Lf(V:Nat):Nat:=if h:V=0 then 0 else Lf (V/1000000000)+1
termination_by V
decreasing_by omega
theorem Rg:Lf 0=0:=by rw[Lf];simp
def Rh(h:V≠0):Lf V=Lf (V/1000000000)+1:=by rw[Lf,dif_neg h]
def XE:∀(m V:Nat),V<1000000000^m->Lf V<=m:=by
 intro m;induction m with
 |zero=>(intro V h;have:V=0:=by simpa using h);subst this;rw[Rg];exact Ej _
 |succ m ih=>
  intro V h;by_cases h0:V=0;subst h0;rw[Rg];omega;rw[Rh h0];have:=ih (V/1000000000) Z;omega
def Ri{l:List Nat}(h:Kh l):Lf (val l)<=2*O l:=by apply XE;refine CS (Pm h) ?_;rw[HC];exact Gz zd _
def valP:List Nat->Nat
 |[]=>0
 |d::r=>d+1000000000*valP r
theorem XF(a b:List Nat):valP (a++b)=valP a+1000000000^O a*valP b:=by induction a<;>grind [valP,only]
def rg{d:TypeId}{a:Option Addr}{B:List Nat}(b:E.und ty=ξ (.slice d)/\E.und e=ξ .string/\E.und d=ξ (.int .u8))(i:argS h 1 (Y a len c) len (Kn B)):rX E ty e (Y a len c) h=ξ (CG ⟨⟨B.map Ec⟩⟩):=by have⟨b,f,g⟩:=b;simp only[rX,b,f,g,i.2,XD]
def gi(a:c<10)(h:V≠0\/c≠0):decB (10*V+c)=decB V++[48+c]:=by unfold decB;rw[Rf a h];simp
def XG(p s:Nat):10*(p/10^(s+1))+p/10^s%10=p/10^s:=by
 have:p/10^(s+1)=p/10^s/10:=by rw[C5,Fm]
 rw[this];omega
def XH(s:Nat):10^(s+1)/10=10^s:=by rw[C5];omega
def XI{s:Nat}(h:s<=9):10^s<=1000000000:=by have:=CQ (n:=10) Z h;omega
def kY(V:Nat):O (decB V)=O (decD V):=by simp[decB]
theorem Rj(k:Nat){c1 c2:ψ}{x:Int}{l:List Nat}(hi:IntR h n c1 c2 x l)(hb:O l<1000000):VF (J4 (k+3)) 130 [.agg #[c1,c2]] h n λv=>v=CG (Pq x.natAbs):=by
 apply zO R4;obtain⟨a,len,ae,rfl,ab⟩:=hi.sl.len;have ax:len=O l:=by rw[vZ]at ab;omega
 subst ax;have ac:=hi.neg;subst ac;have J:=hi.val;apply(zN);apply Lb R5;apply(Zl);apply zT R6 (zg _ _ _) R2;apply(zM);by_cases h0:l=[]
 .have:O l=0:=by rw[h0];rfl
  apply(Zr);have b5:x.natAbs=0:=by rw[<-J,h0];rfl
  exact retF _ rfl (zi rfl) R2 (by rw[b5];rfl)
 have be:O l≠0:=λe=>h0 (CT.1 e);apply(Zp);repeat apply(zR)
 apply zT R6 (zg _ _ _) R2;apply(kG);generalize hh:upd h (3*n+2) _=h1;have aa:J3 n h h1:=by grind [J3.upd]
 refine ye (α:=ψ×Option Addr×Nat×List Nat×List Nat) (λz=>[(3,z.1),(4,Y z.2.1 (O z.2.2.2.1) z.2.2.1)])
  (λz i g w=>w=[]/\n+1<=g/\Gro i (n+1) g 196 1 z.1 (O z.2.2.2.2) (u32s z.2.2.2.2)/\Sl i g 1 (Y z.2.1 (O z.2.2.2.1) z.2.2.1) (u32s z.2.2.2.1)/\Norm z.2.2.2.1/\O z.2.2.2.1<=O l/\O z.2.2.2.2+Lf (val z.2.2.2.1)<=2*O l/\(∀p∈z.2.2.2.2,p<1000000000)/\val l=valP z.2.2.2.2+1000000000^O z.2.2.2.2*val z.2.2.2.1)
  (λz=>Lf (val z.2.2.2.1)) (η,a,ae,l,[]) ⟨rfl,rfl,Cx⟩ ⟨rfl,Cy,.nil,hi.sl.ext aa Z,hi.norm,Cy,by have:=Ri hi.norm.1;simp;omega,eC,by simp[valP]⟩ (by show Lf (val l)<LL;have:=Ri hi.norm.1;unfold LL;omega) ?_
 rintro⟨v3,a4,c4,L,P⟩ t h2 o w2 ⟨rfl,bg,C,hs,hN,ag,ai,hP,G⟩;simp only at C hs hN ag ai hP G;apply(zN);by_cases hL0:L=[]
 .have Z0:O L=0:=by rw[hL0];rfl
  have G:val l=valP P:=by rw[G,hL0];simp[val]
  apply(Zp);obtain⟨a3,rfl,_⟩:=C.shape;apply(kG);have b8:O P<4000000:=Z;refine ye (α:=Nat×ψ×Nat) (λz=>[(3,Y a3 (O P) (O P)),(7,z.2.1),(8,υ ((z.1:Int)-1))])
   (λz i g w=>w=[]/\o<=g/\z.1<=O P/\J3 o h2 i/\z.2.2=valP (P.drop z.1)/\Gro i o g 5 1 z.2.1 (O (decD z.2.2)) (Kn (decB z.2.2))/\O (decD z.2.2)<=9*(O P-z.1)) (λz=>z.1)
   (O P,η,0) ⟨rfl,rfl,rfl,Cx⟩ ⟨rfl,Cy,Cy,J3.refl _ _,by simp[valP],by show Gro _ _ _ _ _ _ (O (decD 0)) (Kn (decB 0));rw[decB,xo];exact .nil,by rw[xo];simp⟩ (by show O P<LL;unfold LL;omega) ?_
  rintro⟨j,v7,V⟩ t h4 n4 w4 ⟨rfl,az,hj,b6,H,q,ao⟩;simp only at hj H q ao;apply(zN);cases j with
  |zero=>
   apply(Zj);obtain⟨a7,rfl,_⟩:=q.shape;have al:V=x.natAbs:=by rw[H,<-J,G];rfl
   have aj:V≠0:=by have:=hi.norm.pos h0;omega
   repeat apply(zR)
   apply pY R5 (rg R3 (uX q.sl));apply(kG);exact retF _ rfl (zi rfl) R2 (by rw[<-al,Pq,Cv aj];rfl)
  |succ j=>
   have au:j<O P:=Z;obtain⟨p,f⟩:∃p,P[j]?=ξ p:=⟨P[j],by simp[au]⟩;have b0:p<1000000000:=hP p (CE f);have Z1:=uR f;have b1:=C.sl;obtain⟨Z3,M,x3,af,rfl,am,K,an,b9,bb,aq⟩:=b1.inv Z;have N:af[M+j]?=ξ (ν (p:Int)):=qG aq (by rw[u32s,Dx,f];rfl);apply(Zr);refine ye (α:=Nat×ψ×Nat) (λz=>[(3,Y (ξ ⟨Z3,M,θ⟩) (O P) (O P)),(7,z.2.1),(8,υ (((j+1:Nat):Int)-1)),(9,ν ((10^z.1/10:Nat):Int))])
    (λz i g w=>w=[]/\o<=g/\z.1<=9/\J3 o h2 i/\z.2.2=V*10^(9-z.1)+p/10^z.1/\Gro i o g 5 1 z.2.1 (O (decD z.2.2)) (Kn (decB z.2.2))/\O (decD z.2.2)<=9*(O P-(j+1))+(9-z.1)) (λz=>z.1)
    (9,v7,V) ⟨rfl,rfl,rfl,congrArg (ν) (show(100000000:Int)=((10^9/10:Nat):Int)from by decide),Cx⟩ ⟨rfl,az,Cy,b6,by show V=V*10^0+p/10^9;omega,q,by show(decD V).length<=_;omega⟩ (by show 9<LL;unfold LL;omega) ?_
   rintro⟨s,v8,Z4⟩ t h5 n5 w5 ⟨rfl,W,b4,y,hU,m,a1⟩;simp only at b4 hU m a1;have ad:h5 Z3=ξ x3:=by rw[y Z3 am];exact K
   obtain⟨a8,rfl,_⟩:=m.shape;apply(zN);cases s with
   |zero=>
    have hz:((10^0/10:Nat):Int)=0:=rfl;apply(Zp);refine goOn (j,Y a8 (O (decD Z4)) (O (decD Z4)),Z4) eC ⟨rfl,rfl,dG,Cx⟩ ⟨rfl,W,Be,y,?_,m,by show(decD Z4).length<=9*(O P-j);omega⟩;show Z4=valP (P.drop j);rw[Z1,hU];simp only[valP,<-H];omega
   |succ s=>
    have ap:10^(s+1)/10=10^s:=XH s;have bc:=XI Z;have ba:0<10^s:=Ds Z;rw[ap];generalize hD:10^s=D at*
    apply(Zs);apply Lw R8 Z;apply zT R6 ad ⟨an,(by rw[<-N];congr 1;omega)⟩;apply(zM);apply LW R6 Z;apply wR (b:=10) R6 Z;apply xu (a:=48) R6 Z;apply mE R7;obtain⟨c,hc⟩:∃c,c=p/D%10:=⟨_,rfl⟩;have a0:c<10:=Z;rw[<-hc,C1 (show 48+c<256 by omega)];have R:V*10^(9-s)+p/D=10*Z4+c:=by
     have e1:=XG p s;rw[hD]at e1;rw[hU,show 9-s=(9-(s+1))+1 from Z,C5,hc,<-e1];have:10^(s+1)=10^(s+1):=rfl;generalize p/10^(s+1)=A;generalize 10^(9-(s+1))=B;rw[DS,<-Di,<-Di];have:V*B*10=10*V*B:=by rw[CY (V*B) 10,Di]
     omega
    apply(kG);have u:O (decD Z4)=0↔Z4=0:=by rw[CT,XC]
    by_cases hA:Z4=0/\c=0
    .have aw:=u.2 hA.1;apply(ZB);apply LW (b:=10) R6 Z;apply(kG);refine goOn (s,Y a8 (O (decD Z4)) (O (decD Z4)),Z4) eC ⟨rfl,rfl,rfl,AO,Cx⟩ ⟨rfl,W,by show s<=9;omega,y,?_,m,by show(decD Z4).length<=_;omega⟩;show Z4=V*10^(9-s)+p/10^s;rw[hD,R];omega
    have a2:O (decD (10*Z4+c))=O (decD Z4)+1:=by grind [Rf]
    by_cases hU0:Z4=0<;>
    (have aw:=u
     apply(Zs);apply pZ R5;apply MX R8 zd (m.ext (J3.upd Z) Zq) (yp (zg _ _ _) R2) Cy Z rfl rfl (by show n<=_/\_;omega);intro v9 h9 T b7 bd;obtain⟨a9,rfl,_⟩:=T.shape;apply(kG);apply st_I R5;apply LW (b:=10) R6 Z;apply(kG);refine goOn (s,Y a9 (O (decD Z4)+1) (O (decD Z4)+1),10*Z4+c) eC ⟨rfl,rfl,rfl,AO,Cx⟩ ⟨rfl,by show o<=n5+1+1;omega,by show s<=9;omega,λb hb=>?_,?_,?_,by show(decD (10*Z4+c)).length<=_;omega⟩
     .exact(b7 b hb).trans ((zm Z).trans (y b hb))
     .show 10*Z4+c=V*10^(9-s)+p/10^s;rw[hD,R]
     .show Gro _ _ _ _ _ _ (O (decD (10*Z4+c))) (Kn (decB (10*Z4+c)));rw[a2,gi a0 Z,show Kn (decB Z4++[48+c])=Kn (decB Z4)++Kn [48+c]from by simp[Kn]];exact T)
 have Z0:O L≠0:=λe=>hL0 (CT.1 e);have ak:val L≠0:=by have:=hN.pos hL0;omega
 have b0:=Rh ak;apply(Zs);apply zF _ R5 (Re k (d:=1000000000) Z hN.1 Z hs);rintro _ h3 n3 _⟨rfl,ay,K,a5,c5,F,rfl,b2,ah,I,ar,bf⟩;apply(kG);obtain⟨a3,rfl,_⟩:=C.shape;repeat apply(zR)
 apply pZ R5;apply MX R8 zd ((C.ext K ay).ext (J3.upd Z) Zq) (yp (zg _ _ _) R2) Cy Z rfl rfl (by show n<=_/\_;omega);intro v' h6 S bh av;obtain⟨a6,rfl,_⟩:=S.shape;apply(Zn);refine goOn (Y a6 (O P+1) (O P+1),a5,c5,F,P++[val L%1000000000]) ?_ ⟨rfl,rfl,Cx⟩ ⟨rfl,by show n+1<=n3+1+1;omega,?_,?_,ah,by show O F<=_;omega,?_,?_,?_⟩
 .show Lf (val F)<Lf (val L);rw[I];omega
 .show Gro _ _ _ _ _ _ (O (P++[_])) (u32s (P++[_]));rw[Rb,CJ];exact S
 .exact(b2.ext (J3.upd Z) Zq).app av C.below ar Zq
 .show(P++[_]).length+Lf (val F)<=_;rw[I,CJ,C0];omega
 .intro p f;rcases DQ.1 f with f|f
  .exact hP p f
  simp at f;subst f;omega
 show val l=valP (P++[_])+1000000000^O (P++[_])*val F;rw[XF,CJ,C0,C5,I,G];simp only[valP];have:=DN (val L) 1000000000;rw[Di,Gs,<-DS];congr 2;omega
end
theorem ws:∀(m V:Nat),V<10^m->O (decD V)<=m:=by
 intro m;induction m with
 |zero=>(intro V h;have:V=0:=by simpa using h);subst this;rw[xo];exact Ej _
 |succ m ih=>
  intro V h;by_cases h0:V=0;subst h0;rw[xo];simp;rw[wy h0,CJ];grind
def decT(V:Nat):List UInt8:=if V=0 then[48]else(decB V).map Ec
def Rk(V:Nat):Pq V=⟨⟨decT V⟩⟩:=rfl
def Rl{l:List Nat}(h:Kh l):O (decT (val l))<=10*O l+1:=by unfold decT;split;simp;rw[CN,kY];have:=ws (10*O l) (val l) (CS (Pm h) (by simp[HC,Gz]));omega
def ratT(q:Rat):List UInt8:=(if q.num<0 then[45]else[])++(decT q.num.natAbs++(if q.den=1 then[]else 47::decT q.den))
section
variable{X:CtxF}{r:List Oper}{t:TF}{h:HF}{Q:SV->Prop}{d:Tmp}
theorem Pr{a b:List UInt8}(c:qt X ops t o d (o.op=.binOp .add ty x y ty'/\J2 t x=CG ⟨⟨a⟩⟩/\J2 t y=CG ⟨⟨b⟩⟩))(i:O a+O b<=1099511627776)
  (k:EO X ops r ⟨upd t d (CG ⟨⟨a++b⟩⟩),h,n,w⟩ Q):EO X ops (o::r) ⟨t,h,n,w⟩ Q:=by have⟨c,f,g,e,j,l⟩:=c;refine zZ ⟨c,f,g,AF⟩ ?_ k;rw[e];show binE X.E .add ty (J2 t x) (J2 t y)=_;grind [only,binE,strE]
end
def IntR.of_den{h:HF}{n:Nat}(a:RatR h n n1 n2 d1 d2 q ln ld)(c:q.den≠1):IntR h n d1 d2 (q.den:Int) ld:=by have b:=a.val;rw[Cv c]at b;exact⟨by rw[a.neg];simp,a.sl,a.norm,by rw[b];simp⟩
theorem Rm(k:Nat){h:HF}{n:Nat}(j:RatR h n n1 n2 d1 d2 q ln ld)(hb:O ln<1000000/\O ld<1000000):VF (J4 (k+4)) 88 [.agg #[n1,n2,d1,d2]] h n λv=>v=CG ⟨⟨ratT q⟩⟩:=by
 apply zO R4;have b:=j.num;have p:=b.neg;subst p;obtain⟨u,s,f,rfl,l⟩:=j.sl.len;have g:s=O ld:=by rw[vZ]at l;omega
 subst g;have A:=Rl b.norm.1;rw[b.val]at A;apply(zN);apply Lb (cs:=[U (decide (q.num<0)),n2,d1,Y u (O ld) f]) R5;apply(Zl);refine z7 (v:=.agg #[U (decide (q.num<0)),n2]) R5 (yw R2 (zg _ _ _) ω zb ω)<|yi _ R5 (Rj k (b.ext (J3.upd Z) Z) hb.1) ?_;rintro _ rfl;rw[Rk];apply(Zl);apply zT R6 (zg _ _ _) (v:=U (decide (q.num<0))) R2;apply(zN);generalize hh:upd h (3*n+2) _=h1;have m:J3 n h h1:=by grind [J3.upd]
 have a:∃e,h1 (3*n+2)=ξ (.row [U (decide (q.num<0)),n2,d1,Y u (O ld) f] e):=⟨_,gZ⟩;refine Mz [(1,ε (3*n+2)),(3,CG ⟨⟨(if q.num<0 then[45]else[])++decT q.num.natAbs⟩⟩)] (λB D w=>h1=B/\D=n+1/\w=[]) ?_ ?_;by_cases hn:q.num<0;rw[ze (by show U (decide (q.num<0))=_;rw[Ct hn])];apply(Zg);apply Pr R6 eP;apply(kG);exact Le ⟨ω,by rw[Cw hn];rfl,Cx⟩ R3;rw[za (by show U (decide (q.num<0))=_;rw[BG hn])];apply(zN);exact Le ⟨ω,by rw[Cv hn];rfl,Cx⟩ R3;rintro t _ _ _⟨rfl,rfl,rfl⟩;have⟨e,a⟩:=a;apply(Zg);apply zT R6 a R2;have i:O ld=0↔q.den=1:=(by rw[CT,<-j.norm.zero,j.val];have:=q.den_pos;split<;>omega);by_cases hd:q.den=1;have:=i.2 hd;apply(Zp);exact retF _ ω (zi ω) R2 (by rw[ratT,Cw hd,Dm];rfl);have C:¬(O ld)=0:=λe=>hd (i.1 e);have c:=IntR.of_den j hd;have g:=Rl c.norm.1;rw[c.val,CR]at g;apply(Zs);refine z7 R5 (yw R2 a ω zb ω)<|yi _ R5 (Rj k (c.ext m Z) hb.2) ?_;rintro _ rfl;rw[Rk,CR];apply Pr R6 eP;refine Pr R6 ?_ ?_;grind;apply(Zn);exact retF _ ω (zi ω) R2 (by rw[ratT,Cv hd];show CG ⟨⟨((if q.num<0 then[45]else[])++decT q.num.natAbs)++([47]++decT q.den)⟩⟩=_;rw[Dh];rfl)
section
variable{len:Nat}
def MD(E:Env):Op->Bool
 | .convert _ d _=>(match E.und d with|some (.int _)=>φ|_=>χ)
 |o=>HI (Kd o) 2
def Ps{o:Op}(h:MD E o=φ):Kd o<2\/∃t d x k,o=.convert t d x/\E.und d=ξ (.int k):=by unfold MD at h;split at h;rename_i t d x;split at h;rename_i k hk;exact .inr ⟨t,d,x,k,ω,hk⟩;cases h;exact .inl (Da h)
theorem sQ{t d:TypeId}{k:IntKind}(h:E.und d=ξ (.int k))(v:ψ):vI E t d v=θ:=by unfold vI;rw[h];split<;>simp_all
theorem vJ{t d:TypeId}{k:IntKind}(h:E.und d=ξ (.int k))(v:ψ)(g:HF):rX E t d v g=θ:=by unfold rX;rw[h];split<;>simp_all
def eZ{X:CtxF}{ops:List Oper}:∀(l:List Oper) (ms:List Nat) (i:Nat) (s:SV) (ld:List (Nat×Nat)),O l<=O ms->l.all (λo=>MD X.E o.op)=φ->mL X ops l ms i ⟨s,[],ld,[]⟩=seqF X ops l s:=by
 intro l;induction l with
 |nil=>intro ms i s ld _ _;simp[mL,seqF]
 |cons o l ih=>
  intro ms i s ld A g;cases ms with
  |nil=>simp at A
  |cons m ms=>
   simp only[JW,DI]at g;have f:O l<=O ms:=by simpa using A
   unfold mL seqF;simp only;cases hw:zh ops s.t o with
   |false=>
    simp only;congr 1;funext s1;exact ih ms (i+1) s1 ld f g.2
   |true=>
    simp only;unfold rL KO;obtain D|⟨t,d,x,k,q,u⟩:=Ps g.1;cases p:Kd o.op with
    |zero=>
     simp only[p];cases yy X.E o.op (J2 s.t)with
     |none=>rfl
     |some v=>
      simp only;congr 1;funext s1;exact ih ms (i+1) s1 ld f g.2
    |succ c=>
     cases c with
     |zero=>
      simp only[p,wn];cases po X.E o.op (J2 s.t) s.h with
      |none=>rfl
      |some vb=>
       have⟨v,b⟩:=vb;simp only[Lo,qn,DT];congr 1;funext s1;exact ih ms (i+1) s1 _ f g.2
     |succ c=>omega
    have p:Kd o.op=4:=by rw[q];rfl
    have C:Kl X.E o.op (J2 s.t)=θ:=by rw[q];exact sQ u _
    simp only[p,C];cases hp:yy X.E o.op (J2 s.t)with
    |none=>
     rw[q];simp only[vJ u]
    |some v=>
     rw[q];simp only[vJ u];congr 1;funext s1;exact ih ms (i+1) s1 ld f g.2
def wb{X:CtxF}{ops:Array Oper}{s:SV}{Q:Ex->SV->Prop}(f:ops.toList.all (λo=>MD X.E o.op)=φ):EC X (.region id ops φ) s Q↔EO X ops.toList ops.toList s (Q .normal):=by
 unfold EC EO;rw[xk];rw[eZ _ _ _ _ _ (by rw[oL];simp) f];cases h:seqF X ops.toList ops.toList s with
 |none=>simp
 |some r=>simp only[vH];simp
section
variable{X:CtxF}{r:List Oper}{t:TF}{h:HF}{Q:SV->Prop}{d a:Tmp}
theorem yE{f:α->ψ}{l:List α}{dv:α}{i:Operand}(q:zh ops t o=φ/\o.dst=ξ a/\zv X.nt (ξ a)=φ/\o.op=.indexAddr ty x i/\X.E.und ty=ξ (.slice e)/\X.E.inf e=ξ (1,bt,z)/\J2 t x=v)(C:Sl h m 1 v (l.map f))(hj:J2 t i=CC ik ji/\ji=(j:Int))(M:l[j]?=ξ dv)
  (D:∀p,zh ops (upd t a p) o2=φ)(g:o2.dst=ξ d/\zv X.nt (ξ d)=φ/\o2.op=.load e2 (.tmp a)/\GL.isAgg X.E e2=ξ χ)
  (k:∀p,EO X ops r ⟨upd (upd t a p) d (f dv),h,n,w⟩ Q):EO X ops (o::o2::r) ⟨t,h,n,w⟩ Q:=by
 obtain⟨q,K,R,S,T,N,Z4⟩:=q;obtain⟨hj,s⟩:=hj;obtain⟨g,u,A,I⟩:=g;subst s;have Z3:=(CK.1 M).1;obtain⟨Z0,len,cap,rfl,Z1⟩:=C.len;simp only[CN,DD]at Z1;obtain⟨b,off,xb,H,rfl,_,F,J,_,W,L⟩:=C.inv Z;have G:H[off+j]?=ξ (f dv):=qG L aD;apply Lw ⟨q,K,R,S,T,N,Z4,hj⟩ Z;apply zT ⟨(D _),g,u,A,I,(zg _ _ _)⟩ F (v:=f dv) ⟨J,aD⟩;exact k _
def se{D:TD}(f:qt X ops t o d (o.op=.convert ty e x/\J2 t x=CC ik (c:Int)/\X.E.und ty=ξ D/\X.E.und e=ξ (.int .u64)))(g:c<18446744073709551616)
  (k:EO X ops r ⟨upd t d (ι (c:Int)),h,n,w⟩ Q):EO X ops (o::r) ⟨t,h,n,w⟩ Q:=by have⟨f,i,p,q,u,s,l⟩:=f;apply N9 ⟨f,i,p,q,u,s,l⟩;rw[C1 g];exact k
def MY{D:TD}(f:qt X ops t o d (o.op=.convert ty e x/\J2 t x=CC ik (c:Int)/\X.E.und ty=ξ D/\X.E.und e=ξ (.int .u32)))(g:c<4294967296)
  (k:EO X ops r ⟨upd t d (ν (c:Int)),h,n,w⟩ Q):EO X ops (o::r) ⟨t,h,n,w⟩ Q:=by have⟨f,i,p,q,u,s,l⟩:=f;apply ft ⟨f,i,p,q,u,s,l⟩;rw[C1 g];exact k
def zU{d:Tmp}(f:EO X ops r ⟨upd t d v,h,n,w⟩ Q->EO X ops (o::r) ⟨t,h,n,w⟩ Q:=by first|exact jC R6 Z|exact Oa R6 Z|exact oa R6 Z|exact mD R6 Z|exact MC R6 Z|exact MV R6 Z|exact jD R6 Z|exact Nz R6 Z|exact Ob R6 Z|exact Oc R6 Z|exact Od R6 Z|exact Oe R6 Z|exact lW R6|exact Ny R6|exact MU R6|exact MA R6|exact Mh R6|exact N8 R6|exact uI R6 Z|exact qO R6 Z|exact se R7 Z|exact MY R7 Z|exact yT R6 Z|exact xu R6 Z|exact ym R6 Z|exact ym (b:=1) R6 Z|exact Q5 R6 Z|exact xt R6 Z|exact xM R6 Z|exact yn (s:=32) R6 Z|exact st_I R5|exact st_B R5|exact st_S R5|exact st_P R5|exact st_T R5|exact st_A R5|exact st_U R5|exact zZ (v:=.pointer θ) R4 rfl|exact Nw R3)(k:EO X ops r ⟨upd t d v,h,n,w⟩ Q):EO X ops (o::r) ⟨t,h,n,w⟩ Q:=f k
def splice_one(c:List ψ)(j:Nat)(v:ψ)(h:j<O c):zu c j [v]=c.set j v:=by unfold zu;rw[HH,Cw h];rfl
theorem uH{c:List ψ}{i:Operand}{q:Nat}(l:zh ops t o=φ/\o.dst=ξ a/\zv X.nt (ξ a)=φ/\o.op=.indexAddr ty x i/\X.E.und ty=ξ (.slice e)/\X.E.inf e=ξ (1,bt,z)/\J2 t x=Y (ξ ⟨b,0,θ⟩) len cap/\J2 t i=CC ik ji)(u:ji=(j:Int))(A:j<len/\j<O c)(hb:h b=ξ (.row c e3))(g:3*X.n0<=b)
  (D:∀p,zh ops (upd t a p) o2=φ)(f:o2.dst=θ/\o2.op=.store e2 (.tmp a) y/\X.E.inf e2=ξ (1,q,z2))(N:∀p,zn (J2 (upd t a p) y)=[v])(F:ones [v]=φ)
  (k:∀p,EO X ops r ⟨upd t a p,upd h b (ξ (.row (c.set j v) e3)),n,w⟩ Q):EO X ops (o::o2::r) ⟨t,h,n,w⟩ Q:=by
 obtain⟨l,G,J,K,L,H,M,I⟩:=l;obtain⟨f,C,s⟩:=f;subst u;apply Lw ⟨l,G,J,K,L,H,M,I⟩ Z;apply yF ⟨(D _),f,C,s,(zg _ _ _),(N _),rfl,F⟩ hb Z g;rw[show 0+(j:Int).toNat*1=j from Z,splice_one c j v A.2];exact k _
theorem yG{c:List ψ}{i:Operand}{q:Nat}(l:zh ops t o=φ/\o.dst=ξ a/\zv X.nt (ξ a)=φ/\o.op=.indexAddr ty x i/\X.E.und ty=ξ (.slice e)/\X.E.inf e=ξ (1,bt,z)/\J2 t x=Y (ξ ⟨b,off,θ⟩) len cap/\J2 t i=CC ik ji)(u:ji=(j:Int))(A:j<len/\off+j<O c)(hb:h b=ξ (.row c e3))(g:b<3*X.n0)
  (D:∀p,zh ops (upd t a p) o2=φ)(f:o2.dst=θ/\o2.op=.store e2 (.tmp a) y/\X.E.inf e2=ξ (1,q,z2))(N:∀p,zn (J2 (upd t a p) y)=[v])(F:ones [v]=φ)
  (k:∀p,EO X ops r ⟨upd t a p,upd h b (ξ (.row (c.set (off+j) v) e3)),n,b::w⟩ Q):EO X ops (o::o2::r) ⟨t,h,n,w⟩ Q:=by
 obtain⟨l,G,J,K,L,H,M,I⟩:=l;obtain⟨f,C,s⟩:=f;subst u;apply Lw ⟨l,G,J,K,L,H,M,I⟩ Z;apply Xq (D _) f C s (zg _ _ _) (N _) rfl F hb Z g;rw[show off+(j:Int).toNat*1=off+j from Z,splice_one c (off+j) v A.2];exact k _
end
def lj(l:List Nat)(j d:Nat):(u32s l).set j (ν (d:Int))=u32s (l.set j d):=by unfold u32s;rw[am5]
def NB(n:Nat):rep n [ν 0]=u32s (CI n 0):=by
 induction n with
 |zero=>rfl
 |succ n ih=>
  rw[rep,ih,GA];rfl
def dv(B:Nat):List Nat->Nat
 |[]=>0
 |d::r=>d+B*dv B r
theorem mM(l:List Nat):val l=dv 4294967296 l:=by induction l<;>grind [val,dv]
theorem vm(B:Nat)(a b:List Nat):dv B (a++b)=dv B a+B^O a*dv B b:=by
 induction a with
 |nil=>simp[dv]
 |cons d a ih=>
  simp only[F6,dv,ih,DJ,C5,DS];rw[<-Di,CY (B^O a) B];omega
def qz(B:Nat)(a:List Nat)(d:Nat):dv B (a++[d])=dv B a+B^O a*d:=by rw[vm];simp[dv]
theorem LX{l:List Nat}(h:∀d∈l,d<B):dv B l<B^O l:=by
 induction l with
 |nil=>simp[dv]
 |cons d l ih=>
  have p:=h d eC;have f:=ih λx i=>h x (by simp[i]);simp only[dv,DJ,C5];have g:B*(dv B l+1)<=B*B^O l:=C4 B f;rw[DS,DD]at g;rw[CY (B^O l) B];omega
theorem pc(B n:Nat):dv B (CI n 0)=0:=by induction n<;>grind [dv]
theorem Mj:∀{l:List Nat} {j o:Nat} (d:Nat),l[j]?=ξ o->dv B (l.set j d)+o*B^j=dv B l+d*B^j:=by
 intro l;induction l with
 |nil=>intro j o d h;simp at h
 |cons x l ih=>
  intro j o d h;cases j with
  |zero=>
   simp only[List.getElem?_cons_zero,HJ]at h;subst h;simp only[List.set_cons_zero,dv,EA,DD];omega
  |succ j=>
   simp only[List.getElem?_cons_succ]at h;have:=ih d h;simp only[List.set_cons_succ,dv,C5];have e:B*(dv B (l.set j d)+o*B^j)=B*(dv B l+d*B^j):=by rw[this]
   rw[DS,DS]at e;have f:o*(B^j*B)=B*(o*B^j):=by grind
   have e2:d*(B^j*B)=B*(d*B^j):=by grind
   rw[f,e2];omega
def ri{l:List Nat}{d:Nat}(h:l[j]?=ξ d):l.take (j+1)=l.take j++[d]:=by obtain⟨f,rfl⟩:=CK.1 h;rw[List.take_succ_eq_append_getElem f]
theorem wJ{l:List Nat}{d:Nat}(h:l[j]?=ξ d):dv B (l.take (j+1))=dv B (l.take j)+B^j*d:=by have f:=(CK.1 h).1;rw[ri h,qz,DA,DR Z]
theorem cI(D:List Nat)(m d:Nat):(D++CI (m+1) 0).set (O D) d=(D++[d])++CI m 0:=by grind
theorem Pt{V' p d:Nat}(h:V'=V+d*P)(hx:B*c'+d=c+p):V'+c'*(P*B)=V+c*P+p*P:=by grind
end
section
variable{len:Nat}
def cmpZ(a b:Nat):Int:=if a<b then -1 else if a=b then 0 else 1
def Lz(h:a<b):cmpZ a b= -1:=by unfold cmpZ;rw[Cw h]
theorem jd(a:Nat):cmpZ a a=0:=by unfold cmpZ;rw[Cv (Nat.lt_irrefl _),Cw rfl]
theorem sO(h:b<a):cmpZ a b=1:=by unfold cmpZ;rw[Cv Z,Cv Z]
def Rn{l:List Nat}(c:d≠0):B^O l<=dv B (l++[d]):=by rw[qz];have:B^O l*1<=B^O l*d:=C4 _ Z;omega
def Norm.len_lt{B:List Nat}(c:Norm A)(e:Norm B)(h:O A<O B):val A<val B:=by obtain⟨i,d,rfl⟩:=snoc (l:=B) aD;rw[mM,mM];have f:=LX c.1;have g:=Rn (B:=4294967296) (l:=i) e.last;have m:4294967296^O A<=4294967296^O i:=CQ Z (by simp at h;omega);omega
theorem cv{l:List Nat}(h:l[j]?=ξ d):l=l.take j++(d::l.drop (j+1)):=by grind [uR,DP]
theorem nc{x y:Nat}(m:∀d∈A,d<B)(hx:A[j]?=ξ x)(c:C[j]?=ξ y)(e:A.drop (j+1)=C.drop (j+1))(h:x<y):dv B A<dv B C:=by
 have f:=(CK.1 hx).1;have g:=(CK.1 c).1;rw[cv hx,cv c,vm,vm,e,DA,DA,DR Z,DR Z];simp only[dv];have i:dv B (A.take j)<B^j:=by grind [LX,Dp,DA,DR]
 have l:B^j*(x+B*dv B (C.drop (j+1))+1)<=B^j*(y+B*dv B (C.drop (j+1))):=C4 _ Z;grind
theorem Sl.lenU{a:Option Addr}{l:List Nat}(hv:Sl h n 1 (Y a len cap) (u32s l)):len=O l:=by have⟨g,f,c,e,i⟩:=hv.len;grind [vZ]
def Ro(k:Nat)(g:Sl h n 1 (Y a1 l1 c1) (u32s A))(i:Sl h n 1 (Y a2 l2 c2) (u32s C))(l:Norm A)(m:Norm C)(hb:O A<1000000000000):
  VF (J4 (k+1)) 192 [Y a1 l1 c1,Y a2 l2 c2] h n λv=>v=CC .i64 (cmpZ (val A) (val C)):=by
 refine zO R4 ?_;have p:=g.lenU;have q:=i.lenU;subst p q;refine Za (k:=?_);by_cases hlen:O A=O C;refine Zp (k:=?_);refine ye (α:=Nat) (λj=>[(0,Y a1 (O A) c1),(1,Y a2 (O C) c2),(5,CC .i64 ((j:Int)-1))]) (λj s u w=>s=h/\u=n/\w=[]/\j<=O A/\A.drop j=C.drop j) (λj=>j) (O A) P3 ⟨ω,ω,ω,Cy,by rw[EQ,hlen,EQ]⟩ (by show O A<LL;unfold LL;omega) ?_;rintro j t _ _ _⟨rfl,rfl,rfl,D,f⟩;refine zN (k:=?_);cases j with
 |zero=>
  refine Zp (k:=?_);have o:A=C:=f;subst o;rw[jd];exact Bv
 |succ j=>
  obtain⟨x,c⟩:∃x,A[j]?=ξ x:=⟨A[j]'Z,CD Z⟩;obtain⟨y,e⟩:∃y,C[j]?=ξ y:=⟨C[j]'Z,CD Z⟩;refine Zo (k:=?_);rw[N7 rfl];repeat refine zR (k:=?_)
  refine yE R7 g ⟨ω,Z⟩ c (λ_=>rfl) R4 λ_=>?_;repeat refine zR (k:=?_)
  refine yE R7 i ⟨ω,Z⟩ e (λ_=>rfl) R4 λ_=>?_;by_cases hxy:x=y;refine Zp (k:=?_);refine goOn j AE ⟨ω,ω,dG,Cx⟩ ⟨ω,ω,ω,by show j<=O A;omega,?_⟩;rw[uR c,uR e,hxy,f];refine Zo (k:=?_);rw[N7 rfl];repeat refine zR (k:=?_)
  refine yE R7 g ⟨ω,Z⟩ c (λ_=>rfl) R4 λ_=>?_;repeat refine zR (k:=?_)
  refine yE R7 i ⟨ω,Z⟩ e (λ_=>rfl) R4 λ_=>?_;by_cases hlt:x<y;refine Zr (k:=?_);rw[Lz (by rw[mM,mM];exact nc l.1 c e f hlt)];exact Bv;refine Zp (k:=?_);rw[sO (by rw[mM,mM];exact nc m.1 e c f.symm Z)];exact Bv
 refine Zo (k:=?_);by_cases hlt:O A<O C;refine Zr (k:=?_);rw[Lz (l.len_lt m hlt)];exact Bv;refine Zp (k:=?_);rw[sO (m.len_lt l Z)];exact Bv
end
section
variable{len:Nat}
def u64s(l:List Nat):List ψ:=l.map λd:Nat=>ι (d:Int)
theorem zL(l:List Nat):O (u64s l)=O l:=by simp[u64s]
def vg(a b:List Nat):u64s (a++b)=u64s a++u64s b:=by simp[u64s]
def yk(l:List Nat)(j d:Nat):(u64s l).set j (ι (d:Int))=u64s (l.set j d):=by unfold u64s;rw[am5]
def dX{l:List Nat}(h:l[j]?=ξ d):(u64s l)[j]?=ξ (ι (d:Int)):=by rw[u64s,Dx,h];rfl
def re(l:List Nat)(m:Nat):(u64s l).take m=u64s (l.take m):=by simp[u64s,F2]
def rf(l:List Nat)(m:Nat):(u64s l).drop m=u64s (l.drop m):=by simp[u64s,List.map_drop]
def xW(l:List Nat):ones (u64s l)=φ:=by
 induction l with
 |nil=>rfl
 |cons d l ih=>exact ih
def xO(n:Nat):rep n [ι 0]=u64s (CI n 0):=by
 induction n with
 |zero=>rfl
 |succ n ih=>
  rw[rep,ih,GA];rfl
def J5(l:List Nat):Prop:=∀d∈l,d<18446744073709551616
def wv(l:List Nat):Nat:=dv 18446744073709551616 l
def J5.snoc{D:List Nat}(h:J5 D)(b:d<18446744073709551616):J5 (D++[d]):=λx a=>by
 obtain a|a:=DQ.1 a
 .exact h x a
 simp at a;omega
def J5.get{l:List Nat}(h:J5 l)(a:l[j]?=ξ d):d<18446744073709551616:=h d (CE a)
def J5.nil:J5 []:=λd a=>Cu a CO
def J5.take{l:List Nat}(h:J5 l)(m:Nat):J5 (l.take m):=λd a=>h d (Dp a)
def J5.drop{l:List Nat}(h:J5 l)(m:Nat):J5 (l.drop m):=λd a=>h d (ET a)
def J5.zeros(m:Nat):J5 (CI m 0):=λd a=>by rw[Hs a];decide
def J5.append{a b:List Nat}(e:J5 a)(hb:J5 b):J5 (a++b):=λx c=>by
 obtain c|c:=DQ.1 c
 .exact e x c
 exact hb x c
def J5.set{l:List Nat}(h:J5 l)(b:d<18446744073709551616):J5 (l.set j d):=λx a=>by
 obtain a|rfl:=IF a
 .exact h x a
 exact b
def Og(B:Nat):∀l,dv B (yf l)=dv B l:=
 wF (λl ih=>by rw[wi,ih,vm];simp[dv]) (λl d a=>by rw[xy l a]) rfl
def XJ:∀l,J5 l->J5 (yf l):=
 wF (λl ih h=>by rw[wi];exact ih λd a=>h d A1) (λl d a h=>by rw[xy l a];exact h) (λh=>h)
def NW(l:List Nat):Prop:=J5 l/\yf l=l
def NW.trim{l:List Nat}(h:J5 l):NW (yf l):=⟨XJ l h,Rc l⟩
def NW.nil:NW []:=⟨J5.nil,ω⟩
def NW.last{l:List Nat}(h:NW (l++[d])):d≠0:=λe=>by
 have a:=h.2;subst e;rw[wi]at a;have:=xU l;rw[a]at this;simp at this;omega
def NW.one(a:d≠0)(h:d<18446744073709551616):NW [d]:=⟨J5.snoc J5.nil h,xy [] a⟩
def wW{l:List Nat}(h:J5 l):wv l<18446744073709551616^O l:=LX h
def NW.low{l:List Nat}(h:NW (l++[d])):18446744073709551616^O l<=wv (l++[d]):=Rn h.last
def NW.pos{l:List Nat}(h:NW l)(a:l≠[]):0<wv l:=by obtain⟨i,d,rfl⟩:=Go.Proofs.YtdeaddceicfanaaGreatDoor.snoc a;have:=h.low;have:0<18446744073709551616^O i:=Ds Z;omega
def NW.zero{l:List Nat}(h:NW l):wv l=0↔l=[]:=
 ⟨λb=>CW λa=>by have:=h.pos a;omega,λe=>by rw[e];rfl⟩
def NW.len_lt(a:NW A)(b:NW C)(h:O A<O C):wv A<wv C:=by obtain⟨i,d,rfl⟩:=Go.Proofs.YtdeaddceicfanaaGreatDoor.snoc (l:=C) aD;have c:=wW a.1;have e:=b.low;have f:18446744073709551616^O A<=18446744073709551616^O i:=CQ Z (by simp at h;omega);omega
def NW.len_le(a:NW A)(h:wv A<18446744073709551616^k):O A<=k:=by apply CW;intro b;obtain⟨i,d,rfl⟩:=Go.Proofs.YtdeaddceicfanaaGreatDoor.snoc (l:=A) aD;have c:=a.low;have e:18446744073709551616^k<=18446744073709551616^O i:=CQ Z (by simp at b;omega);omega
theorem XK:∀{A C:List Nat},O A=O C->(∀d∈A,d<B)->(∀d∈C,d<B)->dv B A=dv B C->A=C:=by
 intro A;induction A with
 |nil=>intro C b _ _ _;exact(CT.1 b.symm).symm
 |cons a A ih=>
  intro C b f g h;cases C with
  |nil=>simp at b
  |cons c C=>
   have m:=f a eC;have o:=g c eC;simp only[dv]at h;have i:a=c:=by grind [only,FC,C1]
   subst i;have l:dv B A=dv B C:=FD Z (Nat.add_left_cancel h);rw[ih (by simpa using b) (λd e=>f d (by simp[e])) (λd e=>g d (by simp[e])) l]
def NW.inj(b:NW A)(c:NW C)(h:wv A=wv C):A=C:=by obtain a|a|a:=Nat.lt_trichotomy (O A) (O C);have:=b.len_lt c a;omega;exact XK a b.1 c.1 h;have:=c.len_lt b a;omega
def Sl.lenW{a:Option Addr}{l:List Nat}(hv:Sl h n 1 (Y a len cap) (u64s l)):len=O l:=by have⟨g,f,b,e,c⟩:=hv.len;rw[zL]at c;injection e with e1 e2 e3;omega
def xi(k:Nat){a:Option Addr}{l:List Nat}(hb:O l<4611686018427387904)(D:∀ad,a=ξ ad->ad.spot=θ)(hv:Sl h n 1 (Y a len cap) (u64s l)):CF (J4 (k+1)) 135 [Y a len cap] h n λG p u w=>p=h/\u=n/\w=[]/\G=Y a (O (yf l)) cap/\Sl h n 1 G (u64s (yf l)):=by
 refine zw R4 ?_;have g:=hv.lenW;subst g;refine ZA (k:=?_);refine ye (α:=Nat) (λm=>[(0,Y a (O l) cap),(3,CC .i64 (m:Int))]) (λm p u w=>h=p/\n=u/\w=[]/\m<=O l/\yf (l.take m)=yf l) (λm=>m) (O l) P2 ⟨ω,ω,ω,Cy,by rw[C3]⟩ sP ?_;rintro m t _ _ _⟨rfl,rfl,rfl,H,s⟩;have i:∀J:TF,yf l=l.take m->O (yf l)=m/\Sl h n 1 (Y a m cap) (u64s (yf l)):=λJ e=>(by have v:=hv.take m H;rw[DD,re]at v;rw[e];exact⟨Ab,v⟩);refine zN (k:=?_);cases m with
 |zero=>
  refine Zj (k:=?_);have q:yf l=l.take 0:=by rw[<-s,EK];rfl
  have⟨c,f⟩:=i t q;cases a with
  |none=>
   refine kG (k:=?_);exact KY
  |some ad=>
   have⟨b,F,I⟩:=ad;obtain rfl:I=θ:=D _ rfl;repeat refine zR (k:=?_)
   refine td 0 R8 Z Z<|kG (k:=?_);exact KY
 |succ m=>
  obtain⟨d,y⟩:∃d,l[m]?=ξ d:=⟨l[m]'Z,CD Z⟩;have o:=ri y;repeat refine zR (k:=?_)
  refine yE R7 hv ⟨ω,Z⟩ y (λ_=>rfl) R4 λ_=>?_;by_cases h0:d=0;refine Zr (k:=?_);refine goOn m Z ⟨ω,dG,Cx⟩ ⟨ω,ω,ω,Z,?_⟩;rw[<-s,o,h0,wi];refine Zj (k:=?_);have q:yf l=l.take (m+1):=by rw[<-s,o,xy _ h0]
  have⟨c,f⟩:=i t q;obtain⟨b,F,x,K,rfl,_⟩:=hv.inv Z;repeat refine zR (k:=?_)
  refine td (m+1) R8 Z Z<|kG (k:=?_);exact KY
end
def cmpI(a b:Int):Int:=if a<b then -1 else if b<a then 1 else 0
theorem Rp(a b:Nat):cmpI (a:Int) (b:Int)=cmpZ a b:=by grind [cmpI,cmpZ]
def iJ(k:Nat)(h:HF)(n:Nat)(a:Int):VF (J4 (k+1)) 189 [υ a] h n λv=>v=U χ:=by apply zO R4;apply(ZA);exact Bv
def XL(k:Nat)(h:HF)(n:Nat)(a b:Int):VF (J4 (k+2)) 163 [υ a,υ b] h n λv=>v=υ (cmpI a b):=by apply zO R4;apply(Zu);apply yi _ R5 (iJ k h n a);rintro _ rfl;apply(Zl);apply yi _ R5 (iJ k h n b);rintro _ rfl;apply(kG);apply(Zp);rw[za rfl];apply(zN);obtain d|e|c:=HM a b;exact Co;exact Ck;exact BQ
def qX(k:Nat)(h:HF)(n:Nat)(a:Int):VF (J4 (k+1)) 190 [ι a] h n λv=>v=U χ:=by apply zO R4;apply(ZA);exact Bv
def XM(k:Nat)(h:HF)(n:Nat)(a b:Int):VF (J4 (k+2)) 164 [ι a,ι b] h n λv=>v=υ (cmpI a b):=by apply zO R4;apply(Zu);apply yi _ R5 (qX k h n a);rintro _ rfl;apply(Zl);apply yi _ R5 (qX k h n b);rintro _ rfl;apply(kG);apply(Zp);rw[za rfl];apply(zN);obtain d|e|c:=HM a b;exact Co;exact Ck;exact BQ
theorem uF(k:Nat){h:HF}{n:Nat}{e f:Option Addr}{I g J i:Nat}{A C:List Nat}(l:Sl h n 1 (Y e I g) (u64s A))(m:Sl h n 1 (Y f J i) (u64s C))(u:NW A)(B:NW C)(hb:O A<1000000000000):
  VF (J4 (k+3)) 122 [Y e I g,Y f J i] h n λv=>v=CC .i64 (cmpZ (wv A) (wv C)):=by
 refine zO R4 ?_;have K:=l.lenW;have L:=m.lenW;subst K L;refine Za (k:=?_);by_cases hlen:O A=O C
 .refine Zp (k:=?_);refine ye (α:=Nat) (λj=>[(0,Y e (O A) g),(1,Y f (O C) i),(5,CC .i64 ((j:Int)-1))]) (λj Z1 P w=>h=Z1/\n=P/\w=[]/\j<=O A/\A.drop j=C.drop j) (λj=>j) (O A) ⟨rfl,rfl,rfl,Cx⟩ ⟨rfl,rfl,rfl,Cy,by rw[EQ,hlen,EQ]⟩ (by show O A<LL;unfold LL;omega) ?_;rintro j t _ _ _⟨rfl,rfl,rfl,V,b⟩;refine zN (k:=?_);cases j with
  |zero=>
   refine Zp (k:=?_);rw[Dy,Dy]at b;subst b;exact retF _ rfl (zi rfl) R2 (by rw[jd];rfl)
  |succ j=>
   obtain⟨x,c⟩:∃x,A[j]?=ξ x:=⟨A[j]'Z,CD Z⟩;obtain⟨y,d⟩:∃x,C[j]?=ξ x:=⟨C[j]'Z,CD Z⟩;refine Zo (k:=?_);rw[N7 rfl];repeat refine zR (k:=?_)
   refine yE R7 l ⟨rfl,Z⟩ c (λ_=>rfl) R4 λ_=>?_;repeat refine zR (k:=?_)
   refine yE R7 m ⟨rfl,Z⟩ d (λ_=>rfl) R4 λ_=>?_;by_cases hxy:x=y
   .refine Zp (k:=?_);refine goOn j Z ⟨rfl,rfl,dG,Cx⟩ ⟨rfl,rfl,rfl,Z,?_⟩;rw[uR c,uR d,b,hxy]
   refine Zo (k:=?_);refine zl (k:=?_);obtain⟨T,R,W,D,rfl,_,q,o,_,_,G⟩:=l.inv Z;obtain⟨Z4,S,Z3,F,rfl,_,s,p,_,_,H⟩:=m.inv Z;have M:D[R+j]?=ξ (CC .u64 (x:Int)):=qG G (dX c);have N:F[S+j]?=ξ (CC .u64 (y:Int)):=qG H (dX d);repeat refine zD (k:=?_)
   refine bO R8 Z ?_;refine yd R6 (nJ rfl q ⟨o,(by rw[<-M];congr 1;omega)⟩) R2 ?_;repeat refine zD (k:=?_)
   refine bO R8 Z ?_;refine yd R6 (nJ rfl s ⟨p,(by rw[<-N];congr 1;omega)⟩) R2 ?_;refine NA _ R7 (XM k h n (x:Int) (y:Int)) ?_;rintro _ rfl;repeat refine zD (k:=?_)
   refine zN (k:=?_);refine retF _ rfl (zi rfl) R2 ?_;rw[Rp];show CC .i64 (cmpZ x y)=CC .i64 (cmpZ (wv A) (wv C));congr 1;rcases Hw hxy with a|a
   .rw[Lz a,Lz (show wv A<wv C from nc u.1 c d b a)]
   rw[sO a,sO (show wv C<wv A from nc B.1 d c b.symm a)]
 refine Zs (k:=?_);refine yi _ R5 (XL k h n (O A:Int) (O C:Int)) ?_;rintro _ rfl;refine kG (k:=?_);refine retF _ rfl (zi rfl) R2 ?_;rw[Rp];show CC .i64 _=CC .i64 _;congr 1;rcases Hw hlen with a|a
 .rw[Lz a,Lz (u.len_lt B a)]
 rw[sO a,sO (B.len_lt u a)]
def ResW(n:Nat)(h:HF)(v:ψ)(h':HF)(n':Nat)(w:List Nat)(L:List Nat):Prop:=w=[]/\n<=n'/\J3 n h h'/\Sl h' n' 1 v (u64s L)/\NW L
def sH(k:Nat)(h:HF)(n:Nat){w:Nat}(b:w<18446744073709551616):CF (J4 (k+1)) 95 [ι (w:Int)] h n λv a c W=>∃L,ResW n h v a c W L/\wv L=w/\O L<=1/\xC n v:=by apply zw R4;apply(Za);by_cases h0:w=0;subst h0;apply(Zr);exact retH _ ⟨ω,(zi ω),ω⟩ ⟨[],⟨ω,Cy,J3.refl _ _,.nil (.inl ω),NW.nil⟩,ω,by decide,Cx⟩;apply(Zz);apply pZ R5;apply(kG);exact retH _ ⟨ω,(zi ω),ω⟩ ⟨[w],⟨ω,C8 _,J3.upd Z,.at_ aD (zg _ _ _) ω Cy Cy ω,NW.one h0 b⟩,oo,Cy,bJ⟩
end Go.Proofs.YtdeaddceicfanaaGreatDoor
namespace Go.Proofs.YtdeaddceicfanaaGreatDoor
def sE{x:Nat}(hx:x%2=1)(t y:Nat):CZ x (2^t*y)=CZ x y:=by have a:Gl x (2^t):=(by apply ao2;unfold Gl;rw[EY,IP,hx];rfl);exact Hj y a.symm
theorem ez(x y:Nat):CZ (min x y) (max x y-min x y)=CZ x y:=by grind [am6,DR,ad4,Nat.gcd_sub_self_right,I5,ag3,EY]
def Tz(x t:Nat):Prop:=∃o,x=2^t*o/\o%2=1
theorem Tz.or{x y t:Nat}(h:Tz (x|||y) t):∃a b,x=2^t*a/\y=2^t*b/\(a%2=1\/b%2=1):=by
 have⟨o,e,i⟩:=h;have c:(x|||y)%2^t=0:=by simp_all
 rw[aa1]at c;obtain⟨j,l⟩:x%2^t=0/\y%2^t=0:=aa2.1 c;obtain⟨a,rfl⟩:=Jk j;obtain⟨b,rfl⟩:=Jk l;refine⟨a,b,ω,ω,?_⟩;apply CW;intro m;have f:a%2=0:=Z;have g:b%2=0:=Z;have d:(2^t*a|||2^t*b)%2^(t+1)=0:=(by rw[aa1,C5,G8,G8,f,g,Eo];rfl);rw[e,C5,G8,i]at d;have:0<2^t:=Ds Z;omega
def XN{x y s t o:Nat}(q:Tz (x|||y) s)(hx:x=2^t*o)(f:o%2=1):2^s*CZ o y=CZ x y:=by
 have⟨a,b,c,g,e⟩:=q.or;have u:s<=t:=(by apply CW;intro p;have:2^s=2^t*(2*2^(s-t-1)):=(by rw[<-Di,<-C5,<-DV];congr 1;omega);rw[hx,this,Di]at c;have:=FD (Ds Z) c;rw[this,Di,HN]at f;omega);have d:a=2^(t-s)*o:=by
  have:2^t=2^s*2^(t-s):=by rw[<-DV];congr 1;omega
  rw[hx,this,Di]at c;exact(FD (Ds Z) c).symm
 rw[c,g,Nat.gcd_mul_left,sE f,d];congr 1;obtain i|j:=e;have:t-s=0:=(by apply CW;intro p;obtain⟨m,l⟩:∃m,t-s=m+1:=⟨t-s-1,Z⟩;rw[d,l,C5,Di,Gm,HN]at i;omega);rw[this,EA,EM];rw[EY,<-sE j (t-s) o,EY]
theorem XO{x y t z:Nat}(hx:x%2=1)(b:y=2^t*z)(a:z%2=1):min x z%2=1/\CZ (min x z) (max x z-min x z)=CZ x y/\min x z+(max x z-min x z)<x+y:=by
 refine⟨?_,?_,?_⟩;obtain h|h:=am6 x z;rw[DR h];exact hx;rw[I5 h];exact a;rw[ez,b,sE hx];have c:z<=y:=by simp_all [Nat.le_mul_of_pos_left,Ds]
 have:min x z+(max x z-min x z)=max x z:=Z;rw[this];omega
end Go.Proofs.YtdeaddceicfanaaGreatDoor
namespace Go.Proofs.YtdeaddceicfanaaGreatDoor
open Go Go.GL
variable{n c1 c2 l1 l2 len off cap bt sz c' a b c d B P V j m:Nat}{a1 a2:Option Addr}{A C w:List Nat}{ty' ty e:TypeId}{ops r:List Oper}{ik:IntKind}{x y:Operand}{v z:ψ}{o:Oper}
variable{h:HF}
section
variable{X:CtxF}{t:TF}{h:HF}{Q:SV->Prop}{d:Tmp}
def XP(l:zh ops t o=φ)(f:o.dst=ξ d)(g:zv X.nt (ξ d)=φ)(i:o.op=.binOp .and ty x y ty')(hx:J2 t x=ι (a:Int))(m:J2 t y=ι 4294967295)(j:a<18446744073709551616)
  (k:EO X ops r ⟨upd t d (ι ((a%4294967296:Nat):Int)),h,n,w⟩ Q):EO X ops (o::r) ⟨t,h,n,w⟩ Q:=by apply mF ⟨l,f,g,i,hx,m⟩ ⟨j,by decide⟩;rw[show a&&& 4294967295=a%4294967296 from H0 a 32];exact k
def XQ(j:zh ops t o=φ)(f:o.dst=ξ d)(g:zv X.nt (ξ d)=φ)(i:o.op=.binOp .shr ty x y ty')(hx:J2 t x=ι (a:Int))(l:J2 t y=CC ik 32)
  (k:EO X ops r ⟨upd t d (ι ((a/4294967296:Nat):Int)),h,n,w⟩ Q):EO X ops (o::r) ⟨t,h,n,w⟩ Q:=
 yn (s:=32) ⟨j,f,g,i,hx,l⟩ zd k
def zW{d:Tmp}(f:EO X ops r ⟨upd t d v,h,n,w⟩ Q->EO X ops (o::r) ⟨t,h,n,w⟩ Q:=by first|exact jC R6 Z|exact Oa R6 Z|exact oa R6 Z|exact mD R6 Z|exact MC R6 Z|exact MV R6 Z|exact jD R6 Z|exact Nz R6 Z|exact Ob R6 Z|exact Oc R6 Z|exact Od R6 Z|exact Oe R6 Z|exact lW R6|exact Ny R6|exact MU R6|exact MA R6|exact Mh R6|exact N8 R6|exact uI R6 Z|exact qO R6 Z|exact xt (a:=4294967296) R6 Z|exact XP ω ω ω ω ω ω Z|exact XQ ω ω ω ω ω rfl|exact se R7 Z|exact MY R7 Z|exact yT R6 Z|exact xu R6 Z|exact ym R6 Z|exact ym (b:=1) R6 Z|exact Q5 R6 Z|exact xt R6 Z|exact xM R6 Z|exact yn (s:=32) R6 Z|exact st_I R5|exact st_B R5|exact st_S R5|exact st_P R5|exact st_T R5|exact st_A R5|exact st_U R5|exact zZ (v:=.pointer θ) R4 rfl|exact Nw R3)(k:EO X ops r ⟨upd t d v,h,n,w⟩ Q):EO X ops (o::r) ⟨t,h,n,w⟩ Q:=f k
def vt{x y:Nat}(f:qt X ops t o d (Kd o.op=3/\effF X.E o.op (J2 t) h n=(match GE.ext 172 [ι (x:Int),ι (y:Int),ι (c:Int)]with|some v=>ξ (.val v h n [])|none=>ξ (.enter 172 [ι (x:Int),ι (y:Int),ι (c:Int)]))))(hb:c<=1)
  (k:EO X ops r ⟨upd t d (.tuple #[ι (((x+y+c)%18446744073709551616:Nat):Int),ι (((x+y+c)/18446744073709551616:Nat):Int)]),h,n,w⟩ Q):EO X ops (o::r) ⟨t,h,n,w⟩ Q:=by have⟨f,i,l,g,j⟩:=f;refine Q2 f i l g (j.trans ?_) k;have e:GE.ext 172 [ι (x:Int),ι (y:Int),ι (c:Int)]=ξ (.tuple #[ι (((x+y+c)%18446744073709551616:Nat):Int),ι (((x+y+c)/18446744073709551616:Nat):Int)]):=(by show(match Dd c 1 with|true=>ξ (Ia ⟨[ι (.ofNat ((x+y+c)%18446744073709551616)),ι (.ofNat ((x+y+c)/18446744073709551616))]⟩)|false=>θ)=_;rw[CP hb];rfl);rw[e]
def rn{x y:Nat}(f:qt X ops t o d (Kd o.op=3/\effF X.E o.op (J2 t) h n=(match GE.ext 177 [ι (x:Int),ι (y:Int),ι (c:Int)]with|some v=>ξ (.val v h n [])|none=>ξ (.enter 177 [ι (x:Int),ι (y:Int),ι (c:Int)]))))(hb:c<=1)
  (k:EO X ops r ⟨upd t d (.tuple #[ι (((x+18446744073709551616-y-c)%18446744073709551616:Nat):Int),ι ((if y+c<=x then 0 else 1:Nat):Int)]),h,n,w⟩ Q):EO X ops (o::r) ⟨t,h,n,w⟩ Q:=by
 have⟨f,i,l,g,j⟩:=f;refine Q2 f i l g (j.trans ?_) k;have e:GE.ext 177 [ι (x:Int),ι (y:Int),ι (c:Int)]=ξ (.tuple #[ι (((x+18446744073709551616-y-c)%18446744073709551616:Nat):Int),ι ((if y+c<=x then 0 else 1:Nat):Int)]):=by
  show(match Dd c 1 with|true=>ξ (Ia ⟨[ι (.ofNat ((x+18446744073709551616-y-c)%18446744073709551616)),ι (.ofNat (match Dd (y+c) x with|true=>0|false=>1))]⟩)|false=>θ)=_;rw[CP hb];by_cases h:y+c<=x;rw[CP h,Cw h];rfl;rw[Cv h];cases hb:Dd (y+c) x with
  |true=>exact Cu (Da hb) h
  |false=>rfl
 rw[e]
def fk{i:Operand}{j:Int}(f:qt X ops t o d (o.op=.indexAddr ty x i/\X.E.und ty=ξ (.array len e)/\X.E.inf e=ξ (sz,bt,z)/\J2 t x=CH (ξ ⟨b,off,θ⟩)/\J2 t i=CC ik j))(s:0<=j/\j<len)(k:EO X ops r ⟨upd t d (CH (ξ ⟨b,off+j.toNat*sz,θ⟩)),h,n,w⟩ Q):EO X ops (o::r) ⟨t,h,n,w⟩ Q:=by have⟨f,l,q,g,u,m,A,p⟩:=f;refine zZ ⟨f,l,q,Av⟩ ?_ k;rw[g];show yV X.E ty (J2 t x) (J2 t i)=_;rw[A,p];simp only[yV,u,m,Cw s,wO]
end
def XR:GK.d64=ab5.map λd:Nat=>Γ (d:Int):=rfl
def pC(k:Nat)(h:HF)(n:Nat){x y:Nat}(hx:x<18446744073709551616)(i:y<18446744073709551616):VF (J4 (k+1)) 191 [ι (x:Int),ι (y:Int)] h n λv=>v=.tuple #[ι ((x*y/18446744073709551616:Nat):Int),ι ((x*y%18446744073709551616:Nat):Int)]:=by
 apply zO R4;have f:=Lib.mul64_hi x y hx i;rw[show 0x100000000=4294967296 from ω,show 0x10000000000000000=18446744073709551616 from rfl]at f;have⟨j,l,m,g⟩:=f;have p:=Js (a:=x/4294967296) (b:=y/4294967296) Z Z;have q:=Js (a:=x/4294967296) (b:=y%4294967296) Z Z;have s:=Js (a:=x%4294967296) (b:=y/4294967296) Z Z;apply(Za);repeat apply(zW)
 apply(zN);repeat apply(zW)
 apply(zN);repeat apply(zW)
 apply(zN);repeat apply(zW)
 apply(zN);repeat apply(zW)
 apply(zN);repeat apply(zW)
 apply(zN);repeat apply(zW)
 apply(zN);repeat apply(zW)
 apply(zN);repeat apply(zW)
 apply(zN);repeat apply(zW)
 apply(Zt);apply wk R6;apply(kG);apply retF [ι _,ι _] ω ω R2;rw[<-g];rfl
def uN(k:Nat)(h:HF)(n:Nat){x y:Nat}(hx:x<18446744073709551616)(i:y<18446744073709551616)(j:c<18446744073709551616):VF (J4 (k+2)) 176 [ι (x:Int),ι (y:Int),ι (c:Int)] h n λv=>v=.tuple #[ι (((x*y+c)%18446744073709551616:Nat):Int),ι (((x*y+c)/18446744073709551616:Nat):Int)]:=by apply zO R4;have l:x*y<=18446744073709551615*18446744073709551615:=C6 Z Z;apply(Zu);apply yi _ R5 (pC k h n hx i);rintro _ rfl;apply(ZC);apply vt (c:=0) R5 zd;apply(kG);apply(Zw);apply yT R6 Z;apply(kG);apply retF [ι _,ι _] ω ω R2;have f:(x*y%18446744073709551616+c+0)%18446744073709551616=(x*y+c)%18446744073709551616:=Z;have g:x*y/18446744073709551616+(x*y%18446744073709551616+c+0)/18446744073709551616=(x*y+c)/18446744073709551616:=Z;rw[<-f,<-g];rfl
def Rq{x:Nat}(hx:x<18446744073709551616)(a:x≠0):ξ (ι (Df .u64 (0-(x:Int))))=ξ (ι ((18446744073709551616-x:Nat):Int)):=by have e:Df .u64 (0-(x:Int))=((18446744073709551616-x:Nat):Int):=(by simp only[Df,Fw,Em];simp;omega);rw[e]
def XS{i s:Nat}(a:i<64)(b:ab5.getD i 0=s):GK.d64[0+(i:Int).toNat*1]?=ξ (Γ (s:Int)):=by (try dsimp only at a);rw[XR,show 0+(i:Int).toNat*1=i from Z,Dx,CD a];rw[List.getD_eq_getElem?_getD,CD a]at b;simp only[I6]at b;rw[b];rfl
def gW(k:Nat){h:HF}(l:GK.G h)(n:Nat){x:Nat}(hx:x<18446744073709551616)(f:x≠0):VF (J4 (k+1)) 178 [ι (x:Int)] h n λv=>∃s:Nat,v=υ (s:Int)/\s<64/\∃o,x=2^s*o/\o%2=1:=by
 apply zO R4;obtain⟨b,d⟩:x&&& (18446744073709551616-x)=2^ab6 64 x/\ab6 64 x<64:=Lib.lowest_bit 64 x f hx;have j:ab6 64 x=Lib.ctzFrom 64 x:=by unfold ab6;rw[Cv f]
 have⟨m,a,_⟩:=Lib.ctzFrom_spec 64 x Z hx;rw[<-j]at a;have⟨c,e⟩:=Lib.deBruijn64_at (ab6 64 x) d;generalize ab6 64 x=s at b d a c e;have g:∃o,x=2^s*o/\o%2=1:=⟨2*m+1,a,by clear a b;omega⟩;apply(Za);apply(ZE);refine zZ R4 (Rq hx f)<|mF R6 Z ?_;rw[b];refine wk R6<|yn R6 zd ?_;rw[show(2:Nat)^58=288230376151711744 from rfl];generalize 2^s*285870213051353865%18446744073709551616/288230376151711744=i at c e⊢;apply fk R8 ⟨Int.natCast_nonneg _,Int.ofNat_lt.2 c⟩;have p:=XS c e;apply zT R6 l.1 ⟨ω,p⟩;apply vj R7 Z;apply(kG);exact retF _ ω (zi ω) R2 ⟨s,ω,d,g⟩
theorem XT(k:Nat){h:HF}(q:GK.G h)(n:Nat){x y:Nat}(hx:x<18446744073709551616)(H:y<18446744073709551616):VF (J4 (k+2)) 142 [ι (x:Int),ι (y:Int)] h n λv=>v=ι ((CZ x y:Nat):Int):=by
 apply zO R4;have D:x|||y<18446744073709551616:=IQ (n:=64) hx H;apply(Za);by_cases hx0:x=0;subst hx0;apply(Zx);apply wG R6 Z;apply(kG);exact retF _ ω (zi ω) R2 (by rw[Nat.gcd_zero_left,Nat.zero_or];rfl);by_cases hy0:y=0;subst hy0;apply(Zx);apply wG R6 Z;apply(kG);exact retF _ ω (zi ω) R2 (by rw[Hy,Nat.or_zero];rfl);have u:x|||y≠0:=λe=>hx0 (aa2.1 e).1;apply(ZE);refine wG R6 Z<|yi _ R5 (gW k q n D u) ?_;rintro _⟨s,rfl,Z4,A⟩;apply(ZC);apply yi _ R5 (gW k q n hx hx0);rintro _⟨N,rfl,R,d,F,p⟩;apply yn R6 Z;have i:x/2^N=d:=by grind [Fg,Ds]
 have K:d<=x:=by rw[<-i];exact Ca
 rw[i];apply(kG);have J:=XN A F p;apply ye (λz=>[(0,ι (z.1:Int)),(1,ι (z.2:Int)),(5,υ (s:Int))]) (λz I M w=>h=I/\n=M/\w=[]/\z.1%2=1/\z.1<18446744073709551616/\z.2<18446744073709551616/\CZ z.1 z.2=CZ d y) (λz=>z.1+z.2) (d,y) ⟨ω,ω,ω,Cx⟩ ⟨ω,ω,ω,p,by show d<_;omega,H,ω⟩ (by show d+y<LL;unfold LL;omega);rintro⟨a,b⟩ t _ _ _ ⟨rfl,rfl,rfl,B,m,o,j⟩;simp only at B m o j;apply(zN);by_cases hb0:b=0;subst hb0;apply(Zj);rw[Hy]at j;apply(Zb);apply xK R6 Z;apply(kG);apply retF _ ω (zi ω) R2;show ι _=ι _;have P:CZ x y<=x:=Nat.gcd_le_left _ Z;grind;apply(Zx);apply yi _ R5 (gW k q n o hb0);rintro _⟨Z1,rfl,S,z,C,L⟩;apply yn R6 Z;have c:b/2^Z1=z:=by grind [Fg,Ds]
 have T:z<=b:=by rw[<-c];exact Ca
 rw[c];have⟨l,f,g⟩:=XO B C L;apply(kG);by_cases hgt:z<a;rw[I5 Z]at l f g;rw[ag3 Z]at f g;apply(Zr);apply(Zb);apply ym R6 Z;apply(kG);exact goOn (z,a-z) g ⟨ω,ω,ω,Cx⟩ ⟨ω,ω,ω,l,by show z<_;omega,by show a-z<_;omega,f.trans j⟩;rw[DR Z]at l f g;rw[ad4 Z]at f g;apply(ZE);apply ym R6 Z;apply(kG);exact goOn (a,z-a) g ⟨ω,ω,ω,Cx⟩ ⟨ω,ω,ω,l,m,by show z-a<_;omega,f.trans j⟩
def NewU(n:Nat)(h:HF)(v:ψ)(h':HF)(n':Nat)(w:List Nat)(L:List Nat):Prop:=w=[]/\n<=n'/\J3 n h h'/\∃a' c',v=Y a' (O L) c'/\Sl h' n' 1 v (u32s L)/\Norm L/\xC n v
def MZ{D:List Nat}(h:Kh D)(b:d<4294967296):Kh (D++[d]):=λx a=>by
 obtain a|a:=DQ.1 a
 .exact h x a
 simp at a;omega
def Rr(k:Nat)(G:Sl h n 1 (Y a1 l1 c1) (u32s A))(H:Sl h n 1 (Y a2 l2 c2) (u32s C))(I:Kh A)(F:Kh C)(hb:O A<1000000000/\O C<1000000000):
  CF (J4 (k+2)) 146 [Y a1 l1 c1,Y a2 l2 c2] h n λv q u w=>∃L,NewU n h v q u w L/\val L=val A+val C:=by
 refine zw R4 ?_;have Z4:=G.lenU;have N:=H.lenU;subst Z4 N;refine ZA (k:=?_);refine yj (α:=(Option Addr×Nat×List Nat)×(Option Addr×Nat×List Nat)) (λz=>[(0,Y z.1.1 (O z.1.2.2) z.1.2.1),(1,Y z.2.1 (O z.2.2.2) z.2.2.1)])
  (λz q u w=>h=q/\n=u/\w=[]/\Sl h n 1 (Y z.1.1 (O z.1.2.2) z.1.2.1) (u32s z.1.2.2)/\Sl h n 1 (Y z.2.1 (O z.2.2.2) z.2.2.1) (u32s z.2.2.2)/\Kh z.1.2.2/\Kh z.2.2.2/\O z.2.2.2<=O z.1.2.2/\O z.1.2.2<1000000000/\val z.1.2.2+val z.2.2.2=val A+val C) ?_ ?_
 by_cases hlt:O A<O C;rw[ze eU];refine Za (k:=?_);exact zA ((a2,c2,C),(a1,c1,A)) P2 ⟨ω,ω,ω,H,G,F,I,AP,hb.2,D6 _ _⟩;rw[za eS];refine zN (k:=?_);exact zA ((a1,c1,A),(a2,c2,C)) P2 ⟨ω,ω,ω,G,H,I,F,AQ,hb.1,ω⟩;rintro⟨⟨a1,c1,a⟩,a2,c2,f⟩ t _ _ _ ⟨rfl,rfl,rfl,G,H,I,F,K,hb,s⟩;simp only at G H I F K hb s;rw[<-s];refine Zg (k:=?_);refine vB (len:=O a+1) (cap:=O a+1) R9 Z ?_;rw[show zn (CC .u32 0)=[CC .u32 0]from ω,NB];refine Zn (k:=?_);refine kG (k:=?_);refine ye (α:=List Nat×Nat) (λz=>[(0,Y a1 (O a) c1),(1,Y a2 (O f) c2),(5,Y (ξ ⟨3*n+2,0,θ⟩) (O a+1) (O a+1)),(6,CC .u64 (z.2:Int)),(7,CC .i64 (O z.1:Int))])
  (λz q u w=>u=n+1/\w=[]/\J3 n h q/\(∃e,q (3*n+2)=ξ (.row (u32s (z.1++CI (O a-O z.1+1) 0)) e))/\O z.1<=O a/\Kh z.1/\z.2<=1/\dv 4294967296 z.1+z.2*4294967296^O z.1=dv 4294967296 (a.take (O z.1))+dv 4294967296 (f.take (O z.1))) (λz=>O a-O z.1)
  ([],0) P5 ⟨ω,ω,J3.upd Z,⟨_,zg _ _ _⟩,Cz,λd hd=>Cu hd CO,by decide,AA⟩ (by show O a-0<LL;unfold LL;omega) ?_
 rintro⟨D,c⟩ t h1 _ _ ⟨rfl,rfl,y,⟨e,j⟩,V,M,hc,S⟩;simp only at j V M hc S;refine zN (k:=?_);by_cases hi:O D=O a;refine Zj (k:=?_);rw[hi,DY]at j;repeat refine zU (k:=?_)
 refine uH R8 ω AX j bJ (λ_=>rfl) R3 (λ_=>rfl) ω λ_=>?_;rw[lj,<-hi,cI,E7,Dm];refine Zg (k:=?_);refine zF _ R5 (Ly k (l:=D++[c]) eP (.at_ Z (zg _ _ _) ω Z (by simp[u32s]<;>omega) (by rw[CL (by simp[u32s]<;>omega)];simp))) ?_;rintro v' _ _ _⟨rfl,rfl,rfl,rfl,hs⟩;refine kG (k:=?_);refine retH _ ⟨ω,(zi ω),ω⟩ ⟨yf (D++[c]),⟨ω,Ai,λb hb=>(zm Z).trans (y b hb),_,_,ω,hs,Norm.trim (MZ M Z),bJ⟩,?_⟩;rw[LN,mM,qz,mM,mM,CY];rw[hi,C3,CL K,<-hi]at S;omega;obtain⟨o,J⟩:∃x,a[O D]?=ξ x:=⟨a[O D]'Z,CD Z⟩;have W:o<4294967296:=I o (CE J);have Z1:=G.ext y (C8 n);have R:=H.ext y (C8 n);refine Zs (k:=?_);refine yE R7 Z1 R2 J (λ_=>rfl) R4 λ_=>?_;repeat refine zU (k:=?_)
 refine Za (k:=?_);have T:(f[O D]?).getD 0<4294967296:=by
  cases hc':f[O D]? with
  |none=>decide
  |some x=>exact F x (CE hc')
 refine Mz [(0,Y a1 (O a) c1),(1,Y a2 (O f) c2),(5,Y (ξ ⟨3*n+2,0,θ⟩) (O a+1) (O a+1)),(6,CC .u64 ((c+o+(f[O D]?).getD 0:Nat):Int)),(7,CC .i64 (O D:Int))] (λq u w=>h1=q/\u=n+1/\w=[]) ?_ ?_;by_cases hj:O D<O f;obtain⟨i,g⟩:∃x,f[O D]?=ξ x:=⟨f[O D]'Z,CD Z⟩;have Z3:i<4294967296:=F i (CE g);rw[ze eU];refine Zg (k:=?_);refine yE R7 R R2 g (λ_=>rfl) R4 λ_=>?_;repeat refine zU (k:=?_)
 refine zN (k:=?_);rw[g];exact Le P5 R3;exact Cg;rintro t2 _ _ _⟨rfl,rfl,rfl⟩;generalize g:(f[O D]?).getD 0=i at T⊢;refine Zg (k:=?_);refine ft R7 ?_;obtain⟨m,Z0⟩:∃m,O a-O D=m+1:=⟨O a-O D-1,Z⟩;rw[Z0]at j;refine uH R8 ω (by simp[vZ];omega) j bJ (λ_=>rfl) R3 (λ_=>rfl) ω λ_=>?_;rw[lj,cI];refine zN (k:=?_);repeat refine zU (k:=?_)
 refine Za (k:=?_);refine goOn (D++[(c+o+i)%4294967296],(c+o+i)/4294967296) eP ⟨ω,ω,ω,ω,nN,Cx⟩ ⟨ω,ω,λb hb=>(zm Z).trans (y b hb),⟨e,(zg _ _ _).trans (by show ξ (BF.row (u32s (D++[_]++CI (m+1) 0)) e)=ξ (BF.row (u32s (D++[_]++CI (O a-O (D++[_])+1) 0)) e);rw[CJ,C0,show (O a)-(O D+1)+1=m+1 from Z])⟩,eP,MZ M (Dz _ Z),by show _/_<=1;omega,?_⟩;have N:dv 4294967296 (f.take (O D+1))=dv 4294967296 (f.take (O D))+4294967296^O D*i:=by
  by_cases hj:O D<O f;have:f[O D]?=ξ i:=by rw[<-g,CD hj];rfl
  exact wJ this;rw[Dc Z]at g;simp only[I7]at g;rw[CL Z,CL Z,<-g];simp
 show dv 4294967296 (D++[_])+_*4294967296^O (D++[_])=dv 4294967296 (a.take (O (D++[_])))+dv 4294967296 (f.take (O (D++[_])));simp only[CJ,C0];rw[wJ J,N,C5];have:=Pt (B:=4294967296) (P:=4294967296^O D) (V':=dv 4294967296 (D++[(c+o+i)%4294967296])) (c:=c) (p:=o+i) (by rw[qz,CY]) (c':=(c+o+i)/4294967296) Z;rw[this,Dq o i,CY o,CY i];omega
theorem Rs{V' o p:Nat}(h:V'+o*P=V+d*P)(hx:B*c'+d=c+p+o):V'+c'*(P*B)=V+c*P+p*P:=by grind
def Sl.own{Z1:List Nat}(a:h b=ξ (.row (u32s Z1) e))(hb:b<3*m)(g:O Z1=len)(f:len<=cap):Sl h m 1 (Y (ξ ⟨b,0,θ⟩) len cap) (u32s Z1):=
 .at_ hb a ω f s9 (by rw[Dy,CL s9])
def M0{Z1:List Nat}(h:Kh Z1)(f:d<4294967296):Kh (Z1.set j d):=λx a=>by
 obtain a|a:=IF a
 .exact h x a
 omega
def Rt(k:Nat)(hA:Sl h n 1 (Y a1 l1 c1) (u32s A))(hC:Sl h n 1 (Y a2 l2 c2) (u32s C))(dA:Kh A)(dC:Kh C)(hb:O A<1000000000/\O C<1000000000):
  CF (J4 (k+2)) 147 [Y a1 l1 c1,Y a2 l2 c2] h n λv q F w=>∃L,NewU n h v q F w L/\val L=val A*val C:=by
 refine zw R4 ?_;have e1:=hA.lenU;have R:=hC.lenU;subst e1 R;refine Za (k:=?_);by_cases y:O A=0\/O C=0;have hz:val A*val C=0:=(by obtain y|y:=y;rw[CT.1 y];simp[val];rw[CT.1 y];simp[val]);have T:∀t:TF,t 4=η->RetH Tryz.f147 (λv q F w=>∃L,NewU n h v q F w L/\val L=val A*val C) .ret ⟨t,h,n,[]⟩:=λt ht=>
  retH [η] ⟨ω,(zi ht),ω⟩ ⟨[],⟨ω,Cy,J3.refl _ _,θ,0,ω,.nil (.inl ω),Norm.nil,Cx⟩,by rw[hz];rfl⟩
 by_cases h1:O A=0;refine Zr (k:=?_);exact T _ rfl;refine Zr (k:=?_);exact T _ rfl;have a4:O A≠0:=λe=>y (.inl e);have a5:O C≠0:=λe=>y (.inr e);refine Zz (k:=?_);refine vB R9 Z ?_;rw[show zn (CC .u32 0)=[CC .u32 0]from ω,NB];refine Zn (k:=?_);refine ye (α:=Nat×List Nat) (λz=>[(0,Y a1 (O A) c1),(1,Y a2 (O C) c2),(5,Y (ξ ⟨3*n+2,0,θ⟩) (O A+O C) (O A+O C)),(6,CC .i64 (z.1:Int))])
  (λz q F w=>F=n+1/\w=[]/\J3 n h q/\(∃e,q (3*n+2)=ξ (.row (u32s z.2) e))/\z.1<=O A/\Kh z.2/\O z.2=O A+O C/\z.2.drop (z.1+O C)=CI (O A-z.1) 0/\dv 4294967296 z.2=dv 4294967296 (A.take z.1)*dv 4294967296 C) (λz=>O A-z.1)
  (0,CI (O A+O C) 0) P4 ⟨ω,ω,J3.upd Z,⟨_,zg _ _ _⟩,Cz,λd hd=>by rw[Hs hd];decide,eC,eC,by simp[dv,pc]⟩ Ad ?_
 rintro⟨i,Z1⟩ t h1 _ _ ⟨rfl,rfl,Z4,⟨e,D⟩,hi,W,I,J,Z3⟩;simp only at D hi W I J Z3;refine zN (k:=?_);by_cases hiA:i=O A;subst hiA;refine Zz (k:=?_);refine zF _ R5 (Ly k Z (Sl.own D Z I Cy)) ?_;rintro v' _ _ _⟨rfl,rfl,rfl,rfl,hs⟩;refine kG (k:=?_);refine retH _ ⟨ω,(zi ω),ω⟩ ⟨yf Z1,⟨ω,Ai,Z4,_,_,ω,hs,Norm.trim W,bJ⟩,?_⟩;rw[LN,mM,mM,mM,Z3,C3];obtain⟨g,M⟩:∃x,A[i]?=ξ x:=⟨A[i]'Z,CD Z⟩;have a0:g<4294967296:=dA g (CE M);refine Zr (k:=?_);refine kG (k:=?_);refine ye (α:=Nat×Nat×List Nat) (λz=>[(0,Y a1 (O A) c1),(1,Y a2 (O C) c2),(5,Y (ξ ⟨3*n+2,0,θ⟩) (O A+O C) (O A+O C)),(6,CC .i64 (i:Int)),(7,CC .u64 (z.2.1:Int)),(8,CC .i64 (z.1:Int))])
  (λz q F w=>F=n+1/\w=[]/\J3 n h q/\(∃e,q (3*n+2)=ξ (.row (u32s z.2.2) e))/\z.1<=O C/\Kh z.2.2/\O z.2.2=O A+O C/\z.2.1<4294967296/\z.2.2.drop (i+O C)=Z1.drop (i+O C)/\dv 4294967296 z.2.2+z.2.1*4294967296^(i+z.1)=dv 4294967296 Z1+g*4294967296^i*dv 4294967296 (C.take z.1)) (λz=>O C-z.1)
  (0,0,Z1) P6 ⟨ω,ω,Z4,⟨e,D⟩,Cz,W,I,by show 0<4294967296;decide,ω,AA⟩ AG ?_
 rintro⟨j,c,a⟩ t2 h2 _ _ ⟨rfl,rfl,H,⟨R,f⟩,hj,G,s,hc,u,K⟩;simp only at f hj G s hc u K;refine zN (k:=?_);by_cases hjC:j=O C;subst hjC;refine Zj (k:=?_);repeat refine zU (k:=?_)
 refine uH (j:=i+O C) R8 Z s9 f bJ (λ_=>rfl) R3 (λ_=>rfl) ω λ_=>?_;rw[lj];refine Za (k:=?_);have Z0:a[i+O C]?=ξ 0:=by
  have:(a.drop (i+O C))[0]?=(CI (O A-i) 0)[0]?:=by rw[u,J]
  rw[DX,DE]at this;rw[this,List.getElem?_replicate,Cw Z]
 refine goOn (i+1,a.set (i+O C) c) (by show O A-(i+1)<O A-i;omega) ⟨ω,ω,ω,gH,Cx⟩ ⟨ω,ω,λb hb=>(zm Z).trans (H b hb),⟨R,zg _ _ _⟩,by show i+1<=O A;omega,M0 G hc,A7,?_,?_⟩;show(a.set (i+O C) c).drop (i+1+O C)=_;rw[FA Z];have:=congrArg (JL 1) (u.trans J);rw[Ey]at this;rw[show i+1+O C=i+O C+1 from Z,this];simp;omega;show dv 4294967296 (a.set (i+O C) c)=dv 4294967296 (A.take (i+1))*dv 4294967296 C;have S:=Mj (B:=4294967296) c Z0;rw[DU,DE]at S;rw[S,K,C3,wJ M,Dq,Z3,CY g];obtain⟨l,N⟩:∃x,C[j]?=ξ x:=⟨C[j]'Z,CD Z⟩;have a3:l<4294967296:=dC l (CE N);obtain⟨o,ho⟩:∃x,a[i+j]?=ξ x:=⟨a[i+j]'Z,CD Z⟩;have a6:o<4294967296:=G o (CE ho);have hp:g*l<=4294967295*4294967295:=C6 Z Z;refine Zo (k:=?_);rw[wb rfl];repeat refine zR (k:=?_)
 refine yE R7 (hA.ext H (C8 n)) R2 M (λ_=>rfl) R4 λ_=>?_;repeat refine zU (k:=?_)
 refine yE R7 (hC.ext H (C8 n)) R2 N (λ_=>rfl) R4 λ_=>?_;repeat refine zU (k:=?_)
 refine yE R7 (Sl.own f (show _<3*(n+1)from Z) s Cy) ⟨ω,Z⟩ ho (λ_=>rfl) R4 λ_=>?_;generalize hpp:g*l=p at hp;repeat refine zU (k:=?_)
 refine Zg (k:=?_);refine ft R7 ?_;refine uH (j:=i+j) R8 Z s9 f bJ (λ_=>rfl) R3 (λ_=>rfl) ω λ_=>?_;rw[lj];refine zN (k:=?_);repeat refine zU (k:=?_)
 refine Za (k:=?_);refine goOn (j+1,(c+(p+o))/4294967296,a.set (i+j) ((c+(p+o))%4294967296)) (by show O C-(j+1)<O C-j;omega) ⟨ω,ω,ω,ω,ω,gH,Cx⟩ ⟨ω,ω,λb hb=>(zm Z).trans (H b hb),⟨R,zg _ _ _⟩,by show j+1<=O C;omega,M0 G (Dz _ Z),A7,by show _/_<_;omega,?_,?_⟩;show(a.set (i+j) _).drop (i+O C)=_;rw[FA Z];exact u;show dv 4294967296 (a.set (i+j) _)+_*4294967296^(i+(j+1))=dv 4294967296 Z1+g*4294967296^i*dv 4294967296 (C.take (j+1));have S:=Rs (B:=4294967296) (c:=c) (p:=p) (c':=(c+(p+o))/4294967296) (Mj (B:=4294967296) ((c+(p+o))%4294967296) ho) Z;rw[show i+(j+1)=i+j+1 from Z,C5,S,K,wJ N,DS,<-hpp,DV];have e4:g*4294967296^i*(4294967296^j*l)=g*l*(4294967296^i*4294967296^j):=(by rw[CY (4294967296^j) l,<-Di,Di g,CY (4294967296^i) l,<-Di,Di (g*l)]);rw[e4];omega
section
variable{h:HF}
def XU(k:Nat)(F:Sl h n 1 (Y a1 l1 c1) (u32s A))(H:Sl h n 1 (Y a2 l2 c2) (u32s C))(P:Kh A)(B:Kh C)(hb:O A<1000000000)(N:O C<=O A)(Z1:val C<=val A):
  CF (J4 (k+2)) 193 [Y a1 l1 c1,Y a2 l2 c2] h n λv o q w=>∃L,NewU n h v o q w L/\val L=val A-val C:=by
 apply zw R4;have R:=F.lenU;have y:=H.lenU;subst R y;apply(Zu);apply vB R9 Z;rw[show zn (ν 0)=[ν 0]from ω,NB];apply(Zn);apply(kG);refine ye (α:=List Nat×Nat) (λz=>[(0,Y a1 (O A) c1),(1,Y a2 (O C) c2),(5,Y (ξ ⟨3*n+2,0,θ⟩) (O A) (O A)),(6,ι (z.2:Int)),(7,υ (O z.1:Int))])
  (λz o q w=>q=n+1/\w=[]/\J3 n h o/\(∃e,o (3*n+2)=ξ (.row (u32s (z.1++CI (O A-O z.1) 0)) e))/\O z.1<=O A/\Kh z.1/\z.2<=1/\dv 4294967296 z.1+dv 4294967296 (C.take (O z.1))=dv 4294967296 (A.take (O z.1))+z.2*4294967296^O z.1) (λz=>O A-O z.1)
  ([],0) P5 ⟨ω,ω,J3.upd Z,⟨_,zg _ _ _⟩,Cz,λd hd=>Cu hd CO,by decide,AA⟩ Ad ?_
 rintro⟨D,c⟩ t h1 _ _ ⟨rfl,rfl,j,⟨e,g⟩,V,u,hc,J⟩;simp only at g V u hc J;apply(zN);by_cases hi:O D=O A;apply(Zj);rw[hi,DY,E7,Dm]at g;repeat apply(zR)
 apply zF _ R5 (Ly k Z (Sl.own g Z hi Cy));rintro v' _ _ _⟨rfl,rfl,rfl,rfl,hs⟩;apply(kG);refine retH _ ⟨ω,(zi ω),ω⟩ ⟨yf D,⟨ω,Ai,j,_,_,ω,hs,Norm.trim u,bJ⟩,?_⟩;rw[LN,mM];rw[mM,mM]at Z1⊢;rw[hi,C3,CL N,<-hi]at J;have a0:=LX u;have K:c=0\/c=1:=Z;obtain rfl|rfl:=K<;>omega;obtain⟨l,p⟩:∃x,A[O D]?=ξ x:=⟨A[O D]'Z,CD Z⟩;have Z3:l<4294967296:=P l (CE p);have G:=F.ext j (C8 n);have I:=H.ext j (C8 n);apply(Zs);refine yE R7 G R2 p (λ_=>rfl) R4 λ_=>?_;apply se R7 Z;apply(zM);apply sd R6 Z;apply(Zn);have M:(C[O D]?).getD 0<4294967296:=by
  cases hc':C[O D]? with
  |none=>decide
  |some x=>exact B x (CE hc')
 refine Mz [(0,Y a1 (O A) c1),(1,Y a2 (O C) c2),(5,Y (ξ ⟨3*n+2,0,θ⟩) (O A) (O A)),(7,υ (O D:Int)),(8,ι (((l+18446744073709551616-(c+(C[O D]?).getD 0))%18446744073709551616:Nat):Int))] (λo q w=>h1=o/\q=n+1/\w=[]) ?_ ?_;by_cases hj:O D<O C;obtain⟨i,f⟩:∃x,C[O D]?=ξ x:=⟨C[O D]'Z,CD Z⟩;have Z0:i<4294967296:=B i (CE f);rw[ze eU];apply(Zg);refine yE R7 I R2 f (λ_=>rfl) R4 λ_=>?_;apply se R7 Z;apply sd R6 Z;apply(kG);rw[f];exact Le ⟨ω,ω,ω,ω,by show ι _=ι _;congr 2;simp only[I6];omega,Cx⟩ R3;exact Cg;rintro t2 _ _ _⟨rfl,rfl,rfl⟩;generalize f:(C[O D]?).getD 0=i at M⊢;obtain⟨X,W⟩:∃X,X=(l+18446744073709551616-(c+i))%18446744073709551616:=⟨_,ω⟩;rw[<-W];apply(Zg);apply ft R7;obtain⟨m,hm⟩:∃m,O A-O D=m+1:=⟨O A-O D-1,Z⟩;rw[hm]at g;refine uH R8 ω (by simp[vZ]<;>omega) g bJ (λ_=>rfl) R3 (λ_=>rfl) ω λ_=>?_;rw[lj,cI];apply(Zi);refine yn (s:=32) R6 Z<|mF (a:=X/2^32) (b:=1) R6 Z ?_;rw[aa3];apply(Zn);refine goOn (D++[X%4294967296],X/2^32%2) eP ⟨ω,ω,ω,ω,nN,Cx⟩ ⟨ω,ω,λb hb=>(zm Z).trans (j b hb),⟨e,(zg _ _ _).trans (by show ξ (BF.row (u32s (D++[_]++CI m 0)) e)=ξ (BF.row (u32s (D++[_]++CI (O A-O (D++[_])) 0)) e);rw[CJ,C0,show (O A)-(O D+1)=m from Z])⟩,eP,MZ u (Dz _ Z),by show _%_<=1;omega,?_⟩;have y:dv 4294967296 (C.take (O D+1))=dv 4294967296 (C.take (O D))+4294967296^O D*i:=by
  by_cases hj:O D<O C;have:C[O D]?=ξ i:=by rw[<-f,CD hj];rfl
  exact wJ this;rw[Dc Z]at f;simp only[I7]at f;rw[CL Z,CL Z,<-f];simp
 show dv 4294967296 (D++[_])+dv 4294967296 (C.take (O (D++[_])))=dv 4294967296 (A.take (O (D++[_])))+_*4294967296^O (D++[_]);simp only[CJ,C0];rw[wJ p,y,C5 (n:=4294967296),qz];have S:X%4294967296+i+c=l+X/2^32%2*4294967296:=Z;have T:4294967296^O D*(X%4294967296+i+c)=4294967296^O D*(l+X/2^32%2*4294967296):=by rw[S]
 rw[DS,DS,DS]at T;have Z4:X/2^32%2*(4294967296^O D*4294967296)=4294967296^O D*(X/2^32%2*4294967296):=by rw[Gm]
 rw[Z4];have e6:c*4294967296^O D=4294967296^O D*c:=CY _ _;omega
def Pu{t x s:Nat}(b:s<=32)(a:t<2^s):t|||(x*2^s%4294967296)=t+x*2^s%4294967296:=by have e:x*2^s%4294967296=2^s*(x%2^(32-s)):=(by rw[show(4294967296:Nat)=2^s*2^(32-s)from by rw[<-DV,show s+(32-s)=32 from Z],CY x,G8]);rw[e,Nat.or_comm,<-Iq a,D6]
def Ru{t x s:Nat}(a:s<=32)(b:t<2^s):t+x*2^s%4294967296<4294967296:=by rw[<-Pu a b];have c:t<2^32:=CS b (CQ Z a);exact IQ c (Dz _ Z)
def Rv{x s:Nat}(hx:x<4294967296):x*2^s/4294967296<2^s:=by rw[Ee Z,CY];exact Nat.mul_lt_mul_of_pos_left hx (Ds Z)
theorem XV(D:List Nat)(t m d:Nat)(x:Nat):((D++[t]++CI (m+1) 0).set (O D) d).set (O D+1) x=(D++[d])++[x]++CI m 0:=by grind
def Rw(k:Nat){s:Nat}(J:Sl h n 1 (Y a1 l1 c1) (u32s A))(M:Kh A)(hb:O A<1000000000)(W:s<32):
  CF (J4 (k+1)) 204 [Y a1 l1 c1,ι (s:Int)] h n λv g G w=>w=[]/\G=n+1/\J3 n h g/\∃L e,v=Y (ξ ⟨3*n+2,0,θ⟩) (O A+1) (O A+1)/\g (3*n+2)=ξ (.row (u32s L) e)/\O L=O A+1/\Kh L/\dv 4294967296 L=dv 4294967296 A*2^s:=by
 apply zw R4;have N:=J.lenU;subst N;have I:2^s<=2147483648:=show 2^s<=2^31 from CQ Z Z;have H:0<2^s:=Ds Z;apply(Zu);apply vB (len:=O A+1) (cap:=O A+1) R9 Z;rw[show zn (ν 0)=[ν 0]from ω,NB];apply(Zn);refine ye (α:=List Nat×Nat) (λz=>[(0,Y a1 (O A) c1),(1,ι (s:Int)),(5,Y (ξ ⟨3*n+2,0,θ⟩) (O A+1) (O A+1)),(6,υ (O z.1:Int))])
  (λz g G w=>G=n+1/\w=[]/\J3 n h g/\(∃e,g (3*n+2)=ξ (.row (u32s (z.1++[z.2]++CI (O A-O z.1) 0)) e))/\O z.1<=O A/\Kh z.1/\z.2<2^s/\dv 4294967296 z.1+z.2*4294967296^O z.1=dv 4294967296 (A.take (O z.1))*2^s) (λz=>O A-O z.1)
  ([],0) P4 ⟨ω,ω,J3.upd Z,⟨_,(zg _ _ _).trans (by rw[GA];rfl)⟩,Cz,λd R=>Cu R CO,H,AA⟩ Ad ?_
 rintro⟨D,u⟩ t V _ _ ⟨rfl,rfl,q,⟨e,a⟩,Z1,F,o,y⟩;simp only at a Z1 F o y;apply(zN);by_cases hi:O D=O A;apply(Zj);rw[hi,DY,E7,Dm]at a;apply(kG);refine retH _ ⟨ω,(zi ω),ω⟩ ⟨ω,ω,q,D++[u],e,ω,a,by simp[hi],MZ F Z,?_⟩;rw[hi,C3,<-hi]at y;rw[qz,CY (4294967296^_),y];obtain⟨f,i⟩:∃x,A[O D]?=ξ x:=⟨A[O D]'Z,CD Z⟩;have l:f<4294967296:=M f (CE i);have K:=J.ext q (C8 n);obtain⟨m,S⟩:∃m,O A-O D=m+1:=⟨O A-O D-1,Z⟩;rw[S]at a;have Z4:f*2^s<18446744073709551616:=(by have:f*2^s<=4294967295*2147483648:=C6 Z I;omega);apply(Zs);refine yE R7 K R2 i (λ_=>rfl) R4 λ_=>?_;apply se R7 Z;apply(zM);apply xK R6 Z;rw[C1 Z4];apply(Zl);refine yE (dv:=u) R7 (Sl.own a (show _<3*(n+1)from Z) eP Cy) R2 eC (λ_=>rfl) R4 λ_=>?_;apply(zM);refine ft R7<|Q6 R6 Z ?_;rw[Pu Z o];refine uH R8 ω (by rw[vZ];simp<;>omega) a bJ (λ_=>rfl) R3 (λ_=>rfl) ω λ_=>?_;apply(zN);have T:=Rv (s:=s) l;repeat apply(zU)
 refine uH (j:=O D+1) R8 Z (by rw[DH,vZ];simp<;>omega) (zg _ _ _) bJ (λ_=>rfl) R3 (λ_=>rfl) ω λ_=>?_;rw[uk,lj,lj,XV];apply(Za);refine goOn (D++[u+f*2^s%4294967296],f*2^s/2^32) eP ⟨ω,ω,ω,nN,Cx⟩ ⟨ω,ω,λb hb=>(zm Z).trans (q b hb),⟨e,(zg _ _ _).trans aD⟩,eP,MZ F (Ru Z o),by show f*2^s/2^32<2^s;exact Rv l,?_⟩;show dv 4294967296 (D++[_])+_*4294967296^O (D++[_])=dv 4294967296 (A.take (O (D++[_])))*2^s;simp only[CJ,C0];have:=Pt (B:=4294967296) (P:=4294967296^O D) (V':=dv 4294967296 (D++[u+f*2^s%4294967296])) (c:=u) (p:=f*2^s) (by rw[qz,CY]) (c':=f*2^s/2^32) Z;rw[C5 (n:=4294967296),this,wJ i,Dq,y,GO,CY (4294967296^O D)]
def DivR(n:Nat)(h:HF)(A C:List Nat)(v:ψ)(h':HF)(n':Nat)(w:List Nat):Prop:=w=[]/\n<=n'/\J3 n h h'/\∃aq cq Lq ar cr Lr,v=.tuple #[Y aq (O Lq) cq,Y ar (O Lr) cr]/\Sl h' n' 1 (Y aq (O Lq) cq) (u32s Lq)/\Sl h' n' 1 (Y ar (O Lr) cr) (u32s Lr)/\Norm Lq/\Norm Lr/\val Lq=val A/val C/\val Lr=val A%val C/\xC n (Y aq (O Lq) cq)/\xC n (Y ar (O Lr) cr)
def Norm.len_le{B:List Nat}(a:Norm A)(b:Norm B)(h:val B<=val A):O B<=O A:=by apply CW;intro c;have:=a.len_lt b Z;omega
end
end Go.Proofs.YtdeaddceicfanaaGreatDoor
namespace Go.Proofs.YtdeaddceicfanaaGreatDoor
variable{top v1 v2 vr w2 wr B P h r:Nat}
def oJ{a b c P:Nat}(d:a*P<=b)(e:b<c*P):a<c:=by apply CW;intro f;have:c*P<=a*P:=CM P Z;omega
theorem kB(hv:0<v1)(d:w2<B)(e:wr<P):((top*B+w2)*P+wr)/((v1*B+v2)*P+vr)<=top/v1:=by
 generalize hQ:((top*B+w2)*P+wr)/((v1*B+v2)*P+vr)=Q;have a:Q*((v1*B+v2)*P+vr)<=(top*B+w2)*P+wr:=by rw[<-hQ];exact JP _ _
 rw[Fo hv];have b:(Q*v1)*(B*P)<=Q*((v1*B+v2)*P+vr):=by grind
 have c:(top*B+w2)*P+wr<(top+1)*(B*P):=(by have:(top*B+w2+1)*P<=(top*B+B)*P:=CM _ Z;grind);have:=oJ (CU b a) c;omega
theorem ek(f:w2<B)(g:wr<P)(e:h*v1+r=top)(i:r*B+w2<h*v2):((top*B+w2)*P+wr)/((v1*B+v2)*P+vr)<h:=by
 generalize hQ:((top*B+w2)*P+wr)/((v1*B+v2)*P+vr)=Q;have a:Q*((v1*B+v2)*P+vr)<=(top*B+w2)*P+wr:=by rw[<-hQ];exact JP _ _
 apply CW;intro j;have b:(h*(v1*B+v2))*P<=Q*((v1*B+v2)*P+vr):=by simp_all [C6,Di]
 have c:(top*B+w2)*P+wr<(top*B+w2+1)*P:=by grind
 have d:=oJ (CU b a) c;rw[<-e,DS,Dq]at d;grind
theorem Pv(hv:0<v1)(c:0<B)(e:vr<P)(d:h*v1+r=top)(l:h*v2<=r*B+w2)(hh:h<B):h<=((top*B+w2)*P+wr)/((v1*B+v2)*P+vr)+1:=by
 have a:0<(v1*B+v2)*P+vr:=(by have:0<v1*B:=Et hv c;have:0<(v1*B+v2)*P:=Et Z Z;omega);have f:(h*(v1*B+v2))*P<=(top*B+w2)*P:=(by apply CM;rw[<-d,DS,Dq];grind);have g:h*vr<=B*P:=C6 Z Z;have i:B*P<=(v1*B+v2)*P:=CM _ (by
  have:1*B<=v1*B:=CM _ hv;omega)
 have b:h*((v1*B+v2)*P+vr)<=((top*B+w2)*P+wr)+((v1*B+v2)*P+vr):=(by grind);have j:h<=(((top*B+w2)*P+wr)+((v1*B+v2)*P+vr))/((v1*B+v2)*P+vr):=(by rw[Fo a];exact b);simp_all
theorem Rx(e:vr<P)(d:v2<B)(c:(top*B+w2)*P+wr<B*((v1*B+v2)*P+vr)):top<=v1*B+v2:=by
 have a:top*(B*P)<=(top*B+w2)*P+wr:=by grind
 have b:B*((v1*B+v2)*P+vr)<=(v1*B+v2+1)*(B*P):=(by rw[Gm];apply C4;grind);have:=oJ a (CS c b);omega
theorem Pw{B:Nat}{l:List Nat}{m x y:Nat}(b:O l=m+2)(hx:l[m+1]?=ξ x)(c:l[m]?=ξ y):dv B l=(x*B+y)*B^m+dv B (l.take m):=by have a:=wJ (B:=B) hx;grind [wJ,CL,Dq,C5,CY,Di]
theorem Ry{B:Nat}{l:List Nat}{m x y z:Nat}(c:O l=m+3)(hx:l[m+2]?=ξ x)(d:l[m+1]?=ξ y)(e:l[m]?=ξ z):dv B l=((x*B+y)*B+z)*B^m+dv B (l.take m):=by have a:=wJ (B:=B) hx;rw[CL Z]at a;have b:=Pw (B:=B) (l:=l.take (m+2)) (m:=m) (x:=y) (y:=z) aD aD aD;grind
theorem XW{B:Nat}:∀{l:List Nat},0<B->dv B l=0->∀(i x:Nat),l[i]?=ξ x->x=0:=by
 intro l;induction l with
 |nil=>intro _ _ i x h;simp at h
 |cons d l ih=>
  intro a h i x b;simp only[dv]at h;grind [dv,Nat.mul_eq_zero.1]
theorem Px{B:Nat}{l:List Nat}{n:Nat}(b:0<B)(h:dv B l<B^n):dv B (l.drop n)=0/\dv B (l.take n)=dv B l:=by
 have e:dv B l=dv B (l.take n)+B^O (l.take n)*dv B (l.drop n):=by rw[<-vm,DP]
 by_cases hl:n<=O l
 .rw[DA,DR hl]at e;have:dv B (l.drop n)=0:=by
   apply CW;intro a;have:B^n*1<=B^n*dv B (l.drop n):=C4 _ Z;omega
  grind
 rw[List.drop_of_length_le Z,CL Z];exact⟨rfl,rfl⟩
end Go.Proofs.YtdeaddceicfanaaGreatDoor
namespace Go.Proofs.YtdeaddceicfanaaGreatDoor
open Go Go.GL
variable{n1 n K m vc bu j top v1 v2 id n' uc bv hh rc r s:Nat}{w Z4 V W T:List Nat}{qv sv vb vd ve v:ψ}{e ty:TypeId}{ops:List Oper}{va ua:Option Addr}{E:Env}{o:Oper}{x:Operand}
variable{h h':HF}
def subC:List Nat->Code->Option Code
 |[],c=>ξ c
 |0::p,.seq a _=>subC p a
 |1::p,.seq _ b=>subC p b
 |0::p,.cond _ a _=>subC p a
 |1::p,.cond _ _ b=>subC p b
 |0::p,.block _ b=>subC p b
 |0::p,.loop b=>subC p b
 |0::p,.scope b=>subC p b
 |_,_=>θ
def KZ(f:Func)(p:List Nat):Option Code:=match f.body with|some b=>subC p b|none=>θ
section
variable{h:HF}{t:TF}
set_option maxRecDepth 100000
theorem XX(y:Sl h n1 1 (Y va (O V) vc) (u32s V))(N:Sl h n1 1 (Y ua (O Z4) uc) (u32s Z4))(S:O V=m+2)(hl:O Z4<10000000000/\j+m+2<O Z4){v1 v2 top w2 g:Nat}(u:V[m+1]?=ξ v1)(D:V[m]?=ξ v2)(F:Z4[j+m]?=ξ w2)
  (G:2147483648<=v1/\v1<4294967296)(Z0:v2<4294967296)(H:w2<4294967296)(Z1:top<=v1*4294967296+v2)(B:g<=top/v1)(T:g<4294967296)(C:∀a b:Nat,a*v1+b=top->b*4294967296+w2<a*v2->g<a)
  {c:Code}(A:KZ Fp [1,1,1,1,1,1,1,1,1,1,0,1,0,0,1,0,0,1,1,1,0]=ξ c){Q:Ex->SV->Prop}
  (M:tJ t [(8,sv),(9,Y va (O V) vc),(10,Y ua (O Z4) uc),(11,υ (O V:Int)),(13,qv),(14,υ (j:Int)),(16,ι ((top/v1:Nat):Int)),(17,ι ((top%v1:Nat):Int))])
  (v:∀(a b:Nat) (t':TF),tJ t' [(8,sv),(9,Y va (O V) vc),(10,Y ua (O Z4) uc),(11,υ (O V:Int)),(13,qv),(14,υ (j:Int)),(16,ι (a:Int))]->a*v1+b=top->a<4294967296->a*v2<=b*4294967296+w2->g<=a->Q .normal ⟨t',h,n1,w⟩):EC (KC K n (Fp).ntmps) c ⟨t,h,n1,w⟩ Q:=by
 obtain rfl:=Eb (A.symm.trans (rfl:KZ Fp [1,1,1,1,1,1,1,1,1,1,0,1,0,0,1,0,0,1,1,1,0]=ξ _));have e:top%v1<v1:=Dz _ Z;apply(zN);refine ye (α:=Nat×Nat) (λz=>[(8,sv),(9,Y va (O V) vc),(10,Y ua (O Z4) uc),(11,υ (O V:Int)),(13,qv),(14,υ (j:Int)),(16,ι (z.1:Int)),(17,ι (z.2:Int))])
  (λz I P R=>h=I/\n1=P/\w=R/\z.1*v1+z.2=top/\g<=z.1/\z.2<4294967296) (λz=>z.1) (top/v1,top%v1) M ⟨ω,ω,ω,Ap,B,by show _%_<_;omega⟩ rq ?_
 rintro⟨a,b⟩ t2 _ _ _ ⟨rfl,rfl,rfl,f,p,q⟩;simp only at f p q;have W:a<18446744073709551616:=(by have J:a*2147483648<=a*v1:=C4 _ G.1;omega);have d:g<a->(a-1)*v1+(b+v1)=top:=λe=>(by obtain⟨x,rfl⟩:∃x,a=x+1:=⟨a-1,Z⟩;grind);have o:g<a->4294967296<=b+v1->a-1<4294967296/\(a-1)*v2<=(b+v1)*4294967296+w2:=λe i=>(by have J:=d e;have L:a-1<4294967296:=(by apply CW;intro hn;exact Cr);refine⟨L,?_⟩;have h3:(a-1)*v2<=4294967296*4294967296:=C6 Z Z;omega);apply(zN);rw[wb rfl];by_cases hB:4294967296<=a;repeat apply(zU)
 apply(zN);rw[ze rfl];apply(zN);repeat apply(zU)
 apply(Zg);refine yE R7 y ⟨ω,Z⟩ u (λ_=>rfl) R4 λ_=>?_;repeat apply(zU)
 apply(zN);by_cases i:4294967296<=b+v1;apply(Zo);have l:=o Z i;exact v (a-1) (b+v1) _ P7 (d Z) l.1 l.2 Z;apply(Zj);exact goOn (a-1,b+v1) Ao P8 ⟨ω,ω,ω,d Z,Aj,Am⟩;have Z3:a*v2<=4294967295*4294967295:=C6 Z Z;repeat apply(zU)
 refine yE R7 y ⟨ω,Z⟩ D (λ_=>rfl) R4 λ_=>?_;apply se R7 Z;apply xt R6 Z;apply(zM);apply xK (s:=32) R6 Z;repeat apply(zR)
 refine yE R7 N ⟨ω,Z⟩ F (λ_=>rfl) R4 λ_=>?_;refine se R7 Z<|wG R6 Z ?_;rw[Pp b w2 q H];by_cases htest:b*4294967296+w2<a*v2;have e:=C a b f htest;apply MC R6 (by exact_mod_cast htest);apply(Zo);repeat apply(zU)
 apply(Zg);refine yE R7 y ⟨ω,Z⟩ u (λ_=>rfl) R4 λ_=>?_;repeat apply(zU)
 apply(zN);by_cases i:4294967296<=b+v1;apply(Zo);have l:=o e i;exact v (a-1) (b+v1) _ P7 (d e) l.1 l.2 Z;apply(Zj);exact goOn (a-1,b+v1) Ao P8 ⟨ω,ω,ω,d e,Aj,Am⟩;apply MV R6 Z;apply(Zj);exact v a b _ P7 f Z Z p
end
theorem Rz{w q:Nat}(a:q*v1+r=top)(hv:0<v1*4294967296+v2)(c:(top*4294967296+w)/(v1*4294967296+v2)<=q)(b:q*v2<=r*4294967296+w):q=(top*4294967296+w)/(v1*4294967296+v2):=by grind [hv,Nat.le_antisymm,Fo,DS,Di,Dq]
section
variable{h:HF}{t:TF}{va vc:ψ}
set_option maxRecDepth 100000
theorem XY{w2:Nat}(I:2147483648<=v1/\v1<4294967296)(T:v2<4294967296)(C:w2<4294967296)(A:top<v1*4294967296+v2)
  {c:Code}(F:KZ I8 [1,1,1,1,1,1,1,1,1,1,1,1,1,1,0]=ξ c){Q:Ex->SV->Prop}
  (M:tJ t [(2,va),(8,vb),(11,vc),(14,vd),(9,ι (v1:Int)),(10,ι (v2:Int)),(13,ι (w2:Int)),(15,ι ((top/v1:Nat):Int)),(16,ι ((top%v1:Nat):Int))])
  (y:∀(t':TF) (g:Nat),g=(top*4294967296+w2)/(v1*4294967296+v2)->tJ t' [(2,va),(8,vb),(11,vc),(14,vd),(9,ι (v1:Int)),(10,ι (v2:Int)),(13,ι (w2:Int)),(15,ι (g:Int))]->Q .normal ⟨t',h,n1,w⟩):EC (KC K n (I8).ntmps) c ⟨t,h,n1,w⟩ Q:=by
 obtain rfl:=Eb (F.symm.trans (rfl:KZ I8 [1,1,1,1,1,1,1,1,1,1,1,1,1,1,0]=ξ _));clear F;have d:top%v1<v1:=Dz _ Z;have o:=kB (B:=4294967296) (P:=1) (v1:=v1) (v2:=v2) (vr:=0) (w2:=w2) (wr:=0) (top:=top) Z C Z;have s:∀a b:Nat,a*v1+b=top->b*4294967296+w2<a*v2->(top*4294967296+w2)/(v1*4294967296+v2)<a:=λa b v p=>by
  have:=ek (B:=4294967296) (P:=1) (v1:=v1) (v2:=v2) (vr:=0) (w2:=w2) (wr:=0) (top:=top) C Z v p;simpa using this
 simp only[DD,DE]at o;have G:(top*4294967296+w2)/(v1*4294967296+v2)<4294967296:=by
  exact Cn
 generalize hgg:(top*4294967296+w2)/(v1*4294967296+v2)=g at o G s;have m:∀q r:Nat,q*v1+r=top->g<=q->q*v2<=r*4294967296+w2->q=g:=λq r v p J=>by
  rw[<-hgg]at p⊢;exact Rz v Z p J
 apply(zN);refine ye (α:=Nat×Nat) (λz=>[(2,va),(8,vb),(11,vc),(14,vd),(9,ι (v1:Int)),(10,ι (v2:Int)),(13,ι (w2:Int)),(15,ι (z.1:Int)),(16,ι (z.2:Int))])
  (λz L N Z1=>h=L/\n1=N/\w=Z1/\z.1*v1+z.2=top/\g<=z.1/\z.2<4294967296) (λz=>z.1) (top/v1,top%v1) M ⟨rfl,rfl,rfl,Ap,o,by show _%_<_;omega⟩ rq ?_
 rintro⟨a,b⟩ Z0 _ _ _ ⟨rfl,rfl,rfl,f,u,H⟩;simp only at f u H;have R:a<18446744073709551616:=by
  have D:a*2147483648<=a*v1:=C4 _ I.1;omega
 have e:g<a->(a-1)*v1+(b+v1)=top:=λd=>by
  exact Cs
 have l:g<a->4294967296<=b+v1->a-1=g:=λd i=>by
  have D:=e d;have Z4:a-1<4294967296:=by
   apply CW;intro Z3;exact Cr
  exact Ci
 apply(zN);by_cases hB:4294967296<=a
 .repeat apply(zW)
  apply(zN);rw[ze rfl];apply(zN);repeat apply(zW)
  apply(zN);repeat apply(zW)
  apply(zN);by_cases i:4294967296<=b+v1
  .repeat apply(zW)
   apply(zN);rw[ze rfl];apply(zN);have j:=l Z i;exact By
  repeat apply(zW)
  exact Cq
 have S:a*v2<=4294967295*4294967295:=C6 Z Z;by_cases htest:4294967296*b+w2<a*v2
 .have d:=s a b f Z;repeat apply(zW)
  apply(zN);first
   |rw[ze rfl]
   |rw[ze AD]
  apply(zN);repeat apply(zW)
  apply(zN);repeat apply(zW)
  apply(zN);by_cases i:4294967296<=b+v1
  .repeat apply(zW)
   apply(zN);rw[ze rfl];apply(zN);have j:=l d i;exact By
  repeat apply(zW)
  exact Cp
 repeat apply(zW)
 apply(zN);first
  |rw[za rfl]
  |rw[za Au]
 apply(zN);have j:=m a b f u Z;exact By
theorem XZ{w2:Nat}(I:2147483648<=v1/\v1<4294967296)(T:v2<4294967296)(C:w2<4294967296)(A:top<v1*4294967296+v2)
  {c:Code}(F:KZ I8 [1,1,1,1,1,1,1,1,1,1,1,1,1,1,1,1,1,1,0]=ξ c){Q:Ex->SV->Prop}
  (M:tJ t [(2,va),(8,vb),(15,vc),(17,vd),(9,ι (v1:Int)),(10,ι (v2:Int)),(14,ι (w2:Int)),(18,ι ((top/v1:Nat):Int)),(16,ι ((top%v1:Nat):Int))])
  (y:∀(t':TF) (g:Nat),g=(top*4294967296+w2)/(v1*4294967296+v2)->tJ t' [(2,va),(8,vb),(15,vc),(17,vd),(9,ι (v1:Int)),(10,ι (v2:Int)),(14,ι (w2:Int)),(18,ι (g:Int))]->Q .normal ⟨t',h,n1,w⟩):EC (KC K n (I8).ntmps) c ⟨t,h,n1,w⟩ Q:=by
 obtain rfl:=Eb (F.symm.trans (rfl:KZ I8 [1,1,1,1,1,1,1,1,1,1,1,1,1,1,1,1,1,1,0]=ξ _));clear F;have d:top%v1<v1:=Dz _ Z;have o:=kB (B:=4294967296) (P:=1) (v1:=v1) (v2:=v2) (vr:=0) (w2:=w2) (wr:=0) (top:=top) Z C Z;have s:∀a b:Nat,a*v1+b=top->b*4294967296+w2<a*v2->(top*4294967296+w2)/(v1*4294967296+v2)<a:=λa b v p=>by
  have:=ek (B:=4294967296) (P:=1) (v1:=v1) (v2:=v2) (vr:=0) (w2:=w2) (wr:=0) (top:=top) C Z v p;simpa using this
 simp only[DD,DE]at o;have G:(top*4294967296+w2)/(v1*4294967296+v2)<4294967296:=by
  exact Cn
 generalize hgg:(top*4294967296+w2)/(v1*4294967296+v2)=g at o G s;have m:∀q r:Nat,q*v1+r=top->g<=q->q*v2<=r*4294967296+w2->q=g:=λq r v p J=>by
  rw[<-hgg]at p⊢;exact Rz v Z p J
 apply(zN);refine ye (α:=Nat×Nat) (λz=>[(2,va),(8,vb),(15,vc),(17,vd),(9,ι (v1:Int)),(10,ι (v2:Int)),(14,ι (w2:Int)),(18,ι (z.1:Int)),(16,ι (z.2:Int))])
  (λz L N Z1=>h=L/\n1=N/\w=Z1/\z.1*v1+z.2=top/\g<=z.1/\z.2<4294967296) (λz=>z.1) (top/v1,top%v1) M ⟨rfl,rfl,rfl,Ap,o,by show _%_<_;omega⟩ rq ?_
 rintro⟨a,b⟩ Z0 _ _ _ ⟨rfl,rfl,rfl,f,u,H⟩;simp only at f u H;have R:a<18446744073709551616:=by
  have D:a*2147483648<=a*v1:=C4 _ I.1;omega
 have e:g<a->(a-1)*v1+(b+v1)=top:=λd=>by
  exact Cs
 have l:g<a->4294967296<=b+v1->a-1=g:=λd i=>by
  have D:=e d;have Z4:a-1<4294967296:=by
   apply CW;intro Z3;exact Cr
  exact Ci
 apply(zN);by_cases hB:4294967296<=a
 .repeat apply(zW)
  apply(zN);rw[ze rfl];apply(zN);repeat apply(zW)
  apply(zN);repeat apply(zW)
  apply(zN);by_cases i:4294967296<=b+v1
  .repeat apply(zW)
   apply(zN);rw[ze rfl];apply(zN);have j:=l Z i;exact By
  repeat apply(zW)
  exact Cq
 have S:a*v2<=4294967295*4294967295:=C6 Z Z;by_cases htest:4294967296*b+w2<a*v2
 .have d:=s a b f Z;repeat apply(zW)
  apply(zN);first
   |rw[ze rfl]
   |rw[ze AD]
  apply(zN);repeat apply(zW)
  apply(zN);repeat apply(zW)
  apply(zN);by_cases i:4294967296<=b+v1
  .repeat apply(zW)
   apply(zN);rw[ze rfl];apply(zN);have j:=l d i;exact By
  repeat apply(zW)
  exact Cp
 repeat apply(zW)
 apply(zN);first
  |rw[za rfl]
  |rw[za Au]
 apply(zN);have j:=m a b f u Z;exact By
end
theorem X0{b d f H hv u i c g l c' a P B:Nat}(o:f+u*P=d+i*P)(p:d+H=b+(c+g)*P)(q:i+(l+g)=u+a*B)(s:B*c'+l=hv+c):f+(H+hv*P)=b+(c'+a)*(P*B):=by grind
def LY(b:Nat)(h h':HF):Prop:=∀x,x≠b->h' x=h x
def Sl.but{h h':HF}{n n' sz b bv o len cap:Nat}{c:List ψ}(s:Sl h n sz (Y (ξ ⟨bv,o,θ⟩) len cap) c)(hb:LY b h h')(d:bv≠b)(f:n<=n'):Sl h' n' sz (Y (ξ ⟨bv,o,θ⟩) len cap) c:=
 s.keep (λa l g e=>by injection e with e1;injection e1 with e1;subst e1;exact hb _ d) f
section
variable{h:HF}{t:TF}
set_option maxRecDepth 100000
def X1(Z0:Sl h n1 1 (Y (ξ ⟨bv,0,θ⟩) (O V) vc) (u32s V))(N:bv≠bu)(q:3*n<=bu/\bu<3*n1)(F:h bu=ξ (.row (u32s Z4) e))(S:Kh V)(R:Kh Z4)(hl:O Z4<10000000000/\j+O V<O Z4)(a0:hh<4294967296)
  {c:Code}(M:KZ Fp [1,1,1,1,1,1,1,1,1,1,0,1,0,0,1,0,0,1,1,1,1,1,0,1]=ξ c){Q:Ex->SV->Prop}
  (W:tJ t [(8,sv),(9,Y (ξ ⟨bv,0,θ⟩) (O V) vc),(10,Y (ξ ⟨bu,0,θ⟩) (O Z4) (O Z4)),(11,υ (O V:Int)),(13,qv),(14,υ (j:Int)),(16,ι (hh:Int)),(18,ι (((0:Nat):Nat):Int)),(19,ι (((0:Nat):Nat):Int)),(20,υ (((0:Nat):Nat):Int))])
  (Z3:∀(c f:Nat) (U2:List Nat) (t':TF) (h':HF),tJ t' [(8,sv),(9,Y (ξ ⟨bv,0,θ⟩) (O V) vc),(10,Y (ξ ⟨bu,0,θ⟩) (O Z4) (O Z4)),(11,υ (O V:Int)),(13,qv),(14,υ (j:Int)),(16,ι (hh:Int)),(18,ι (c:Int)),(19,ι (f:Int))]->LY bu h h'->h' bu=ξ (.row (u32s U2) e)->Kh U2->O U2=O Z4->c<4294967296->f<=1->U2.drop (O V+j)=Z4.drop (O V+j)->dv 4294967296 U2+hh*dv 4294967296 V*4294967296^j=dv 4294967296 Z4+(c+f)*4294967296^(O V+j)->Q .normal ⟨t',h',n1,w⟩):EC (KC K n (Fp).ntmps) c ⟨t,h,n1,w⟩ Q:=by
 obtain rfl:=Eb (M.symm.trans (rfl:KZ Fp [1,1,1,1,1,1,1,1,1,1,0,1,0,0,1,0,0,1,1,1,1,1,0,1]=ξ _));apply(zN);refine ye (α:=Nat×Nat×Nat×List Nat) (λz=>[(8,sv),(9,Y (ξ ⟨bv,0,θ⟩) (O V) vc),(10,Y (ξ ⟨bu,0,θ⟩) (O Z4) (O Z4)),(11,υ (O V:Int)),(13,qv),(14,υ (j:Int)),(16,ι (hh:Int)),(18,ι (z.2.1:Int)),(19,ι (z.2.2.1:Int)),(20,υ (z.1:Int))])
  (λz h' n' w'=>n1=n'/\w=w'/\LY bu h h'/\h' bu=ξ (.row (u32s z.2.2.2) e)/\z.1<=O V/\Kh z.2.2.2/\O z.2.2.2=O Z4/\z.2.1<4294967296/\z.2.2.1<=1/\z.2.2.2.drop (z.1+j)=Z4.drop (z.1+j)/\dv 4294967296 z.2.2.2+hh*dv 4294967296 (V.take z.1)*4294967296^j=dv 4294967296 Z4+(z.2.1+z.2.2.1)*4294967296^(z.1+j)) (λz=>O V-z.1)
  (0,0,0,Z4) W ⟨ω,ω,λx _=>rfl,F,Cz,R,ω,by show 0<4294967296;decide,by show 0<=1;decide,ω,AA⟩ (by show O V-0<LL;unfold LL;omega) ?_
 rintro⟨i,c,f,U2⟩ t2 H _ _ ⟨rfl,rfl,g,a,hi,l,o,D,C,p,d⟩;simp only at a hi l o D C p d;apply(zN);by_cases hiV:i=O V;subst hiV;apply(Zj);rw[C3]at d;exact Z3 c f U2 _ H P9 g a l o D C p d;obtain⟨v,y⟩:∃x,V[i]?=ξ x:=⟨V[i]'Z,CD Z⟩;have a2:v<4294967296:=S v (CE y);obtain⟨u,G⟩:∃x,U2[i+j]?=ξ x:=⟨U2[i+j]'Z,CD Z⟩;have a1:u<4294967296:=l u (CE G);have hp:hh*v<=4294967295*4294967295:=C6 Z Z;have I:Sl H n1 1 (Y (ξ ⟨bu,0,θ⟩) (O Z4) (O Z4)) (u32s U2):=Sl.own a q.2 o Cy;have J:=Z0.but g N Cy;apply(Zs);refine yE R7 J R2 y (λ_=>rfl) R4 λ_=>?_;refine se R7 Z<|xt R6 Z ?_;generalize hpp:hh*v=pv at hp;repeat apply(zU)
 apply(Zi);apply yn (s:=32) R6 Z;apply(Zl);refine yE R7 I ⟨ω,Z⟩ G (λ_=>rfl) R4 λ_=>?_;apply se R7 Z;apply(zM);apply mF (b:=4294967295) R6 Z;rw[show(pv+c)&&& 4294967295=(pv+c)%4294967296 from H0 _ 32];obtain⟨A,Z1⟩:∃A,A=(pv+c)%4294967296:=⟨_,ω⟩;rw[<-Z1];apply sd R6 Z;apply(zM);apply sd R6 Z;obtain⟨X,hX⟩:∃X,X=((u+18446744073709551616-A)%18446744073709551616+18446744073709551616-f)%18446744073709551616:=⟨_,ω⟩;rw[<-hX];have L:X%4294967296+(A+f)=u+X/2^32%2*4294967296:=Z;apply(Zl);apply ft R7;refine uH (j:=i+j) R8 Z s9 a q.1 (λ_=>rfl) R3 (λ_=>rfl) ω λ_=>?_;rw[lj];apply(Zi);refine yn (s:=32) R6 Z<|mF (b:=1) R6 Z ?_;rw[aa3];apply(Zn);refine goOn (i+1,(pv+c)/2^32,X/2^32%2,U2.set (i+j) (X%4294967296)) Z ⟨ω,ω,ω,ω,ω,ω,ω,ω,ω,gH,Cx⟩ ⟨ω,ω,λx P=>(zm P).trans (g x P),zg _ _ _,by show i+1<=O V;omega,M0 l (Dz _ Z),by show(U2.set _ _).length=_;rw[DH];exact o,by show _/_<_;omega,by show _%_<=1;omega,?_,?_⟩;show(U2.set (i+j) _).drop (i+1+j)=Z4.drop (i+1+j);rw[FA Z,show i+1+j=i+j+1 from Z];have:=congrArg (JL 1) p;rw[Ey,Ey]at this;exact this;show dv 4294967296 (U2.set (i+j) _)+hh*dv 4294967296 (V.take (i+1))*4294967296^j=dv 4294967296 Z4+((pv+c)/2^32+X/2^32%2)*4294967296^(i+1+j);have T:=Mj (B:=4294967296) (X%4294967296) G;have:=X0 (c':=(pv+c)/2^32) (B:=4294967296) (hv:=pv) T d L Z;rw[show i+1+j=i+j+1 from Z,C5 (n:=4294967296),<-this,wJ y,DS,Dq,<-hpp,DV];congr 2;rw[CY (4294967296^i) v,<-Di,Di]
theorem X2(R:Sl h n1 1 (Y (ξ ⟨bv,0,θ⟩) (O V) vc) (u32s V))(H:bv≠bu)(o:3*n<=bu/\bu<3*n1)(s:h bu=ξ (.row (u32s Z4) e))(L:Kh V)(J:Kh Z4)(hl:O Z4<10000000000/\j+O V<O Z4)
  {c:Code}(G:KZ Fp [1,1,1,1,1,1,1,1,1,1,0,1,0,0,1,0,0,1,1,1,1,1,1,1,1,0,1,0,1,1,0,1]=ξ c){Q:Ex->SV->Prop}
  (Z1:tJ t [(8,sv),(9,Y (ξ ⟨bv,0,θ⟩) (O V) vc),(10,Y (ξ ⟨bu,0,θ⟩) (O Z4) (O Z4)),(11,CC .i64 (O V:Int)),(13,qv),(14,CC .i64 (j:Int)),(16,CC .u64 (hh:Int)),(18,CC .u64 (((0:Nat):Nat):Int)),(24,CC .i64 (((0:Nat):Nat):Int))])
  (P:∀(c:Nat) (U2:List Nat) (t':TF) (h':HF),tJ t' [(8,sv),(9,Y (ξ ⟨bv,0,θ⟩) (O V) vc),(10,Y (ξ ⟨bu,0,θ⟩) (O Z4) (O Z4)),(11,CC .i64 (O V:Int)),(13,qv),(14,CC .i64 (j:Int)),(16,CC .u64 (hh:Int)),(18,CC .u64 (c:Int))]->LY bu h h'->h' bu=ξ (.row (u32s U2) e)->Kh U2->O U2=O Z4->c<=1->U2.drop (O V+j)=Z4.drop (O V+j)->dv 4294967296 U2+c*4294967296^(O V+j)=dv 4294967296 Z4+dv 4294967296 V*4294967296^j->Q .normal ⟨t',h',n1,w⟩):EC (KC K n (Fp).ntmps) c ⟨t,h,n1,w⟩ Q:=by
 obtain rfl:=Eb (G.symm.trans (rfl:KZ Fp [1,1,1,1,1,1,1,1,1,1,0,1,0,0,1,0,0,1,1,1,1,1,1,1,1,0,1,0,1,1,0,1]=ξ _));refine zN (k:=?_);refine ye (α:=Nat×Nat×List Nat) (λz=>[(8,sv),(9,Y (ξ ⟨bv,0,θ⟩) (O V) vc),(10,Y (ξ ⟨bu,0,θ⟩) (O Z4) (O Z4)),(11,CC .i64 (O V:Int)),(13,qv),(14,CC .i64 (j:Int)),(16,CC .u64 (hh:Int)),(18,CC .u64 (z.2.1:Int)),(24,CC .i64 (z.1:Int))])
  (λz h' T W=>n1=T/\w=W/\LY bu h h'/\h' bu=ξ (.row (u32s z.2.2) e)/\z.1<=O V/\Kh z.2.2/\O z.2.2=O Z4/\z.2.1<=1/\z.2.2.drop (z.1+j)=Z4.drop (z.1+j)/\dv 4294967296 z.2.2+z.2.1*4294967296^(z.1+j)=dv 4294967296 Z4+dv 4294967296 (V.take z.1)*4294967296^j) (λz=>O V-z.1)
  (0,0,Z4) Z1 ⟨ω,ω,λx _=>rfl,s,Cz,J,ω,by show 0<=1;decide,ω,AA⟩ (by show O V-0<LL;unfold LL;omega) ?_
 rintro⟨i,c,U2⟩ t2 C _ _ ⟨rfl,rfl,d,a,S,f,g,q,l,b⟩;simp only at a S f g q l b;refine zN (k:=?_);by_cases hiV:i=O V;subst hiV;refine Zj (k:=?_);rw[C3]at b;exact P c U2 _ C P8 d a f g q l b;obtain⟨v,A⟩:∃x,V[i]?=ξ x:=⟨V[i]'Z,CD Z⟩;have Z0:v<4294967296:=L v (CE A);obtain⟨u,y⟩:∃x,U2[i+j]?=ξ x:=⟨U2[i+j]'Z,CD Z⟩;have Z3:u<4294967296:=f u (CE y);have D:Sl C n1 1 (Y (ξ ⟨bu,0,θ⟩) (O Z4) (O Z4)) (u32s U2):=Sl.own a o.2 g Cy;have F:=R.but d H Cy;refine Zo (k:=?_);rw[wb rfl];repeat refine zR (k:=?_)
 refine yE R7 D ⟨ω,Z⟩ y (λ_=>rfl) R4 λ_=>?_;refine se R7 Z ?_;repeat refine zR (k:=?_)
 refine yE R7 F R2 A (λ_=>rfl) R4 λ_=>?_;repeat refine zU (k:=?_)
 refine Zg (k:=?_);refine ft R7 ?_;refine uH (j:=i+j) R8 Z s9 a o.1 (λ_=>rfl) R3 (λ_=>rfl) ω λ_=>?_;rw[lj];refine zN (k:=?_);repeat refine zU (k:=?_)
 refine Za (k:=?_);refine goOn (i+1,(c+(u+v))/4294967296,U2.set (i+j) ((c+(u+v))%4294967296)) Z ⟨ω,ω,ω,ω,ω,ω,ω,ω,gH,Cx⟩ ⟨ω,ω,λx I=>(zm I).trans (d x I),zg _ _ _,by show i+1<=O V;omega,M0 f (Dz _ Z),by show(U2.set _ _).length=_;rw[DH];exact g,by show _/_<=1;omega,?_,?_⟩;show(U2.set (i+j) _).drop (i+1+j)=Z4.drop (i+1+j);rw[FA Z,show i+1+j=i+j+1 from Z];have:=congrArg (JL 1) l;rw[Ey,Ey]at this;exact this;show dv 4294967296 (U2.set (i+j) _)+(c+(u+v))/4294967296*4294967296^(i+1+j)=dv 4294967296 Z4+dv 4294967296 (V.take (i+1))*4294967296^j;have M:=Rs (B:=4294967296) (c:=c) (p:=v) (c':=(c+(u+v))/4294967296) (Mj (B:=4294967296) ((c+(u+v))%4294967296) y) Z;rw[show i+1+j=i+j+1 from Z,C5,M,b,wJ A,Dq,DV];have N:4294967296^i*v*4294967296^j=v*(4294967296^i*4294967296^j):=by grind
 rw[N];omega
end
theorem RA{a x:ψ}(b:uG E ty a x h n=ξ (.val v h' n' W)):n'=n:=by unfold uG at*;grind
theorem jz{a x:ψ}{r:RF}(b:uG E ty a x h n=ξ r):∃v h' n' W,r=.val v h' n' W:=by unfold uG at*;grind
def ie:∀{l:List (Nat×Nat)},xJ m l=φ->ya m W l=φ:=by
 intro l;induction l with
 |nil=>intro _;rfl
 |cons x l ih=>
  intro h;have⟨i,b⟩:=x;unfold xJ at h;split at h;rename_i hb;unfold ya;rw[hb,Bool.true_or];exact ih h;cases h
def qJ(m:Nat):Nat->Bool
 |0=>φ
 |i+1=>m.testBit i&&qJ m i
theorem dH:∀{i j:Nat},qJ m i=φ->j<i->m.testBit j=φ:=by
 intro i;induction i with
 |zero=>intro j _ a;omega
 |succ i ih=>
  intro j h a;simp only[qJ,DI]at h;grind
theorem X6:∀{l:List (Nat×Nat)},(∀x∈l,m.testBit x.1=φ)->xJ m l=φ:=by
 intro l;induction l with
 |nil=>intro _;rfl
 |cons x l ih=>
  grind [xJ]
theorem Ya{X:CtxF}{a:Operand}{j:Nat}(I:o.op=.store ty a x):∀(l:List Oper) (ms:List Nat) (i:Nat) (s:SV) (e:List (Nat×Nat)),O l=O ms->l.all (λo=>MD X.E o.op)=φ->qJ j (i+O l)=φ->(∀y∈e,y.1<i)->mL X ops (l++[o]) (ms++[j]) i ⟨s,[],e,[]⟩=seqF X ops (l++[o]) s:=by
 intro l;induction l with
 |nil=>
  intro ms i s e B _ G u;have:ms=[]:=CT.1 (by simpa using B.symm);subst this;show mL X ops [o] [j] i ⟨s,[],e,[]⟩=seqF X ops [o] s;unfold mL seqF;simp only;cases hw:zh ops s.t o with
  |false=>simp only[mL,seqF]
  |true=>
   simp only;have g:Kd o.op=3:=by rw[I];rfl
   unfold rL KO;simp only[g,xq,xJ,DT];unfold mf;have K:effF X.E o.op (J2 s.t) s.h s.n=uG X.E ty (J2 s.t a) (J2 s.t x) s.h s.n:=by rw[I];rfl
   rw[K];cases he:uG X.E ty (J2 s.t a) (J2 s.t x) s.h s.n with
   |none=>rfl
   |some r=>
    obtain⟨v,h',n',W,rfl⟩:=jz he;have L:=RA he;subst L;simp only;have J:ya j W e=φ:=ie (X6 λy F=>dH (by simpa using G) (u y F));unfold xH;split;simp only[J,CP Cy,DT,mL,seqF];rfl
 |cons p l ih=>
  intro ms i s e B A G u;cases ms with
  |nil=>simp at B
  |cons m ms=>
   simp only[JW,DI]at A;have q:O l=O ms:=by simpa using B
   have w:qJ j (i+1+O l)=φ:=by grind
   have f:∀y∈e,y.1<i+1:=λy F=>by have:=u y F;omega
   show mL X ops (p::(l++[o])) (m::(ms++[j])) i ⟨s,[],e,[]⟩=seqF X ops (p::(l++[o])) s;unfold mL seqF;simp only;cases hw:zh ops s.t p with
   |false=>
    simp only;congr 1;funext s1;exact ih ms (i+1) s1 e q A.2 w f
   |true=>
    simp only;unfold rL KO;obtain M|⟨t,d,x,k,C,D⟩:=Ps A.1;cases g:Kd p.op with
    |zero=>
     simp only[g];cases yy X.E p.op (J2 s.t)with
     |none=>rfl
     |some v=>
      simp only;congr 1;funext s1;exact ih ms (i+1) s1 e q A.2 w f
    |succ c=>
     cases c with
     |zero=>
      simp only[g,wn];cases po X.E p.op (J2 s.t) s.h with
      |none=>rfl
      |some vb=>
       have⟨v,b⟩:=vb;simp only[Lo,qn,DT];congr 1;grind
     |succ c=>omega
    have g:Kd p.op=4:=by rw[C];rfl
    have H:Kl X.E p.op (J2 s.t)=θ:=by rw[C];exact sQ D _
    simp only[g,H];cases hpu:yy X.E p.op (J2 s.t)with
    |none=>
     rw[C];simp only[vJ D]
    |some v=>
     rw[C];simp only[vJ D];congr 1;funext s1;exact ih ms (i+1) s1 e q A.2 w f
def RB(ops:List Oper)(E:Env):Bool:=(match ops.reverse with|o::r=>(match o.op with| .store _ _ _=>r.all (λo=>MD E o.op)&&qJ ((xA ops []).getLastD 0) (O r)|_=>χ)|[]=>χ)
theorem RC{X:CtxF}{ops:Array Oper}{s:SV}{Q:Ex->SV->Prop}(b:RB ops.toList X.E=φ):EC X (.region id ops φ) s Q↔EO X ops.toList ops.toList s (Q .normal):=by
 unfold EC EO;rw[xk];have j:mL X ops.toList ops.toList (xA ops.toList []) 0 ⟨s,[],[],[]⟩=seqF X ops.toList ops.toList s:=by
  unfold RB at b;split at b;rename_i o r hr;split at b;rename_i ty a x ho;simp only[DI]at b;have g:ops.toList=r.reverse++[o]:=(by simp_all);have c:O (xA ops.toList [])=O r+1:=by rw[oL,g];simp
  obtain⟨f,d,i⟩:∃f d,xA ops.toList []=f++[d]:=⟨(xA ops.toList []).dropLast,(xA ops.toList []).getLast (by intro e;rw[e]at c;simp at c),(GW _).symm⟩;grind [Ya];cases b;cases b
 grind
def Sl.pre{h:HF}{m b len cap:Nat}{e:TypeId}{Z1 T:List Nat}(a:h b=ξ (.row (u32s (Z1++T)) e))(hb:b<3*m)(d:O Z1=len)(c:len<=cap):Sl h m 1 (Y (ξ ⟨b,0,θ⟩) len cap) (u32s Z1):=
 .at_ hb a ω c (by rw[vZ,CJ];omega) (by rw[Dy,Rb,EU s9,CL s9])
theorem Oh{s:Nat}(a:s<=32):2^s*2^(32-s)=4294967296:=by rw[<-DV,show s+(32-s)=32 from Z]
theorem Yb{x y s:Nat}(a:s<=32):(x/2^s+y*2^(32-s)%4294967296)*2^s+x%2^s=x+y%2^s*4294967296:=by grind [Oh,GZ,Dq,Di,CY,DN]
def RE{x s:Nat}(hx:x<4294967296)(a:s<=32):x/2^s<2^(32-s):=by rw[Ee (Ds Z),CY,Oh a];exact hx
def RG(D:List Nat)(x d:Nat)(R:List Nat):(D++x::R).set (O D) d=D++d::R:=by rw[D1 _ _ Cy];simp
def RH{α:Type}{X:CtxF}{a:Code}{s:SV}{Q:Ex->SV->Prop}(b:α->List (Nat×ψ))(I:α->HF->Nat->List Nat->Prop)(j:EC X a s (cutx b I Q))(hb:∀z t h n w,I z h n w->Q .normal ⟨gk t (b z),h,n,w⟩):EC X a s Q:=by
 refine sW j λe c d=>?_;cases e with
 |normal=>
  have⟨z,f,g⟩:=d;have:=hb z c.t c.h c.n c.w g;rw[wU f]at this;exact this
 |exit i=>exact d
 |ret=>exact d
section
variable{h:HF}{t:TF}{R:List Nat}
set_option maxRecDepth 100000
theorem Yc(l:3*n<=bu/\bu<3*n1)(F:h bu=ξ (.row (u32s (R++T)) e))(C:Kh R)(N:O R<10000000000/\O R<=rc)(hs:s<32)
  {c:Code}(L:KZ Fp [1,1,1,1,1,1,1,1,1,1,1,1,0,1]=ξ c){Q:Ex->SV->Prop}
  (hL:tJ t [(8,CC .u64 (s:Int)),(13,qv),(25,Y (ξ ⟨bu,0,θ⟩) (O R) rc),(26,CC .i64 (((0:Nat):Nat):Int))])
  (hQ:∀(D:List Nat) (t':TF) (h':HF),tJ t' [(8,CC .u64 (s:Int)),(13,qv),(25,Y (ξ ⟨bu,0,θ⟩) (O R) rc)]->LY bu h h'->h' bu=ξ (.row (u32s (D++T)) e)->Kh D->O D=O R->dv 4294967296 D*2^s+(R[0]?).getD 0%2^s=dv 4294967296 R->Q .normal ⟨t',h',n1,w⟩):EC (KC K n (Fp).ntmps) c ⟨t,h,n1,w⟩ Q:=by
 obtain rfl:=Eb (L.symm.trans (rfl:KZ Fp [1,1,1,1,1,1,1,1,1,1,1,1,0,1]=ξ _));have a0:0<2^s:=Ds Z;refine zN (k:=?_);refine ye (α:=List Nat) (λD=>[(8,CC .u64 (s:Int)),(13,qv),(25,Y (ξ ⟨bu,0,θ⟩) (O R) rc),(26,CC .i64 (O D:Int))])
  (λD h' G H=>n1=G/\w=H/\LY bu h h'/\h' bu=ξ (.row (u32s (D++(R.drop (O D)++T))) e)/\O D<=O R/\Kh D/\dv 4294967296 D*2^s+(R[0]?).getD 0%2^s=dv 4294967296 (R.take (O D))+(R[O D]?).getD 0%2^s*4294967296^O D) (λD=>O R-O D)
  [] hL ⟨ω,ω,λx _=>rfl,F,Cz,λd hd=>Cu hd CO,AA⟩ (by show O R-0<LL;unfold LL;omega) ?_
 rintro D t2 q _ _⟨rfl,rfl,o,f,hD,I,m⟩;refine zN (k:=?_);by_cases hi:O D=O R;refine Zj (k:=?_);rw[hi,EQ,Dt]at f;rw[hi,C3,Dc Cy]at m;refine hQ D _ q P3 o f I hi ?_;rw[m];simp;obtain⟨x,v⟩:∃x,R[O D]?=ξ x:=⟨R[O D]'Z,CD Z⟩;have B:x<4294967296:=C x (CE v);have a1:x/2^s<=x:=Ei _ _;rw[uR v,F6]at f;have J:Sl q n1 1 (Y (ξ ⟨bu,0,θ⟩) (O R) rc) (u32s (D++x::R.drop (O D+1))):=Sl.pre (by rw[Dh,F6];exact f) l.2 eP N.2;refine Zs (k:=?_);refine yE (dv:=x) R7 J R2 eC (λ_=>rfl) R4 λ_=>?_;refine zM (k:=?_);refine Q7 R6 Z ?_;refine uH R8 ω AX f l.1 (λ_=>rfl) R3 (λ_=>rfl) ω λ_=>?_;rw[lj,RG];refine Za (k:=?_);have P:(R[O D+1]?).getD 0<4294967296:=by
  cases hc':R[O D+1]? with
  |none=>decide
  |some x=>exact C x (CE hc')
 refine RH (α:=HF) (λ_=>[(8,CC .u64 (s:Int)),(13,qv),(25,Y (ξ ⟨bu,0,θ⟩) (O R) rc),(26,CC .i64 (O D:Int))])
  (λg h' G H=>g=h'/\n1=G/\w=H/\LY bu h g/\g bu=ξ (.row (u32s (D++(x/2^s+(R[O D+1]?).getD 0*2^(32-s)%4294967296)::(R.drop (O D+1)++T))) e)) ?_ ?_
 by_cases hj:O D+1<O R;obtain⟨y,Z1⟩:∃y,R[O D+1]?=ξ y:=⟨R[O D+1]'Z,CD Z⟩;have a2:y<4294967296:=C y (CE Z1);have S:y*2^(32-s)<18446744073709551616:=(by have Z0:2^(32-s)<=2^32:=CQ Z Z;have:y*2^(32-s)<=4294967295*4294967296:=C6 Z Z0;omega);rw[ze eU];rw[RC rfl];have i:upd q bu (ξ (.row (u32s (D++x/2^s::(R.drop (O D+1)++T))) e)) bu=ξ (.row (u32s (D++x/2^s::(R.drop (O D+1)++T))) e):=zg _ _ _;have A:Sl (upd q bu (ξ (.row (u32s (D++x/2^s::(R.drop (O D+1)++T))) e))) n1 1 (Y (ξ ⟨bu,0,θ⟩) (O R) rc) (u32s (D++x/2^s::R.drop (O D+1))):=Sl.pre (by rw[Dh,F6];exact i) l.2 eP N.2;repeat refine zR (k:=?_)
 refine yE (dv:=x/2^s) R7 A R2 eC (λ_=>rfl) R4 λ_=>?_;repeat refine zR (k:=?_)
 refine yE (j:=O D+1) (dv:=y) R7 A ⟨ω,Z⟩ aD (λ_=>rfl) R4 λ_=>?_;refine se R7 Z<|zM (k:=?_);refine ym (a:=32) R6 Z<|xK R6 Z ?_;rw[C1 S];refine ft R7<|Q6 R6 Z ?_;rw[Pu Z (RE B Z)];refine uH R8 ω AX i l.1 (λ_=>rfl) R3 (λ_=>rfl) ω λ_=>?_;rw[lj,RG,uk];refine zN (k:=?_);exact zA _ P4 ⟨ω,ω,ω,λb p=>(zm p).trans (o b p),by rw[Z1];exact zg _ _ _⟩;rw[za eS];refine zN (k:=?_);exact zA _ P4 ⟨ω,ω,ω,λb p=>(zm p).trans (o b p),by rw[Dc Z];simp only[I7,DU,Nat.zero_mod,DE];exact zg _ _ _⟩;rintro g t3 _ _ _⟨rfl,rfl,rfl,u,i⟩;generalize hyy:(R[O D+1]?).getD 0=y at P i;have M:x/2^s+y*2^(32-s)%4294967296<4294967296:=Ru Z (RE B Z);refine Za (k:=?_);refine goOn (D++[x/2^s+y*2^(32-s)%4294967296]) eP ⟨ω,ω,ω,nN,Cx⟩ ⟨ω,ω,u,?_,eP,MZ I M,?_⟩;show g bu=ξ (.row (u32s (D++[_]++(R.drop (O (D++[_]))++T))) e);rw[CJ,C0,Dh];exact i;rw[CJ,C0,qz,wJ v,hyy];rw[v]at m;simp only[I6]at m;have Z4:=Yb (x:=x) (y:=y) (s:=s) Z;generalize x/2^s+y*2^(32-s)%4294967296=d at*;generalize (R[0]?).getD 0%2^s=r0 at*;have V:(d*2^s+x%2^s)*4294967296^O D=(x+y%2^s*4294967296)*4294967296^O D:=by rw[Z4]
 rw[Dq,Dq x]at V;rw[Dq,C5];have W:4294967296^O D*d*2^s=d*2^s*4294967296^O D:=by grind
 have Z3:y%2^s*(4294967296^O D*4294967296)=y%2^s*4294967296*4294967296^O D:=by grind
 rw[W,Z3,CY (4294967296^O D) x];omega
end
end Go.Proofs.YtdeaddceicfanaaGreatDoor
namespace Go.Proofs.YtdeaddceicfanaaGreatDoor
variable{B L P Z4 V a b c c2 i j m top:Nat}{C:List Nat}
theorem M3(h:a*P<b*P):a<b:=by
 apply CW;intro d;have:b*P<=a*P:=CM P Z;omega
theorem Yd{T hh W:Nat}(o:Z4=L+W*P)(l:L<P)(e:0<V)(h:T+hh*V*P=Z4)(p:W/V<=hh):hh=W/V:=by
 have d:hh*V*P<(W+1)*P:=by grind
 have f:=M3 d;have g:hh<=W/V:=by rw[Fo e];omega
 omega
def RI{T hh W d:Nat}(p:Z4=L+W*P)(f:0<V)(h:T+hh*V*P=Z4+d)(o:T<d)(q:hh<=W/V+1):hh=W/V+1:=by
 have e:W*P<hh*V*P:=Z;have g:=M3 e;have l:¬hh<=W/V:=by rw[Fo f];omega
 omega
def Ye{x y:Nat}(f:a<P)(hb:b<P)(h:a+x*P=b+y*P):a=b/\x=y:=by
 have d:(a+x*P)%P=(b+y*P)%P:=by rw[h]
 rw[Ga,Ga,C1 f,C1 hb]at d;subst d;have e:x*P=y*P:=Z;exact⟨ω,G9 Z e⟩
def Py{l:List Nat}{x:Nat}(hx:l[i]?=ξ x)(d:dv B (l.drop (i+1))=0):dv B l=dv B (l.take i)+x*B^i:=by
 have f:=(CK.1 hx).1;have e:dv B l=dv B (l.take (i+1))+B^O (l.take (i+1))*dv B (l.drop (i+1)):=by rw[<-vm,DP]
 rw[e,d,Eo,DE,wJ hx,CY]
theorem NC(B:Nat)(l:List Nat)(j:Nat)(h:j<=O l):dv B l=dv B (l.take j)+dv B (l.drop j)*B^j:=by grind [dv,vm,DP,DA,DR,CY]
def tZ{l:List Nat}(h:Kh l)(hi:i<=O l):dv 4294967296 (l.take i)<4294967296^i:=by have:=LX (l:=l.take i) λd e=>h d (Dp e);rw[DA,DR hi]at this;exact this
def Yf{Z4 f:List Nat}{hh e d:Nat}(l:j<=O Z4)(o:Kh Z4)(q:0<V)(A:dv 4294967296 f+hh*V*4294967296^j=dv 4294967296 Z4+(c+d)*4294967296^i)(u:f[i]?=ξ e)(v:c+d<=e)(s:dv 4294967296 (Z4.drop j)/V<=hh):
  hh=dv 4294967296 (Z4.drop j)/V/\dv 4294967296 (f.set i (e-c-d))+dv 4294967296 (Z4.drop j)/V*V*4294967296^j=dv 4294967296 Z4:=by
 have w:=Mj (B:=4294967296) (e-c-d) u;have g:dv 4294967296 (f.set i (e-c-d))+hh*V*4294967296^j=dv 4294967296 Z4:=by
  have y:e*4294967296^i=(e-c-d)*4294967296^i+(c+d)*4294967296^i:=by rw[<-Dq];congr 1;omega
  omega
 have p:=Yd (NC 4294967296 Z4 j l) (tZ o l) q g s;rw[<-p];exact⟨ω,g⟩
theorem Yg{Z4 d e:List Nat}{hh x:Nat}(o:j<=O Z4)(A:Kh Z4)(p:0<V)(Z1:V*4294967296^j<=4294967296^i)(l:Kh d)(y:Kh e)(f:d[i]?=ξ x)(v:dv 4294967296 (d.drop (i+1))=0)(g:e[i]?=ξ x)(w:dv 4294967296 (e.drop (i+1))=0)
  (h3:dv 4294967296 d+hh*V*4294967296^j=dv 4294967296 Z4+4294967296*4294967296^i)(h4:dv 4294967296 e+c2*4294967296^i=dv 4294967296 d+V*4294967296^j)(K:hh<=dv 4294967296 (Z4.drop j)/V+1):
  hh=dv 4294967296 (Z4.drop j)/V+1/\(x+c2)%4294967296=0/\dv 4294967296 (e.set i 0)+dv 4294967296 (Z4.drop j)/V*V*4294967296^j=dv 4294967296 Z4:=by
 have R:=(CK.1 f).1;have S:=(CK.1 g).1;have Z3:x<4294967296:=l x (CE f);have Z0:=Py f v;have e4:=Py g w;have t3:=tZ l (show i<=O d from Z);have N:=tZ y (show i<=O e from Z);have I:dv 4294967296 d<4294967296*4294967296^i:=(by have:(x+1)*4294967296^i<=4294967296*4294967296^i:=CM _ Z;rw[Dq,EM]at this;omega);have J:=NC 4294967296 Z4 j o;have tl:=tZ A o;have s:=RI J p h3 I K;generalize dv 4294967296 (Z4.drop j)=W at*;obtain⟨r,M⟩:∃r,W=W/V*V+r/\r<V:=⟨W%V,by rw[CY];exact(DN W V).symm,Dz _ p⟩;generalize W/V=q at*;have⟨u,T⟩:=M;subst s;have f1:(q+1)*V*4294967296^j=q*V*4294967296^j+V*4294967296^j:=by grind
 have f2:W*4294967296^j=q*V*4294967296^j+r*4294967296^j:=by rw[u,Dq]
 have F:dv 4294967296 (Z4.take j)+r*4294967296^j<4294967296^i:=Z;have G:dv 4294967296 (e.take i)+(x+c2)*4294967296^i=(dv 4294967296 (Z4.take j)+r*4294967296^j)+4294967296*4294967296^i:=(by rw[Dq x];omega);have⟨g1,H⟩:=Ye N F G;refine⟨ω,by rw[H],?_⟩;have D:=Mj (B:=4294967296) 0 g;rw[DU,DE]at D;omega
def Yh{L:List Nat}{s:Nat}(S:O C=m+2)(G:Kh C)(u:C[m+1]?=ξ top)(h1:2147483648<=top*2^s)(h2:top*2^s<4294967296)(hs:s<32)(Z0:O L=O C+1)(p:Kh L)(hv:dv 4294967296 L=dv 4294967296 C*2^s):
  ∃d l,yf L=L.take (m+2)/\(L.take (m+2))[m+1]?=ξ d/\(L.take (m+2))[m]?=ξ l/\2147483648<=d/\d<4294967296/\l<4294967296/\dv 4294967296 (L.take (m+2))=dv 4294967296 C*2^s:=by
 have Z1:0<2^s:=Ds Z;have q:=wJ (B:=4294967296) u;rw[CL Z]at q;have N:=tZ G (show m+1<=O C from Z);have A:(top+1)*2^s<=4294967296:=(by have e:=Oh (s:=s) Z;have:top<2^(32-s):=(by apply M3;rw[CY (2^(32-s)),e];exact h2);have g:(top+1)*2^s<=2^(32-s)*2^s:=CM _ Z;rw[CY (2^(32-s)),e]at g;exact g);have D:dv 4294967296 L<4294967296^(m+2):=by
  rw[hv];have g:dv 4294967296 C<(top+1)*4294967296^(m+1):=(by rw[q,Dq,EM,CY (4294967296^(m+1))];omega);have v:dv 4294967296 C*2^s<(top+1)*4294967296^(m+1)*2^s:=Er g Z1;have J:(top+1)*4294967296^(m+1)*2^s=(top+1)*2^s*4294967296^(m+1):=GO _ _ _;have K:(top+1)*2^s*4294967296^(m+1)<=4294967296*4294967296^(m+1):=CM _ A;have Z3:4294967296*4294967296^(m+1)=4294967296^(m+2):=by rw[C5 (n:=4294967296) (m:=m+1),CY]
  omega
 have⟨R,y⟩:=Px Z D;have W:O L=m+3:=Z;obtain⟨x,hx⟩:∃x,L[m+2]?=ξ x:=⟨L[m+2]'Z,CD Z⟩;have F:x=0:=XW Z R 0 x (by rw[DX];exact hx);subst F;have I:L=L.take (m+2)++[0]:=(by have:=ri hx;rw[CL Z]at this;exact this);obtain⟨d,f⟩:∃x,L[m+1]?=ξ x:=⟨L[m+1]'Z,CD Z⟩;obtain⟨l,o⟩:∃x,L[m]?=ξ x:=⟨L[m]'Z,CD Z⟩;have M:=wJ (B:=4294967296) f;have T:=tZ p (show m+1<=O L from Z);have w:2147483648<=d:=by
  have g:2147483648*4294967296^(m+1)<=dv 4294967296 (L.take (m+2)):=by
   rw[y,hv,q,Dq];have J:4294967296^(m+1)*top*2^s=top*2^s*4294967296^(m+1):=by rw[Di,CY]
   have K:2147483648*4294967296^(m+1)<=top*2^s*4294967296^(m+1):=CM _ h1;omega
  have v:dv 4294967296 (L.take (m+2))<(d+1)*4294967296^(m+1):=(by rw[M,Dq,EM,CY (4294967296^(m+1))];omega);have:=M3 (C7 g v);omega
 refine⟨d,l,?_,by rw[Es Z];exact f,by rw[Es Z];exact o,w,p d (CE f),p l (CE o),by rw[y,hv]⟩;have H:yf L=yf (L.take (m+2)):=by
  conv=>lhs;rw[I]
  exact wi _
 rw[H,ri f,xy _ Z]
end Go.Proofs.YtdeaddceicfanaaGreatDoor
namespace Go.Proofs.YtdeaddceicfanaaGreatDoor
open Go Go.GL
variable{n m c1 c2 bytes size l1 l2 bt sz n1 bv bu bq vc b c K M k:Nat}{w A C U0 V:List Nat}{a1 a2:Option Addr}{e e2 ty eq:TypeId}{new cs:List ψ}{ops r:List Oper}{d1 d2 z2 sv z v:ψ}{fn:Func}{E:Env}{o:Oper}{d:Tmp}
variable{h:HF}{sT:TypeId}
def Yi(j q:Nat)(a:List Nat):(CI (j+1) 0++a).set j q=CI j 0++q::a:=by have e:CI (j+1) 0++a=CI j 0++(0::a):=(by rw[List.replicate_succ',Dh];rfl);rw[e,D1 _ _ eC];simp
section
variable{h:HF}{t:TF}
set_option maxRecDepth 100000
def Yj(hV:Sl h n1 1 (Y (ξ ⟨bv,0,θ⟩) (O V) vc) (u32s V))(D:bv≠bu/\bv≠bq/\bu≠bq)(i:(3*n<=bu/\bu<3*n1)/\(3*n<=bq/\bq<3*n1))(bs:h bu=ξ (.row (u32s U0) e))(bp:h bq=ξ (.row (u32s (CI (M+1) 0)) eq))(dV:Kh V)(bf:Kh U0)(ad:O V=m+2)(c1:O U0=M+O V+1)(bz:O U0<10000000000){v1 v2:Nat}(a5:V[m+1]?=ξ v1)(b4:V[m]?=ξ v2)(b1:2147483648<=v1/\v1<4294967296)(b2:v2<4294967296)(ah:dv 4294967296 (U0.drop (M+1))<dv 4294967296 V)
  {c:Code}(hc:KZ Fp [1,1,1,1,1,1,1,1,1,1,0,1]=ξ c){Q:Ex->SV->Prop}
  (hL:tJ t [(8,sv),(9,Y (ξ ⟨bv,0,θ⟩) (O V) vc),(10,Y (ξ ⟨bu,0,θ⟩) (O U0) (O U0)),(11,CC .i64 (O V:Int)),(13,Y (ξ ⟨bq,0,θ⟩) (M+1) (M+1)),(14,CC .i64 (((M+1:Nat):Int)-1))])
  (hQ:∀(Z4 A:List Nat) (t':TF) (h':HF),tJ t' [(8,sv),(10,Y (ξ ⟨bu,0,θ⟩) (O U0) (O U0)),(11,CC .i64 (O V:Int)),(13,Y (ξ ⟨bq,0,θ⟩) (M+1) (M+1))]->(∀b,b≠bu->b≠bq->h' b=h b)->h' bu=ξ (.row (u32s Z4) e)->h' bq=ξ (.row (u32s A) eq)->Kh Z4->Kh A->O Z4=O U0->O A=M+1->dv 4294967296 Z4+dv 4294967296 V*dv 4294967296 A=dv 4294967296 U0->dv 4294967296 Z4<dv 4294967296 V->Q .normal ⟨t',h',n1,w⟩):EC (KC K n (Fp).ntmps) c ⟨t,h,n1,w⟩ Q:=by
 obtain rfl:=Eb (hc.symm.trans (rfl:KZ Fp [1,1,1,1,1,1,1,1,1,1,0,1]=ξ _));have eV:=Pw (B:=4294967296) ad a5 b4;have tV:=tZ dV (show m<=O V from Z);have b9:=LX (B:=4294967296) dV;have u:0<dv 4294967296 V:=Z;rw[Q0];refine ye (α:=Nat×List Nat×List Nat) (λz=>[(8,sv),(9,Y (ξ ⟨bv,0,θ⟩) (O V) vc),(10,Y (ξ ⟨bu,0,θ⟩) (O U0) (O U0)),(11,CC .i64 (O V:Int)),(13,Y (ξ ⟨bq,0,θ⟩) (M+1) (M+1)),(14,CC .i64 ((z.1:Int)-1))])
  (λz h' n' w'=>n1=n'/\w=w'/\(∀b,b≠bu->b≠bq->h' b=h b)/\h' bu=ξ (.row (u32s z.2.1) e)/\h' bq=ξ (.row (u32s (CI z.1 0++z.2.2)) eq)/\Kh z.2.1/\Kh z.2.2/\O z.2.1=O U0/\z.1+O z.2.2=M+1/\dv 4294967296 z.2.1+dv 4294967296 V*dv 4294967296 z.2.2*4294967296^z.1=dv 4294967296 U0/\dv 4294967296 (z.2.1.drop z.1)<dv 4294967296 V) (λz=>z.1)
  (M+1,U0,[]) hL ⟨ω,ω,λb _ _=>rfl,bs,by rw[Dm];exact bp,bf,λd D=>Cu D CO,ω,ω,AA,ah⟩ (by show M+1<LL;unfold LL;omega) ?_
 rintro⟨jj,Z4,A⟩ t2 h2 _ _ ⟨rfl,rfl,Z3,J,Z0,F,dQ,o,bh,L,az⟩;simp only at J Z0 F dQ o bh L az;refine zN (k:=?_);cases jj with
 |zero=>
  refine Zj (k:=?_);refine hQ Z4 A _ h2 P4 Z3 J Z0 F dQ o Z ?_ az;rw[EA,DD]at L;exact L
 |succ j=>
  obtain⟨f,a9⟩:∃x,Z4[j+m+2]?=ξ x:=⟨Z4[j+m+2]'Z,CD Z⟩;obtain⟨G,ai⟩:∃x,Z4[j+m+1]?=ξ x:=⟨Z4[j+m+1]'Z,CD Z⟩;obtain⟨R,aj⟩:∃x,Z4[j+m]?=ξ x:=⟨Z4[j+m]'Z,CD Z⟩;have bd:f<4294967296:=F f (CE a9);have be:G<4294967296:=F G (CE ai);have aa:R<4294967296:=F R (CE aj);obtain⟨xj,b6⟩:∃x,Z4[j]?=ξ x:=⟨Z4[j]'Z,CD Z⟩;have c0:xj<4294967296:=F xj (CE b6);have hW:dv 4294967296 (Z4.drop j)<4294967296*dv 4294967296 V:=(by rw[uR b6];simp only[dv];omega);have bk:dv 4294967296 (Z4.drop j)<4294967296^(m+3):=by
   rw[ad]at b9;have:4294967296^(m+3)=4294967296*4294967296^(m+2):=by rw[C5 (n:=4294967296) (m:=m+2),CY]
   omega
  have⟨hz,bt⟩:=Px Z bk;rw[Ey]at hz;have e3:=Ry (B:=4294967296) (l:=(Z4.drop j).take (m+3)) (m:=m) (x:=f) (y:=G) (z:=R) ru (by rw[Es Z,DX];exact a9) (by rw[Es Z,DX];exact ai) (by rw[Es Z,DX];exact aj);have b7:dv 4294967296 (((Z4.drop j).take (m+3)).take m)<4294967296^m:=tZ (λd D=>F d (ET (Dp D))) ru;rw[bt]at e3;have Z1:Sl h2 n1 1 (Y (ξ ⟨bv,0,θ⟩) (O V) vc) (u32s V):=hV.keep (λa l cc ee=>by injection ee with e1;injection e1 with e1;subst e1;exact Z3 _ D.1 D.2.1) Cy;have N:Sl h2 n1 1 (Y (ξ ⟨bu,0,θ⟩) (O U0) (O U0)) (u32s Z4):=Sl.own J i.1.2 o Cy;rw[<-o]at N;refine Zo (k:=?_);rw[wb rfl];rw[<-o];repeat refine zR (k:=?_)
  refine yE (j:=j+m+2) R7 N ⟨ω,Z⟩ a9 (λ_=>rfl) R4 λ_=>?_;refine se R7 Z<|xK (a:=f) (s:=32) R6 Z ?_;repeat refine zR (k:=?_)
  refine yE (j:=j+m+1) R7 N ⟨ω,Z⟩ ai (λ_=>rfl) R4 λ_=>?_;refine se R7 Z<|wG (a:=f*2^32%18446744073709551616) (b:=G) R6 Z ?_;rw[Pp f G bd be];repeat refine zR (k:=?_)
  simp only[yY,ug,yu,xg,zK];repeat refine zR (k:=?_)
  refine yE (j:=m+1) R7 Z1 ⟨ω,Z⟩ a5 (λ_=>rfl) R4 λ_=>?_;refine se R7 Z<|xN (a:=f*4294967296+G) (b:=v1) R6 Z ?_;repeat refine zR (k:=?_)
  simp only[yY,ug,yu,xg,zK];repeat refine zR (k:=?_)
  refine yE (j:=m+1) R7 Z1 ⟨ω,Z⟩ a5 (λ_=>rfl) R4 λ_=>?_;refine se R7 Z<|vO (a:=f*4294967296+G) (b:=v1) R6 Z ?_;repeat refine zR (k:=?_)
  simp only[yY,ug,yu,xg,zK];have au:=kB (B:=4294967296) (P:=4294967296^m) (v1:=v1) (v2:=v2) (vr:=dv 4294967296 (V.take m)) (top:=f*4294967296+G) (w2:=R) (wr:=dv 4294967296 (((Z4.drop j).take (m+3)).take m)) Z aa b7;have bl:∀p rr:Nat,p*v1+rr=f*4294967296+G->rr*4294967296+R<p*v2->dv 4294967296 (Z4.drop j)/dv 4294967296 V<p:=λp rr h1 h2=>(by rw[e3,eV];exact ek aa b7 h1 h2);have bc:=Rx (B:=4294967296) (P:=4294967296^m) (v1:=v1) (v2:=v2) (vr:=dv 4294967296 (V.take m)) (top:=f*4294967296+G) (w2:=R) (wr:=dv 4294967296 (((Z4.drop j).take (m+3)).take m)) tV b2 (by rw[<-e3,<-eV];exact hW);rw[<-e3,<-eV]at au;have aq:dv 4294967296 (Z4.drop j)/dv 4294967296 V<4294967296:=(by rw[Ee u];exact hW);refine XX (sv:=sv) (qv:=Y (ξ ⟨bq,0,θ⟩) (M+1) (M+1)) (Z4:=Z4) (V:=V) (m:=m) (j:=j) (g:=dv 4294967296 (Z4.drop j)/dv 4294967296 V) (top:=f*4294967296+G) Z1 N ad Z a5 b4 aj b1 b2 aa bc au aq bl ω ⟨ω,ω,ω,ω,ω,dG,ω,ω,Cx⟩ ?_;rintro p rr t4 aw bb av bo bm;rw[<-wU aw];have b3:p<=dv 4294967296 (Z4.drop j)/dv 4294967296 V+1:=(by rw[e3,eV];exact Pv Z Z tV bb bo av);simp only[yY,ug,yu,xg,zK];repeat refine zR (k:=?_)
  simp only[yY,ug,yu,xg,zK];repeat refine zR (k:=?_)
  simp only[yY,ug,yu,xg,zK];rw[o]at N;refine X1 (sv:=sv) (qv:=Y (ξ ⟨bq,0,θ⟩) (M+1) (M+1)) (Z4:=Z4) (V:=V) (j:=j) (hh:=p) Z1 D.1 i.1 J dV F Z av ω Vh ?_;rintro c br C t5 h5 ax H a2 bg S c5 c3 ag a6;rw[<-wU ax];have hi:O V+j=j+m+2:=Z;rw[hi]at ag a6;have a0:C[j+m+2]?=ξ f:=by
   have:(C.drop (j+m+2))[0]?=(Z4.drop (j+m+2))[0]?:=by rw[ag]
   rw[DX,DX,DE]at this;rw[this];exact a9
  have bw:dv 4294967296 (C.drop (j+m+2+1))=0:=(by have:=congrArg (JL 1) ag;rw[Ey,Ey]at this;rw[this,show j+m+2+1=j+(m+3)from Z];exact hz);have bi:Sl h5 n1 1 (Y (ξ ⟨bu,0,θ⟩) (O Z4) (O Z4)) (u32s C):=Sl.own a2 i.1.2 S Cy;simp only[yY,ug,yu,xg,zK];repeat refine zR (k:=?_)
  refine yE (j:=j+m+2) R7 bi ⟨ω,Z⟩ a0 (λ_=>rfl) R4 λ_=>?_;refine se R7 Z<|zM (k:=?_);refine sd (a:=f) (b:=c) R6 Z<|zM (k:=?_);refine sd (a:=(f+18446744073709551616-c)%18446744073709551616) (b:=br) R6 Z ?_;obtain⟨X,hX⟩:∃X,X=((f+18446744073709551616-c)%18446744073709551616+18446744073709551616-br)%18446744073709551616:=⟨_,ω⟩;rw[<-hX];repeat refine zR (k:=?_)
  simp only[yY,ug,yu,xg,zK];repeat refine zR (k:=?_)
  refine ft R7 ?_;refine uH (j:=j+m+2) (v:=CC .u32 ((X%4294967296:Nat):Int)) R8 Z s9 a2 i.1.1 (λ_=>rfl) R3 (λ_=>rfl) ω λ_=>?_;rw[lj];simp only[yY,ug,yu,xg,zK];refine zM (k:=?_);refine yn (a:=X) (s:=63) R6 Z<|Mh R6 ?_;simp only[yY,ug,yu,xg,zK];have a1:Kh (C.set (j+m+2) (X%4294967296)):=M0 bg (Dz _ Z);refine yj (α:=Nat×List Nat×HF) (λz=>[(8,sv),(9,Y (ξ ⟨bv,0,θ⟩) (O V) vc),(10,Y (ξ ⟨bu,0,θ⟩) (O Z4) (O Z4)),(11,CC .i64 (O V:Int)),(13,Y (ξ ⟨bq,0,θ⟩) (M+1) (M+1)),(14,CC .i64 (j:Int)),(16,CC .u64 (z.1:Int))])
   (λz h' n' w'=>z.2.2=h'/\n1=n'/\w=w'/\LY bu h2 z.2.2/\z.2.2 bu=ξ (.row (u32s z.2.1) e)/\Kh z.2.1/\O z.2.1=O Z4/\z.1=dv 4294967296 (Z4.drop j)/dv 4294967296 V/\dv 4294967296 z.2.1+dv 4294967296 (Z4.drop j)/dv 4294967296 V*dv 4294967296 V*4294967296^j=dv 4294967296 Z4) ?_ ?_
  by_cases hcase:c+br<=f;have ae:X/2^63=0/\X%4294967296=f-c-br:=Z;rw[za (by show U _=_;rw[ae.1];rfl)];refine zN (k:=?_);have⟨r1,r2⟩:=Yf Z F u a6 a0 hcase bm;rw[ae.2];exact zA (p,_,_) P7 ⟨ω,ω,ω,λb T=>(zm T).trans (H b T),zg _ _ _,by rw[<-ae.2];exact a1,by show(C.set _ _).length=_;rw[DH];exact S,r1,r2⟩;have ar:X/2^63=1/\X%4294967296+(c+br)=f+4294967296:=Z;rw[ze (by show U _=_;rw[ar.1];rfl)];have h3:dv 4294967296 (C.set (j+m+2) (X%4294967296))+p*dv 4294967296 V*4294967296^j=dv 4294967296 Z4+4294967296*4294967296^(j+m+2):=by
   have q1:=Mj (B:=4294967296) (X%4294967296) a0;have q2:(X%4294967296+(c+br))*4294967296^(j+m+2)=(f+4294967296)*4294967296^(j+m+2):=by rw[ar.2]
   rw[Dq,Dq f]at q2;omega
  have ak:(C.set (j+m+2) (X%4294967296))[j+m+2]?=ξ (X%4294967296):=by rw[List.getElem?_set_self Z]
  have al:dv 4294967296 ((C.set (j+m+2) (X%4294967296)).drop (j+m+2+1))=0:=by rw[FA Z];exact bw
  have hT:dv 4294967296 (C.set (j+m+2) (X%4294967296))<4294967296*4294967296^(j+m+2):=(by rw[Py ak al];have q1:=tZ a1 (show j+m+2<=O (C.set (j+m+2) (X%4294967296)) by rw[DH];omega);have q2:(X%4294967296+1)*4294967296^(j+m+2)<=4294967296*4294967296^(j+m+2):=CM _ Z;rw[Dq,EM]at q2;omega);have bn:=RI (NC 4294967296 Z4 j Z) u h3 hT b3;have c6:1<=p:=by rw[bn];exact Nat.le_add_left _ _
  generalize hU3:C.set (j+m+2) (X%4294967296)=U3 at*;have b8:O U3=O Z4:=by rw[<-hU3,DH];exact S
  simp only[yY,ug,yu,xg,zK];repeat refine zU (k:=?_)
  simp only[yY,ug,yu,xg,zK];repeat refine zR (k:=?_)
  simp only[yY,ug,yu,xg,zK];repeat refine zR (k:=?_)
  simp only[yY,ug,yu,xg,zK];rw[<-b8];refine X2 (sv:=sv) (qv:=Y (ξ ⟨bq,0,θ⟩) (M+1) (M+1)) (Z4:=U3) (V:=V) (j:=j) (hh:=p-1) (h:=upd h5 bu (ξ (.row (u32s U3) e))) (Z1.keep (λa l cc ee=>by injection ee with e1;injection e1 with e1;subst e1;exact(zm D.1).trans (H _ D.1)) Cy) D.1 i.1 (zg _ _ _) dV a1 Z ω P9 ?_;rintro c2 U4 t6 h6 ay am a3 an ab c4 W a7;rw[<-wU ay];rw[hi]at W a7;have b5:U4[j+m+2]?=ξ (X%4294967296):=by
   have:(U4.drop (j+m+2))[0]?=(U3.drop (j+m+2))[0]?:=by rw[W]
   rw[DX,DX,DE]at this;rw[this];exact ak
  have bx:dv 4294967296 (U4.drop (j+m+2+1))=0:=(by have:=congrArg (JL 1) W;rw[Ey,Ey]at this;rw[this];exact al);have⟨r1,r2,r3⟩:=Yg Z F u (by
   have q1:dv 4294967296 V*4294967296^j<=4294967296^O V*4294967296^j:=CM _ Z;rw[<-DV,hi]at q1;exact q1) a1 an ak al b5 bx h3 a7 b3
  have bj:Sl h6 n1 1 (Y (ξ ⟨bu,0,θ⟩) (O U3) (O U3)) (u32s U4):=Sl.own a3 i.1.2 ab Cy;simp only[yY,ug,yu,xg,zK];repeat refine zR (k:=?_)
  refine yE (j:=j+m+2) R7 bj ⟨ω,Z⟩ b5 (λ_=>rfl) R4 λ_=>?_;refine zM (k:=?_);refine MY (c:=c2) R7 Z<|Xr (a:=X%4294967296) (b:=c2) ω ω ω ω ω ω ?_;rw[r2];refine uH (j:=j+m+2) (v:=CC .u32 ((0:Nat):Int)) R8 Z s9 a3 i.1.1 (λ_=>rfl) R3 (λ_=>rfl) ω λ_=>?_;rw[lj];refine zN (k:=?_);exact zA (p-1,_,_) P7 ⟨ω,ω,ω,λb T=>(zm T).trans ((am b T).trans ((zm T).trans (H b T))),zg _ _ _,M0 an Z,by show(U4.set _ _).length=_;rw[DH];exact ab,by show p-1=_;omega,r3⟩;rintro⟨q,Uf,g⟩ t7 _ _ _ ⟨rfl,rfl,rfl,I,a4,ao,ac,b0,a8⟩;simp only at I a4 ao ac b0 a8;subst b0;generalize hqq:dv 4294967296 (Z4.drop j)/dv 4294967296 V=q at*;have ba:g bq=ξ (.row (u32s (CI (j+1) 0++A)) eq):=by rw[I bq (Ne.symm D.2.2)];exact Z0
  refine zN (k:=?_);repeat refine zU (k:=?_)
  refine uH (j:=j) (v:=CC .u32 (q:Int)) R8 ω AX ba i.2.1 (λ_=>rfl) R3 (λ_=>rfl) ω λ_=>?_;rw[lj,Yi];refine Za (k:=?_);refine goOn (j,Uf,q::A) AE ⟨ω,ω,by show Y _ _ _=Y _ _ _;rw[o],ω,ω,ω,Cx⟩ ⟨ω,ω,λb h1 ap=>(zm ap).trans ((I b h1).trans (Z3 b h1 ap)),(zm D.2.2).trans a4,zg _ _ _,ao,λd af=>?_,ac,by show j+O (q::A)=M+1;simp;omega,?_,?_⟩;obtain rfl|af:=De.1 af;exact aq;exact dQ d af;show dv 4294967296 Uf+dv 4294967296 V*dv 4294967296 (q::A)*4294967296^j=dv 4294967296 U0;rw[<-L,<-a8];simp only[dv];rw[C5 (n:=4294967296),DS,Dq,CY q,Gs];congr 2;rw[Di,Di,Di,CY 4294967296 (dv 4294967296 A*4294967296^j),Di (dv 4294967296 A)];show dv 4294967296 (Uf.drop j)<dv 4294967296 V;have p1:=NC 4294967296 Uf j Z;have p2:=NC 4294967296 Z4 j Z;have p3:=tZ F (show j<=O Z4 from Z);have p4:dv 4294967296 (Z4.drop j)<(q+1)*dv 4294967296 V:=(by rw[<-hqq,CY];exact Nat.lt_mul_div_succ _ u);have p5:dv 4294967296 (Uf.drop j)*4294967296^j<dv 4294967296 V*4294967296^j:=(by have p6:(dv 4294967296 (Z4.drop j)+1)*4294967296^j<=(q+1)*dv 4294967296 V*4294967296^j:=CM _ p4;rw[Dq,EM,Dq q,EM,Dq]at p6;omega);exact M3 p5
end
theorem Yk{a b q r P:Nat}(c:0<P)(hb:0<b)(h:r+b*P*q=a*P)(d:r<b*P):q=a/b/\r=a%b*P:=by grind [Nat.mul_div_mul_right,GZ,G7,Et,EP,FC,C1]
theorem rV:∀l:List Nat,l.take (O (yf l))=yf l:=
 wF (λl ih=>by rw[wi,EU (xU l)];exact ih) (λl d a=>by rw[xy l a,C3]) rfl
section
variable{h:HF}{t:TF}
set_option maxRecDepth 100000
def Yl(hA:Sl h n 1 (Y a1 (O A) c1) (u32s A))(hC:Sl h n 1 (Y a2 (O C) c2) (u32s C))(nA:Norm A)(p:Norm C)(v:O C=m+2)(hb:O A<1000000000)(aw:val C<=val A)
  {c:Code}(hc:KZ Fp [1,1,1]=ξ c)(hL:tJ t [(0,Y a1 (O A) c1),(1,Y a2 (O C) c2)]):EC (KC (k+2) n (Fp).ntmps) c ⟨t,h,n,[]⟩ (RetH Fp (DivR n h A C)):=by
 obtain rfl:=Eb (hc.symm.trans (rfl:KZ Fp [1,1,1]=ξ _));rw[<-wU hL];have be:=nA.len_le p aw;obtain⟨f,i⟩:∃x,C[m+1]?=ξ x:=⟨C[m+1]'Z,CD Z⟩;have bc:f<4294967296:=p.1 f (CE i);have bb:f≠0:=(by have e:=ri i;rw[CL Z]at e;have h1:=p;rw[e]at h1;exact h1.last);refine Za (k:=?_);refine ye (α:=Nat) (λs=>[(0,Y a1 (O A) c1),(1,Y a2 (O C) c2),(8,CC .u64 (s:Int))]) (λs h' n' w'=>h=h'/\n=n'/\w'=[]/\s<32/\f*2^s<4294967296) (λs=>32-s) 0 P3 ⟨ω,ω,ω,by decide,by show f*2^0<_;omega⟩ (by show 32-0<LL;decide) ?_;rintro s t2 _ _ _⟨rfl,rfl,rfl,Z1,a4⟩;refine Zg (k:=?_);refine yE R7 hC ⟨ω,Z⟩ i (λ_=>rfl) R4 λ_=>?_;refine zM (k:=?_);refine Xs ω ω ω ω ω ω Z ?_;rw[C1 a4];by_cases hbig:f*2^s<2147483648;have h2:f*2^(s+1)=f*2^s*2:=by rw[C5,Di]
 have b3:s+1<32:=(by apply CW;intro hn;have aj:s=31:=Z;subst aj;have:1*2^31<=f*2^31:=CM _ Z;omega);refine ZD (k:=?_);refine yT (b:=1) R6 Z<|kG (k:=?_);exact goOn (s+1) (by show 32-(s+1)<32-s;omega) P3 ⟨ω,ω,ω,b3,by show f*2^(s+1)<_;omega⟩;refine Zj (k:=?_);have J:2147483648<=f*2^s:=Z;have hp:0<2^s:=Ds Z;have bd:2^s<=2147483648:=show 2^s<=2^31 from CQ Z Z;repeat refine zR (k:=?_)
 refine zF _ R5 (Rw (k+1) hC p.1 Z Z1) ?_;rintro _ h1 _ _⟨rfl,rfl,a7,L,e1,rfl,ay,T,dL,vL⟩;have⟨v1,v2,eT,a6,ba,b1,ah,b2,vV⟩:=Yh v p.1 i J a4 Z1 T dL vL;have a3:=Ly (k+1) (n:=n+1) Z (Sl.own ay Z T Cy);rw[eT]at a3;refine zF _ R5 a3 ?_;rintro _ _ _ _⟨e2,e3,rfl,rfl,b4⟩;subst e2 e3;have w:O (L.take (m+2))=m+2:=by rw[DA];omega
 have dV:Kh (L.take (m+2)):=λd hd=>dL d (Dp hd);generalize L.take (m+2)=V at*;refine Zl (k:=?_);refine zF _ R5 (Rw (k+1) (hA.ext a7 (C8 n)) nA.1 Z Z1) ?_;rintro _ h2 _ _⟨rfl,rfl,a8,g,e4,rfl,az,al,P,vU⟩;refine Zn (k:=?_);refine kG (k:=?_);obtain⟨M,hM⟩:∃M,M=O A-O C:=⟨_,ω⟩;repeat refine zR (k:=?_)
 refine vB (len:=M+1) (cap:=M+1) ⟨ω,ω,ω,ω,ω,ω,dG,dG,ω⟩ Z ?_;rw[show zn (CC .u32 0)=[CC .u32 0]from ω,NB];repeat refine zR (k:=?_)
 simp only[yY,ug,yu,xg,zK];repeat refine zR (k:=?_)
 simp only[yY,ug,yu,xg,zK];have aa:O g=O A+1:=al;have G:dv 4294967296 (g.drop (M+1))<dv 4294967296 V:=by
  obtain⟨u,a5⟩:∃x,g[O A]?=ξ x:=⟨g[O A]'Z,CD Z⟩;have p1:=wJ (B:=4294967296) a5;rw[CL Z]at p1;have p2:=LX nA.1;have p3:u<2^s:=(by have j:u*4294967296^O A<2^s*4294967296^O A:=(by have q2:dv 4294967296 A*2^s<4294967296^O A*2^s:=Er p2 hp;rw[CY (4294967296^O A) (2^s)]at q2;rw[CY u];omega);exact M3 j);have bg:O (g.drop (M+1))=m+2:=by rw[List.length_drop];omega
  have ag:(g.drop (M+1))[m+1]?=ξ u:=by rw[DX,show M+1+(m+1)=O A from Z];exact a5
  have p4:=wJ (B:=4294967296) ag;rw[CL Z]at p4;have p5:dv 4294967296 ((g.drop (M+1)).take (m+1))<4294967296^(m+1):=tZ (λd hd=>P d (ET hd)) Z;have p6:=wJ (B:=4294967296) a6;rw[CL Z]at p6;have p7:(u+1)*4294967296^(m+1)<=v1*4294967296^(m+1):=CM _ Z;rw[Dq,EM]at p7;rw[p4,p6,CY _ u,CY _ v1];omega
 have av:Sl (upd h2 (3*(n+1+1)+2) (ξ (.row (u32s (CI (M+1) 0)) 196))) (n+1+1+1) 1 (Y (ξ ⟨3*n+2,0,θ⟩) (O V) (O C+1)) (u32s V):=(b4.ext a8 Zq).ext (J3.upd Z) Zq;refine Yj av Z Z ((zm Z).trans az) (zg _ _ _) dV P w Z Z a6 ba ⟨b1,ah⟩ b2 G ω ⟨ω,ω,by rw[aa];rfl,ω,ω,dG,Cx⟩ ?_;rintro Z4 H t4 h4 Z0 ac F b0 dU dQ ar am af ax;rw[<-wU Z0];have ab:=LX dV;rw[w]at ab;have⟨_,b8⟩:=Px (l:=Z4) (n:=m+2) Z (show dv 4294967296 Z4<4294967296^(m+2)from Z);have I:0<dv 4294967296 C:=by rw[<-mM];exact p.pos (by intro e;rw[e]at v;simp at v)
 have⟨hq,y⟩:=Yk (a:=dv 4294967296 A) (b:=dv 4294967296 C) (q:=dv 4294967296 H) (r:=dv 4294967296 Z4) hp I (by rw[<-vV,af,vU]) (by rw[<-vV];exact ax);have au:Sl h4 (n+1+1+1) 1 (Y (ξ ⟨3*(n+1)+2,0,θ⟩) (O g) (O g)) (u32s Z4):=Sl.own F Z ar Cy;have Z3:=au.take (O V) Z;rw[DD,show(u32s Z4).take (O V)=u32s (Z4.take (m+2))from by rw[u32s,u32s,F2,w]]at Z3;have K:J3 n h h4:=λb hb=>by rw[ac b Z Z,zm Z,a8 b Z,a7 b hb]
 simp only[yY,ug,yu,xg,zK];repeat refine zR (k:=?_)
 refine td (O V) R8 ω Z ?_;have ae:=Ly (k+1) Ab Z3;refine zF _ R5 ae ?_;rintro _ _ _ _⟨e5,e6,rfl,rfl,bf⟩;subst e5 e6;have ap:yf (Z4.take (m+2))=Z4.take (O (yf (Z4.take (m+2)))):=(by have j:=rV (Z4.take (m+2));have q2:=xU (Z4.take (m+2));rw[DA]at q2;rw[HL,DR Z]at j;exact j.symm);have W:dv 4294967296 (yf (Z4.take (m+2)))=dv 4294967296 Z4:=by rw[<-mM,LN,mM,b8]
 have ao:=xU (Z4.take (m+2));rw[DA]at ao;have dR:Kh (yf (Z4.take (m+2))):=Pn _ λd hd=>dU d (Dp hd);generalize hR:yf (Z4.take (m+2))=R at*;have aq:Z4=R++Z4.drop (O R):=by
  conv=>lhs;rw[<-DP (O R) Z4]
  rw[<-ap]
 rw[aq]at F;repeat refine zR (k:=?_)
 simp only[yY,ug,yu,xg,zK];repeat refine zR (k:=?_)
 simp only[yY,ug,yu,xg,zK];refine Yc Z F dR Z Z1 ω P4 ?_;rintro D t5 h5 a0 o N dD ak S;rw[<-wU a0];have an:(R[0]?).getD 0%2^s=0:=by
  have j:dv 4294967296 R%2^s=0:=by rw[W,y];exact Nat.mul_mod_left _ _
  cases hR':R with
  |nil=>simp
  |cons x r=>
   rw[hR']at j;simp only[dv]at j;rw[<-Oh (show s<=32 from Z),Di,FC]at j;simpa using j
 rw[an,DE,W,y]at S;have a9:dv 4294967296 D=dv 4294967296 A%dv 4294967296 C:=G9 hp S;have ad:h5 (3*(n+1+1)+2)=ξ (.row (u32s H) _):=(o _ Z).trans b0;have b9:=Ly (k+1) (n:=n+1+1+1) Z (Sl.own ad Z am Cy);have b7:=Ly (k+1) (n:=n+1+1+1) Z (Sl.pre N Z ak (show O R<=O g from Z));simp only[yY,ug,yu,xg,zK];repeat refine zR (k:=?_)
 refine zF _ R5 b9 ?_;rintro _ _ _ _⟨e7,e8,rfl,rfl,b6⟩;subst e7 e8;repeat refine zR (k:=?_)
 refine zF _ R5 b7 ?_;rintro _ _ _ _⟨e9,ai,rfl,rfl,b5⟩;subst e9 ai;refine kG (k:=?_);refine retH [Y (ξ ⟨3*(n+1+1)+2,0,θ⟩) (O (yf H)) (M+1),Y (ξ ⟨3*(n+1)+2,0,θ⟩) (O (yf D)) (O g)] R3 ⟨ω,by show n<=n+1+1+1;omega,λb hb=>(o b Z).trans (K b hb),_,_,yf H,_,_,yf D,ω,b6,b5,Norm.trim dQ,Norm.trim dD,?_,?_,by show 3*n<=3*(n+1+1)+2;omega,gN⟩;rw[LN,mM,mM,mM];exact hq;rw[LN,mM,mM,mM];exact a9
end
section
def Ym(n:Nat):gro (3*n+2)=χ:=by exact B7
theorem Yn{x:ψ}(o:E.und sT=ξ (.slice e))(hi:E.inf e=ξ (size,bytes,z))(v:O (zn z)=size)(j:1<=size/\1<=bytes)(hx:argS h size x m new)(hb:m*bytes<=1099511627776)(s:gro b=χ)(u:O new=m*size):
  ∃v' h' n',yW E h n sT (Y (ξ ⟨b,0,θ⟩) 0 0) x=ξ (.val v' h' n' [])/\n<=n'/\J3 n h h'/\(b<3*n->Sl h' n' size v' new)/\(∀c,c<=n->3*c<=b->xC c v')/\∃a,v'=Y a m m:=by
 have⟨d,hc⟩:=hx;have c1:Dd (m*bytes) 1099511627776=φ:=CP hb;have c2:DK (O (zn z)) size=φ:=by simp_all
 have g:Dd 1 size=φ:=CP j.1;have i:Dd 1 bytes=φ:=CP j.2;by_cases hm:m=0;subst hm;have l:new=[]:=CT.1 (by rw[u];simp);subst l;refine⟨Y (ξ ⟨b,0,θ⟩) 0 0,h,n,?_,Cy,J3.refl _ _,λhb=>.nil (.inr ⟨_,_,_,ω,hb⟩),λc _ f=>f,_,ω⟩;simp only[yW,o,hi,d,hc,C9,c1,c2,g,i,DT,show Dd 0 0=φ from ω,uB];have p:Dd m 0=χ:=by
  cases hb:Dd m 0 with
  |false=>rfl
  |true=>have:=Da hb;omega
 have q:yD h size 0 (Y (ξ ⟨b,0,θ⟩) 0 0)=ξ []:=by simp[yD]
 refine⟨Y (ξ ⟨3*n+1,0,θ⟩) m m,_,n+1,?_,C8 _,J3.upd (b:=3*n+1) (x:=ξ (.row new e)) Z,λ_=>.at_ Z (zg _ _ _) ω Cy Z aD,λc f _=>by show 3*c<=3*n+1;omega,_,ω⟩;simp only[yW,o,hi,d,hc,C9,c1,c2,g,i,p,q,DT,My,s,Dt]
set_option maxRecDepth 100000
theorem RJ(k:Nat)(c:Sl h n 1 (Y a1 l1 c1) (u32s A))(i:Sl h n 1 (Y a2 l2 c2) (u32s C))(j:Norm A)(g:Norm C)(o:C≠[])(hb:O A<1000000000):
  CF (J4 (k+3)) 181 [Y a1 l1 c1,Y a2 l2 c2] h n (DivR n h A C):=by
 apply zw R4;have H:=c.lenU;have I:=i.lenU;subst H I;have F:=g.pos o;apply(Zu);apply yi _ R5 (Ro (k+1) c i j g Z);rintro _ rfl;by_cases hlt:val A<val C;rw[Lz hlt];apply(Zo);apply pZ (cs:=[]) R5;repeat apply(zR)
 obtain⟨v',h',Z3,M,g2,N,P,R,a,rfl⟩:=Yn (E:=Kc) (h:=upd h (3*n+2) (ξ (.row [] 196))) (sT:=115) (b:=3*n+2) ω ω ω zd (uX (c.ext (J3.upd Z) (C8 n))) Z (Ym n) (by rw[vZ,DD]);apply yM R5 M;apply(kG);refine retH [η,Y a (O A) (O A)] R3 ⟨ω,by show n<=Z3;omega,(J3.upd Z).trans N (C8 n),θ,0,[],a,_,A,ω,.nil (.inl ω),P Z,Norm.nil,j,?_,?_,trivial,R n (C8 n) Z⟩;rw[EP hlt];rfl;rw[C1 hlt];have W:0<=cmpZ (val A) (val C):=by grind [cmpZ]
 generalize cmpZ (val A) (val C)=cz at W;apply(Zj);by_cases hone:O C=1;obtain⟨d,rfl⟩:∃d,C=[d]:=List.length_eq_one_iff.1 hone;have a0:d≠0:=g.last (l:=[]);have a3:d<4294967296:=g.1 d eC;have p:val [d]=d:=by simp[val]
 apply(Zs);refine yE R7 i R2 ω (λ_=>rfl) R4 λ_=>?_;apply zF _ R5 (Re k Z j.1 Z c);rintro _ S f _⟨rfl,u,D,a,q,L,rfl,v,Z0,B,s,_⟩;apply(Zl);apply pZ R5;have y:=Ly (k+1) (h:=upd S (3*f+2) (ξ (.row [ν ((val A%d:Nat):Int)] 196))) (n:=f+1) eC (Sl.own (Z1:=[val A%d]) (zg _ _ _) Z ω Cy);apply zF _ R5 y;rintro _ _ _ _⟨J,K,rfl,rfl,w⟩;subst J K;apply(kG);have Z4:val A%d<d:=Dz _ Z;refine retH [Y a (O L) q,Y (ξ ⟨3*f+2,0,θ⟩) (O (yf [val A%d])) 1] R3 ⟨ω,by show n<=f+1;omega,D.trans (J3.upd Z) u,a,q,L,_,_,yf [val A%d],ω,v.ext (J3.upd Z) Zq,w,Z0,Norm.trim (λx V=>by simp at V;omega),by rw[B,p],?_,s,by show 3*n<=3*f+2;omega⟩;rw[LN,p];simp[val];have G:O C≠0:=λe=>o (CT.1 e);obtain⟨m,T⟩:∃m,O C=m+2:=⟨O C-2,Z⟩;repeat apply(zR)
 simp only[yu,xg,zK,yY];rw[za rfl];simp only[yu,zK];exact Yl c i j g T hb Z ω P2
end
section
variable{X:CtxF}{t:TF}{h:HF}{Q:SV->Prop}
def st_mul{ty e:TypeId}{x y:Operand}{a b:Int}(j:zh ops t o=φ)(f:o.dst=ξ d)(g:zv X.nt (ξ d)=φ)(c:o.op=.binOp .mul ty x y e)(hx:J2 t x=CC .i64 a)(l:J2 t y=CC .i64 b)(i: -9223372036854775808<=a*b/\a*b<9223372036854775808)
  (k:EO X ops r ⟨upd t d (CC .i64 (a*b)),h,n,w⟩ Q):EO X ops (o::r) ⟨t,h,n,w⟩ Q:=by refine zZ ⟨j,f,g,(by rw[c];rfl)⟩ ?_ k;rw[c];show binE X.E .mul ty (J2 t x) (J2 t y)=_;rw[hx,l];show ξ (CC .i64 (Df .i64 (a*b)))=_;rw[LM i]
end
theorem RK(k:Nat){h:HF}{n:Nat}{F G:ψ}{x:Int}{l:List Nat}(hi:IntR h n F G x l)(hb:O l<1000000000):VF (J4 (k+1)) 151 [.agg #[F,G]] h n λv=>∃b:Nat,v=υ (b:Int)/\(b=0↔x.natAbs=0)/\(b=1↔x.natAbs=1):=by
 apply zO R4;obtain⟨rfl,m,g,u⟩:=hi;obtain⟨a,Z4,H,rfl,_⟩:=m.len;have M:=m.lenU;subst M;apply(zN);apply Lb R5;apply(Zl);apply zT R6 (zg _ _ _) R2;by_cases h0:l=[];subst h0;apply(Zr);refine retF _ ω (zi ω) R2 ⟨0,ω,?_,?_⟩<;>rw[<-u]<;>simp[val];obtain⟨i,f,rfl⟩:=snoc h0;have K:f≠0:=g.last;have T:f<4294967296:=g.1 f eC;have A:O (i++[f])=O i+1:=by simp
 rw[A]at hb m;simp only[A];have D:=m.ext (J3.upd (b:=3*n+2) (x:=ξ (.row [U (decide (x<0)),Y a (O i+1) H] 117)) Z) (C8 n);apply(Zz);apply zT R6 (zg _ _ _) R2;apply(zM);refine qO R6 Z<|st_mul ω ω ω ω ω ω Z ?_;apply(Zl);apply zT R6 (zg _ _ _) R2;repeat apply(zR)
 apply zT R6 (zg _ _ _) R2;repeat apply(zR)
 refine yE (j:=O i) (dv:=f) R7 D ⟨ω,Z⟩ eC (λ_=>rfl) R4 λ_=>?_;apply(kG);generalize hh1:upd h (3*n+2) _=h1;apply ye (λz=>[(3,υ ((32*O i+z.1:Nat):Int)),(4,ν (z.2:Int))]) (λz V P R=>P=n+1/\R=[]/\z.2=f/2^z.1/\(z.1=0\/f/2^(z.1-1)≠0)/\z.1<=32) (λz=>33-z.1) (0,f) ⟨dG,ω,Cx⟩ ⟨ω,ω,eC,.inl ω,Cz⟩ (by show 33-0<LL;decide);rintro⟨c,L⟩ Z0 W _ _ ⟨rfl,rfl,q,p,N⟩;simp only at q p N;subst q;apply(zN);by_cases hz:f/2^c=0;apply(Zp);have I:c≠0:=λe=>by rw[e,EA,Nat.div_one]at hz;exact K hz
 have y:x.natAbs=val i+4294967296^O i*f:=by rw[<-u,Of];simp[val]
 refine retF _ ω (zi ω) R2 ⟨32*O i+c,ω,?_,?_⟩;grind [Et,Ds];have Z1:0<4294967296^O i*f:=Et (Ds Z) Z;by_cases hi0:O i=0;rw[CT.1 hi0]at y⊢;simp only[val,List.length_nil,EA,EM,C9,Eo]at y⊢;rw[y];constructor;grind;rintro rfl;obtain C|C:=p;exact Cu C I;apply CW;intro Z3;apply C;exact EP (Nat.one_lt_two_pow Z);have S:4294967296^1*1<=4294967296^O i*f:=C6 (CQ Z Z) Z;omega;have B:c+1<=32:=by grind
 have J:f/2^c<=f:=Ei _ _;generalize q:f/2^c=L at hz J⊢;apply(Zr);apply(zM);apply Q7 (s:=1) R6 Z;apply(kG);refine goOn (c+1,L/2^1) Z ⟨gH,ω,Cx⟩ ⟨ω,ω,?_,.inr aD,B⟩;grind [Fm,DV]
def M4{a:Option Addr}{L:List Nat}{x:Int}{d:Bool}(i:Sl h n 1 (Y a (O L) c) (u32s L))(f:Norm L)(hv:val L=x.natAbs)(e:x≠0->d=decide (x<0)):IntR h n (U (d&&decide (0<O L))) (Y a (O L) c) x L:=by refine⟨?_,i,f,hv⟩;have g:=f.zero;rw[<-CT]at g;by_cases hx:x=0;have:¬0<O L:=Z;rw[BG this,hx,ai4];rfl;have:0<O L:=Z;rw[Ct this,Bool.and_true,e hx]
def Pz(k:Nat){s i:ψ}{x:Int}{l:List Nat}(hi:IntR h n s i x l):CF (J4 (k+2)) 149 [.agg #[s,i]] h n λv u D w=>w=[]/\n<=D/\J3 n h u/\∃c1',v=.agg #[c1',i]/\IntR u D c1' i (-x) l:=by
 refine zw R4 ?_;obtain⟨rfl,g,j,q⟩:=hi;obtain⟨a,J,d,rfl,_⟩:=g.len;have G:=g.lenU;subst G;refine zN (k:=?_);refine Lb (cs:=[U (decide (x<0)),Y a (O l) d]) R5<|xV R5<|zN (k:=?_);generalize hh:upd (upd h (3*n+2) _) (3*(n+1)+2) _=h1;have m:∃e,h1 (3*n+2)=ξ (.row [U (decide (x<0)),Y a (O l) d] e):=⟨_,by rw[<-hh,zm Z,zg]⟩;have p:∃e,h1 (3*(n+1)+2)=ξ (.row [U χ,η] e):=⟨_,gQ⟩;have B:J3 n h h1:=by rw[<-hh];intro b y;rw[zm Z,zm Z]
 have⟨K,m⟩:=m;have⟨F,p⟩:=p;repeat refine zR (k:=?_)
 refine zT R6 m R2 ?_;repeat refine zR (k:=?_)
 refine zT R6 m R2<|zF _ R5 (Mi k _ _ (!decide (x<0)) a (O l) d) ?_;rintro _ H L _⟨rfl,rfl,rfl,o⟩;refine yc [U (!decide (x<0)&&decide (0<O l)),Y a (O l) d] R7 ω (by rw[o _ Z];exact p) ω eF ?_;refine zN (k:=?_);have f:J3 n h (upd H (3*(n+1)+2) (ξ (.row [U (!decide (x<0)&&decide (0<O l)),Y a (O l) d] F))):=λb y=>by rw[zm Z,o b Z];exact B b y
 refine uq R5 (zg _ _ _) ω ⟨ω,by show n<=n+1+1+1;omega,f,_,ω,M4 (g.ext f Z) j (by rw[q];omega) (λI=>?_)⟩;by_cases hx:x<0;rw[Ct hx,BG Z];rfl;rw[BG hx,Ct Z];rfl
def Yo{P:ψ->HF->Nat->List Nat->Prop}{e:Ex}{t:TF}{a i:Tmp}{g s:TypeId}{j f l:Nat}{d:List ψ}(v:rI e=φ)(D:fn.results.toList=[.cell a ty,.cell i g])(u:t a=ε b)(m:t i=ε j)(y:GL.isAgg Kc ty=ξ φ)(p:GL.isAgg Kc g=ξ φ)(hi:Kc.inf ty=ξ (sz,bt,z))(q:Kc.inf g=ξ (f,l,z2))(hb:h b=ξ (.row cs s))(o:h j=ξ (.row d e2))(I:O cs=sz)(H:O d=f)(B:P (.tuple #[.agg cs.toArray,.agg d.toArray]) h n w):RetH fn P e ⟨t,h,n,w⟩:=by refine retH [.agg cs.toArray,.agg d.toArray] ⟨v,?_,ω⟩ B;rw[D];have F:=yw ⟨y,hi⟩ hb ω (show 0+sz<=O cs from Z) (show(cs.drop 0).take sz=cs by rw[Dy,CL Z]);have G:=yw ⟨p,q⟩ o ω (show 0+f<=O d from Z) (show(d.drop 0).take f=d by rw[Dy,CL Z]);simp only[resF,u,m,F,G]
def RL(k:Nat){S T:ψ}{x y:Int}(hx:IntR h n S T x A)(hy:IntR h n d1 d2 y C)(f:y≠0)(hb:O A<1000000000):
  CF (J4 (k+4)) 152 [.agg #[S,T],.agg #[d1,d2]] h n λv G Z1 w=>w=[]/\n<=Z1/\J3 n h G/\∃q1 q2 r1 r2 o p,v=.tuple #[.agg #[q1,q2],.agg #[r1,r2]]/\IntR G Z1 q1 q2 (x.tdiv y) o/\IntR G Z1 r1 r2 (x.tmod y) p/\xC n q2/\xC n r2:=by
 apply zw R4;obtain⟨rfl,I,nA,vA⟩:=hx;obtain⟨rfl,J,nC,vC⟩:=hy;obtain⟨a,la,Z4,rfl,_⟩:=I.len;obtain⟨c,lc,V,rfl,_⟩:=J.len;have e1:=I.lenU;have e2:=J.lenU;subst e1 e2;have a0:C≠[]:=λe=>f (by have:=nC.zero.2 e;omega);apply(zN);apply Lb (cs:=[U (decide (x<0)),Y a (O A) Z4]) R5;apply Lb (cs:=[U (decide (y<0)),Y c (O C) V]) R5;apply xV R5;apply xV R5;apply(zN);generalize hh:upd (upd (upd (upd h (3*n+2) _) (3*(n+1)+2) _) (3*(n+1+1)+2) _) (3*(n+1+1+1)+2) _=d;have l:∃e,d (3*n+2)=ξ (.row [U (decide (x<0)),Y a (O A) Z4] e):=⟨_,by rw[<-hh,zm Z,zm Z,zm Z,zg]⟩;have m:∃e,d (3*(n+1)+2)=ξ (.row [U (decide (y<0)),Y c (O C) V] e):=⟨_,Bo⟩;have s:∃e,d (3*(n+1+1)+2)=ξ (.row [U χ,η] e):=⟨_,by rw[<-hh,zm Z,zg];rfl⟩;have u:∃e,d (3*(n+1+1+1)+2)=ξ (.row [U χ,η] e):=⟨_,gQ⟩;have B:J3 n h d:=by rw[<-hh];intro b hb;rw[zm Z,zm Z,zm Z,zm Z]
 have⟨t1,l⟩:=l;have⟨t2,m⟩:=m;have⟨t3,s⟩:=s;have⟨t4,u⟩:=u;repeat apply(zR)
 apply zT R6 l R2;repeat apply(zR)
 refine zT R6 m R2<|zF _ R5 (RJ k (I.ext B (show n<=n+1+1+1+1 from Z)) (J.ext B (show n<=n+1+1+1+1 from Z)) nA nC a0 hb) ?_;rintro _ Z0 n2 _⟨rfl,a3,g,P,W,o,R,Z3,p,rfl,a1,a2,nq,nr,vq,vr,D,F⟩;apply(kG);apply(zl);have q:Z0 (3*n+2)=_:=(g _ Z).trans l;have L:Z0 (3*(n+1)+2)=_:=(g _ Z).trans m;repeat apply(zD)
 apply yd R6 (nJ ω q R2) R2;repeat apply(zD)
 apply yd R6 (nJ ω L R2) R2;apply(zD);repeat apply(zD)
 apply wa _ R7 (Mi (k+2) _ _ (decide (x<0) != decide (y<0)) P (O o) W);rintro _ h3 n3 _⟨rfl,rfl,rfl,i⟩;refine⟨ω,Z,?_⟩;repeat apply(zD)
 apply yd R6 (nJ ω q R2) ⟨(Ra eC),ω⟩;repeat apply(zD)
 apply wa _ R7 (Mi (k+2) _ _ (decide (x<0)) R (O p) Z3);rintro _ H n4 _⟨rfl,rfl,rfl,j⟩;refine⟨ω,Z,?_⟩;have M:H (3*(n+1+1)+2)=_:=(j _ Z).trans ((i _ Z).trans ((g _ Z).trans s));have N:H (3*(n+1+1+1)+2)=_:=(j _ Z).trans ((i _ Z).trans ((g _ Z).trans u));apply jX R7 ω M zb eF R3;apply jX R7 ω ((zm Z).trans N) zb eF R3;apply(zN);have K:J3 n h (upd (upd H (3*(n+1+1)+2) (ξ (.row [U ((decide (x<0) != decide (y<0))&&decide (0<O o)),Y P (O o) W] t3))) (3*(n+1+1+1)+2) (ξ (.row [U (decide (x<0)&&decide (0<O p)),Y R (O p) Z3] t4))):=λb hb=>(by rw[zm Z,zm Z,j b Z,i b Z,g b Z];exact B b hb);refine Yo ω ω ω ω ω ω ω ω ((zm Z).trans (zg _ _ _)) (zg _ _ _) ω ω ⟨ω,by show n<=n2+1+1;omega,K,_,_,_,_,o,p,ω,?_,?_,?_,?_⟩;refine M4 (((((a1.ext i Zq).ext j Zq).old D Z).old D Z)) nq ?_ λh0=>?_;rw[vq,vA,vC,Int.natAbs_tdiv];rfl;by_cases hx0:x<0<;>by_cases f:y<0;rw[Ct hx0,Ct f,BG (by have:=Int.tdiv_nonneg_of_nonpos_of_nonpos (a:=x) (b:=y) Z Z;omega)];rfl;have d:=Jt (a:= -x) (b:=y) Z Z;rw[Int.neg_tdiv]at d;rw[Ct hx0,BG f,Ct Z];rfl;have d:=Jt (a:=x) (b:= -y) Z Z;rw[Int.tdiv_neg]at d;rw[BG hx0,Ct f,Ct Z];rfl;rw[BG hx0,BG f,BG aD];rfl;refine M4 (((((a2.ext i Zq).ext j Zq).old F Z).old F Z)) nr ?_ λh0=>?_;rw[vr,vA,vC,Int.natAbs_tmod];by_cases hx0:x<0;have d:=ag5 (a:= -x) y Z;rw[Int.neg_tmod]at d;rw[Ct hx0,Ct Z];rw[BG hx0,BG (by have:=ag5 (a:=x) y Z;omega)];exact D.mono Z;exact F.mono Z
def LA(m x y:Nat):Prop:=if m%2=0 then y<2^(m/2)else x<2^(m/2+1)/\y<x
theorem LA.pos{x y:Nat}(h:LA m x y)(a:0<y):0<m:=by grind [LA]
def Yp{x y:Nat}(a:0<y)(h:y<x):2*(x%y)<x:=by have d:=Dz x a;have e:=DN x y;have c:1<=x/y:=(Fo a).2 Z;have f:y*1<=y*(x/y):=C4 y c;omega
theorem LA.next{x y:Nat}(h:LA (m+1) x y)(a:0<y):LA m y (x%y):=by unfold LA at h⊢;by_cases hm:(m+1)%2=0;rw[Cw hm]at h;rw[Cv Z];rw[show m/2+1=(m+1)/2 from Z];exact⟨h,Dz x a⟩;rw[Cv hm]at h;rw[Cw Z];have c:=Yp a h.2;grind
def Ks(b:Nat):ψ->Prop
 | Y (ξ a) _ _=>a.block≠b
 |_=>True
def Sl.off{c:List ψ}{x:Option BF}(s:Sl h n sz v c)(d:Ks b v):Sl (upd h b x) n sz v c:=
 s.keep (λa l f e=>by subst e;exact zm d) Cy
theorem Below.off(h:Below m v)(hb:3*m<=b):Ks b v:=by unfold Below at h;grind [Ks]
theorem xC.off(h:xC m v)(hb:b<3*m):Ks b v:=by unfold xC at h;grind [Ks]
def Yq(k:Nat){c1 Z4:ψ}{x y:Int}(hx:IntR h n c1 Z4 x A)(hy:IntR h n d1 d2 y C)(hb:O A<1000000000/\O C<1000000000):
  CF (J4 (k+4)) 150 [.agg #[c1,Z4],.agg #[d1,d2]] h n λv o q w=>w=[]/\n<=q/\J3 n h o/\∃g1 g2 L,v=.agg #[g1,g2]/\IntR o q g1 g2 ((CZ x.natAbs y.natAbs:Nat):Int) L/\O L<1000000000/\∀b,b<3*n->Ks b Z4->Ks b d2->Ks b g2:=by
 refine zw R4 ?_;obtain⟨rfl,P,nA,vA⟩:=hx;obtain⟨rfl,R,nC,vC⟩:=hy;obtain⟨a,la,B,rfl,_⟩:=P.len;obtain⟨c,lc,F,rfl,_⟩:=R.len;have e1:=P.lenU;have e2:=R.lenU;subst e1 e2;refine zN (k:=?_);refine Lb (cs:=[U (decide (x<0)),Y a (O A) B]) R5<|Lb (cs:=[U (decide (y<0)),Y c (O C) F]) R5<|xV R5<|zN (k:=?_);generalize hh:upd (upd (upd h (3*n+2) _) (3*(n+1)+2) _) (3*(n+1+1)+2) _=i;have I:∃e,i (3*n+2)=ξ (.row [U (decide (x<0)),Y a (O A) B] e):=⟨_,Bo⟩;have J:∃e,i (3*(n+1)+2)=ξ (.row [U (decide (y<0)),Y c (O C) F] e):=⟨_,by rw[<-hh,zm Z,zg]⟩;have K:∃e,i (3*(n+1+1)+2)=ξ (.row [U χ,η] e):=⟨_,gQ⟩;have M:J3 n h i:=by rw[<-hh];intro b hb;rw[zm Z,zm Z,zm Z]
 have⟨t1,I⟩:=I;have⟨t2,J⟩:=J;have⟨t3,K⟩:=K;rw[wb rfl];repeat refine zR (k:=?_)
 refine zT R6 I R2 ?_;repeat refine zR (k:=?_)
 refine zT R6 J R2<|kG (k:=?_);refine ye (α:=(Option Addr×Nat×List Nat)×(Option Addr×Nat×List Nat)×Nat) (λz=>[(4,ε (3*(n+1+1)+2)),(5,Y z.1.1 (O z.1.2.2) z.1.2.1),(6,Y z.2.1.1 (O z.2.1.2.2) z.2.1.2.1)])
  (λz o q w'=>n+1+1+1<=q/\w'=[]/\J3 (n+1+1+1) i o/\Sl o q 1 (Y z.1.1 (O z.1.2.2) z.1.2.1) (u32s z.1.2.2)/\Sl o q 1 (Y z.2.1.1 (O z.2.1.2.2) z.2.1.2.1) (u32s z.2.1.2.2)/\Norm z.1.2.2/\Norm z.2.1.2.2/\O z.1.2.2<1000000000/\O z.2.1.2.2<1000000000/\LA z.2.2 (val z.1.2.2) (val z.2.1.2.2)/\CZ (val z.1.2.2) (val z.2.1.2.2)=CZ x.natAbs y.natAbs/\(∀b,b<3*(n+1+1+1)->Ks b (Y a (O A) B)->Ks b (Y c (O C) F)->Ks b (Y z.1.1 (O z.1.2.2) z.1.2.1))/\(∀b,b<3*(n+1+1+1)->Ks b (Y a (O A) B)->Ks b (Y c (O C) F)->Ks b (Y z.2.1.1 (O z.2.1.2.2) z.2.1.2.1))) (λz=>z.2.2)
  ((a,B,A),(c,F,C),2*(32*O C)) P3 ⟨by show n+1+1+1<=n+1+1+1;omega,ω,J3.refl _ _,P.ext M (show n<=n+1+1+1 from Z),R.ext M (show n<=n+1+1+1 from Z),nA,nC,hb.1,hb.2,?_,by rw[vA,vC],λ_ _ i _=>i,λ_ _ _ h2=>h2⟩ (by show 2*(32*O C)<LL;unfold LL;omega) ?_
 show LA (2*(32*O C)) (val A) (val C);unfold LA;rw[Cw Z,show 2*(32*O C)/2=32*O C from Z,HC];exact Pm nC.1;rintro⟨⟨T,D,l⟩,⟨c',a0,g⟩,m⟩ t h2 n2 _ ⟨a1,rfl,N,G,H,Z1,f,u,S,Z3,W,Z0,oC⟩;simp only at G H Z1 f u S Z3 W Z0 oC;refine zN (k:=?_);by_cases hC0:g=[];subst hC0;refine Zz (k:=?_);refine zF _ R5 (Mi (k+2) _ _ χ T (O l) D) ?_;rintro _ h3 n3 _⟨rfl,rfl,rfl,d⟩;refine yc [U (χ&&decide (0<O l)),Y T (O l) D] R7 ω (by rw[d _ Z,N _ Z];exact K) ω eF ?_;refine zN (k:=?_);have V:J3 n h (upd h3 (3*(n+1+1)+2) (ξ (.row [U (χ&&decide (0<O l)),Y T (O l) D] t3))):=λb hb=>by rw[zm Z,d b Z,N b Z];exact M b hb
 refine uq R5 (zg _ _ _) ω ⟨ω,by show n<=n2+1;omega,V,_,_,l,ω,M4 ((G.ext d Zq).off (Z0 _ Z (P.below.off Z) (R.below.off Z))) Z1 ?_ (λh0=>?_),u,λb hb=>Z0 b Z⟩;rw[<-W];simp[val];rw[BG Z];have a4:0<O g:=Gy.2 hC0;have j:=f.pos hC0;refine Zs (k:=?_);refine zF _ R5 (RJ k G H Z1 f hC0 u) ?_;rintro _ h3 n3 _⟨rfl,a2,d,aq,cq,Lq,ar,cr,s,rfl,a7,a3,nq,nr,vq,vr,fq,fr⟩;refine Zn (k:=?_);have a6:=Z3.pos j;obtain⟨p,rfl⟩:∃p,m=p+1:=⟨m-1,Z⟩;have a5:O s<=O g:=f.len_le nr (by rw[vr];exact Nat.le_of_lt (Dz _ j));refine goOn ((c',a0,g),(ar,cr,s),p) (by show p<p+1;omega) P3 ⟨by show n+1+1+1<=n3;omega,ω,N.trans d a1,H.ext d a2,a3,f,nr,S,by show O s<1000000000;omega,?_,?_,oC,λb hb _ _=>fr.off Z⟩;show LA p (val g) (val s);rw[vr];exact Z3.next j;show CZ (val g) (val s)=_;rw[vr,<-W,EY (val g),<-IP,EY]
end Go.Proofs.YtdeaddceicfanaaGreatDoor
