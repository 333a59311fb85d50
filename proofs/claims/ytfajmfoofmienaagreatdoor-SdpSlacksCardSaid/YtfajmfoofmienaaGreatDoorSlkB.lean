import Derived.KernelRfl
import Derived.Lib.Mul64
import Derived.Lib.TrailingZeros
import Derived.Test.YtfajmfoofmienaaGreatDoorSlkA
open BitVec renaming ofInt→F9,ofNat→FC
open Bool renaming and_eq_true→Ew,and_self→EF,not_false→Gf,or_true→H7
open Classical renaming byContradiction→DU
open Go.GL.Tr renaming get_put→Jn,put→If,set_eq→H6
open Go.IntKind renaming bits→Ft,signed→Gt,wrap→D8
open Go.Lib renaming ctz→aa3,deBruijn64tab→Jz,half_mul_le→JZ
open Go.Proofs.Tryz renaming f105→at3,f145→Gc,f216→Jk
open Go.Value renaming bool→Dk,int→U,pointer→Dn,slice→Y,string→Dl,tuple→Jx
open Iff renaming rfl→Hi
open Int renaming lt_trichotomy→Iy,natAbs_natCast→DQ,toNat_natCast→Ez
open List renaming all_cons→JG,all_eq_true→Fy,any_eq_true→H5,append_assoc→DN,append_nil→DZ,cons_append→Gp,drop→Ki,dropLast_concat_getLast→HJ,drop_drop→ES,drop_eq_getElem_cons→Fs,drop_length→Fo,drop_set_of_lt→GA,drop_zero→EE,eq_of_mem_replicate→Ht,getElem?_cons_succ→Gq,getElem?_drop→Em,getElem?_eq_getElem→Dm,getElem?_eq_none→DS,getElem?_eq_some_iff→Du,getElem?_map→DB,getElem?_take_of_lt→Eu,length→O,length_append→Do,length_cons→D3,length_eq_zero_iff→DA,length_map→DC,length_set→EU,length_singleton→Dy,length_take→DW,map_set→JQ,map_take→Hr,mem_append→Ec,mem_cons→DR,mem_of_getElem?→Dq,mem_of_mem_drop→FB,mem_of_mem_take→EB,mem_or_eq_of_mem_set→Fc,nil_append→El,not_mem_nil→Ds,replicate→Dp,replicate_succ→Fx,replicate_succ'→GP,replicate_zero→FK,set_append_right→Eo,take_append_drop→Ep,take_append_of_le_length→Fk,take_length→DO,take_of_length_le→DK,take_take→GO,take_zero→Fe
open Nat renaming Coprime→Hk,add_assoc→HO,add_comm→EY,add_mul→DE,add_mul_div_left→HW,add_mul_mod_self_left→GF,add_mul_mod_self_right→Gx,add_zero→Ej,and_one_is_mod→KC,and_two_pow_sub_one_eq_mod→IR,beq→Eh,beq_refl→Ix,ble→DX,ble_eq_true_of_le→Dv,blt→Iu,div_add_mod→EP,div_eq_of_lt→Fz,div_le_self→FL,div_lt_iff_lt_mul→Ff,div_mul_le_self→Kl,dvd_of_mod_eq_zero→JS,eq_of_beq_eq_true→Eb,eq_of_mul_eq_mul_left→G9,eq_of_mul_eq_mul_right→G4,gcd→DH,gcd_comm→FJ,gcd_sub_self_right→JR,gcd_zero_right→HH,le_div_iff_mul_le→Ge,le_of_ble_eq_true→D5,le_refl→Fu,le_succ→DM,le_total→ak3,le_trans→Ed,lt_of_le_of_lt→DP,lt_of_lt_of_le→DY,lt_or_gt_of_ne→Iq,lt_trichotomy→Hh,max_eq_left→ae9,max_eq_right→ac4,min→Jd,min_eq_left→Ev,min_eq_right→JI,mod_eq_of_lt→Dz,mod_lt→EA,mul_add→D4,mul_assoc→DG,mul_comm→Dt,mul_div_cancel_left→F1,mul_le_mul→Es,mul_le_mul_left→DT,mul_le_mul_right→Dw,mul_left_comm→ER,mul_lt_mul_of_pos_right→FG,mul_mod_mul_left→HX,mul_mod_mul_right→HP,mul_mod_right→Iz,mul_one→Ek,mul_pos→Fw,mul_right_comm→Gi,mul_zero→Fp,one_mul→EM,or_eq_zero_iff→KB,or_lt_two_pow→JA,or_mod_two_pow→KA,pow_add→EH,pow_le_pow_left→Ig,pow_le_pow_right→DJ,pow_mul→Hj,pow_pos→Er,pow_succ→DI,pow_zero→FD,sub_self→Ee,sub_zero→Gv,two_pow_add_eq_or_of_lt→Je,zero_add→D7,zero_mul→EI
open Nat.Coprime renaming gcd_mul_left_cancel_right→H8,pow_right→am1
open Option renaming getD_none→JK,getD_some→JJ,isNone_none→F2,isSome_iff_exists→Eg
open Option.some renaming inj→ET,injEq→HR
open Prod.mk renaming injEq→FV
open UInt8 renaming ofNat→EV
set_option maxHeartbeats 8000000
set_option linter.unusedVariables false
set_option linter.unusedSimpArgs false
namespace Go.GL
open Go
variable {α β:Type}{b i j m n d n0 nt:Nat}{e:TypeId}{vs args:List Value}{v:Value}{w:List Nat}{o:Oper}{E:Env}{f:FuncId}
abbrev TF:=Nat→Value
inductive BF where
 |row (c:List Value) (e:TypeId)
 |ro (c:List Value)
 |loop (ready:Bool) (pending:Option Code) (t:TF) (nt:Nat) (ps:List Tmp) (assign body:Code) (d:Nat)
 |dfr
abbrev HF:=Nat→Option BF
def BF.cells:BF→Option (List Value)
 | .row c _=>some c
 | .ro c=>some c
 |_=>none
noncomputable def Blk.view:Blk→BF
 | .row c e=>.row c e
 | .ro c=>.ro c
 | .loop r p t nt ps a b d=>.loop r p (nth t) nt ps a b d
 | .dfr=>.dfr
noncomputable def hv(h:Hp):HF:=fun b=>(h.at b).map Blk.view
def upd{α:Type}(f:Nat→α)(i:Nat)(v:α):Nat→α:=fun j=>if j=i then v else f j
theorem ze(f:Nat→α)(i:Nat)(v:α):upd f i v i=v:=by simp[upd]
theorem zg{f:Nat→α}{v:α}(h:j≠i):upd f i v j=f j:=by simp[upd,h]
theorem yI(f:Nat→α)(i:Nat)(v w:α):upd (upd f i v) i w=upd f i w:=by
 funext j;simp only[upd];split<;>rfl
theorem upd_self{f:Nat→α}{v:α}(h:f i=v):upd f i v=f:=by
 funext j;simp only[upd];split
 .rename_i e;rw[e,h]
 rfl
theorem dp(t:Tr Value)(i:Nat)(v:Value):nth (If t i v)=upd (nth t) i v:=by
 funext j;exact Jn undef rfl t i v j
theorem so(h:Hp)(b:Nat)(x:Option Blk):hv (If h b x)=upd (hv h) b (x.map Blk.view):=by
 funext c;unfold hv upd;rw[show Hp.at (If h b x) c=if c=b then x else h.at c from Jn none rfl h b x c];split<;>rfl
theorem NE{h:Hp}{x:Blk}(e:h.at b=some x):hv h b=some x.view:=by simp[hv,e]
theorem tX{h:Hp}{y:BF}(e:hv h b=some y):∃x,h.at b=some x∧x.view=y:=by
 unfold hv at e;simpa using e
theorem SJ(x:Blk):x.view.cells=x.cells:=by cases x<;>rfl
theorem SK{x:Blk}{c:List Value}(h:x.view=.row c e):x=.row c e:=by
 cases x<;>simp[Blk.view]at h;obtain⟨rfl,rfl⟩:=h;rfl
def KM(τ:TF):Operand→Value
 | .tmp i=>τ i
 | .const v=>(match closed v with|true=>v|false=>undef)
 | .global g=>Dn (some ⟨3*g,0,none⟩)
 | .func f=>.func (.func f) #[] #[]
theorem cg(t:Tr Value):ev t=KM (nth t):=by funext x;cases x<;>rfl
def tn(h:HF)(a:Addr)(n:Nat):Option (List Value):=
 match h a.block with
 |some x=>(match x.cells with|some c=>(match DX (a.off+n) (O c)&&a.spot.isNone with|true=>some ((c.drop a.off).take n)|false=>none)|none=>none)
 |none=>none
theorem aM(h:Hp)(a:Addr)(n:Nat):kl h a n=tn (hv h) a n:=by
 unfold kl tn;cases e:h.at a.block with
 |none=>simp[hv,e]
 |some x=>rw[NE e];simp only[SJ];rfl
def vJ(h:HF)(a:Addr)(vs:List Value):Option HF:=
 match h a.block with
 |some (.row c e)=>(match DX (a.off+O vs) (O c)&&(a.spot.isNone&&ones vs)with|true=>some (upd h a.block (some (.row (zv c a.off vs) e)))|false=>none)
 |_=>none
theorem me{h:Hp}{a:Addr}{g:HF}(d:vJ (hv h) a vs=some g):∃h',pY h a vs=some h'∧hv h'=g:=by
 unfold vJ at d;split at d
 .rename_i c e hb;obtain⟨x,f,l⟩:=tX hb;have:=SK l;subst this;split at d
  .rename_i hc;injection d with d
   refine⟨If h a.block (some (.row (zv c a.off vs) e)),?_,?_⟩
   .unfold pY;rw[f];simp only[hc,wT,H6]
   rw[so,←d];rfl
  cases d
 cases d
def yE(E:Env)(t:TypeId)(h:HF)(a:Addr):Option Value:=
 match isAgg E t,E.inf t with
 |some true,some (sz,_,_)=>(tn h a sz).map fun cs=>.agg cs.toArray
 |some false,_=>match tn h a 1 with|some [v]=>some v|_=>none
 |_,_=>none
theorem aK(E:Env)(t:TypeId)(h:Hp)(a:Addr):mO E t h a=yE E t (hv h) a:=by
 unfold mO yE;simp only[aM];rfl
inductive RF where
 |val (v:Value) (h:HF) (n:Nat) (w:List Nat)
 |enter (f:FuncId) (args:List Value)
 |round (l:Nat) (args:List Value)
noncomputable def R.view:R→RF
 | .val v h n w=>.val v (hv h) n w
 | .enter f a=>.enter f a
 | .round l a=>.round l a
def yo(h:HF)(size n:Nat):Value→Option (List Value)
 | Y (some a) _ _=>if n*size=0 then some []else tn h a (n*size)
 | Y none _ _=>some []
 | Dl s=>some ((s.data.toList.take n).map fun b=>U .u8 b.toNat)
 |_=>none
theorem qE(h:Hp)(a n:Nat)(v:Value):vv h a n v=yo (hv h) a n v:=by
 unfold vv yo;split<;>simp only[aM]
def gn(h:HF)(b cells:Nat)(e:TypeId):Bool:=match h b with|some (.row c e')=>Eh (O c) cells&&Eh e' e|_=>false
theorem SL(h:Hp)(b cells:Nat)(e:TypeId):M7 h b cells e=gn (hv h) b cells e:=by
 unfold M7 gn;cases hx:h.at b with
 |none=>simp[hv,hx]
 |some x=>rw[NE hx];cases x<;>rfl
def gY(h:HF)(n:Nat)(e:TypeId)(cs:List Value)(need cells sz:Nat)(base:Option Addr):Option RF:=
 match base with
 |none=>some (.val (Y (some ⟨3*n+1,0,none⟩) need need) (upd h (3*n+1) (some (.row cs e))) (n+1) [])
 |some a=>
  match gro a.block with
  |true=>
   match Eh a.off 0&&(a.spot.isNone&&(gn h a.block cells e&&(ones cs&&Eh (O cs) (need*sz))))with
   |true=>some (.val (Y (some ⟨3*n+1,0,none⟩) need need) (upd (upd h a.block none) (3*n+1) (some (.row cs e))) (n+1) [a.block])
   |false=>none
  |false=>some (.val (Y (some ⟨3*n+1,0,none⟩) need need) (upd h (3*n+1) (some (.row cs e))) (n+1) [])
def To{α β:Type}(view:α→β)(a:Option α)(b:Option β):Prop:=∀y,b=some y→∃x,a=some x∧view x=y
theorem SM(h:Hp)(n:Nat)(e:TypeId)(cs:List Value)(need cells sz:Nat)(d:Option Addr):To R.view (Mp h n e cs need cells sz d) (gY (hv h) n e cs need cells sz d):=by
 intro y c;unfold gY at c;unfold Mp;cases d with
 |none=>
  injection c with c
  subst c;exact⟨_,H6 _ _ _ _,BA⟩
 |some a=>
  simp only at c⊢;cases hg:gro a.block with
  |true=>
   simp only[hg,SL]at c⊢;split at c
   .rename_i hc;injection c with c
    subst c;simp only[hc,H6];exact⟨_,rfl,BA⟩
   cases c
  |false=>
   simp only[hg]at c⊢;injection c with c
   subst c;exact⟨_,H6 _ _ _ _,BA⟩
def uM(h:HF)(n size need:Nat)(base:Option Addr)(sLen sCap:Nat)(new:List Value):Option RF:=
 match base,new with
 |_,[]=>some (.val (Y base need sCap) h n [])
 |some a,new=>(match vJ h (a.add (sLen*size)) new with|some h=>some (.val (Y base need sCap) h n [a.block])|none=>none)
 |none,_=>none
theorem SN(h:Hp)(n m need:Nat)(d:Option Addr)(l f:Nat)(new:List Value):To R.view (rN h n m need d l f new) (uM (hv h) n m need d l f new):=by
 intro y c;cases new with
 |nil=>
  cases d<;>(unfold uM at c;unfold rN;injection c with c;subst c;exact⟨_,rfl,rfl⟩)
 |cons v new=>
  cases d with
  |none=>cases c
  |some a=>
   unfold uM at c;unfold rN;simp only at c⊢;split at c
   .rename_i g hg;injection c with c
    subst c;exact CP
   cases c
def yP(E:Env)(h:HF)(n:Nat)(sT:TypeId)(s x:Value):Option RF:=
 match E.und sT with
 |some (.slice e)=>
  match E.inf e,s,lenOf? x with
  |some (size,bytes,z),Y base sLen sCap,some m=>
   match yo h size m x with
   |some new=>
    match DX ((sLen+m)*bytes) 1099511627776&&(Eh (O (zr z)) size&&DX 1 size&&DX 1 bytes)with
    |true=>
     match DX (sLen+m) sCap with
     |true=>uM h n size (sLen+m) base sLen sCap new
     |false=>
      match yo h size sLen s with
      |some old=>gY h n e (old++new) (sLen+m) (sCap*size) size base
      |none=>none
    |false=>none
   |none=>none
  |_,_,_=>none
 |_=>none
theorem SO(E:Env)(h:Hp)(n:Nat)(sT:TypeId)(s x:Value):To R.view (pR E h n sT s x) (yP E (hv h) n sT s x):=by
 intro y a;unfold yP at a;unfold pR;split at a
 .rename_i e hu;simp only[hu];split at a
  .rename_i size bytes z base sLen sCap m hi hm;simp only[hi,hm,qE];split at a
   .rename_i new hnew;simp only[hnew];split at a
    .rename_i hc;simp only[hc];split at a
     .rename_i hp;simp only[hp];exact SN _ _ _ _ _ _ _ _ y a
     rename_i hp;simp only[hp];split at a
     .rename_i old hold;simp only[hold,wT];exact SM _ _ _ _ _ _ _ _ y a
     cases a
    cases a
   cases a
  cases a
 cases a
def kn(E:Env)(h:HF)(n:Nat)(dT:TypeId)(d x:Value):Option RF:=
 match E.und dT with
 |some (.slice e)=>
  match E.inf e,d,lenOf? x with
  |some (size,_,_),Y base dLen _,some m=>
   match yo h size (Jd m dLen) x,base with
   |some [],_=>some (.val (goInt (Jd m dLen)) h n [])
   |some cs,some a=>(match vJ h a cs with|some h=>some (.val (goInt (Jd m dLen)) h n [a.block])|none=>none)
   |_,_=>none
  |_,_,_=>none
 |_=>none
theorem SP(E:Env)(h:Hp)(n:Nat)(l:TypeId)(d x:Value):To R.view (Mq E h n l d x) (kn E (hv h) n l d x):=by
 intro y f;unfold kn at f;unfold Mq;split at f
 .rename_i e hu;simp only[hu];split at f
  .rename_i size _ _ base dLen c m hi hm;simp only[hi,hm,qE];cases hcs:yo (hv h) size (Jd m dLen) x with
   |none=>rw[hcs]at f;cases base<;>cases f
   |some cs=>
    rw[hcs]at f;cases cs with
    |nil=>
     cases base<;>(simp only at f⊢;injection f with f;subst f;exact⟨_,rfl,rfl⟩)
    |cons v cs=>
     cases base with
     |none=>cases f
     |some a=>
      simp only at f⊢;split at f
      .rename_i g hg;injection f with f
       subst f;exact CP
      cases f
  cases f
 cases f
def sj(E:Env)(t:TypeId)(a x:Value)(h:HF)(n:Nat):Option RF:=
 match a,E.inf t with
 | Dn (some ad),some (sz,_,_)=>
  match Eh (O (zr x)) sz with
  |true=>(match vJ h ad (zr x)with|some h=>some (.val undef h n [ad.block])|none=>none)
  |false=>none
 |_,_=>none
theorem SQ(E:Env)(t:TypeId)(a x:Value)(h:Hp)(n:Nat):To R.view (kx E t a x h n) (sj E t a x (hv h) n):=by
 intro y c;unfold sj at c;unfold kx;split at c
 .rename_i ad sz _ _ hi;simp only[hi];split at c
  .rename_i hl;simp only[hl];split at c
   .rename_i g hg;injection c with c
    subst c;obtain⟨l,d,f⟩:=me hg;rw[d];exact⟨_,rfl,by simp[R.view,f]⟩
   cases c
  cases c
 cases c
def OY(E:Env)(f:Value)(args:List Value)(h:HF)(n:Nat):Option RF:=
 match f with
 | .func (.func g) first cap=>(match E.ext g (first.toList++(args++cap.toList))with|some v=>some (.val v h n [])|none=>some (.enter g (first.toList++(args++cap.toList))))
 | .func (.yield l) first _=>some (.round l (first.toList++args))
 |_=>none
def appF(E:Env)(ts:List TypeId)(args:List Value)(h:HF)(n:Nat):Option RF:=
 match args,ts with
 |[s,x],[sT,xT]=>(match E.und xT with|some (.int _)=>none|none=>none|_=>yP E h n sT s x)
 |_,_=>none
def cpyF(E:Env)(ts:List TypeId)(args:List Value)(h:HF)(n:Nat):Option RF:=
 match args,ts with
 |[s,x],sT::_=>kn E h n sT s x
 |_,_=>none
def O0(E:Env)(c:Callee)(ts:List TypeId)(ρ:Operand→Value)(args:List Value)(h:HF)(n:Nat):Option RF:=
 match c with
 | .builtin .append=>appF E ts args h n
 | .builtin .copy=>cpyF E ts args h n
 | .value f=>OY E (ρ f) args h n
 |_=>none
def effF(E:Env)(o:Op)(ρ:Operand→Value)(h:HF)(n:Nat):Option RF:=
 match o with
 | .store t a x=>sj E t (ρ a) (ρ x) h n
 | .call c=>O0 E c.callee c.argTypes.toList ρ (c.args.toList.map ρ) h n
 |_=>none
theorem NF(E:Env)(o:Op)(ρ:Operand→Value)(h:Hp)(n:Nat):To R.view (effE E o ρ h n) (effF E o ρ (hv h) n):=by
 intro y a;unfold effF at a;unfold effE;split at a
 .exact SQ _ _ _ _ _ _ y a
 .rename_i c;unfold O0 at a;unfold pQ;split at a
  .rename_i hcal;simp only[hcal];unfold appF at a;unfold appE;split at a
   .rename_i s x sT xT hs hT;simp only[hs,hT];split at a
    .cases a
    .cases a
    rename_i h1 h2;cases hu:E.und xT with
    |none=>exact oU hu h2
    |some d=>
     cases d with
     |int k=>exact oU hu (h1 k)
     |_=>exact SO _ _ _ _ _ _ y a
   cases a
  .rename_i hcal;simp only[hcal];unfold cpyF at a;unfold cpyE;split at a
   .rename_i s x sT r hs hT;simp only[hs,hT];exact SP _ _ _ _ _ _ y a
   cases a
  .rename_i f hcal;simp only[hcal];unfold OY at a;unfold ML;cases hf:ρ f with
   |func p first m=>
    rw[hf]at a;cases p with
    |func g=>
     simp only at a⊢;cases hx:E.ext g (first.toList++(c.args.toList.map ρ++m.toList))with
     |none=>simp only[hx]at a⊢;injection a with a;subst a;exact⟨_,rfl,rfl⟩
     |some v=>simp only[hx]at a⊢;injection a with a;subst a;exact⟨_,rfl,rfl⟩
    |yield l=>simp only at a⊢;injection a with a;subst a;exact⟨_,rfl,rfl⟩
    |_=>cases a
   |_=>rw[hf]at a;cases a
  cases a
 cases a
def pj(E:Env)(t d:TypeId)(x:Value)(h:HF):Option Value:=
 match x,E.und t,E.und d with
 | Y a len c,some (.slice e),some .string=>
  match E.und e,yo h 1 len (Y a len c)with
  |some (.int .u8),some cs=>(match oP cs with|some l=>some (Dl ⟨⟨l⟩⟩)|none=>none)
  |_,_=>none
 |_,_,_=>none
theorem SS(E:Env)(t d:TypeId)(x:Value)(h:Hp):MM E t d x h=pj E t d x (hv h):=by
 unfold MM pj;simp only[qE];rfl
def na(E:Env)(o:Op)(ρ:Operand→Value)(h:HF):Option (Value×Nat):=
 match o with
 | .load t a=>(match ρ a with| Dn (some ad)=>(match yE E t h ad with|some v=>some (v,ad.block)|none=>none)|_=>none)
 |_=>none
theorem O1(E:Env)(o:Op)(ρ:Operand→Value)(h:Hp):tW E o ρ h=na E o ρ (hv h):=by
 unfold tW na;simp only[aK];rfl
structure SV where
 t:TF
 h:HF
 n:Nat
 w:List Nat
noncomputable def vw(s:St):SV:=⟨nth s.t,hv s.h,s.n,s.w⟩
structure CalF where
 call:FuncId→List Value→HF→Nat→Option (Value×HF×Nat×List Nat)
 yl:Nat→List Value→HF→Nat→Option (Value×HF×Nat×List Nat)
structure CtxF where
 E:Env
 C:CalF
 L:Nat
 round:Option Nat
 n0:Nat
 nt:Nat
noncomputable def rv(r:Value×Hp×Nat×List Nat):Value×HF×Nat×List Nat:=(r.1,hv r.2.1,r.2.2.1,r.2.2.2)
structure CalTo (C:Cal)(F:CalF):Prop where
 call:∀f args h n,To rv (C.call f args h n) (F.call f args (hv h) n)
 yl:∀l args h n,To rv (C.yl l args h n) (F.yl l args (hv h) n)
structure CtxTo (X:Ctx)(Z3:CtxF):Prop where
 E:X.E=Z3.E
 C:CalTo X.C Z3.C
 L:X.L=Z3.L
 round:X.round=Z3.round
 n0:X.n0=Z3.n0
 nt:X.nt=Z3.nt
def zu(nt:Nat):Option Tmp→Bool
 |some i=> !Nat.ble nt i
 |none=>true
def putF(τ:TF):Option Tmp→Value→TF
 |some i,v=>upd τ i v
 |none,_=>τ
def wp{β:Type}(X:CtxF)(s:SV)(d:Option Tmp)(v:Value)(h:HF)(n:Nat)(w:List Nat)(k:SV→Option β):Option β:=
 match zu X.nt d with
 |true=>k ⟨putF s.t d v,h,n,addW X.n0 w s.w⟩
 |false=>none
theorem vR{c:α→β}{X:Ctx}{Z3:CtxF}(a:CtxTo X Z3){s:St}{d:Option Tmp}{h:Hp}{k:St→Option α}{g:SV→Option β}(f:∀s,To c (k s) (g (vw s))):
  To c (done X s d v h n w k) (wp Z3 (vw s) d v (hv h) n w g):=by
 intro y b;unfold wp at b;unfold done;rw[pa];split at b
 .rename_i e;cases d with
  |none=>
   simp only[putK,wb];refine f _ y ?_;rw[←b,a.n0];rfl
  |some i=>
   have e:DX X.nt i=false:=by rw[a.nt];simpa [zu]using e
   simp only[putK,e,H6,wb];refine f _ y ?_;rw[←b,a.n0];simp[vw,putF,dp]
 cases b
def Mf{β:Type}(X:CtxF)(s:SV)(d:Option Tmp)(m:Mk)(k:SV→Option β):Option β:=
 wp X s d (m.val s.n) (upd s.h (m.name s.n) (some (.row m.c m.e))) (s.n+1) [] k
theorem NG{a:α→β}{X:Ctx}{Z3:CtxF}(b:CtxTo X Z3){s:St}{d:Option Tmp}{m:Mk}{k:St→Option α}{f:SV→Option β}(g:∀s,To a (k s) (f (vw s))):
  To a (Mc X s d m k) (Mf Z3 (vw s) d m f):=by
 unfold Mc Mf;rw[wT,H6];have:=vR b (s:=s) (d:=d) (v:=m.val s.n) (h:=If s.h (m.name s.n) (some (.row m.c m.e))) (n:=s.n+1) (w:=[]) g;rw[so]at this;exact this
def ng{β:Type}(X:CtxF)(s:SV)(o:Oper)(k:SV→List Nat→Option β):Option β:=
 match effF X.E o.op (KM s.t) s.h s.n with
 |some (.val v h n w)=>wp X s o.dst v h n w fun s=>k s w
 |some (.enter f args)=>(match X.C.call f args s.h s.n with|some (v,h,n,w)=>wp X s o.dst v h n w fun s=>k s w|none=>none)
 |some (.round l args)=>(match X.C.yl l args s.h s.n with|some (v,h,n,w)=>wp X s o.dst v h n w fun s=>k s w|none=>none)
 |none=>none
theorem O2{j:α→β}{X:Ctx}{Z3:CtxF}(a:CtxTo X Z3){s:St}{k:St→List Nat→Option α}{B:SV→List Nat→Option β}(u:∀s w,To j (k s w) (B (vw s) w)):
  To j (effK X s o k) (ng Z3 (vw s) o B):=by
 intro y b;unfold ng at b;unfold effK;split at b
 .rename_i v h n w he;obtain⟨r,d,e⟩:=NF _ _ _ _ _ _ he;rw[a.E,cg,show effE Z3.E o.op (KM (nth s.t)) s.h s.n=some r from d];cases r with
  |val F A D p=>
   simp only[R.view,RF.val.injEq]at e;obtain⟨rfl,rfl,rfl,rfl⟩:=e;exact vR a (fun s=>u s p) y b
  |enter=>cases e
  |round=>cases e
 .rename_i f args he;obtain⟨r,d,e⟩:=NF _ _ _ _ _ _ he;rw[a.E,cg,show effE Z3.E o.op (KM (nth s.t)) s.h s.n=some r from d];cases r with
  |enter f' args'=>
   simp only[R.view,RF.enter.injEq]at e;obtain⟨rfl,rfl⟩:=e;simp only;split at b
   .rename_i v g n w hc;obtain⟨⟨F,A,D,p⟩,q,c⟩:=a.C.call _ _ _ _ _ hc;simp only[rv,FV]at c;obtain⟨rfl,rfl,rfl,rfl⟩:=c;rw[show X.C.call f' args' s.h s.n=_ from q];exact vR a (fun s=>u s p) y b
   cases b
  |val=>cases e
  |round=>cases e
 .rename_i l args he;obtain⟨r,d,e⟩:=NF _ _ _ _ _ _ he;rw[a.E,cg,show effE Z3.E o.op (KM (nth s.t)) s.h s.n=some r from d];cases r with
  |round l' args'=>
   simp only[R.view,RF.round.injEq]at e;obtain⟨rfl,rfl⟩:=e;simp only;split at b
   .rename_i v g n w hc;obtain⟨⟨F,A,D,p⟩,q,c⟩:=a.C.yl _ _ _ _ _ hc;simp only[rv,FV]at c;obtain⟨rfl,rfl,rfl,rfl⟩:=c;rw[show X.C.yl l' args' s.h s.n=_ from q];exact vR a (fun s=>u s p) y b
   cases b
  |val=>cases e
  |enter=>cases e
 cases b
def Lv{β:Type}(X:CtxF)(s:SV)(o:Oper)(k:SV→Option β):Option β:=
 match KS o.op with
 |0=>(match yJ X.E o.op (KM s.t)with|some v=>wp X s o.dst v s.h s.n [] k|none=>none)
 |1=>(match na X.E o.op (KM s.t) s.h with|some (v,_)=>wp X s o.dst v s.h s.n [] k|none=>none)
 |2=>(match KX X.E o.op (KM s.t)with|some m=>Mf X s o.dst m k|none=>none)
 |3=>ng X s o fun s _=>k s
 |_=>
  match KX X.E o.op (KM s.t)with
  |some m=>Mf X s o.dst m k
  |none=>
   match o.op with
   | .convert t d x=>(match pj X.E t d (KM s.t x) s.h with|some v=>wp X s o.dst v s.h s.n [] k|none=>(match yJ X.E o.op (KM s.t)with|some v=>wp X s o.dst v s.h s.n [] k|none=>none))
   |_=>none
theorem SU{g:α→β}{X:Ctx}{Z3:CtxF}(e:CtxTo X Z3){s:St}{k:St→Option α}{l:SV→Option β}(f:∀s,To g (k s) (l (vw s))):
  To g (Mi X s o k) (Lv Z3 (vw s) o l):=by
 intro y a;have j:ev s.t=KM (vw s).t:=cg _;unfold Lv at a;unfold Mi;rw[e.E,j];cases hc:KS o.op with
 |zero=>
  simp only[hc]at a⊢;split at a
  .rename_i v hv';rw[hv'];exact vR e f y a
  cases a
 |succ c=>
  cases c with
  |zero=>
   simp only[hc]at a⊢;split at a
   .rename_i v b hv';rw[O1,show na Z3.E o.op (KM (vw s).t) (hv s.h)=some (v,b)from hv'];exact vR e f y a
   cases a
  |succ c=>
   cases c with
   |zero=>
    simp only[hc]at a⊢;split at a
    .rename_i m hm;rw[hm];exact NG e f y a
    cases a
   |succ c=>
    cases c with
    |zero=>
     simp only[hc]at a⊢;exact O2 e (fun s _=>f s) y a
    |succ c=>
     simp only[hc]at a⊢;split at a
     .rename_i m hm;simp only[hm];exact NG e f y a
     rename_i hm;simp only[hm];split at a
     .rename_i t d x ho;simp only[ho,SS];simp only[ho]at a;cases ht:pj Z3.E t d (KM (vw s).t x) (vw s).h with
      |some v=>
       rw[ht]at a;rw[show pj Z3.E t d (KM (vw s).t x) (hv s.h)=some v from ht];exact vR e f y a
      |none=>
       rw[ht]at a;rw[show pj Z3.E t d (KM (vw s).t x) (hv s.h)=none from ht];simp only at a⊢;split at a
       .rename_i v hv';rw[hv'];exact vR e f y a
       cases a
     cases a
def zh(ops:List Oper)(τ:TF)(o:Oper):Bool:=
 match o.guard with
 |none=>true
 |some (j,b)=>
  match ops[j]? with
  |some g=>(match g.dst with|some d=>(match τ d with| Dk c=>(match b,c with|true,true=>true|false,false=>true|_,_=>false)|_=>false)|none=>false)
  |none=>false
theorem ks(ops:List Oper)(t:Tr Value)(o:Oper):uo ops t o=zh ops (nth t) o:=rfl
def seqF(X:CtxF)(ops:List Oper):List Oper→SV→Option SV
 |[],s=>some s
 |o::r,s=>(match zh ops s.t o with|true=>Lv X s o (seqF X ops r)|false=>wp X s o.dst undef s.h s.n [] (seqF X ops r))
theorem SW{X:Ctx}{Z3:CtxF}(a:CtxTo X Z3)(ops:List Oper):∀(l:List Oper) (s:St),To vw (qa X ops l s) (seqF Z3 ops l (vw s)):=by
 intro l;induction l with
 |nil=>intro s y b;injection b with b;exact⟨s,rfl,b⟩
 |cons o l ih=>
  intro s;show To vw (Bool.rec (motive:=fun _=>Option St) (done X s o.dst undef s.h s.n [] (qa X ops l)) (Mi X s o (qa X ops l)) (uo ops s.t o)) _;unfold seqF;rw[ks];cases hw:zh ops (nth s.t) o with
  |true=>
   rw[show zh ops (vw s).t o=true from hw];exact SU a ih
  |false=>
   rw[show zh ops (vw s).t o=false from hw];exact vR a ih
structure DF where
 s:SV
 al:List (Nat×Nat)
 ld:List (Nat×Nat)
 ef:List (Nat×HF×List Nat)
noncomputable def LP(l:List (Nat×Hp×List Nat)):List (Nat×HF×List Nat):=l.map fun x=>(x.1,hv x.2.1,x.2.2)
noncomputable def dv(d:Dr):DF:=⟨vw d.s,d.al,d.ld,LP d.ef⟩
def wS(u b:Nat):List (Nat×HF×List Nat)→Bool
 |[]=>true
 |(e,_,W)::r=>(match Iu e u|| !memN b W with|true=>wS u b r|false=>false)
def vm(m:Nat):List (Nat×HF×List Nat)→Nat→HF→Nat×HF
 |[],u,h=>(u,h)
 |(e,g,_)::r,u,h=>(match m.testBit e with|true=>vm m r u h|false=>vm m r e g)
def xF(m:Nat):List (Nat×HF×List Nat)→Bool
 |[]=>true
 |(j,_)::r=>(match m.testBit j with|true=>xF m r|false=>false)
theorem SX(u b:Nat)(l:List (Nat×Hp×List Nat)):ot u b l=wS u b (LP l):=by
 induction l with
 |nil=>rfl
 |cons x l ih=>
  obtain⟨e,g,W⟩:=x;show(match Iu e u|| !memN b W with|true=>ot u b l|false=>false)=(match Iu e u|| !memN b W with|true=>wS u b (LP l)|false=>false);rw[ih]
theorem SY(m:Nat)(l:List (Nat×Hp×List Nat)):fP m l=xF m (LP l):=by
 induction l with
 |nil=>rfl
 |cons x l ih=>
  obtain⟨e,g,W⟩:=x;show(match m.testBit e with|true=>fP m l|false=>false)=(match m.testBit e with|true=>xF m (LP l)|false=>false);rw[ih]
theorem SZ(m:Nat):∀(l:List (Nat×Hp×List Nat)) (u:Nat) (h:Hp),vm m (LP l) u (hv h)=((tf m l u h).1,hv (tf m l u h).2):=by
 intro l;induction l with
 |nil=>intro u h;rfl
 |cons x l ih=>
  intro u h;obtain⟨e,g,W⟩:=x;show(match m.testBit e with|true=>vm m (LP l) u (hv h)|false=>vm m (LP l) e (hv g))=_;unfold tf;split
  .rename_i hb;simp only[hb];exact ih u h
  rename_i hb;simp only[hb];exact ih e g
def qx{β:Type}(X:CtxF)(i m:Nat)(o:Oper)(d:DF)(k:DF→Option β):Option β:=
 match KS o.op with
 |1=>
  match vm m d.ef i d.s.h with
  |(u,h)=>
   match na X.E o.op (KM d.s.t) h with
   |some (v,b)=>(match wS u b d.ef&&pz m b d.al with|true=>wp X d.s o.dst v d.s.h d.s.n [] fun s=>k {d with s,ld:=(i,b)::d.ld}|false=>none)
   |none=>none
 |2=>
  match KX X.E o.op (KM d.s.t)with
  |some mk=>Mf X d.s o.dst mk fun s=>k {d with s,al:=(i,mk.name d.s.n)::d.al}
  |none=>none
 |3=>
  match xF m d.ef&&xW m d.al with
  |true=>ng X d.s o fun s W=>(match yd m W d.ld&&DX d.s.n s.n with|true=>k {d with s,ef:=(i,d.s.h,W)::d.ef}|false=>none)
  |false=>none
 |_=>(match yJ X.E o.op (KM d.s.t)with|some v=>wp X d.s o.dst v d.s.h d.s.n [] fun s=>k {d with s}|none=>none)
theorem S1{f:α→β}{X:Ctx}{Z3:CtxF}(c:CtxTo X Z3){d:Dr}{k:Dr→Option α}{p:DF→Option β}(g:∀d,To f (k d) (p (dv d))):
  To f (MN X i m o d k) (qx Z3 i m o (dv d) p):=by
 intro y a;have l:ev d.s.t=KM (dv d).s.t:=cg _;unfold qx at a;unfold MN;rw[c.E,l];split at a
 .rename_i hc;simp only[hc];rw[show vm m (dv d).ef i (dv d).s.h=_ from SZ m d.ef i d.s.h]at a;generalize tf m d.ef i d.s.h=uh at a;obtain⟨u,h⟩:=uh;simp only at a⊢;split at a
  .rename_i v b hl;rw[O1,hl];simp only;split at a
   .rename_i hok;rw[SX,show(wS u b (LP d.ef)&&pz m b d.al)=true from hok];exact vR c (fun s=>g {d with s,ld:=(i,b)::d.ld}) y a
   cases a
  cases a
 .rename_i hc;simp only[hc];split at a
  .rename_i mk hm;rw[hm];exact NG c (fun s=>g {d with s,al:=(i,mk.name d.s.n)::d.al}) y a
  cases a
 .rename_i hc;simp only[hc];split at a
  .rename_i hok;rw[SY,show(xF m (LP d.ef)&&xW m d.al)=true from hok];refine O2 c (fun s W=>?_) y a;intro z j;split at j
   .rename_i hok2;rw[show(yd m W d.ld&&DX d.s.n s.n)=true from hok2];exact g {d with s,ef:=(i,d.s.h,W)::d.ef} z j
   cases j
  cases a
 rename_i h1 h2 h3;have:∀(A B C D:Option α),(match KS o.op with|1=>A|2=>B|3=>C|_=>D)=D:=fun A B C D=>by
  split
  .exact oU nN h1
  .exact oU nN h2
  .exact oU nN h3
  rfl
 have e:=this;split
 .exact oU nN h1
 .exact oU nN h2
 .exact oU nN h3
 split at a
 .rename_i v hv';rw[hv'];exact vR c (fun s=>g {d with s}) y a
 cases a
def z9(X:CtxF)(ops:List Oper):List Oper→List Nat→Nat→DF→Option SV
 |[],_,_,d=>some d.s
 |o::r,m::ms,i,d=>
  match zh ops d.s.t o with
  |true=>qx X i m o d fun d=>z9 X ops r ms (i+1) d
  |false=>wp X d.s o.dst undef d.s.h d.s.n [] fun s=>z9 X ops r ms (i+1) {d with s}
 |_,_,_,_=>none
theorem S3{X:Ctx}{Z3:CtxF}(b:CtxTo X Z3)(ops:List Oper):∀(l:List Oper) (ms:List Nat) (i:Nat) (d:Dr),To vw (vp X ops l ms i d) (z9 Z3 ops l ms i (dv d)):=by
 intro l;induction l with
 |nil=>intro ms i d y a;unfold z9 at a;injection a with a;exact⟨d.s,by unfold vp;rfl,a⟩
 |cons o l ih=>
  intro ms i d;cases ms with
  |nil=>intro y a;cases a
  |cons m ms=>
   intro y a;unfold z9 at a;unfold vp;rw[ks];split at a
   .rename_i hw;rw[show zh ops (nth d.s.t) o=true from hw];exact S1 b (fun d=>ih ms (i+1) d) y a
   rename_i hw;rw[show zh ops (nth d.s.t) o=false from hw];exact vR b (fun s=>ih ms (i+1) {d with s}) y a
def dz(f:SV→Option (Ex×SV)):Nat→SV→Option (Ex×SV)
 |0,_=>none
 |n+1,s=>match f s with|some (.normal,s')=>dz f n s'|r=>r
noncomputable def LF(r:Ex×St):Ex×SV:=(r.1,vw r.2)
theorem S4{f:St→Option (Ex×St)}{g:SV→Option (Ex×SV)}(h:∀s,To LF (f s) (g (vw s))):∀(n:Nat) (s:St),To LF (dE f n s) (dz g n (vw s)):=by
 intro n;induction n with
 |zero=>intro s y a;cases a
 |succ n ih=>
  intro s y a;unfold dz at a;show ∃x,(match f s with|some (.normal,s')=>dE f n s'|r=>r)=some x∧LF x=y;split at a
  .rename_i s' hs;obtain⟨⟨e,d⟩,c,b⟩:=h s _ hs;simp only[LF,FV]at b;obtain⟨rfl,rfl⟩:=b;rw[c];exact ih d y a
  rename_i hne;obtain⟨⟨e,d⟩,c,b⟩:=h s _ a;subst b;refine⟨(e,d),?_,rfl⟩;rw[c];cases e with
  |normal=>exact oU a (hne _)
  |exit=>rfl
  |ret=>rfl
def gt(X:CtxF)(g:Value)(ps:List Tmp)(assign body:Code)(s:SV):Option (Ex×SV):=
 match g,X.round with
 | .func (.func gf) first cap,none=>
  match X.C.call gf (first.toList++([.func (.yield (3*(s.n+1)+2)) #[] #[]]++cap.toList)) (upd (upd s.h (3*s.n+2) (some .dfr)) (3*(s.n+1)+2) (some (.loop true none s.t X.nt ps assign body (3*s.n+2)))) (s.n+1+1)with
  |some (_,h3,n3,w3)=>
   match h3 (3*(s.n+1)+2),h3 (3*s.n+2)with
   |some (.loop r p _ _ _ _ _ _),some .dfr=>
    match MO r p with
    |some x=>some (x,⟨s.t,upd (upd h3 (3*(s.n+1)+2) none) (3*s.n+2) none,n3,addW X.n0 w3 s.w⟩)
    |none=>none
   |_,_=>none
  |none=>none
 |_,_=>none
theorem S8{X:Ctx}{Z3:CtxF}(d:CtxTo X Z3)(g:Value)(f:List Tmp)(a c:Code)(s:St):To LF (om X g f a c s) (gt Z3 g f a c (vw s)):=by
 intro y b;unfold gt at b;unfold om;split at b
 .rename_i gf first cap hr
  rw[d.round,hr];simp only[wb,H6,d.nt,d.n0];split at b
  .rename_i v3 g3 n3 w3 hc;have e:upd (upd (vw s).h (3*(vw s).n+2) (some BF.dfr)) (3*((vw s).n+1)+2) (some (.loop true none (vw s).t Z3.nt f a c (3*(vw s).n+2)))=
     hv (If (If s.h (3*s.n+2) (some .dfr)) (3*(s.n+1)+2) (some (.loop true none s.t Z3.nt f a c (3*s.n+2)))):=by
    rw[so,so];rfl
   rw[e]at hc;obtain⟨⟨G,l,F,H⟩,q,u⟩:=d.C.call _ _ _ _ _ hc;simp only[rv,FV]at u;obtain⟨rfl,rfl,rfl,rfl⟩:=u;have q:X.C.call gf (first.toList++([Value.func (Fn.yield (3*(s.n+1)+2)) #[] #[]]++cap.toList)) (If (If s.h (3*s.n+2) (some .dfr)) (3*(s.n+1)+2) (some (.loop true none s.t Z3.nt f a c (3*s.n+2)))) (s.n+1+1)=some (G,l,F,H):=q;rw[q];simp only;split at b
   .rename_i r p t' nt' ps' as' bd' d' hl hd;obtain⟨J,B,j⟩:=tX hl;obtain⟨I,A,D⟩:=tX hd;cases J<;>simp[Blk.view]at j;cases I<;>simp[Blk.view]at D;obtain⟨rfl,rfl,_⟩:=j;rw[show Hp.at l (3*(s.n+1)+2)=_ from B,show Hp.at l (3*s.n+2)=_ from A];simp only;split at b
    .rename_i x hj;injection b with b
     subst b;rw[hj];refine⟨_,rfl,?_⟩;simp only[LF,vw,so];rfl
    cases b
   cases b
  cases b
 cases b
def xQ(X:CtxF):Code→SV→Option (Ex×SV)
 | .skip,s=>some (.normal,s)
 | .region _ ops d,s=>(match d with
   |false=>(match seqF X ops.toList ops.toList s with|some s=>some (.normal,s)|none=>none)
   |true=>(match z9 X ops.toList ops.toList (wu ops.toList []) 0 ⟨s,[],[],[]⟩with|some s=>some (.normal,s)|none=>none))
 | .seq a b,s=>(match xQ X a s with|some (.normal,s')=>xQ X b s'|r=>r)
 | .cond c a b,s=>(match KM s.t c with| Dk true=>xQ X a s| Dk false=>xQ X b s|_=>none)
 | .block id b,s=>(match xQ X b s with|some (.exit j,s')=>(match Eh j id with|true=>some (.normal,s')|false=>some (.exit j,s'))|r=>r)
 | .loop b,s=>dz (xQ X b) X.L s
 | .rangeFunc f ps assign body,s=>gt X (KM s.t f) ps.toList assign body s
 | .exit id,s=>some (.exit id,s)
 | .scope b,s=>xQ X b s
 | .label _,s=>some (.normal,s)
 | .goto _,_=>none
 | .ret,s=>some (.ret,s)
 | .refuse _,_=>none
theorem d8{X:Ctx}{Z3:CtxF}(A:CtxTo X Z3):∀(c:Code) (s:St),To LF (uT X c s) (xQ Z3 c (vw s)):=by
 intro c;induction c with
 |skip=>intro s y g;injection g with g;exact⟨_,rfl,g⟩
 |label l=>intro s y g;injection g with g;exact⟨_,rfl,g⟩
 |exit id=>intro s y g;injection g with g;exact⟨_,rfl,g⟩
 |ret=>intro s y g;injection g with g;exact⟨_,rfl,g⟩
 |goto l=>intro s y g;cases g
 |refuse l=>intro s y g;cases g
 |region id ops d=>
  intro s y g;cases d with
  |false=>
   unfold xQ at g;simp only at g;split at g
   .rename_i u hs;injection g with g
    subst g;obtain⟨B,p,rfl⟩:=SW A _ _ s _ hs;refine⟨(.normal,B),?_,rfl⟩;show(match qa X ops.toList ops.toList s with|some s=>some (Ex.normal,s)|none=>none)=_;rw[p]
   cases g
  |true=>
   unfold xQ at g;simp only at g;split at g
   .rename_i u hs;injection g with g
    subst g;obtain⟨B,p,rfl⟩:=S3 A _ _ _ 0 ⟨s,[],[],[]⟩ _ hs;refine⟨(.normal,B),?_,rfl⟩;show(match vp X ops.toList ops.toList (wu ops.toList []) 0 ⟨s,[],[],[]⟩with|some s=>some (Ex.normal,s)|none=>none)=_;rw[p]
   cases g
 |seq a b iha ihb=>
  intro s y g;unfold xQ at g;show ∃x,(match uT X a s with|some (.normal,s')=>uT X b s'|r=>r)=some x∧LF x=y;split at g
  .rename_i s' hs;obtain⟨⟨e,u⟩,p,q⟩:=iha s _ hs;simp only[LF,FV]at q;obtain⟨rfl,rfl⟩:=q;rw[p];exact ihb u y g
  rename_i hne;obtain⟨⟨e,u⟩,p,q⟩:=iha s _ g;subst q;refine⟨(e,u),?_,rfl⟩;rw[p];cases e with
  |normal=>exact oU g (hne _)
  |exit=>rfl
  |ret=>rfl
 |cond c a b iha ihb=>
  intro s y g;unfold xQ at g;show ∃x,(match ev s.t c with| Dk true=>uT X a s| Dk false=>uT X b s|_=>none)=some x∧LF x=y;rw[cg];split at g
  .rename_i hv';rw[show KM (nth s.t) c=_ from hv'];exact iha s y g
  .rename_i hv';rw[show KM (nth s.t) c=_ from hv'];exact ihb s y g
  cases g
 |block id b ihb=>
  intro s y g;unfold xQ at g;show ∃x,(match uT X b s with|some (.exit j,s')=>(match Eh j id with|true=>some (Ex.normal,s')|false=>some (.exit j,s'))|r=>r)=some x∧LF x=y;split at g
  .rename_i j s' hs;obtain⟨⟨e,u⟩,p,q⟩:=ihb s _ hs;simp only[LF,FV]at q;obtain⟨rfl,rfl⟩:=q;rw[p];simp only;split at g
   .rename_i hj;injection g with g
    subst g;first|(rw[hj];exact⟨_,rfl,rfl⟩)|exact⟨_,rfl,rfl⟩
   rename_i hj;injection g with g
   subst g;first|(rw[hj];exact⟨_,rfl,rfl⟩)|exact⟨_,rfl,rfl⟩
  rename_i hne;obtain⟨⟨e,u⟩,p,q⟩:=ihb s _ g;subst q;refine⟨(e,u),?_,rfl⟩;rw[p];cases e with
  |normal=>rfl
  |exit j=>exact oU g (hne _ _)
  |ret=>rfl
 |loop b ihb=>
  intro s;show To LF (dE (uT X b) X.L s) (dz (xQ Z3 b) Z3.L (vw s));rw[A.L];exact S4 ihb _ _
 |scope b ihb=>intro s;exact ihb s
 |rangeFunc f ps asg bd _ _=>
  intro s;show To LF (om X (ev s.t f) ps.toList asg bd s) (gt Z3 (KM (nth s.t) f) ps.toList asg bd (vw s));rw[cg];exact S8 A _ _ _ _ _
def resF(E:Env)(s:SV):List ResultVar→Option (List Value)
 |[]=>some []
 | .tmp t::r=>(match resF E s r with|some l=>some (s.t t::l)|none=>none)
 | .cell a t::r=>
  match s.t a with
  | Dn (some ad)=>(match yE E t s.h ad,resF E s r with|some v,some l=>some (v::l)|_,_=>none)
  |_=>none
theorem S9(E:Env)(s:St):∀l,resE E s l=resF E (vw s) l:=by
 intro l;induction l with
 |nil=>rfl
 |cons r l ih=>
  cases r with
  |tmp t=>
   show(match resE E s l with|some l=>some (nth s.t t::l)|none=>none)=(match resF E (vw s) l with|some l=>some ((vw s).t t::l)|none=>none);rw[ih];rfl
  |cell a t=>
   show(match nth s.t a with| Dn (some ad)=>(match mO E t s.h ad,resE E s l with|some v,some l=>some (v::l)|_,_=>none)|_=>none)=(match (vw s).t a with| Dn (some ad)=>(match yE E t (vw s).h ad,resF E (vw s) l with|some v,some l=>some (v::l)|_,_=>none)|_=>none);simp only[ih,aK];rfl
def kq(args:List Value):TF:=fun j=>args.getD j undef
theorem Ta(args:List Value)(d:Nat){t:Tr Value}(h:∀j,nth t j=if 0≤j∧j<0+O args then args.getD (j-0) undef else nth (Tr.mk undef d) j):nth t=kq args:=by
 funext j;rw[h];unfold kq;split
 .rfl
 rename_i hj;rw[show nth (Tr.mk undef d) j=undef from Tr.get_mk undef d j];simp[List.getD,DS (show O args≤j by omega)]
theorem Tb:∀(args:List Value) (i:Nat) (t:Tr Value),∃t',(∀k:Tr Value→Option β,mv args i t k=k t')∧∀j,nth t' j=if i≤j∧j<i+O args then args.getD (j-i) undef else nth t j:=by
 intro args;induction args with
 |nil=>intro i t;exact⟨t,fun k=>rfl,fun j=>by rw[CT cA]⟩
 |cons v args ih=>
  intro i t;obtain⟨c,b,a⟩:=ih (i+1) (If t i v);refine⟨c,fun k=>?_,fun j=>?_⟩
  .show Tr.set t i v (fun t=>mv args (i+1) t k)=_;rw[H6,b]
  rw[a,dp];simp only[D3,upd];by_cases hj:j=i
  .subst hj;rw[CT Z,De rfl,De Z];simp
  by_cases hr:i+1≤j∧j<i+1+O args
  .rw[De hr,De Z];rw[show j-i=(j-(i+1))+1 from Z];simp
  rw[CT hr,CT hj,CT Z]
def pw(vs:List Value):Value:=match vs with|[v]=>v|vs=>.tuple ⟨vs⟩
def endF(E:Env)(f:FuncId)(h:HF)(n:Nat)(s:SV)(vs:List Value):Value×HF×Nat×List Nat:=
 match E.pure f&&tZ vs,s.w with
 |true,[]=>(pw vs,h,n,[])
 |_,w=>(pw vs,s.h,s.n,w)
def LQ(E:Env)(C:CalF)(L:Nat)(f:FuncId)(args:List Value)(h:HF)(n:Nat):Option (Value×HF×Nat×List Nat):=
 match E.fn f with
 |some fn=>
  match fn.body with
  |some body=>
   match DX (O args) fn.ntmps with
   |true=>
    match xQ {E,C,L,round:=none,n0:=n,nt:=fn.ntmps} body ⟨kq args,h,n,[]⟩with
    |some (.exit _,_)=>none
    |some (_,s)=>
     match resF E s fn.results.toList with
     |some vs=>some (endF E f h n s vs)
     |none=>none
    |none=>none
   |false=>none
  |none=>none
 |none=>none
theorem Tc{C:Cal}{F:CalF}{L:Nat}(u:CalTo C F)(f:FuncId)(args:List Value)(h:Hp)(n:Nat):To rv (Md E C L f args h n) (LQ E F L f args (hv h) n):=by
 intro y a;unfold LQ at a;unfold Md;split at a
 .rename_i fn hfn;simp only[hfn];split at a
  .rename_i body hb;simp only[hb];split at a
   .rename_i hle;simp only[hle];obtain⟨i,B,A⟩:=Tb (β:=Value×Hp×Nat×List Nat) args 0 (Tr.mk undef E.dT);rw[B];have l:nth i=kq args:=Ta args _ A;have o:=d8 (X:={E,C,L,round:=none,n0:=n,nt:=fn.ntmps}) (Z3:={E,C:=F,L,round:=none,n0:=n,nt:=fn.ntmps}) ⟨rfl,u,rfl,rfl,rfl,rfl⟩ body {t:=i,h,n,w:=[]};have m:vw {t:=i,h,n,w:=[]}=⟨kq args,hv h,n,[]⟩:=by simp[vw,l]
    rw[m]at o;cases he:xQ {E,C:=F,L,round:=none,n0:=n,nt:=fn.ntmps} body ⟨kq args,hv h,n,[]⟩with
    |none=>rw[he]at a;cases a
    |some r=>
     obtain⟨⟨e,s⟩,p,q⟩:=o r he;subst q;rw[he]at a;rw[p];have g:(match resF E (vw s) fn.results.toList with|some c=>some (endF E f (hv h) n (vw s) c)|none=>none)=some y→
       ∃x,(match resE E s fn.results.toList with
        |some c=>mT c fun c=>(match E.pure f&&tZ c,s.w with
         |true,[]=>some ((match c with|[v]=>v|c=>Jx ⟨c⟩),h,n,[])
         |_,w=>some ((match c with|[v]=>v|c=>Jx ⟨c⟩),s.h,s.n,w))
        |none=>none)=some x∧rv x=y:=fun a=>by
      rw[S9];cases hr:resF E (vw s) fn.results.toList with
      |none=>rw[hr]at a;cases a
      |some c=>
       rw[hr]at a;injection a with a
       subst a;simp only[kX];unfold endF;cases hp:E.pure f&&tZ c with
       |true=>
        cases hw:s.w with
        |nil=>
         rw[show(vw s).w=[]from hw];exact⟨_,rfl,rfl⟩
        |cons b w=>
         rw[show(vw s).w=b::w from hw];exact⟨_,rfl,rfl⟩
       |false=>
        refine⟨_,rfl,?_⟩;rfl
     cases e with
     |exit j=>cases a
     |normal=>exact g a
     |ret=>exact g a
   cases a
  cases a
 cases a
def oh(nt:Nat):List Tmp→List Value→TF→Option TF
 |p::ps,v::vs,t=>(match DX nt p with|true=>none|false=>oh nt ps vs (upd t p v))
 |_,_,t=>some t
theorem Td(nt:Nat):∀(a:List Tmp) (vs:List Value) (t:Tr Value) (τ:TF),oh nt a vs (nth t)=some τ→∃b,(∀{β:Type} (k:Tr Value→Option β),uG.setPs nt a vs t k=k b)∧nth b=τ:=by
 intro a;induction a with
 |nil=>intro vs t τ h;unfold oh at h;injection h with h;exact⟨t,fun k=>by unfold uG.setPs;rfl,h⟩
 |cons p a ih=>
  intro vs t τ h;cases vs with
  |nil=>unfold oh at h;injection h with h;exact⟨t,fun k=>by unfold uG.setPs;rfl,h⟩
  |cons v vs=>
   unfold oh at h;split at h
   .cases h
   rename_i hp;obtain⟨b,c,e⟩:=ih vs (If t p v) τ (by rw[dp];exact h);refine⟨b,fun k=>?_,e⟩;unfold uG.setPs;simp only[hp,H6];exact c k
def gp(E:Env)(C:CalF)(L:Nat)(l:Nat)(args:List Value)(h:HF)(n:Nat):Option (Value×HF×Nat×List Nat):=
 match h l with
 |some (.loop true none t0 nt0 ps0 assign0 body0 _)=>
  match Eh (O args) (O ps0),oh nt0 ps0 args t0 with
  |true,some t1=>
   match xQ {E,C,L,round:=some l,n0:=n,nt:=nt0} assign0 ⟨t1,h,n,[]⟩with
   |some (.normal,s1)=>
    match s1.h l with
    |some (.loop true none t nt ps assign body d)=>
     match xQ {E,C,L,round:=some l,n0:=n,nt:=nt0} body0 {s1 with h:=upd s1.h l (some (.loop false none t nt ps assign body d)),w:=l::s1.w}with
     |some (x,s2)=>
      match s2.h l with
      |some (.loop _ _ t nt ps assign body d)=>
       match x with
       | .normal=>some (Dk true,upd s2.h l (some (.loop true none t nt ps assign body d)),s2.n,l::s2.w)
       | .ret=>some (Dk false,upd s2.h l (some (.loop false (some .ret) t nt ps assign body d)),s2.n,l::s2.w)
       | .exit id=>some (Dk false,upd s2.h l (some (.loop false (some (.exit id)) t nt ps assign body d)),s2.n,l::s2.w)
      |_=>none
     |none=>none
    |_=>none
   |_=>none
  |_,_=>none
 |_=>none
theorem nR{x:Blk}{r:Bool}{p:Option Code}{τ:TF}{c:List Tmp}{a b:Code}(h:x.view=.loop r p τ nt c a b d):∃t,x=.loop r p t nt c a b d∧nth t=τ:=by
 cases x<;>simp[Blk.view]at h;obtain⟨rfl,rfl,rfl,rfl,rfl,rfl,rfl,rfl⟩:=h;exact⟨_,rfl,rfl⟩
theorem Te{C:Cal}{F:CalF}{L:Nat}(H:CalTo C F)(l:Nat)(args:List Value)(h:Hp)(n:Nat):To rv (uG E C L l args h n) (gp E F L l args (hv h) n):=by
 intro y a;unfold gp at a;unfold uG;split at a
 .rename_i τ0 nt0 ps0 assign0 body0 d0 hl;obtain⟨x,I,s⟩:=tX hl;obtain⟨J,rfl,rfl⟩:=nR s;rw[I];simp only;split at a
  .rename_i τ1 hb hs;simp only[hb];obtain⟨K,B,rfl⟩:=Td nt0 ps0 args J _ hs;rw[B];have m:CtxTo {E,C,L,round:=some l,n0:=n,nt:=nt0} {E,C:=F,L,round:=some l,n0:=n,nt:=nt0}:=⟨rfl,H,rfl,rfl,rfl,rfl⟩;split at a
   .rename_i b he1;obtain⟨⟨e,b⟩,D,i⟩:=d8 m assign0 {t:=K,h,n,w:=[]} _ he1;simp only[LF,FV]at i;obtain⟨rfl,rfl⟩:=i;rw[D];simp only;split at a
    .rename_i τ nt ps assign body d hl1;obtain⟨N,p,c⟩:=tX hl1;obtain⟨t,rfl,rfl⟩:=nR c;rw[show Hp.at b.h l=_ from p];simp only[H6];split at a
     .rename_i xe u he2;have o:({vw b with h:=upd (vw b).h l (some (.loop false none (nth t) nt ps assign body d)),w:=l::(vw b).w}:SV)=vw {b with h:=If b.h l (some (.loop false none t nt ps assign body d)),w:=l::b.w}:=by
       simp only[vw,so];rfl
      rw[o]at he2;obtain⟨⟨A,u⟩,G,j⟩:=d8 m body0 _ _ he2;simp only[LF,FV]at j;obtain⟨rfl,rfl⟩:=j;rw[G];simp only;split at a
      .rename_i r' p' τ' nt' ps' as' bd' d' hl2;obtain⟨Z1,q,g⟩:=tX hl2;obtain⟨M,rfl,rfl⟩:=nR g;rw[show Hp.at u.h l=_ from q];simp only;cases A with
       |normal=>
        injection a with a
        exact CC
       |ret=>
        injection a with a
        exact CC
       |exit id=>
        injection a with a
        exact CC
      cases a
     cases a
    cases a
   cases a
  cases a
 cases a
noncomputable def orcF(orc:FuncId→List Value→Option Value)(G:HF→Prop)(f:FuncId)(args:List Value)(h:HF):Option Value:=
 open Classical in if G h then orc f args else none
noncomputable def calO(E:Env)(L:Nat)(orc:FuncId→List Value→Option Value)(G:HF→Prop):Nat→Cal
 |0=>⟨fun _ _ _ _=>none,fun _ _ _ _=>none⟩
 |k+1=>⟨fun f a h n=>(match orcF orc G f a (hv h)with|some v=>some (v,h,n,[])|none=>Md E (calO E L orc G k) L f a h n),fun l a h n=>uG E (calO E L orc G k) L l a h n⟩
noncomputable def calF(E:Env)(L:Nat)(orc:FuncId→List Value→Option Value)(G:HF→Prop):Nat→CalF
 |0=>⟨fun _ _ _ _=>none,fun _ _ _ _=>none⟩
 |k+1=>⟨fun f a h n=>(match orcF orc G f a h with|some v=>some (v,h,n,[])|none=>LQ E (calF E L orc G k) L f a h n),fun l a h n=>gp E (calF E L orc G k) L l a h n⟩
theorem Tf(E:Env)(L:Nat)(c:FuncId→List Value→Option Value)(G:HF→Prop):∀k,CalTo (calO E L c G k) (calF E L c G k):=by
 intro k;induction k with
 |zero=>exact⟨fun f a h n y b=>(by cases b),fun l a h n y b=>(by cases b)⟩
 |succ k ih=>
  refine⟨fun f a h n y b=>?_,fun l a h n=>Te ih l a h n⟩;have b:(match orcF c G f a (hv h)with|some v=>some (v,hv h,n,[])|none=>LQ E (calF E L c G k) L f a (hv h) n)=some y:=b;show ∃x,(match orcF c G f a (hv h)with|some v=>some (v,h,n,[])|none=>Md E (calO E L c G k) L f a h n)=some x∧rv x=y;cases ho:orcF c G f a (hv h)with
  |some v=>rw[ho]at b;injection b with b;subst b;exact⟨_,rfl,rfl⟩
  |none=>rw[ho]at b;exact Tc ih f a h n y b
def NH(X:Rel)(G:HF→Prop)(f:FuncId)(args:List Value)(v:Value):Prop:=
 ∀(k:Nat) (ρ:Ren) (h:Hp) (n:Nat) (w:World),G (hv h)→Sim X ρ h w→K9 (3*n) h→
  (callFunc f (args.map (conc ρ)).toArray).run X.P w=.ok (.enter f (args.map (conc ρ)).toArray) w∧
  CallsIn Fence.wide k X.P f (args.map (conc ρ)).toArray w fun e w'=>∃ρ',e=.returned (conc ρ' v)∧Post X ρ n h w [] ρ' v h n w'
theorem Tg{X:Rel}{reg:Array Oper→Bool}(p:EnvOk2 X.E X.P)(L:Nat)(hok:∀c,X.ok c↔xM reg c=true)(q:∀f fn c,X.E.fn f=some fn→fn.body=some c→xM reg c=true)
  (o:∀(C:Ctx) ρ0 h0 w0,C.E=X.E→CalOk X C.C→tw X C ρ0 h0 w0 reg){b:FuncId→List Value→Option Value}{G:HF→Prop}(s:∀f args v,b f args=some v→NH X G f args v):∀d,CalOk X (calO X.E L b G d):=by
 intro d;induction d with
 |zero=>exact⟨fun f args h n v e j W a=>(by cases a),fun l args h n v e j W a=>(by cases a)⟩
 |succ d ih=>
  refine⟨fun f args h n v e j W a k ρ w i g m=>?_,fun l args h n v e j W a k ρ w i g m=>mC p ih hok o a k ρ w i g m⟩;have a:(match orcF b G f args (hv h)with|some v=>some (v,h,n,[])|none=>Md X.E (calO X.E L b G d) L f args h n)=some (v,e,j,W):=a;cases ho:orcF b G f args (hv h)with
  |some u=>
   rw[ho]at a;simp only[HR,FV]at a;obtain⟨rfl,rfl,rfl,rfl⟩:=a;unfold orcF at ho;split at ho
   .exact s f args u ho k ρ h n w nN i g
   cases ho
  |none=>
   rw[ho]at a;exact OQ p ih hok q o a k ρ w i g m
theorem px{X:Rel}{G:HF→Prop}{C:Cal}(I:CalOk X C){h0 i:Hp}{N:Nat}(q:C.call f args h0 n0=some (v,i,N,[]))(J:∀x∈args,closed x=true)(g:closed v=true)
  (l:∀h:Hp,G (hv h)→∀b x,h0.at b=some x→h.at b=some x)(A:K9 (3*n0) h0):NH X G f args v:=by
 intro k ρ h n w p s M;have B:Sim X ρ h0 w:=⟨fun b x m=>s.blk b x (l h p b x m),fun b u m y o=>by
  obtain⟨x,i⟩:=Eg.1 m;obtain⟨Z1,D⟩:=Eg.1 y;exact s.inj b u (by rw[l h p b x i];rfl) (by rw[l h p u Z1 D];rfl) o⟩
 obtain⟨F,H⟩:=I.call _ _ _ _ _ _ _ _ q k ρ w B A (fun x i=>Nb.closed (J x i));refine⟨F,H.mono fun e P⟨R,o,a⟩=>⟨ρ,by rw[o,yL g,yL g],?_⟩⟩;exact(Post.refl s M (Nb.closed g)).grow (fun j L=>a.fr j L fun c K=>by cases K) a.size a.os a.tape a.out
end Go.GL
/- The sanity check of the laws returns true: a closed run of the evaluator. -/
namespace Go.Proofs.YtfajmfoofmienaaGreatDoor
open Go Go.GL
variable {m:Nat}{h:HF}{f:FuncId}{args:List Value}
namespace GK
def u(k:IntKind)(l:List Int):List Value:=l.map fun n=>U k n
def d64:List Value:=u .u8 [0,1,56,2,57,49,28,3,61,58,42,50,38,29,17,4,62,47,59,36,45,43,51,22,53,39,33,30,24,18,12,5,63,55,48,27,60,41,37,16,46,35,44,21,52,32,23,11,54,26,40,15,34,20,31,10,25,14,19,9,13,8,7,6]
def p10:List Value:=u .u64 [1,10,100,1000,10000,100000,1000000,10000000,100000000,1000000000,10000000000,100000000000,1000000000000,10000000000000,100000000000000,1000000000000000,10000000000000000,100000000000000000,1000000000000000000,10000000000000000000]
def d32:List Value:=u .u8 [0,1,28,2,29,14,24,3,30,22,20,15,25,17,4,8,31,27,13,23,21,19,16,7,26,12,18,6,11,5,10,9]
noncomputable def h0:Hp:=If (If (If (Tr.mk none 13) 3 (some (.ro d64))) 0 (some (.ro p10))) 12 (some (.ro d32))
def Nf:Option (Value×Hp×Nat×List Nat)→Bool
 |some (Dk true,_,_,[])=>true
 |_=>false
theorem ao{r:Option (Value×Hp×Nat×List Nat)}(h:Nf r=true):∃hx nx,r=some (Dk true,hx,nx,[]):=by
 unfold Nf at h;split at h
 .exact⟨_,_,rfl⟩
 cases h
set_option maxRecDepth 1000000 in
theorem Ti:Nf ((calN KT 1000000 60).call 9 [] h0 20)=true:=by kernel_rfl
def smalls:List (List UInt8):=[[48],[49],[50],[51],[52],[45,49],[45,50],[45,51],[45,52]]
def isSmall(l:List UInt8):Bool:=smalls.any (· ==l)
def bads:List (List UInt8):=[[49,47,49],[45,48],[]]
def isBad(l:List UInt8):Bool:=bads.any (· ==l)
def NI:Option (Value×Hp×Nat×List Nat)→Bool
 |some (Dk false,_,_,[])=>true
 |_=>false
theorem Tj{r:Option (Value×Hp×Nat×List Nat)}(h:NI r=true):∃hx nx,r=some (Dk false,hx,nx,[]):=by
 unfold NI at h;split at h
 .exact⟨_,_,rfl⟩
 cases h
set_option maxRecDepth 1000000 in
theorem Tk:bads.all (fun l=>NI ((calN KT 1000000 60).call 82 [Dl ⟨⟨l⟩⟩] h0 20))=true:=by kernel_rfl
set_option maxRecDepth 1000000 in
theorem Tl:smalls.all (fun l=>Nf ((calN KT 1000000 60).call 82 [Dl ⟨⟨l⟩⟩] h0 20))=true:=by kernel_rfl
theorem O3(b:Nat):h0.at b=if b=12 then some (.ro d32)else if b=0 then some (.ro p10)else if b=3 then some (.ro d64)else none:=by
 unfold h0;show Tr.get none _ b=_;rw[Jn none rfl,Jn none rfl,Jn none rfl,Tr.get_mk]
theorem nb_u{k:IntKind}{l:List Int}:∀v∈u k l,Nb m v:=fun v a=>by
 unfold u at a;rw[List.mem_map]at a;obtain⟨n,_,rfl⟩:=a;exact Nb.int
theorem O4:K9 (3*20) h0:=fun b x a=>by
 rw[O3]at a;split at a
 .rename_i e;exact CI
 split at a
 .rename_i e;exact CI
 split at a
 .rename_i e;exact CI
 cases a
def G(h:HF):Prop:=h 3=some (.ro d64)∧h 0=some (.ro p10)∧h 12=some (.ro d32)
theorem eg{x:Blk}{c:List Value}(h:x.view=.ro c):x=.ro c:=by
 cases x<;>simp[Blk.view]at h;subst h;rfl
theorem G_at{h:Hp}(o:G (hv h)):∀b x,h0.at b=some x→h.at b=some x:=fun b x a=>by
 obtain⟨i,j,l⟩:=o;obtain⟨u,c,p⟩:=tX i;obtain⟨v,d,q⟩:=tX j;obtain⟨w,g,s⟩:=tX l;rw[O3]at a;split at a
 .rename_i e;injection a with a;subst e a;rw[g,eg s]
 split at a
 .rename_i e;injection a with a;subst e a;rw[d,eg q]
 split at a
 .rename_i e;injection a with a;subst e a;rw[c,eg p]
 cases a
def orc(f:FuncId)(a:List Value):Option Value:=
 match Eh f 9 with
 |true=>(match a with|[]=>some (Dk true)|_=>none)
 |false=>match Eh f 82 with
  |true=>(match a with|[Dl ⟨⟨l⟩⟩]=>(match isSmall l with|true=>some (Dk true)|false=>(match isBad l with|true=>some (Dk false)|false=>none))|_=>none)
  |false=>none
theorem orc_ok:∀f args v,orc f args=some v→NH Mv G f args v:=fun f args v h=>by
 unfold orc at h;split at h
 .rename_i hf;have hf:=Eb hf;subst hf;split at h
  .injection h with h
   subst h;obtain⟨a,nx,hr⟩:=ao Ti;exact px (OX 1000000 60) hr (fun x a=>oU a Ds) rfl (fun h b=>G_at b) O4
  cases h
 split at h
 .rename_i hf;have hf:=Eb hf;subst hf;split at h
  .rename_i l;split at h
   .rename_i hl;injection h with h
    subst h;unfold isSmall at hl;rw[H5]at hl;obtain⟨l',hl',he⟩:=hl;have he:l'=l:=by simpa using he
    subst he;have c:=Fy.1 Tl l' hl';obtain⟨a,nx,hr⟩:=ao c;exact CH
   split at h
   .rename_i hl;injection h with h
    subst h;unfold isBad at hl;rw[H5]at hl;obtain⟨l',hl',he⟩:=hl;have he:l'=l:=by simpa using he
    subst he;have c:=Fy.1 Tk l' hl';obtain⟨a,nx,hr⟩:=Tj c;exact CH
   cases h
  cases h
 cases h
end GK
def LL:Nat:=1180591620717411303424
noncomputable def KO(k:Nat):CalF:=calF KT LL GK.orc GK.G k
theorem Tm(k:Nat):CalOk Mv (calO KT LL GK.orc GK.G k):=
 Tg (X:=Mv) (reg:=regOk) Nd LL (fun _=>Hi) OW (fun C e c d b a=>jd Nd b a) GK.orc_ok k
theorem Tn(k:Nat):CalTo (calO KT LL GK.orc GK.G k) (KO k):=Tf KT LL GK.orc GK.G k
theorem Tq(k:Nat)(a:GK.G h)(n:Nat):(KO (k+1)).call 9 [] h n=some (Dk true,h,n,[]):=by
 show(match orcF GK.orc GK.G 9 [] h with|some v=>some (v,h,n,[])|none=>LQ KT (KO k) LL 9 [] h n)=_;unfold orcF;rw[De a];rfl
theorem fK(k:Nat)(a:GK.G h)(n:Nat){l:List UInt8}(b:GK.isSmall l=true):(KO (k+1)).call 82 [Dl ⟨⟨l⟩⟩] h n=some (Dk true,h,n,[]):=by
 show(match orcF GK.orc GK.G 82 [Dl ⟨⟨l⟩⟩] h with|some v=>some (v,h,n,[])|none=>LQ KT (KO k) LL 82 [Dl ⟨⟨l⟩⟩] h n)=_;unfold orcF;rw[De a];have:GK.orc 82 [Dl ⟨⟨l⟩⟩]=some (Dk true):=by
  show(match GK.isSmall l with|true=>some (Dk true)|false=>(match GK.isBad l with|true=>some (Dk false)|false=>none))=_;rw[b]
 rw[this]
theorem Ts(k:Nat)(a:GK.G h)(n:Nat){l:List UInt8}(c:GK.isSmall l=false)(b:GK.isBad l=true):(KO (k+1)).call 82 [Dl ⟨⟨l⟩⟩] h n=some (Dk false,h,n,[]):=by
 show(match orcF GK.orc GK.G 82 [Dl ⟨⟨l⟩⟩] h with|some v=>some (v,h,n,[])|none=>LQ KT (KO k) LL 82 [Dl ⟨⟨l⟩⟩] h n)=_;unfold orcF;rw[De a];have:GK.orc 82 [Dl ⟨⟨l⟩⟩]=some (Dk false):=by
  show(match GK.isSmall l with|true=>some (Dk true)|false=>(match GK.isBad l with|true=>some (Dk false)|false=>none))=_;rw[c,b]
 rw[this]
theorem Tt(k:Nat)(a:GK.orc f args=none)(h:HF)(n:Nat):(KO (k+1)).call f args h n=LQ KT (KO k) LL f args h n:=by
 show(match orcF GK.orc GK.G f args h with|some v=>some (v,h,n,[])|none=>LQ KT (KO k) LL f args h n)=_;have:orcF GK.orc GK.G f args h=none:=by
  unfold orcF;rw[a];split<;>rfl
 rw[this]
end Go.Proofs.YtfajmfoofmienaaGreatDoor
namespace Go.GL
open Go
variable {ops r:List Oper}{n m i bytes size cap len off id bt n' n0 sz j l b c:Nat}{o:Oper}{w ms W:List Nat}{d:Tmp}{al ld:List (Nat×Nat)}{v z:Value}{ty e ty' xT t:TypeId}{args new cs vs:List Value}{E:Env}{ik' ik:IntKind}{pos:String}{hi x y:Operand}{α:Type}{af:Array Edge}{f:FuncId}{a:Option Addr}{g:Option (Nat×Bool)}
variable {u:Nat}{sT:TypeId}{h h':HF}
def EC(X:CtxF)(c:Code)(s:SV)(Q:Ex→SV→Prop):Prop:=∃e s',xQ X c s=some (e,s')∧Q e s'
abbrev Za(X:CtxF)(ops:List Oper)(t:TF)(o:Oper)(d:Tmp)(P:Prop):Prop:=zh ops t o=true∧o.dst=some d∧zu X.nt (some d)=true∧P
def EO(X:CtxF)(ops l:List Oper)(s:SV)(Q:SV→Prop):Prop:=∃s',seqF X ops l s=some s'∧Q s'
def CF(C:CalF)(f:FuncId)(args:List Value)(h:HF)(n:Nat)(Q:Value→HF→Nat→List Nat→Prop):Prop:=∃v h' n' w,C.call f args h n=some (v,h',n',w)∧Q v h' n' w
theorem uU{e:Ex}{s:SV}{R:Ex→SV→Prop}:(∃a b,some (e,s)=some (a,b)∧R a b)↔R e s:=by
 constructor
 .rintro⟨a,b,h,c⟩;injection h with h;injection h with h1 h2;subst h1 h2;exact c
 exact C0
section
variable {X:CtxF}{s:SV}{Q:Ex→SV→Prop}
theorem si{c:Code}{a:Ex→SV→Prop}(h:EC X c s Q)(q:∀e s,Q e s→a e s):EC X c s a:=by
 obtain⟨e,u,b,p⟩:=h;exact⟨e,u,b,q _ _ p⟩
theorem zX:EC X .skip s Q↔Q .normal s:=by
 unfold EC xQ;constructor
 .exact Ca
 exact C0
theorem Tu:EC X (.exit i) s Q↔Q (.exit i) s:=by
 unfold EC xQ;constructor
 .exact Ca
 exact C0
theorem Tv:EC X .ret s Q↔Q .ret s:=by
 unfold EC xQ;constructor
 .exact Ca
 exact C0
theorem Tw:EC X (.label l) s Q↔Q .normal s:=by
 unfold EC xQ;constructor
 .exact Ca
 exact C0
theorem TC{c:Code}:EC X (.scope c) s Q↔EC X c s Q:=Hi
def after(X:CtxF)(b:Code)(Q:Ex→SV→Prop):Ex→SV→Prop
 | .normal,s=>EC X b s Q
 |e,s=>Q e s
theorem zm{b:Code}:after X b Q .normal s↔EC X b s Q:=Hi
theorem TE{b:Code}:after X b Q (.exit i) s↔Q (.exit i) s:=Hi
theorem TG{b:Code}:after X b Q .ret s↔Q .ret s:=Hi
theorem yj{a b:Code}:EC X (.seq a b) s Q↔EC X a s (after X b Q):=by
 unfold EC;rw[xQ];cases h:xQ X a s with
 |none=>simp
 |some r=>
  obtain⟨e,c⟩:=r;cases e<;>simp only[uU]<;>exact Hi
def nc(id:Nat)(Q:Ex→SV→Prop):Ex→SV→Prop
 | .exit j,s=>if j=id then Q .normal s else Q (.exit j) s
 |e,s=>Q e s
theorem gR:nc id Q .normal s↔Q .normal s:=Hi
theorem TH:nc id Q .ret s↔Q .ret s:=Hi
theorem TI:nc id Q (.exit j) s↔if j=id then Q .normal s else Q (.exit j) s:=Hi
theorem O5{b:Code}:EC X (.block id b) s Q↔EC X b s (nc id Q):=by
 unfold EC;rw[xQ];cases h:xQ X b s with
 |none=>simp
 |some r=>
  obtain⟨e,a⟩:=r;cases e with
  |exit j=>
   by_cases hj:j=id
   .subst hj;simp only[Ix,uU,nc,if_true]
   have:Eh j id=false:=by
    cases hb:Eh j id with
    |false=>rfl
    |true=>exact oU (Eb hb) hj
   simp only[this,uU,nc,CT hj]
  |normal=>simp only[uU,nc]
  |ret=>simp only[uU,nc]
theorem zc{c:Operand}{a b:Code}(h:KM s.t c=Dk true):EC X (.cond c a b) s Q↔EC X a s Q:=by
 unfold EC;rw[xQ,h]
theorem za{c:Operand}{a b:Code}(h:KM s.t c=Dk false):EC X (.cond c a b) s Q↔EC X b s Q:=by
 unfold EC;rw[xQ,h]
theorem yc{ops:Array Oper}:EC X (.region id ops false) s Q↔EO X ops.toList ops.toList s (Q .normal):=by
 unfold EC EO;rw[xQ];cases h:seqF X ops.toList ops.toList s with
 |none=>simp
 |some r=>simp only[uU];simp
theorem TJ{c:Code}(I:Nat→SV→Prop)(q:∀m s,I m s→EC X c s fun e a=>match e with| .normal=>∃p,p<m∧I p a|e=>Q e a)(y:I m s)(b:m<X.L):EC X (.loop c) s Q:=by
 have B:∀(L m:Nat) (s:SV),m<L→I m s→∃e a,dz (xQ X c) L s=some (e,a)∧Q e a:=by
  intro L;induction L with
  |zero=>intro m s b;exact oU b (Nat.not_lt_zero _)
  |succ L ih=>
   intro m s b y;obtain⟨e,D,C,u⟩:=q m s y;unfold dz;rw[C];cases e with
   |normal=>
    obtain⟨p,F,A⟩:=u;exact ih p D Z A
   |exit i=>exact⟨_,_,rfl,u⟩
   |ret=>exact⟨_,_,rfl,u⟩
 exact B X.L m s b y
end
section
variable {X:CtxF}{s:SV}{Q:SV→Prop}{d:Option Tmp}
theorem yi:EO X ops [] s Q↔Q s:=by
 unfold EO seqF;constructor
 .rintro⟨b,h,a⟩;injection h with h;subst h;exact a
 exact fun h=>⟨_,rfl,h⟩
theorem TK(b:zh ops s.t o=false)(a:zu X.nt o.dst=true):EO X ops (o::r) s Q↔EO X ops r ⟨putF s.t o.dst undef,s.h,s.n,s.w⟩ Q:=by
 unfold EO;rw[seqF,b];simp only[wp,a,addW]
theorem TM(c:zh ops s.t o=true)(b:zu X.nt o.dst=true)(a:KS o.op=0)(hv:yJ X.E o.op (KM s.t)=some v):
  EO X ops (o::r) s Q↔EO X ops r ⟨putF s.t o.dst v,s.h,s.n,s.w⟩ Q:=by
 unfold EO;rw[seqF,c];simp only[Lv,a,hv,wp,b,addW]
theorem TN(A:zh ops s.t o=true)(u:zu X.nt o.dst=true)(a:o.op=.convert t e x)(p:uV X.E t e (KM s.t x)=none)(y:pj X.E t e (KM s.t x) s.h=none)(hv:iF X.E t e (KM s.t x)=some v):
  EO X ops (o::r) s Q↔EO X ops r ⟨putF s.t o.dst v,s.h,s.n,s.w⟩ Q:=by
 unfold EO;rw[seqF,A];have q:KS o.op=4:=by rw[a];rfl
 have c:KX X.E o.op (KM s.t)=none:=by rw[a];exact p
 have b:yJ X.E o.op (KM s.t)=some v:=by rw[a];exact hv
 simp only[Lv,q,c];rw[a]at b⊢;simp only[y,b,wp,u,addW]
theorem TO{a:Addr}(y:zh ops s.t o=true)(u:zu X.nt o.dst=true)(b:o.op=.load t x)(p:KM s.t x=Dn (some a))(hv:yE X.E t s.h a=some v):
  EO X ops (o::r) s Q↔EO X ops r ⟨putF s.t o.dst v,s.h,s.n,s.w⟩ Q:=by
 unfold EO;rw[seqF,y];have q:KS o.op=1:=by rw[b];rfl
 have c:na X.E o.op (KM s.t) s.h=some (v,a.block):=by rw[b];simp only[na,p,hv]
 simp only[Lv,q,c,wp,u,addW]
theorem iQ{m:Mk}(q:zh ops s.t o=true)(b:zu X.nt o.dst=true)(a:KS o.op=2)(p:KX X.E o.op (KM s.t)=some m):
  EO X ops (o::r) s Q↔EO X ops r ⟨putF s.t o.dst (m.val s.n),upd s.h (m.name s.n) (some (.row m.c m.e)),s.n+1,s.w⟩ Q:=by
 unfold EO;rw[seqF,q];simp only[Lv,a,p,Mf,wp,b,addW]
theorem pg(p:zh ops s.t o=true)(b:zu X.nt o.dst=true)(a:KS o.op=3)(c:effF X.E o.op (KM s.t) s.h s.n=some (.val v h n w)):
  EO X ops (o::r) s Q↔EO X ops r ⟨putF s.t o.dst v,h,n,addW X.n0 w s.w⟩ Q:=by
 unfold EO;rw[seqF,p];simp only[Lv,a,ng,c,wp,b]
theorem TP(P:Value→HF→Nat→List Nat→Prop)(A:zh ops s.t o=true)(q:zu X.nt o.dst=true)(p:KS o.op=3)(u:effF X.E o.op (KM s.t) s.h s.n=some (.enter f args))(a:CF X.C f args s.h s.n P)
  (h:∀v h n w,P v h n w→EO X ops r ⟨putF s.t o.dst v,h,n,addW X.n0 w s.w⟩ Q):EO X ops (o::r) s Q:=by
 obtain⟨v,c,B,D,b,y⟩:=a;have:=h v c B D y;unfold EO at this⊢;rw[seqF,A];simp only[Lv,p,ng,u,b,wp,q];exact this
end
theorem mM:∀(l:List Oper) (acc:List Nat),O (wu l acc)=O acc+O l:=by
 intro l;induction l with
 |nil=>intro acc;simp[wu]
 |cons o l ih=>intro acc;simp[wu,ih];omega
theorem TQ{X:CtxF}{ops:List Oper}:∀(l:List Oper) (ms:List Nat) (i:Nat) (s:SV) (ld:List (Nat×Nat)),O l≤O ms→l.all (fun o=>Iu (KS o.op) 2)=true→z9 X ops l ms i ⟨s,[],ld,[]⟩=seqF X ops l s:=by
 intro l;induction l with
 |nil=>intro ms i s ld _ _;simp[z9,seqF]
 |cons o l ih=>
  intro ms i s ld q p;cases ms with
  |nil=>simp at q
  |cons m ms=>
   simp only[JG,Ew]at p;have a:O l≤O ms:=by simpa using q
   have u:KS o.op<2:=D5 p.1;unfold z9 seqF;simp only;cases hw:zh ops s.t o with
   |false=>
    simp only;congr 1;funext s1;exact ih ms (i+1) s1 ld a p.2
   |true=>
    simp only;unfold qx Lv;cases hc:KS o.op with
    |zero=>
     simp only[hc];cases yJ X.E o.op (KM s.t)with
     |none=>rfl
     |some v=>
      simp only;congr 1;funext s1;exact ih ms (i+1) s1 ld a p.2
    |succ c=>
     cases c with
     |zero=>
      simp only[hc,vm];cases na X.E o.op (KM s.t) s.h with
      |none=>rfl
      |some vb=>
       obtain⟨v,b⟩:=vb;simp only[wS,pz,EF];congr 1;funext s1;exact ih ms (i+1) s1 _ a p.2
     |succ c=>omega
theorem uP{X:CtxF}{ops:Array Oper}{s:SV}{Q:Ex→SV→Prop}(a:ops.toList.all (fun o=>Iu (KS o.op) 2)=true):EC X (.region id ops true) s Q↔EO X ops.toList ops.toList s (Q .normal):=by
 unfold EC EO;rw[xQ];rw[TQ _ _ _ _ _ (by rw[mM];simp) a];cases h:seqF X ops.toList ops.toList s with
 |none=>simp
 |some r=>simp only[uU];simp
def fI(t:TF):List (Nat×Value)→TF
 |[]=>t
 |(i,v)::r=>upd (fI t r) i v
def vu(t:TF):List (Nat×Value)→Prop
 |[]=>True
 |(i,v)::r=>t i=v∧vu t r
theorem xo{t:TF}:∀{l:List (Nat×Value)},vu t l→fI t l=t:=by
 intro l;induction l with
 |nil=>intro _;rfl
 |cons p l ih=>
  intro h;obtain⟨i,v⟩:=p;obtain⟨g,j⟩:=h;show upd (fI t l) i v=t;rw[ih j,upd_self g]
def cut(l:List (Nat×Value))(I:HF→Nat→List Nat→Prop)(Q:Ex→SV→Prop):Ex→SV→Prop
 | .normal,s=>vu s.t l∧I s.h s.n s.w
 |e,s=>Q e s
theorem vG{l:List (Nat×Value)}{I:HF→Nat→List Nat→Prop}{Q:Ex→SV→Prop}{s:SV}(g:vu s.t l)(j:I s.h s.n s.w):cut l I Q .normal s:=⟨g,j⟩
theorem TS{l:List (Nat×Value)}{I:HF→Nat→List Nat→Prop}{Q:Ex→SV→Prop}{s:SV}:cut l I Q (.exit i) s↔Q (.exit i) s:=Hi
theorem TT{l:List (Nat×Value)}{I:HF→Nat→List Nat→Prop}{Q:Ex→SV→Prop}{s:SV}:cut l I Q .ret s↔Q .ret s:=Hi
theorem oQ{X:CtxF}{a b:Code}{s:SV}{Q:Ex→SV→Prop}(l:List (Nat×Value))(I:HF→Nat→List Nat→Prop)(u:EC X a s (cut l I (after X b Q)))(A:∀t h n w,I h n w→EC X b ⟨fI t l,h,n,w⟩ Q):EC X a s (after X b Q):=by
 refine si u fun e g j=>?_;cases e with
 |normal=>
  obtain⟨p,q⟩:=j;have:=A g.t g.h g.n g.w q;rw[xo p]at this;exact this
 |exit i=>exact j
 |ret=>exact j
def oG{α:Type}(live:α→List (Nat×Value))(I:α→HF→Nat→List Nat→Prop)(μ:α→Nat)(a:α)(Q:Ex→SV→Prop):Ex→SV→Prop
 | .normal,s=>∃a',μ a'<μ a∧vu s.t (live a')∧I a' s.h s.n s.w
 |e,s=>Q e s
theorem goOn{g:α→List (Nat×Value)}{I:α→HF→Nat→List Nat→Prop}{μ:α→Nat}{a:α}{Q:Ex→SV→Prop}{s:SV}(j:α)(p:μ j<μ a)(q:vu s.t (g j))(u:I j s.h s.n s.w):oG g I μ a Q .normal s:=⟨j,p,q,u⟩
theorem dK{g:α→List (Nat×Value)}{I:α→HF→Nat→List Nat→Prop}{μ:α→Nat}{a:α}{Q:Ex→SV→Prop}{s:SV}:oG g I μ a Q (.exit i) s↔Q (.exit i) s:=Hi
theorem TU{g:α→List (Nat×Value)}{I:α→HF→Nat→List Nat→Prop}{μ:α→Nat}{a:α}{Q:Ex→SV→Prop}{s:SV}:oG g I μ a Q .ret s↔Q .ret s:=Hi
theorem zK{X:CtxF}{c:Code}{t:TF}{h:HF}{n:Nat}{w:List Nat}{Q:Ex→SV→Prop}(g:α→List (Nat×Value))(I:α→HF→Nat→List Nat→Prop)(μ:α→Nat)(a:α)(q:vu t (g a))(p:I a h n w)(F:μ a<X.L)
  (j:∀a t h n w,I a h n w→EC X c ⟨fI t (g a),h,n,w⟩ (oG g I μ a Q)):EC X (.loop c) ⟨t,h,n,w⟩ Q:=by
 refine TJ (I:=fun m s=>∃a,μ a=m∧vu s.t (g a)∧I a s.h s.n s.w) ?_ ⟨a,rfl,q,p⟩ F;rintro m⟨t,h,n,w⟩⟨a,rfl,q,p⟩;have:=j a t h n w p;rw[xo q]at this;refine si this fun e s u=>?_;cases e with
 |normal=>
  obtain⟨A,B,C,D⟩:=u;exact⟨μ A,B,A,rfl,C,D⟩
 |exit i=>exact u
 |ret=>exact u
section
variable {X:CtxF}{t:TF}{h:HF}{Q:SV→Prop}
theorem hH(g:zh ops t o=false∧o.dst=some d∧zu X.nt (some d)=true)(k:EO X ops r ⟨upd t d undef,h,n,w⟩ Q):EO X ops (o::r) ⟨t,h,n,w⟩ Q:=by
 obtain⟨g,j,p⟩:=g;rw[TK g (by rw[j];exact p),j];exact k
theorem zA(g:Za X ops t o d (KS o.op=0∧yJ X.E o.op (KM t)=some v))(k:EO X ops r ⟨upd t d v,h,n,w⟩ Q):EO X ops (o::r) ⟨t,h,n,w⟩ Q:=by
 obtain⟨g,j,q,p,s⟩:=g;rw[TM g (by rw[j];exact q) p s,j];exact k
theorem ZJ{p:BinOp}{ty ty':TypeId}{x y:Operand}{A B v:Value}(c:Za X ops t o d (o.op=.binOp p ty x y ty'∧KM t x=A∧KM t y=B))(e:binE X.E p ty A B=some v)(k:EO X ops r ⟨upd t d v,h,n,w⟩ Q):EO X ops (o::r) ⟨t,h,n,w⟩ Q:=by
 obtain⟨a,b,c,f,g,j⟩:=c;refine zA ⟨a,b,c,Ao,?_⟩ k;rw[f];show binE X.E p ty (KM t x) (KM t y)=_;rw[g,j];exact e
theorem st_I{a:Int}(g:Za X ops t o d (KS o.op=0∧yJ X.E o.op (KM t)=some (U ik a)))(k:EO X ops r ⟨upd t d (U ik a),h,n,w⟩ Q):EO X ops (o::r) ⟨t,h,n,w⟩ Q:=by exact Cb
theorem st_B{a:Bool}(g:Za X ops t o d (KS o.op=0∧yJ X.E o.op (KM t)=some (Dk a)))(k:EO X ops r ⟨upd t d (Dk a),h,n,w⟩ Q):EO X ops (o::r) ⟨t,h,n,w⟩ Q:=by exact Cb
theorem st_S(g:Za X ops t o d (KS o.op=0∧yJ X.E o.op (KM t)=some (Y a l c)))(k:EO X ops r ⟨upd t d (Y a l c),h,n,w⟩ Q):EO X ops (o::r) ⟨t,h,n,w⟩ Q:=by exact Cb
theorem st_P(g:Za X ops t o d (KS o.op=0∧yJ X.E o.op (KM t)=some (Dn (some ⟨b,off,none⟩))))(k:EO X ops r ⟨upd t d (Dn (some ⟨b,off,none⟩)),h,n,w⟩ Q):EO X ops (o::r) ⟨t,h,n,w⟩ Q:=by exact Cb
theorem st_T{s:ByteArray}(g:Za X ops t o d (KS o.op=0∧yJ X.E o.op (KM t)=some (Dl s)))(k:EO X ops r ⟨upd t d (Dl s),h,n,w⟩ Q):EO X ops (o::r) ⟨t,h,n,w⟩ Q:=by obtain⟨g,p,q,j,u⟩:=g;exact zA ⟨g,p,q,j,u⟩ k
theorem st_A{cs:Array Value}(g:Za X ops t o d (KS o.op=0∧yJ X.E o.op (KM t)=some (.agg cs)))(k:EO X ops r ⟨upd t d (.agg cs),h,n,w⟩ Q):EO X ops (o::r) ⟨t,h,n,w⟩ Q:=by exact Cb
theorem st_U{cs:Array Value}(g:Za X ops t o d (KS o.op=0∧yJ X.E o.op (KM t)=some (.tuple cs)))(k:EO X ops r ⟨upd t d (.tuple cs),h,n,w⟩ Q):EO X ops (o::r) ⟨t,h,n,w⟩ Q:=by exact Cb
theorem xI{x:Int}(h: -9223372036854775808≤x∧x<9223372036854775808):D8 .i64 x=x:=by
 simp only[D8,Gt,Ft];simp;omega
theorem td{x:Operand}{a b:Int}(j:Za X ops t o d (o.op=.binOp .add ty x y ty'∧KM t x=U .i64 a∧KM t y=U .i64 b))(g: -9223372036854775808≤a+b∧a+b<9223372036854775808)
  (k:EO X ops r ⟨upd t d (U .i64 (a+b)),h,n,w⟩ Q):EO X ops (o::r) ⟨t,h,n,w⟩ Q:=by
 refine ZJ j ?_ k;show some (U .i64 (D8 .i64 (a+b)))=_;rw[xI g]
theorem rZ{x:Operand}{a b:Int}(j:Za X ops t o d (o.op=.binOp .sub ty x y ty'∧KM t x=U .i64 a∧KM t y=U .i64 b))(g: -9223372036854775808≤a-b∧a-b<9223372036854775808)
  (k:EO X ops r ⟨upd t d (U .i64 (a-b)),h,n,w⟩ Q):EO X ops (o::r) ⟨t,h,n,w⟩ Q:=by
 refine ZJ j ?_ k;show some (U .i64 (D8 .i64 (a-b)))=_;rw[xI g]
theorem st_mul{x:Operand}{a b:Int}(s:zh ops t o=true)(j:o.dst=some d)(p:zu X.nt (some d)=true)(g:o.op=.binOp .mul ty x y ty')(u:KM t x=U .i64 a)(A:KM t y=U .i64 b)(q: -9223372036854775808≤a*b∧a*b<9223372036854775808)
  (k:EO X ops r ⟨upd t d (U .i64 (a*b)),h,n,w⟩ Q):EO X ops (o::r) ⟨t,h,n,w⟩ Q:=by
 refine zA ⟨s,j,p,pl,?_⟩ k;rw[g];show binE X.E .mul ty (KM t x) (KM t y)=_;rw[u,A];show some (U .i64 (D8 .i64 (a*b)))=_;rw[xI q]
theorem bO{x:Operand}{a b:Int}(j:Za X ops t o d (o.op=.binOp .rem ty x y ty'∧KM t x=U ik a∧KM t y=U ik b))(g:b≠0)
  (k:EO X ops r ⟨upd t d (U ik (a.tmod b)),h,n,w⟩ Q):EO X ops (o::r) ⟨t,h,n,w⟩ Q:=by
 refine ZJ j ?_ k;have:ikEq ik ik=true:=by cases ik<;>rfl
 simp only[binE,isSh,this,intE,CT g]
theorem yM(ik:IntKind):ikEq ik ik=true:=by cases ik<;>rfl
theorem ql{x:Operand}{a b:Int}(g:Za X ops t o d (o.op=.binOp .lss ty x y ty'∧KM t x=U ik a∧KM t y=U ik b))
  (k:EO X ops r ⟨upd t d (Dk (decide (a<b))),h,n,w⟩ Q):EO X ops (o::r) ⟨t,h,n,w⟩ Q:=by
 refine ZJ g ?_ k;simp only[binE,isSh,yM,intE,Mt]
theorem MP{x:Operand}{a b:Int}(g:Za X ops t o d (o.op=.binOp .leq ty x y ty'∧KM t x=U ik a∧KM t y=U ik b))
  (k:EO X ops r ⟨upd t d (Dk (decide (a≤b))),h,n,w⟩ Q):EO X ops (o::r) ⟨t,h,n,w⟩ Q:=by
 refine ZJ g ?_ k;simp only[binE,isSh,yM,intE,fX]
theorem Mw{x:Operand}{a b:Int}(g:Za X ops t o d (o.op=.binOp .gtr ty x y ty'∧KM t x=U ik a∧KM t y=U ik b))
  (k:EO X ops r ⟨upd t d (Dk (decide (b<a))),h,n,w⟩ Q):EO X ops (o::r) ⟨t,h,n,w⟩ Q:=by
 refine ZJ g ?_ k;simp only[binE,isSh,yM,intE,Mt]
theorem eD{x:Operand}{a b:Int}(g:Za X ops t o d (o.op=.binOp .geq ty x y ty'∧KM t x=U ik a∧KM t y=U ik b))
  (k:EO X ops r ⟨upd t d (Dk (decide (b≤a))),h,n,w⟩ Q):EO X ops (o::r) ⟨t,h,n,w⟩ Q:=by
 refine ZJ g ?_ k;simp only[binE,isSh,yM,intE,fX]
theorem jC{x:Operand}{a b:Int}(g:Za X ops t o d (o.op=.binOp .eql ty x y ty'∧KM t x=U ik a∧KM t y=U ik b))
  (k:EO X ops r ⟨upd t d (Dk (decide (a=b))),h,n,w⟩ Q):EO X ops (o::r) ⟨t,h,n,w⟩ Q:=by
 refine ZJ g ?_ k;exact CD
theorem ga{x:Operand}{a b:Int}(g:Za X ops t o d (o.op=.binOp .neq ty x y ty'∧KM t x=U ik a∧KM t y=U ik b))
  (k:EO X ops r ⟨upd t d (Dk (!decide (a=b))),h,n,w⟩ Q):EO X ops (o::r) ⟨t,h,n,w⟩ Q:=by
 refine ZJ g ?_ k;exact CD
theorem ws(b o k:Nat):Addr.add ⟨b,o,none⟩ k=⟨b,o+k,none⟩:=nK _ rfl k
theorem wn{e:TypeId}{x i:Operand}{z:Value}{j:Int}(g:Za X ops t o d (o.op=.indexAddr ty x i∧X.E.und ty=some (.slice e)∧X.E.inf e=some (sz,bt,z)∧KM t x=Y (some ⟨b,off,none⟩) len cap∧KM t i=U ik j))(A:0≤j∧j<len)(k:EO X ops r ⟨upd t d (Dn (some ⟨b,off+j.toNat*sz,none⟩)),h,n,w⟩ Q):EO X ops (o::r) ⟨t,h,n,w⟩ Q:=by
 obtain⟨g,q,u,p,B,hi,C,s⟩:=g;refine zA ⟨g,q,u,AM,?_⟩ k;rw[p];show yU X.E ty (KM t x) (KM t i)=_;rw[C,s];simp only[yU,B,hi,De A,ws]
theorem zL{E:Env}{h:HF}{x:BF}{c:List Value}(s:isAgg E ty=some false)(u:h b=some x)(j:x.cells=some c∧c[off]?=some v):yE E ty h ⟨b,off,none⟩=some v:=by
 obtain⟨j,p⟩:=j;have g:=(Du.1 p).1;have q:DX (off+1) (O c)=true:=Dv g;have:(c.drop off).take 1=[v]:=by
  rw[Fs g];simp[(Du.1 p).2]
 simp only[yE,s,tn,u,j,q,F2,EF,this]
theorem zF{E:Env}{h:HF}{z:Value}{x:BF}{c:List Value}(g:isAgg E ty=some true∧E.inf ty=some (sz,bt,z))(p:h b=some x)(u:x.cells=some c)(s:off+sz≤O c)(q:(c.drop off).take sz=cs):yE E ty h ⟨b,off,none⟩=some (.agg cs.toArray):=by
 obtain⟨g,hi⟩:=g;have j:DX (off+sz) (O c)=true:=Dv s;simp only[yE,g,hi,tn,p,u,j,F2,EF,q,Option.map_some]
theorem zO{x:Operand}{a:Addr}(g:Za X ops t o d (o.op=.load ty x∧KM t x=Dn (some a)))(hv:yE X.E ty h a=some v)
  (k:EO X ops r ⟨upd t d v,h,n,w⟩ Q):EO X ops (o::r) ⟨t,h,n,w⟩ Q:=by
 obtain⟨g,j,p,q,s⟩:=g;rw[TO g (by rw[j];exact p) q s hv,j];exact k
theorem zi{x:Operand}{y:BF}{c:List Value}(g:Za X ops t o d (o.op=.load ty x∧isAgg X.E ty=some false∧KM t x=Dn (some ⟨b,off,none⟩)))(q:h b=some y)(j:y.cells=some c∧c[off]?=some v)
  (k:EO X ops r ⟨upd t d v,h,n,w⟩ Q):EO X ops (o::r) ⟨t,h,n,w⟩ Q:=by obtain⟨g,u,A,B,p,C⟩:=g;obtain⟨j,s⟩:=j;exact zO ⟨g,u,A,B,C⟩ (zL p q ⟨j,s⟩) k
theorem z6{e:TypeId}{z:Value}(g:Za X ops t o d (o.op=.alloc e∧X.E.inf e=some (sz,bt,z)))
  (k:EO X ops r ⟨upd t d (Dn (some ⟨3*n+2,0,none⟩)),upd h (3*n+2) (some (.row (zr z) e)),n+1,w⟩ Q):EO X ops (o::r) ⟨t,h,n,w⟩ Q:=by
 obtain⟨g,j,s,p,hi⟩:=g;have q:KX X.E o.op (KM t)=some ⟨zr z,e,false,none⟩:=by rw[p];simp only[KX,hi]
 rw[iQ g (by rw[j];exact s) AM q,j];exact k
theorem ud{e:TypeId}(g:Za X ops t o d (KS o.op=2∧KX X.E o.op (KM t)=some ⟨cs,e,false,some (l,c)⟩))
  (k:EO X ops r ⟨upd t d (Y (some ⟨3*n+2,0,none⟩) l c),upd h (3*n+2) (some (.row cs e)),n+1,w⟩ Q):EO X ops (o::r) ⟨t,h,n,w⟩ Q:=by
 exact CQ
theorem xV{e:TypeId}(g:Za X ops t o d (KS o.op=2∧KX X.E o.op (KM t)=some ⟨cs,e,false,none⟩))
  (k:EO X ops r ⟨upd t d (Dn (some ⟨3*n+2,0,none⟩)),upd h (3*n+2) (some (.row cs e)),n+1,w⟩ Q):EO X ops (o::r) ⟨t,h,n,w⟩ Q:=by
 exact CQ
theorem O6(m:Nat)(z:Value):K1 m [z]=Dp m z:=by
 induction m with
 |zero=>rfl
 |succ m ih=>show[z]++K1 m [z]=_;rw[ih];rfl
theorem xP{e:TypeId}{l c:Operand}{z:Value}(j:Za X ops t o d (o.op=.makeSlice ty l c∧X.E.und ty=some (.slice e)∧X.E.inf e=some (sz,bt,z)∧KM t l=U ik (len:Int)∧KM t c=U ik' (cap:Int)∧O (zr z)=sz))(g:len≤cap∧cap*bt≤1099511627776∧cap≤1099511627776)
  (k:EO X ops r ⟨upd t d (Y (some ⟨3*n+2,0,none⟩) len cap),upd h (3*n+2) (some (.row (K1 cap (zr z)) e)),n+1,w⟩ Q):EO X ops (o::r) ⟨t,h,n,w⟩ Q:=by
 obtain⟨j,p,G,q,H,hi,D,C,I⟩:=j;have F:KX X.E o.op (KM t)=some ⟨K1 cap (zr z),e,false,some (len,cap)⟩:=by
  rw[q];show rM X.E ty (KM t l) (KM t c)=_;rw[D,C];have s:=Dv g.1;have u:=Dv g.2.1;have A:=Dv g.2.2;have B:Eh (O (zr z)) sz=true:=by rw[I];exact Ct
  show(match X.E.und ty,U ik (.ofNat len),U ik' (.ofNat cap)with|some (.slice e),U _ (.ofNat len),U _ (.ofNat cap)=>_|_,_,_=>none)=_;simp only[H,hi,s,u,A,B,EF]
 rw[iQ j (by rw[p];exact G) A3 F,p];exact k
theorem wF{w:List Nat}(h:3*n0≤b):addW n0 [b] w=w:=by
 simp only[addW,Dv h]
theorem rT{w:List Nat}(h:b<3*n0):addW n0 [b] w=b::w:=by
 have:DX (3*n0) b=false:=by
  cases hb:DX (3*n0) b with
  |false=>rfl
  |true=>have:=D5 hb;omega
 simp only[addW,this]
theorem ug{h:HF}{c:List Value}{e:TypeId}(p:h b=some (.row c e))(q:off+O vs≤O c)(j:ones vs=true):vJ h ⟨b,off,none⟩ vs=some (upd h b (some (.row (zv c off vs) e))):=by
 have g:DX (off+O vs) (O c)=true:=Dv q;simp only[vJ,p,g,j,F2,EF]
theorem wx{E:Env}{a x:Operand}{z:Value}{c:List Value}{e:TypeId}(hi:E.inf ty=some (sz,bt,z))(q:KM t a=Dn (some ⟨b,off,none⟩))(j:O (zr (KM t x))=sz)(p:ones (zr (KM t x))=true)(s:h b=some (.row c e))(u:off+sz≤O c):
  effF E (.store ty a x) (KM t) h n=some (.val undef (upd h b (some (.row (zv c off (zr (KM t x))) e))) n [b]):=by
 have g:Eh (O (zr (KM t x))) sz=true:=by rw[j];exact Ix sz
 simp only[effF,sj,q,hi,g,ug s (by rw[j];exact u) p]
theorem yr{a x:Operand}{z:Value}{c:List Value}{e:TypeId}(j:zh ops t o=true∧o.dst=none∧o.op=.store ty a x∧X.E.inf ty=some (sz,bt,z)∧KM t a=Dn (some ⟨b,off,none⟩)∧zr (KM t x)=cs∧O cs=sz∧ones cs=true)(A:h b=some (.row c e))(B:off+sz≤O c)(g:3*X.n0≤b)
  (k:EO X ops r ⟨t,upd h b (some (.row (zv c off cs) e)),n,w⟩ Q):EO X ops (o::r) ⟨t,h,n,w⟩ Q:=by
 obtain⟨j,p,q,hi,u,D,C,s⟩:=j;subst D;rw[pg j AM A3 (by rw[q];exact wx hi u C s A B),p];simp only[wF g];exact k
theorem TV(c cs:List Value)(h:O cs=O c):zv c 0 cs=cs:=by
 unfold zv;simp[h]
theorem zw{a x:Operand}{z:Value}{c:List Value}(cs:List Value){e:TypeId}(j:zh ops t o=true∧o.dst=none∧o.op=.store ty a x∧X.E.inf ty=some (sz,bt,z)∧KM t a=Dn (some ⟨b,0,none⟩)∧zr (KM t x)=cs∧O cs=sz)(p:ones cs=true)(s:h b=some (.row c e))(D:O c=sz)(g:3*X.n0≤b)
  (k:EO X ops r ⟨t,upd h b (some (.row cs e)),n,w⟩ Q):EO X ops (o::r) ⟨t,h,n,w⟩ Q:=by
 obtain⟨j,u,A,hi,q,C,B⟩:=j;refine yr ⟨j,u,A,hi,q,C,B,p⟩ s Z g ?_;rw[TV c cs Z];exact k
theorem iY{a x:Operand}{z:Value}{c:List Value}{e:TypeId}(C:zh ops t o=true)(j:o.dst=none)(p:o.op=.store ty a x)(hi:X.E.inf ty=some (sz,bt,z))(s:KM t a=Dn (some ⟨b,off,none⟩))(D:zr (KM t x)=cs)(B:O cs=sz)(q:ones cs=true)(u:h b=some (.row c e))(A:off+sz≤O c)(g:b<3*X.n0)
  (k:EO X ops r ⟨t,upd h b (some (.row (zv c off cs) e)),n,b::w⟩ Q):EO X ops (o::r) ⟨t,h,n,w⟩ Q:=by
 subst D;rw[pg C (by rw[j];rfl) AM (by rw[p];exact wx hi s B q u A),j];simp only[rT g];exact k
theorem zk(P:Value→HF→Nat→List Nat→Prop)(p:Za X ops t o d (KS o.op=3∧effF X.E o.op (KM t) h n=some (.enter f args)))(g:CF X.C f args h n P)
  (k:∀v h' n' j,P v h' n' j→EO X ops r ⟨upd t d v,h',n',addW X.n0 j w⟩ Q):EO X ops (o::r) ⟨t,h,n,w⟩ Q:=by
 obtain⟨p,q,A,s,u⟩:=p;refine TP P p (by rw[q];exact A) s u g fun v h' n' j B=>?_;rw[q];exact k v h' n' j B
theorem O7(s:zh ops t o=true)(g:o.dst=some d)(q:zu X.nt (some d)=true)(j:KS o.op=3)(p:effF X.E o.op (KM t) h n=some (.val v h n []))(k:EO X ops r ⟨upd t d v,h,n,w⟩ Q):EO X ops (o::r) ⟨t,h,n,w⟩ Q:=by
 rw[pg s (by rw[g];exact q) j p,g];exact k
theorem vk{e:TypeId}{x:Operand}{a:Int}(g:Za X ops t o d (o.op=.convert ty e x∧uV X.E ty e (KM t x)=none∧pj X.E ty e (KM t x) h=none))(hv:iF X.E ty e (KM t x)=some (U ik a))(k:EO X ops r ⟨upd t d (U ik a),h,n,w⟩ Q):EO X ops (o::r) ⟨t,h,n,w⟩ Q:=by
 obtain⟨g,j,q,s,p,u⟩:=g;rw[TN g (by rw[j];exact q) s p u hv,j];exact k
theorem gF(cap sz b off:Nat):offA cap 0 sz ⟨b,off,none⟩=⟨b,off,none⟩:=by
 unfold offA;split
 .rfl
 rw[ws];simp
theorem u6{e:TypeId}{x:Operand}{z:Value}{j:Int}(m:Nat)(g:Za X ops t o d (o.op=.slice ty x none (some hi) none∧X.E.und ty=some (.slice e)∧X.E.inf e=some (sz,bt,z)∧KM t x=Y (some ⟨b,off,none⟩) len cap∧KM t hi=U ik j))(C:j=(m:Int))(H:m≤cap)(k:EO X ops r ⟨upd t d (Y (some ⟨b,off,none⟩) m cap),h,n,w⟩ Q):EO X ops (o::r) ⟨t,h,n,w⟩ Q:=by
 obtain⟨g,A,D,q,F,p,G,B⟩:=g;refine zA ⟨g,A,D,A3,?_⟩ k;rw[q];subst C;show yY X.E ty (KM t x) none (some (KM t hi))=_;rw[G,B];have s:(0:Int)≤(m:Int)∧(m:Int)≤cap:=Z;have u:(gro b&&(DX 1 0&&DX cap 0))=false:=by cases gro b<;>rfl
 simp only[yY,F,p,Ld,De s,Ez,u,gF,Gv]
theorem u5{e:TypeId}{x lo:Operand}{z:Value}{j:Int}(m:Nat)(p:Za X ops t o d (o.op=.slice ty x (some lo) none none∧X.E.und ty=some (.slice e)∧X.E.inf e=some (sz,bt,z)∧KM t x=Y (some ⟨b,off,none⟩) len cap∧KM t lo=U ik j∧j=(m:Int)))(K:m≤len)(J:len≤cap)(g:m<cap∨gro b=false∨m=0)
  (k:EO X ops r ⟨upd t d (Y (some ⟨b,if cap=m then off else off+m*sz,none⟩) (len-m) (cap-m)),h,n,w⟩ Q):EO X ops (o::r) ⟨t,h,n,w⟩ Q:=by
 obtain⟨p,C,G,s,H,q,I,D,F⟩:=p;refine zA ⟨p,C,G,(by rw[s];rfl),?_⟩ k;rw[s];subst F;show yY X.E ty (KM t x) (some (KM t lo)) none=_;rw[I,D];have u:(0:Int)≤(m:Int)∧(m:Int)≤len:=Z;have A:(gro b&&(DX 1 m&&DX cap m))=false:=by
  rcases g with g|g|g
  .have:DX cap m=false:=by
    cases hb:DX cap m with
    |false=>rfl
    |true=>have:=D5 hb;omega
   rw[this];simp
  .rw[g];rfl
  subst g;cases gro b<;>rfl
 have B:offA cap m sz ⟨b,off,none⟩=⟨b,if cap=m then off else off+m*sz,none⟩:=by
  unfold offA;by_cases hc:cap=m
  .subst hc;rw[Ix];simp
  have:Eh cap m=false:=by
   cases hb:Eh cap m with
   |false=>rfl
   |true=>exact oU (Eb hb) hc
  rw[this,CT hc,ws]
 simp only[yY,H,q,Ld,De u,Ez,A,B]
theorem yX{sT:TypeId}{w':List Nat}{s x:Operand}(j:Za X ops t o d (o.op=.call {callee:=.builtin .append,args:=#[s,x],argTypes:=#[sT,xT]}∧(match X.E.und xT with|some (.int _)=>false|none=>false|_=>true)=true))(q:yP X.E h n sT (KM t s) (KM t x)=some (.val v h' n' w'))
  (k:EO X ops r ⟨upd t d v,h',n',addW X.n0 w' w⟩ Q):EO X ops (o::r) ⟨t,h,n,w⟩ Q:=by
 obtain⟨j,hd,hn,p,g⟩:=j;have A:effF X.E o.op (KM t) h n=some (.val v h' n' w'):=by
  rw[p];show appF X.E [sT,xT] [KM t s,KM t x] h n=_;unfold appF;cases hu:X.E.und xT with
  |none=>rw[hu]at g;cases g
  |some u=>
   cases u with
   |int _=>rw[hu]at g;cases g
   |_=>simp only[hu];exact q
 rw[pg j Bz AM A,hd];exact k
end
def argS(h:HF)(size:Nat)(v:Value)(m:Nat)(cs:List Value):Prop:=lenOf? v=some m∧yo h size m v=some cs
section
variable {h:HF}{sT:TypeId}{x:Value}
theorem append_nil(hu:E.und sT=some (.slice e))(hi:E.inf e=some (size,bytes,z))(G:O (zr z)=size)(B:1≤size)(C:1≤bytes)(F:argS h size x m new)(H:1≤m)(g:m*bytes≤1099511627776):
  yP E h n sT (Y none 0 0) x=some (.val (Y (some ⟨3*n+1,0,none⟩) m m) (upd h (3*n+1) (some (.row new e))) (n+1) []):=by
 obtain⟨D,hc⟩:=F;have j:DX (m*bytes) 1099511627776=true:=Dv g;have p:Eh (O (zr z)) size=true:=by rw[G];exact Ct
 have q:DX 1 size=true:=Dv B;have s:DX 1 bytes=true:=Dv C;have u:DX m 0=false:=by
  cases g:DX m 0 with
  |false=>rfl
  |true=>have:=D5 g;omega
 have A:yo h size 0 (Y none 0 0)=some []:=rfl;simp only[yP,hu,hi,D,hc,D7,j,p,q,s,u,A,EF,gY,El]
theorem rS{c:List Value}(hu:E.und sT=some (.slice e))(hi:E.inf e=some (size,bytes,z))(M:O (zr z)=size)(G:1≤size)(H:1≤bytes)(L:argS h size x m new)(N:1≤m)(g:(len+m)*bytes≤1099511627776)
  (I:gro b=true)(p:h b=some (.row c e))(hc:O c=len*size)(K:ones (c++new)=true)(hn:O new=m*size):
  yP E h n sT (Y (some ⟨b,0,none⟩) len len) x=some (.val (Y (some ⟨3*n+1,0,none⟩) (len+m) (len+m)) (upd (upd h b none) (3*n+1) (some (.row (c++new) e))) (n+1) [b]):=by
 obtain⟨J,j⟩:=L;have q:DX ((len+m)*bytes) 1099511627776=true:=Dv g;have s:Eh (O (zr z)) size=true:=by rw[M];exact Ct
 have u:DX 1 size=true:=Dv G;have A:DX 1 bytes=true:=Dv H;have B:DX (len+m) len=false:=by
  cases g:DX (len+m) len with
  |false=>rfl
  |true=>have:=D5 g;omega
 have C:yo h size len (Y (some ⟨b,0,none⟩) len len)=some c:=by
  simp only[yo];by_cases h0:len*size=0
  .rw[De h0];rw[h0]at hc;rw[DA.1 hc]
  rw[CT h0];have:DX (0+len*size) (O c)=true:=Dv Z;simp only[tn,p,BF.cells,this,F2,EF,EE];rw[DK Z]
 have D:gn h b (len*size) e=true:=by
  simp only[gn,p,hc,Ix,EF]
 have F:Eh (O (c++new)) ((len+m)*size)=true:=by
  rw[show(c++new).length=(len+m)*size from by rw[Do,hc,hn,DE]];exact Ct
 simp only[yP,hu,hi,J,j,q,s,u,A,B,C,D,F,EF,gY,I,K,Ix,F2]
end
section
variable {X:CtxF}{t:TF}{h:HF}{Q:SV→Prop}
theorem O8(x:Nat):D8 .u8 (x:Int)=((x%256:Nat):Int):=by
 simp only[D8,Gt,Ft];simp
theorem mg{a:Nat}(c:Za X ops t o d (o.op=.binOp .sub ty x y ty'∧KM t x=U .u8 (a:Int)∧KM t y=U .u8 (b:Int)))(f:b≤a∧a<256)
  (k:EO X ops r ⟨upd t d (U .u8 ((a-b:Nat):Int)),h,n,w⟩ Q):EO X ops (o::r) ⟨t,h,n,w⟩ Q:=by
 refine ZJ c ?_ k;show some (U .u8 (D8 .u8 ((a:Int)-b)))=_;rw[show(a:Int)-b=((a-b:Nat):Int)from Z,O8,Dz Z]
theorem pp{a:Nat}{D:TD}(c:Za X ops t o d (o.op=.convert ty e x∧KM t x=U ik (a:Int)∧X.E.und ty=some D∧X.E.und e=some (.int .u8)))
  (k:EO X ops r ⟨upd t d (U .u8 ((a%256:Nat):Int)),h,n,w⟩ Q):EO X ops (o::r) ⟨t,h,n,w⟩ Q:=by
 obtain⟨c,g,j,l,f,m,i⟩:=c;refine vk ⟨c,g,j,l,Ao,Ao⟩ ?_ k;rw[f];simp only[iF,m,i,O8]
theorem uC(x:Nat):D8 .u32 (x:Int)=((x%4294967296:Nat):Int):=by
 simp only[D8,Gt,Ft];simp
theorem xn{a:Nat}(f:Za X ops t o d (o.op=.binOp .add ty x y ty'∧KM t x=U .u32 (a:Int)∧KM t y=U .u32 (b:Int)))(c:a+b<4294967296)
  (k:EO X ops r ⟨upd t d (U .u32 ((a+b:Nat):Int)),h,n,w⟩ Q):EO X ops (o::r) ⟨t,h,n,w⟩ Q:=by
 refine ZJ f ?_ k;show some (U .u32 (D8 .u32 ((a:Int)+b)))=_;rw[show(a:Int)+b=((a+b:Nat):Int)from Z,uC,Dz c]
theorem eE{a:Nat}(i:zh ops t o=true)(f:o.dst=some d)(g:zu X.nt (some d)=true)(c:o.op=.binOp .add ty x y ty')(j:KM t x=U .u32 (a:Int))(l:KM t y=U .u32 (b:Int))
  (k:EO X ops r ⟨upd t d (U .u32 (((a+b)%4294967296:Nat):Int)),h,n,w⟩ Q):EO X ops (o::r) ⟨t,h,n,w⟩ Q:=by
 refine zA ⟨i,f,g,(by rw[c];rfl),?_⟩ k;rw[c];show binE X.E .add ty (KM t x) (KM t y)=_;rw[j,l];show some (U .u32 (D8 .u32 ((a:Int)+b)))=_;rw[show(a:Int)+b=((a+b:Nat):Int)from Z,uC]
theorem ky{a:Nat}(c:Za X ops t o d (o.op=.binOp .sub ty x y ty'∧KM t x=U .u32 (a:Int)∧KM t y=U .u32 (b:Int)))(f:b≤a∧a<4294967296)
  (k:EO X ops r ⟨upd t d (U .u32 ((a-b:Nat):Int)),h,n,w⟩ Q):EO X ops (o::r) ⟨t,h,n,w⟩ Q:=by
 refine ZJ c ?_ k;show some (U .u32 (D8 .u32 ((a:Int)-b)))=_;rw[show(a:Int)-b=((a-b:Nat):Int)from Z,uC,Dz Z]
theorem xA{a:Nat}(f:Za X ops t o d (o.op=.binOp .mul ty x y ty'∧KM t x=U .u32 (a:Int)∧KM t y=U .u32 (b:Int)))(c:a*b<4294967296)
  (k:EO X ops r ⟨upd t d (U .u32 ((a*b:Nat):Int)),h,n,w⟩ Q):EO X ops (o::r) ⟨t,h,n,w⟩ Q:=by
 refine ZJ f ?_ k;show some (U .u32 (D8 .u32 ((a:Int)*b)))=_;rw[show(a:Int)*b=((a*b:Nat):Int)from by simp,uC,Dz c]
theorem wg{a:Nat}(i:Za X ops t o d (o.op=.binOp .quo ty x y ty'∧KM t x=U .u32 (a:Int)∧KM t y=U .u32 (b:Int)))(g:b≠0∧a<4294967296)
  (k:EO X ops r ⟨upd t d (U .u32 ((a/b:Nat):Int)),h,n,w⟩ Q):EO X ops (o::r) ⟨t,h,n,w⟩ Q:=by
 refine ZJ i ?_ k;have f:¬(b:Int)=0:=Z;have e:(a:Int).tdiv b=((a/b:Nat):Int):=rfl;have c:a/b<4294967296:=DP (FL _ _) g.2;simp only[binE,isSh,yM,intE,CT f,e,uC,Dz c]
theorem vh{a:Nat}(f:Za X ops t o d (o.op=.binOp .rem ty x y ty'∧KM t x=U .u32 (a:Int)∧KM t y=U .u32 (b:Int)))(g:b≠0)
  (k:EO X ops r ⟨upd t d (U .u32 ((a%b:Nat):Int)),h,n,w⟩ Q):EO X ops (o::r) ⟨t,h,n,w⟩ Q:=by
 refine ZJ f ?_ k;have c:¬(b:Int)=0:=Z;have e:(a:Int).tmod b=((a%b:Nat):Int):=rfl;simp only[binE,isSh,yM,intE,CT c,e]
theorem iZ{a:Nat}(l:Za X ops t o d (o.op=.binOp .or ty x y ty'∧KM t x=U .u32 (a:Int)∧KM t y=U .u32 (b:Int)))(g:a<4294967296∧b<4294967296)
  (k:EO X ops r ⟨upd t d (U .u32 ((a|||b:Nat):Int)),h,n,w⟩ Q):EO X ops (o::r) ⟨t,h,n,w⟩ Q:=by
 refine ZJ l ?_ k;have i:(F9 32 (a:Int))=FC 32 a:=by simp
 have j:(F9 32 (b:Int))=FC 32 b:=by simp
 have c:(FC 32 a|||FC 32 b).toNat=a|||b:=by simp[Dz g.1,Dz g.2]
 have f:a|||b<4294967296:=by
  rw[←c];exact(FC 32 a|||FC 32 b).isLt
 show some (U .u32 (D8 .u32 (((F9 32 (a:Int))|||(F9 32 (b:Int))).toNat:Int)))=_;rw[i,j,c,uC,Dz f]
theorem TW{a s:Nat}(j:zh ops t o=true)(g:o.dst=some d)(i:zu X.nt (some d)=true)(c:o.op=.binOp .shl ty x y ty')(l:KM t x=U .u32 (a:Int))(m:KM t y=U ik (s:Int))(p:s≤32)
  (k:EO X ops r ⟨upd t d (U .u32 ((a*2^s%4294967296:Nat):Int)),h,n,w⟩ Q):EO X ops (o::r) ⟨t,h,n,w⟩ Q:=by
 refine zA ⟨j,g,i,(by rw[c];rfl),?_⟩ k;rw[c];show binE X.E .shl ty (KM t x) (KM t y)=_;rw[l,m];have f:¬(s:Int)<0:=Z;have e:min (s:Int).toNat (Ft .u32)=s:=by simp[Ft];omega
 simp only[binE,isSh,MJ,CT f,e];rw[show(a:Int)*2^s=((a*2^s:Nat):Int)from by simp,uC]
theorem kB{a s:Nat}(f:Za X ops t o d (o.op=.binOp .shr ty x y ty'∧KM t x=U .u32 (a:Int)∧KM t y=U ik (s:Int)))(g:s≤32)
  (k:EO X ops r ⟨upd t d (U .u32 ((a/2^s:Nat):Int)),h,n,w⟩ Q):EO X ops (o::r) ⟨t,h,n,w⟩ Q:=by
 refine ZJ f ?_ k;have c:¬(s:Int)<0:=Z;have e:min (s:Int).toNat (Ft .u32)=s:=by simp[Ft];omega
 exact B8
theorem yB{a:Nat}{D:TD}(c:Za X ops t o d (o.op=.convert ty e x∧KM t x=U ik (a:Int)∧X.E.und ty=some D∧X.E.und e=some (.int .u32)))
  (k:EO X ops r ⟨upd t d (U .u32 ((a%4294967296:Nat):Int)),h,n,w⟩ Q):EO X ops (o::r) ⟨t,h,n,w⟩ Q:=by
 obtain⟨c,g,j,l,f,m,i⟩:=c;refine vk ⟨c,g,j,l,Ao,Ao⟩ ?_ k;rw[f];simp only[iF,m,i,uC]
theorem wz(x:Nat):D8 .u64 (x:Int)=((x%18446744073709551616:Nat):Int):=by
 simp only[D8,Gt,Ft];simp
theorem iT(x y:Nat)(a:x<18446744073709551616)(c:y<18446744073709551616):D8 .u64 ((x:Int)-y)=(((x+18446744073709551616-y)%18446744073709551616:Nat):Int):=by
 simp only[D8,Gt,Ft];simp;omega
theorem yT{a:Nat}(f:Za X ops t o d (o.op=.binOp .add ty x y ty'∧KM t x=U .u64 (a:Int)∧KM t y=U .u64 (b:Int)))(c:a+b<18446744073709551616)
  (k:EO X ops r ⟨upd t d (U .u64 ((a+b:Nat):Int)),h,n,w⟩ Q):EO X ops (o::r) ⟨t,h,n,w⟩ Q:=by
 refine ZJ f ?_ k;show some (U .u64 (D8 .u64 ((a:Int)+b)))=_;rw[show(a:Int)+b=((a+b:Nat):Int)from Z,wz,Dz c]
theorem tI{a:Nat}(c:Za X ops t o d (o.op=.binOp .add ty x y ty'∧KM t x=U .u64 (a:Int)∧KM t y=U .u64 (b:Int)))
  (k:EO X ops r ⟨upd t d (U .u64 (((a+b)%18446744073709551616:Nat):Int)),h,n,w⟩ Q):EO X ops (o::r) ⟨t,h,n,w⟩ Q:=by
 refine ZJ c ?_ k;show some (U .u64 (D8 .u64 ((a:Int)+b)))=_;rw[show(a:Int)+b=((a+b:Nat):Int)from Z,wz]
theorem yn{a:Nat}(c:Za X ops t o d (o.op=.binOp .sub ty x y ty'∧KM t x=U .u64 (a:Int)∧KM t y=U .u64 (b:Int)))(f:b≤a∧a<18446744073709551616)
  (k:EO X ops r ⟨upd t d (U .u64 ((a-b:Nat):Int)),h,n,w⟩ Q):EO X ops (o::r) ⟨t,h,n,w⟩ Q:=by
 refine ZJ c ?_ k;show some (U .u64 (D8 .u64 ((a:Int)-b)))=_;rw[show(a:Int)-b=((a-b:Nat):Int)from Z,wz,Dz Z]
theorem xJ{a:Nat}(f:Za X ops t o d (o.op=.binOp .sub ty x y ty'∧KM t x=U .u64 (a:Int)∧KM t y=U .u64 (b:Int)))(c:a<18446744073709551616∧b<18446744073709551616)
  (k:EO X ops r ⟨upd t d (U .u64 (((a+18446744073709551616-b)%18446744073709551616:Nat):Int)),h,n,w⟩ Q):EO X ops (o::r) ⟨t,h,n,w⟩ Q:=by
 refine ZJ f ?_ k;show some (U .u64 (D8 .u64 ((a:Int)-b)))=_;rw[iT a b c.1 c.2]
theorem xm{a:Nat}(f:Za X ops t o d (o.op=.binOp .mul ty x y ty'∧KM t x=U .u64 (a:Int)∧KM t y=U .u64 (b:Int)))(c:a*b<18446744073709551616)
  (k:EO X ops r ⟨upd t d (U .u64 ((a*b:Nat):Int)),h,n,w⟩ Q):EO X ops (o::r) ⟨t,h,n,w⟩ Q:=by
 refine ZJ f ?_ k;show some (U .u64 (D8 .u64 ((a:Int)*b)))=_;rw[show(a:Int)*b=((a*b:Nat):Int)from by simp,wz,Dz c]
theorem vi{a:Nat}(c:Za X ops t o d (o.op=.binOp .mul ty x y ty'∧KM t x=U .u64 (a:Int)∧KM t y=U .u64 (b:Int)))
  (k:EO X ops r ⟨upd t d (U .u64 (((a*b)%18446744073709551616:Nat):Int)),h,n,w⟩ Q):EO X ops (o::r) ⟨t,h,n,w⟩ Q:=by
 refine ZJ c ?_ k;show some (U .u64 (D8 .u64 ((a:Int)*b)))=_;rw[show(a:Int)*b=((a*b:Nat):Int)from by simp,wz]
theorem xO{a:Nat}(i:Za X ops t o d (o.op=.binOp .quo ty x y ty'∧KM t x=U .u64 (a:Int)∧KM t y=U .u64 (b:Int)))(g:b≠0∧a<18446744073709551616)
  (k:EO X ops r ⟨upd t d (U .u64 ((a/b:Nat):Int)),h,n,w⟩ Q):EO X ops (o::r) ⟨t,h,n,w⟩ Q:=by
 refine ZJ i ?_ k;have f:¬(b:Int)=0:=Z;have e:(a:Int).tdiv b=((a/b:Nat):Int):=rfl;have c:a/b<18446744073709551616:=DP (FL _ _) g.2;simp only[binE,isSh,yM,intE,CT f,e,wz,Dz c]
theorem vg{a:Nat}(f:Za X ops t o d (o.op=.binOp .rem ty x y ty'∧KM t x=U .u64 (a:Int)∧KM t y=U .u64 (b:Int)))(g:b≠0)
  (k:EO X ops r ⟨upd t d (U .u64 ((a%b:Nat):Int)),h,n,w⟩ Q):EO X ops (o::r) ⟨t,h,n,w⟩ Q:=by
 refine ZJ f ?_ k;have c:¬(b:Int)=0:=Z;have e:(a:Int).tmod b=((a%b:Nat):Int):=rfl;simp only[binE,isSh,yM,intE,CT c,e]
theorem xZ{a:Nat}(l:Za X ops t o d (o.op=.binOp .or ty x y ty'∧KM t x=U .u64 (a:Int)∧KM t y=U .u64 (b:Int)))(g:a<18446744073709551616∧b<18446744073709551616)
  (k:EO X ops r ⟨upd t d (U .u64 ((a|||b:Nat):Int)),h,n,w⟩ Q):EO X ops (o::r) ⟨t,h,n,w⟩ Q:=by
 refine ZJ l ?_ k;have i:(F9 64 (a:Int))=FC 64 a:=by simp
 have j:(F9 64 (b:Int))=FC 64 b:=by simp
 have c:(FC 64 a|||FC 64 b).toNat=a|||b:=by simp[Dz g.1,Dz g.2]
 have f:a|||b<18446744073709551616:=by
  rw[←c];exact(FC 64 a|||FC 64 b).isLt
 show some (U .u64 (D8 .u64 (((F9 64 (a:Int))|||(F9 64 (b:Int))).toNat:Int)))=_;rw[i,j,c,wz,Dz f]
theorem u9{a:Nat}(l:Za X ops t o d (o.op=.binOp .and ty x y ty'∧KM t x=U .u64 (a:Int)∧KM t y=U .u64 (b:Int)))(g:a<18446744073709551616∧b<18446744073709551616)
  (k:EO X ops r ⟨upd t d (U .u64 ((a&&& b:Nat):Int)),h,n,w⟩ Q):EO X ops (o::r) ⟨t,h,n,w⟩ Q:=by
 refine ZJ l ?_ k;have i:(F9 64 (a:Int))=FC 64 a:=by simp
 have j:(F9 64 (b:Int))=FC 64 b:=by simp
 have c:(FC 64 a&&& FC 64 b).toNat=a&&& b:=by simp[Dz g.1,Dz g.2]
 have f:a&&& b<18446744073709551616:=by
  rw[←c];exact(FC 64 a&&& FC 64 b).isLt
 show some (U .u64 (D8 .u64 (((F9 64 (a:Int))&&& (F9 64 (b:Int))).toNat:Int)))=_;rw[i,j,c,wz,Dz f]
theorem yS{a s:Nat}(f:Za X ops t o d (o.op=.binOp .shl ty x y ty'∧KM t x=U .u64 (a:Int)∧KM t y=U ik (s:Int)))(g:s≤64)
  (k:EO X ops r ⟨upd t d (U .u64 ((a*2^s%18446744073709551616:Nat):Int)),h,n,w⟩ Q):EO X ops (o::r) ⟨t,h,n,w⟩ Q:=by
 refine ZJ f ?_ k;have c:¬(s:Int)<0:=Z;have e:min (s:Int).toNat (Ft .u64)=s:=by simp[Ft];omega
 simp only[binE,isSh,MJ,CT c,e];rw[show(a:Int)*2^s=((a*2^s:Nat):Int)from by simp,wz]
theorem yg{a s:Nat}(f:Za X ops t o d (o.op=.binOp .shr ty x y ty'∧KM t x=U .u64 (a:Int)∧KM t y=U ik (s:Int)))(g:s≤64)
  (k:EO X ops r ⟨upd t d (U .u64 ((a/2^s:Nat):Int)),h,n,w⟩ Q):EO X ops (o::r) ⟨t,h,n,w⟩ Q:=by
 refine ZJ f ?_ k;have c:¬(s:Int)<0:=Z;have e:min (s:Int).toNat (Ft .u64)=s:=by simp[Ft];omega
 exact B8
theorem tH{a:Nat}{D:TD}(c:Za X ops t o d (o.op=.convert ty e x∧KM t x=U ik (a:Int)∧X.E.und ty=some D∧X.E.und e=some (.int .u64)))
  (k:EO X ops r ⟨upd t d (U .u64 ((a%18446744073709551616:Nat):Int)),h,n,w⟩ Q):EO X ops (o::r) ⟨t,h,n,w⟩ Q:=by
 obtain⟨c,g,j,l,f,m,i⟩:=c;refine vk ⟨c,g,j,l,Ao,Ao⟩ ?_ k;rw[f];simp only[iF,m,i,wz]
theorem pZ{a b:Int}(c:Za X ops t o d (o.op=.binOp .lss ty x y ty'∧KM t x=U ik a∧KM t y=U ik b))(j:a<b)
  (k:EO X ops r ⟨upd t d (Dk true),h,n,w⟩ Q):EO X ops (o::r) ⟨t,h,n,w⟩ Q:=by
 obtain⟨c,f,g,i,l,m⟩:=c;refine ql ⟨c,f,g,i,l,m⟩ ?_;exact CG
theorem bP{a b:Int}(c:Za X ops t o d (o.op=.binOp .lss ty x y ty'∧KM t x=U ik a∧KM t y=U ik b))(j:¬(a<b))
  (k:EO X ops r ⟨upd t d (Dk false),h,n,w⟩ Q):EO X ops (o::r) ⟨t,h,n,w⟩ Q:=by
 obtain⟨c,f,g,i,l,m⟩:=c;refine ql ⟨c,f,g,i,l,m⟩ ?_;exact Cz
theorem oa{a b:Int}(c:Za X ops t o d (o.op=.binOp .leq ty x y ty'∧KM t x=U ik a∧KM t y=U ik b))(j:a≤b)
  (k:EO X ops r ⟨upd t d (Dk true),h,n,w⟩ Q):EO X ops (o::r) ⟨t,h,n,w⟩ Q:=by
 obtain⟨c,f,g,i,l,m⟩:=c;refine MP ⟨c,f,g,i,l,m⟩ ?_;exact CG
theorem mh{a b:Int}(c:Za X ops t o d (o.op=.binOp .leq ty x y ty'∧KM t x=U ik a∧KM t y=U ik b))(j:¬(a≤b))
  (k:EO X ops r ⟨upd t d (Dk false),h,n,w⟩ Q):EO X ops (o::r) ⟨t,h,n,w⟩ Q:=by
 obtain⟨c,f,g,i,l,m⟩:=c;refine MP ⟨c,f,g,i,l,m⟩ ?_;exact Cz
theorem mj{a b:Int}(c:Za X ops t o d (o.op=.binOp .gtr ty x y ty'∧KM t x=U ik a∧KM t y=U ik b))(j:b<a)
  (k:EO X ops r ⟨upd t d (Dk true),h,n,w⟩ Q):EO X ops (o::r) ⟨t,h,n,w⟩ Q:=by
 obtain⟨c,f,g,i,l,m⟩:=c;refine Mw ⟨c,f,g,i,l,m⟩ ?_;exact CG
theorem kD{a b:Int}(c:Za X ops t o d (o.op=.binOp .gtr ty x y ty'∧KM t x=U ik a∧KM t y=U ik b))(j:¬(b<a))
  (k:EO X ops r ⟨upd t d (Dk false),h,n,w⟩ Q):EO X ops (o::r) ⟨t,h,n,w⟩ Q:=by
 obtain⟨c,f,g,i,l,m⟩:=c;refine Mw ⟨c,f,g,i,l,m⟩ ?_;exact Cz
theorem kE{a b:Int}(c:Za X ops t o d (o.op=.binOp .geq ty x y ty'∧KM t x=U ik a∧KM t y=U ik b))(j:b≤a)
  (k:EO X ops r ⟨upd t d (Dk true),h,n,w⟩ Q):EO X ops (o::r) ⟨t,h,n,w⟩ Q:=by
 obtain⟨c,f,g,i,l,m⟩:=c;refine eD ⟨c,f,g,i,l,m⟩ ?_;exact CG
theorem gb{a b:Int}(c:Za X ops t o d (o.op=.binOp .geq ty x y ty'∧KM t x=U ik a∧KM t y=U ik b))(j:¬(b≤a))
  (k:EO X ops r ⟨upd t d (Dk false),h,n,w⟩ Q):EO X ops (o::r) ⟨t,h,n,w⟩ Q:=by
 obtain⟨c,f,g,i,l,m⟩:=c;refine eD ⟨c,f,g,i,l,m⟩ ?_;exact Cz
theorem bQ{a b:Int}(c:Za X ops t o d (o.op=.binOp .eql ty x y ty'∧KM t x=U ik a∧KM t y=U ik b))(j:a=b)
  (k:EO X ops r ⟨upd t d (Dk true),h,n,w⟩ Q):EO X ops (o::r) ⟨t,h,n,w⟩ Q:=by
 obtain⟨c,f,g,i,l,m⟩:=c;refine jC ⟨c,f,g,i,l,m⟩ ?_;exact CG
theorem bT{a b:Int}(c:Za X ops t o d (o.op=.binOp .eql ty x y ty'∧KM t x=U ik a∧KM t y=U ik b))(j:¬(a=b))
  (k:EO X ops r ⟨upd t d (Dk false),h,n,w⟩ Q):EO X ops (o::r) ⟨t,h,n,w⟩ Q:=by
 obtain⟨c,f,g,i,l,m⟩:=c;refine jC ⟨c,f,g,i,l,m⟩ ?_;exact Cz
theorem jA{a b:Int}(c:Za X ops t o d (o.op=.binOp .neq ty x y ty'∧KM t x=U ik a∧KM t y=U ik b))(j:¬(a=b))
  (k:EO X ops r ⟨upd t d (Dk true),h,n,w⟩ Q):EO X ops (o::r) ⟨t,h,n,w⟩ Q:=by
 exact Ck
theorem jB{a b:Int}(c:Za X ops t o d (o.op=.binOp .neq ty x y ty'∧KM t x=U ik a∧KM t y=U ik b))(j:a=b)
  (k:EO X ops r ⟨upd t d (Dk false),h,n,w⟩ Q):EO X ops (o::r) ⟨t,h,n,w⟩ Q:=by
 exact Ck
theorem vj{a:Int}{D:TD}(c:Za X ops t o d (o.op=.convert ty e x∧KM t x=U ik a∧X.E.und ty=some D∧X.E.und e=some (.int .i64)))(m: -9223372036854775808≤a∧a<9223372036854775808)
  (k:EO X ops r ⟨upd t d (U .i64 a),h,n,w⟩ Q):EO X ops (o::r) ⟨t,h,n,w⟩ Q:=by
 obtain⟨c,g,j,l,f,p,i⟩:=c;refine vk ⟨c,g,j,l,Ao,Ao⟩ ?_ k;rw[f];simp only[iF,p,i,xI m]
end
def cutx{α:Type}(live:α→List (Nat×Value))(I:α→HF→Nat→List Nat→Prop)(Q:Ex→SV→Prop):Ex→SV→Prop
 | .normal,s=>∃a,vu s.t (live a)∧I a s.h s.n s.w
 |e,s=>Q e s
theorem zC{g:α→List (Nat×Value)}{I:α→HF→Nat→List Nat→Prop}{Q:Ex→SV→Prop}{s:SV}(a:α)(j:vu s.t (g a))(p:I a s.h s.n s.w):cutx g I Q .normal s:=⟨a,j,p⟩
theorem TX{g:α→List (Nat×Value)}{I:α→HF→Nat→List Nat→Prop}{Q:Ex→SV→Prop}{s:SV}{i:Nat}:cutx g I Q (.exit i) s↔Q (.exit i) s:=Hi
theorem TY{g:α→List (Nat×Value)}{I:α→HF→Nat→List Nat→Prop}{Q:Ex→SV→Prop}{s:SV}:cutx g I Q .ret s↔Q .ret s:=Hi
theorem yp{X:CtxF}{a b:Code}{s:SV}{Q:Ex→SV→Prop}(g:α→List (Nat×Value))(I:α→HF→Nat→List Nat→Prop)(B:EC X a s (cutx g I (after X b Q)))(C:∀z t h n w,I z h n w→EC X b ⟨fI t (g z),h,n,w⟩ Q):EC X a s (after X b Q):=by
 refine si B fun e j p=>?_;cases e with
 |normal=>
  obtain⟨z,q,A⟩:=p;have:=C z j.t j.h j.n j.w A;rw[xo q]at this;exact this
 |exit i=>exact p
 |ret=>exact p
section
variable {X:CtxF}{t:TF}{h:HF}{Q:SV→Prop}
theorem ew{j:Int}(m:Nat)(D:zh ops t o=true)(s:o.dst=some d)(C:zu X.nt (some d)=true)(p:o.op=.slice ty x none (some hi) none)(hu:X.E.und ty=some (.slice e))(g:X.E.inf e=some (sz,bt,z))
  (F:KM t x=Y none len cap)(A:KM t hi=U ik j)(B:j=(m:Int))(G:m≤cap)(k:EO X ops r ⟨upd t d (Y none m cap),h,n,w⟩ Q):EO X ops (o::r) ⟨t,h,n,w⟩ Q:=by
 refine zA ⟨D,s,C,AM,?_⟩ k;rw[p];subst B;show yY X.E ty (KM t x) none (some (KM t hi))=_;rw[F,A];have q:(0:Int)≤(m:Int)∧(m:Int)≤cap:=Z;simp only[yY,hu,g,Ld,De q,Ez,Gv]
theorem ez{lo:Operand}{j:Int}(m:Nat)(I:zh ops t o=true)(B:o.dst=some d)(G:zu X.nt (some d)=true)(q:o.op=.slice ty x (some lo) none none)(hu:X.E.und ty=some (.slice e))(g:X.E.inf e=some (sz,bt,z))
  (J:KM t x=Y (some ⟨b,off,none⟩) len cap)(D:KM t lo=U ik j)(F:j=(m:Int))(H:m=len)(p:cap=m)(C:gro b=true)(A:1≤m)
  (k:EO X ops r ⟨upd t d (Y (some ⟨b,off+m*sz,some off⟩) 0 0),h,n,w⟩ Q):EO X ops (o::r) ⟨t,h,n,w⟩ Q:=by
 refine zA ⟨I,B,G,A3,?_⟩ k;rw[q];subst F H p;show yY X.E ty (KM t x) (some (KM t lo)) none=_;rw[J,D];have s:(0:Int)≤(cap:Int)∧(cap:Int)≤(cap:Int):=Z;simp only[yY,hu,g,Ld,De s,Ez,C,Dv A,Dv (Fu cap),EF,Ix,endA]
end
def ED(X:CtxF)(ops l:List Oper)(ms:List Nat)(i:Nat)(d:DF)(Q:SV→Prop):Prop:=∃s',z9 X ops l ms i d=some s'∧Q s'
theorem zn{X:CtxF}{ops:Array Oper}{s:SV}{Q:Ex→SV→Prop}(ms:List Nat)(p:wu ops.toList []=ms)(k:ED X ops.toList ops.toList ms 0 ⟨s,[],[],[]⟩ (Q .normal)):EC X (.region id ops true) s Q:=by
 obtain⟨q,g,j⟩:=k;refine⟨.normal,q,?_,j⟩;rw[xQ];simp only[p,g]
section
variable {X:CtxF}{t:TF}{h:HF}{ef:List (Nat×HF×List Nat)}{Q:SV→Prop}
theorem uO{s:SV}:ED X ops [] ms i ⟨s,al,ld,ef⟩ Q↔Q s:=by
 unfold ED;constructor
 .rintro⟨j,h,g⟩;unfold z9 at h;injection h with h;subst h;exact g
 exact fun h=>⟨s,by unfold z9;rfl,h⟩
theorem NJ(s:zh ops t o=false)(p:o.dst=some d)(q:zu X.nt (some d)=true)(k:ED X ops r ms (i+1) ⟨⟨upd t d undef,h,n,w⟩,al,ld,ef⟩ Q):ED X ops (o::r) (m::ms) i ⟨⟨t,h,n,w⟩,al,ld,ef⟩ Q:=by
 obtain⟨A,g,j⟩:=k;refine⟨A,?_,j⟩;unfold z9;simp only[s,wp,p,q,addW];exact g
theorem yQ(D:zh ops t o=true)(B:o.dst=some d)(C:zu X.nt (some d)=true)(g:(KS o.op==0||KS o.op==4)=true)(hv:yJ X.E o.op (KM t)=some v)(k:ED X ops r ms (i+1) ⟨⟨upd t d v,h,n,w⟩,al,ld,ef⟩ Q):ED X ops (o::r) (m::ms) i ⟨⟨t,h,n,w⟩,al,ld,ef⟩ Q:=by
 obtain⟨F,s,A⟩:=k;refine⟨F,?_,A⟩;unfold z9;simp only[D];unfold qx;have j:KS o.op≠1:=fun e=>by rw[e]at g;cases g
 have p:KS o.op≠2:=fun e=>by rw[e]at g;cases g
 have q:KS o.op≠3:=fun e=>by rw[e]at g;cases g
 split
 .exact oU nN j
 .exact oU nN p
 .exact oU nN q
 simp only[hv,wp,B,C,addW];exact s
theorem dr_I{a:Int}(g:Za X ops t o d ((KS o.op==0||KS o.op==4)=true∧yJ X.E o.op (KM t)=some (U ik a)))(k:ED X ops r ms (i+1) ⟨⟨upd t d (U ik a),h,n,w⟩,al,ld,ef⟩ Q):ED X ops (o::r) (m::ms) i ⟨⟨t,h,n,w⟩,al,ld,ef⟩ Q:=by exact Cf
theorem dr_B{a:Bool}(g:Za X ops t o d ((KS o.op==0||KS o.op==4)=true∧yJ X.E o.op (KM t)=some (Dk a)))(k:ED X ops r ms (i+1) ⟨⟨upd t d (Dk a),h,n,w⟩,al,ld,ef⟩ Q):ED X ops (o::r) (m::ms) i ⟨⟨t,h,n,w⟩,al,ld,ef⟩ Q:=by exact Cf
theorem dr_S(g:Za X ops t o d ((KS o.op==0||KS o.op==4)=true))(hv:yJ X.E o.op (KM t)=some (Y a l c))(k:ED X ops r ms (i+1) ⟨⟨upd t d (Y a l c),h,n,w⟩,al,ld,ef⟩ Q):ED X ops (o::r) (m::ms) i ⟨⟨t,h,n,w⟩,al,ld,ef⟩ Q:=by obtain⟨g,p,q,j⟩:=g;exact yQ g p q j hv k
theorem dr_P(g:Za X ops t o d ((KS o.op==0||KS o.op==4)=true∧yJ X.E o.op (KM t)=some (Dn (some ⟨b,off,none⟩))))(k:ED X ops r ms (i+1) ⟨⟨upd t d (Dn (some ⟨b,off,none⟩)),h,n,w⟩,al,ld,ef⟩ Q):ED X ops (o::r) (m::ms) i ⟨⟨t,h,n,w⟩,al,ld,ef⟩ Q:=by exact Cf
theorem dr_T{s:ByteArray}(g:Za X ops t o d ((KS o.op==0||KS o.op==4)=true∧yJ X.E o.op (KM t)=some (Dl s)))(k:ED X ops r ms (i+1) ⟨⟨upd t d (Dl s),h,n,w⟩,al,ld,ef⟩ Q):ED X ops (o::r) (m::ms) i ⟨⟨t,h,n,w⟩,al,ld,ef⟩ Q:=by obtain⟨g,p,q,j,A⟩:=g;exact yQ g p q j A k
theorem dr_A{cs:Array Value}(g:Za X ops t o d ((KS o.op==0||KS o.op==4)=true∧yJ X.E o.op (KM t)=some (.agg cs)))(k:ED X ops r ms (i+1) ⟨⟨upd t d (.agg cs),h,n,w⟩,al,ld,ef⟩ Q):ED X ops (o::r) (m::ms) i ⟨⟨t,h,n,w⟩,al,ld,ef⟩ Q:=by exact Cf
theorem dr_U{cs:Array Value}(g:Za X ops t o d ((KS o.op==0||KS o.op==4)=true∧yJ X.E o.op (KM t)=some (.tuple cs)))(k:ED X ops r ms (i+1) ⟨⟨upd t d (.tuple cs),h,n,w⟩,al,ld,ef⟩ Q):ED X ops (o::r) (m::ms) i ⟨⟨t,h,n,w⟩,al,ld,ef⟩ Q:=by exact Cf
theorem NK{a b:Int}(g:Za X ops t o d (o.op=.binOp .add ty x y ty'∧KM t x=U .i64 a∧KM t y=U .i64 b))(s: -9223372036854775808≤a+b∧a+b<9223372036854775808)
  (k:ED X ops r ms (i+1) ⟨⟨upd t d (U .i64 (a+b)),h,n,w⟩,al,ld,ef⟩ Q):ED X ops (o::r) (m::ms) i ⟨⟨t,h,n,w⟩,al,ld,ef⟩ Q:=by
 obtain⟨g,p,q,j,A,B⟩:=g;refine yQ g p q (by rw[j];rfl) ?_ k;rw[j];show binE X.E .add ty (KM t x) (KM t y)=_;rw[A,B];show some (U .i64 (D8 .i64 (a+b)))=_;rw[xI s]
theorem NL{a b:Int}(g:Za X ops t o d (o.op=.binOp .sub ty x y ty'∧KM t x=U .i64 a∧KM t y=U .i64 b))(s: -9223372036854775808≤a-b∧a-b<9223372036854775808)
  (k:ED X ops r ms (i+1) ⟨⟨upd t d (U .i64 (a-b)),h,n,w⟩,al,ld,ef⟩ Q):ED X ops (o::r) (m::ms) i ⟨⟨t,h,n,w⟩,al,ld,ef⟩ Q:=by
 obtain⟨g,p,q,j,A,B⟩:=g;refine yQ g p q (by rw[j];rfl) ?_ k;rw[j];show binE X.E .sub ty (KM t x) (KM t y)=_;rw[A,B];show some (U .i64 (D8 .i64 (a-b)))=_;rw[xI s]
theorem zS{g:HF}(p:Za X ops t o d (o.op=.load ty x∧KM t x=Dn (some ⟨b,off,none⟩)∧vm m ef i h=(u,g)))(hv:yE X.E ty g ⟨b,off,none⟩=some v)(j:wS u b ef=true∧pz m b al=true)
  (k:ED X ops r ms (i+1) ⟨⟨upd t d v,h,n,w⟩,al,(i,b)::ld,ef⟩ Q):ED X ops (o::r) (m::ms) i ⟨⟨t,h,n,w⟩,al,ld,ef⟩ Q:=by
 obtain⟨p,D,G,q,I,H⟩:=p;obtain⟨j,s⟩:=j;obtain⟨J,A,B⟩:=k;refine⟨J,?_,B⟩;unfold z9;simp only[p];unfold qx;have C:KS o.op=1:=by rw[q];rfl
 have F:na X.E o.op (KM t) g=some (v,b):=by rw[q];simp only[na,I,hv]
 simp only[C,H,F,j,s,EF,wp,D,G,addW];exact A
theorem O9{g:Mk}(C:zh ops t o=true)(s:o.dst=some d)(B:zu X.nt (some d)=true)(q:KS o.op=2)(A:KX X.E o.op (KM t)=some g)
  (k:ED X ops r ms (i+1) ⟨⟨upd t d (g.val n),upd h (g.name n) (some (.row g.c g.e)),n+1,w⟩,(i,g.name n)::al,ld,ef⟩ Q):ED X ops (o::r) (m::ms) i ⟨⟨t,h,n,w⟩,al,ld,ef⟩ Q:=by
 obtain⟨D,j,p⟩:=k;refine⟨D,?_,p⟩;unfold z9;simp only[C];unfold qx;simp only[q,A,Mf,wp,s,B,addW];exact j
theorem NM(g:Za X ops t o d (KS o.op=2∧KX X.E o.op (KM t)=some ⟨cs,e,false,some (l,c)⟩))
  (k:ED X ops r ms (i+1) ⟨⟨upd t d (Y (some ⟨3*n+2,0,none⟩) l c),upd h (3*n+2) (some (.row cs e)),n+1,w⟩,(i,3*n+2)::al,ld,ef⟩ Q):ED X ops (o::r) (m::ms) i ⟨⟨t,h,n,w⟩,al,ld,ef⟩ Q:=by obtain⟨g,p,s,j,q⟩:=g;exact O9 g p s j q k
theorem TZ(s:zh ops t o=true)(j:o.dst=some d)(q:zu X.nt (some d)=true)(g:KS o.op=2)(p:KX X.E o.op (KM t)=some ⟨cs,e,false,none⟩)
  (k:ED X ops r ms (i+1) ⟨⟨upd t d (Dn (some ⟨3*n+2,0,none⟩)),upd h (3*n+2) (some (.row cs e)),n+1,w⟩,(i,3*n+2)::al,ld,ef⟩ Q):ED X ops (o::r) (m::ms) i ⟨⟨t,h,n,w⟩,al,ld,ef⟩ Q:=O9 s j q g p k
theorem mZ(F:zh ops t o=true)(D:zu X.nt o.dst=true)(B:KS o.op=3)(C:effF X.E o.op (KM t) h n=some (.val v h' n' W))(g:xF m ef=true)(j:xW m al=true)(p:yd m W ld=true)(q:n≤n')
  (k:ED X ops r ms (i+1) ⟨⟨putF t o.dst v,h',n',addW X.n0 W w⟩,al,ld,(i,h,W)::ef⟩ Q):ED X ops (o::r) (m::ms) i ⟨⟨t,h,n,w⟩,al,ld,ef⟩ Q:=by
 obtain⟨G,s,A⟩:=k;refine⟨G,?_,A⟩;unfold z9;simp only[F];unfold qx;simp only[B,g,j,EF,ng,C,wp,D,p,Dv q];exact s
theorem yy(P:Value→HF→Nat→List Nat→Prop)(j:Za X ops t o d (KS o.op=3∧effF X.E o.op (KM t) h n=some (.enter f args)∧xF m ef=true∧xW m al=true))(g:CF X.C f args h n P)
  (k:∀v h' n' W,P v h' n' W→yd m W ld=true∧n≤n'∧ED X ops r ms (i+1) ⟨⟨upd t d v,h',n',addW X.n0 W w⟩,al,ld,(i,h,W)::ef⟩ Q):ED X ops (o::r) (m::ms) i ⟨⟨t,h,n,w⟩,al,ld,ef⟩ Q:=by
 obtain⟨j,H,J,G,I,q,s⟩:=j;obtain⟨v,h',n',W,p,K⟩:=g;obtain⟨A,B,L,D,F⟩:=k v h' n' W K;refine⟨L,?_,F⟩;unfold z9;simp only[j];unfold qx;simp only[G,q,s,EF,ng,I,p,wp,H,J,A,Dv B];exact D
theorem xK{a:Operand}{c:List Value}(p:zh ops t o=true∧o.dst=none∧o.op=.store ty a x∧X.E.inf ty=some (sz,bt,z)∧KM t a=Dn (some ⟨b,off,none⟩)∧zr (KM t x)=cs∧O cs=sz)(C:ones cs=true)(F:h b=some (.row c e))(G:off+sz≤O c)(j:3*X.n0≤b)(g:xF m ef=true∧xW m al=true∧yd m [b] ld=true)
  (k:ED X ops r ms (i+1) ⟨⟨t,upd h b (some (.row (zv c off cs) e)),n,w⟩,al,ld,(i,h,[b])::ef⟩ Q):ED X ops (o::r) (m::ms) i ⟨⟨t,h,n,w⟩,al,ld,ef⟩ Q:=by
 obtain⟨p,q,s,hi,D,I,H⟩:=p;obtain⟨g,A,B⟩:=g;subst I;refine mZ p A3 (by rw[s];rfl) (by rw[s];exact wx hi D H C F G) g A B Dh ?_;rw[q,wF j];exact k
theorem lg{s:Operand}(F:zh ops t o=true)(hd:o.dst=some d)(hn:zu X.nt (some d)=true)(j:o.op=.call {callee:=.builtin .append,args:=#[s,x],argTypes:=#[sT,xT]})(g:(match X.E.und xT with|some (.int _)=>false|none=>false|_=>true)=true)(C:yP X.E h n sT (KM t s) (KM t x)=some (.val v h' n' W))(p:xF m ef=true)(q:xW m al=true)(A:yd m W ld=true)(B:n≤n')
  (k:ED X ops r ms (i+1) ⟨⟨upd t d v,h',n',addW X.n0 W w⟩,al,ld,(i,h,W)::ef⟩ Q):ED X ops (o::r) (m::ms) i ⟨⟨t,h,n,w⟩,al,ld,ef⟩ Q:=by
 have D:effF X.E o.op (KM t) h n=some (.val v h' n' W):=by
  rw[j];show appF X.E [sT,xT] [KM t s,KM t x] h n=_;unfold appF;cases hu:X.E.und xT with
  |none=>rw[hu]at g;cases g
  |some u=>
   cases u with
   |int _=>rw[hu]at g;cases g
   |_=>simp only[hu];exact C
 refine mZ F Bz (by rw[j];rfl) D p q A B ?_;rw[hd];exact k
end
section
variable {X:CtxF}{t:TF}{h:HF}{ef:List (Nat×HF×List Nat)}{Q:SV→Prop}
theorem Pa{a b:Int}(c:o.op=.binOp .lss ty x y ty')(g:KM t x=U ik a)(j:KM t y=U ik b):yJ E o.op (KM t)=some (Dk (decide (a<b))):=by
 rw[c];show binE E .lss ty (KM t x) (KM t y)=_;rw[g,j];simp only[binE,isSh,yM,intE,Mt]
theorem Pb{a b:Int}(c:Za X ops t o d (o.op=.binOp .lss ty x y ty'∧KM t x=U ik a∧KM t y=U ik b))(p:a<b)
  (k:ED X ops r ms (i+1) ⟨⟨upd t d (Dk true),h,n,w⟩,al,ld,ef⟩ Q):ED X ops (o::r) (m::ms) i ⟨⟨t,h,n,w⟩,al,ld,ef⟩ Q:=by obtain⟨c,j,l,g,q,s⟩:=c;exact yQ c j l pl (by rw[Pa g q s,kA p]) k
theorem Pc{a b:Int}(c:Za X ops t o d (o.op=.binOp .lss ty x y ty'∧KM t x=U ik a∧KM t y=U ik b))(p:¬(a<b))
  (k:ED X ops r ms (i+1) ⟨⟨upd t d (Dk false),h,n,w⟩,al,ld,ef⟩ Q):ED X ops (o::r) (m::ms) i ⟨⟨t,h,n,w⟩,al,ld,ef⟩ Q:=by obtain⟨c,j,l,g,q,s⟩:=c;exact yQ c j l pl (by rw[Pa g q s,aA p]) k
theorem Pd{a b:Int}(c:o.op=.binOp .leq ty x y ty')(g:KM t x=U ik a)(j:KM t y=U ik b):yJ E o.op (KM t)=some (Dk (decide (a≤b))):=by
 rw[c];show binE E .leq ty (KM t x) (KM t y)=_;rw[g,j];simp only[binE,isSh,yM,intE,fX]
theorem Pe{a b:Int}(c:Za X ops t o d (o.op=.binOp .leq ty x y ty'∧KM t x=U ik a∧KM t y=U ik b))(p:a≤b)
  (k:ED X ops r ms (i+1) ⟨⟨upd t d (Dk true),h,n,w⟩,al,ld,ef⟩ Q):ED X ops (o::r) (m::ms) i ⟨⟨t,h,n,w⟩,al,ld,ef⟩ Q:=by obtain⟨c,j,l,g,q,s⟩:=c;exact yQ c j l pl (by rw[Pd g q s,kA p]) k
theorem Pf{a b:Int}(c:Za X ops t o d (o.op=.binOp .leq ty x y ty'∧KM t x=U ik a∧KM t y=U ik b))(p:¬(a≤b))
  (k:ED X ops r ms (i+1) ⟨⟨upd t d (Dk false),h,n,w⟩,al,ld,ef⟩ Q):ED X ops (o::r) (m::ms) i ⟨⟨t,h,n,w⟩,al,ld,ef⟩ Q:=by obtain⟨c,j,l,g,q,s⟩:=c;exact yQ c j l pl (by rw[Pd g q s,aA p]) k
theorem Pg{a b:Int}(c:o.op=.binOp .gtr ty x y ty')(g:KM t x=U ik a)(j:KM t y=U ik b):yJ E o.op (KM t)=some (Dk (decide (b<a))):=by
 rw[c];show binE E .gtr ty (KM t x) (KM t y)=_;rw[g,j];simp only[binE,isSh,yM,intE,Mt]
theorem Ph{a b:Int}(c:Za X ops t o d (o.op=.binOp .gtr ty x y ty'∧KM t x=U ik a∧KM t y=U ik b))(p:b<a)
  (k:ED X ops r ms (i+1) ⟨⟨upd t d (Dk true),h,n,w⟩,al,ld,ef⟩ Q):ED X ops (o::r) (m::ms) i ⟨⟨t,h,n,w⟩,al,ld,ef⟩ Q:=by obtain⟨c,j,l,g,q,s⟩:=c;exact yQ c j l pl (by rw[Pg g q s,kA p]) k
theorem Pi{a b:Int}(c:Za X ops t o d (o.op=.binOp .gtr ty x y ty'∧KM t x=U ik a∧KM t y=U ik b))(p:¬(b<a))
  (k:ED X ops r ms (i+1) ⟨⟨upd t d (Dk false),h,n,w⟩,al,ld,ef⟩ Q):ED X ops (o::r) (m::ms) i ⟨⟨t,h,n,w⟩,al,ld,ef⟩ Q:=by obtain⟨c,j,l,g,q,s⟩:=c;exact yQ c j l pl (by rw[Pg g q s,aA p]) k
theorem Pj{a b:Int}(c:o.op=.binOp .geq ty x y ty')(g:KM t x=U ik a)(j:KM t y=U ik b):yJ E o.op (KM t)=some (Dk (decide (b≤a))):=by
 rw[c];show binE E .geq ty (KM t x) (KM t y)=_;rw[g,j];simp only[binE,isSh,yM,intE,fX]
theorem Pk{a b:Int}(c:Za X ops t o d (o.op=.binOp .geq ty x y ty'∧KM t x=U ik a∧KM t y=U ik b))(p:b≤a)
  (k:ED X ops r ms (i+1) ⟨⟨upd t d (Dk true),h,n,w⟩,al,ld,ef⟩ Q):ED X ops (o::r) (m::ms) i ⟨⟨t,h,n,w⟩,al,ld,ef⟩ Q:=by obtain⟨c,j,l,g,q,s⟩:=c;exact yQ c j l pl (by rw[Pj g q s,kA p]) k
theorem Pl{a b:Int}(c:Za X ops t o d (o.op=.binOp .geq ty x y ty'∧KM t x=U ik a∧KM t y=U ik b))(p:¬(b≤a))
  (k:ED X ops r ms (i+1) ⟨⟨upd t d (Dk false),h,n,w⟩,al,ld,ef⟩ Q):ED X ops (o::r) (m::ms) i ⟨⟨t,h,n,w⟩,al,ld,ef⟩ Q:=by obtain⟨c,j,l,g,q,s⟩:=c;exact yQ c j l pl (by rw[Pj g q s,aA p]) k
theorem Pm{a b:Int}(c:o.op=.binOp .eql ty x y ty')(g:KM t x=U ik a)(j:KM t y=U ik b):yJ E o.op (KM t)=some (Dk (decide (a=b))):=by
 rw[c];show binE E .eql ty (KM t x) (KM t y)=_;rw[g,j];exact CD
theorem Pn{a b:Int}(c:Za X ops t o d (o.op=.binOp .eql ty x y ty'∧KM t x=U ik a∧KM t y=U ik b))(p:a=b)
  (k:ED X ops r ms (i+1) ⟨⟨upd t d (Dk true),h,n,w⟩,al,ld,ef⟩ Q):ED X ops (o::r) (m::ms) i ⟨⟨t,h,n,w⟩,al,ld,ef⟩ Q:=by obtain⟨c,j,l,g,q,s⟩:=c;exact yQ c j l pl (by rw[Pm g q s,kA p]) k
theorem Po{a b:Int}(c:Za X ops t o d (o.op=.binOp .eql ty x y ty'∧KM t x=U ik a∧KM t y=U ik b))(p:¬(a=b))
  (k:ED X ops r ms (i+1) ⟨⟨upd t d (Dk false),h,n,w⟩,al,ld,ef⟩ Q):ED X ops (o::r) (m::ms) i ⟨⟨t,h,n,w⟩,al,ld,ef⟩ Q:=by obtain⟨c,j,l,g,q,s⟩:=c;exact yQ c j l pl (by rw[Pm g q s,aA p]) k
theorem Pp{a b:Int}(c:o.op=.binOp .neq ty x y ty')(g:KM t x=U ik a)(j:KM t y=U ik b):yJ E o.op (KM t)=some (Dk (!decide (a=b))):=by
 rw[c];show binE E .neq ty (KM t x) (KM t y)=_;rw[g,j];exact CD
theorem Pq{a b:Int}(c:Za X ops t o d (o.op=.binOp .neq ty x y ty'∧KM t x=U ik a∧KM t y=U ik b))(p:¬(a=b))
  (k:ED X ops r ms (i+1) ⟨⟨upd t d (Dk true),h,n,w⟩,al,ld,ef⟩ Q):ED X ops (o::r) (m::ms) i ⟨⟨t,h,n,w⟩,al,ld,ef⟩ Q:=by obtain⟨c,j,l,g,q,s⟩:=c;exact yQ c j l pl (by rw[Pp g q s];simp[p]) k
theorem Pr{a b:Int}(c:Za X ops t o d (o.op=.binOp .neq ty x y ty'∧KM t x=U ik a∧KM t y=U ik b))(p:a=b)
  (k:ED X ops r ms (i+1) ⟨⟨upd t d (Dk false),h,n,w⟩,al,ld,ef⟩ Q):ED X ops (o::r) (m::ms) i ⟨⟨t,h,n,w⟩,al,ld,ef⟩ Q:=by obtain⟨c,j,l,g,q,s⟩:=c;exact yQ c j l pl (by rw[Pp g q s];simp[p]) k
theorem mY{c:Operand}{j:Int}(a:Za X ops t o d (o.op=.indexAddr ty x c∧X.E.und ty=some (.slice e)∧X.E.inf e=some (sz,bt,z)∧KM t x=Y (some ⟨b,off,none⟩) len cap∧KM t c=U ik j))(v:0≤j∧j<len)(k:ED X ops r ms (i+1) ⟨⟨upd t d (Dn (some ⟨b,off+j.toNat*sz,none⟩)),h,n,w⟩,al,ld,ef⟩ Q):ED X ops (o::r) (m::ms) i ⟨⟨t,h,n,w⟩,al,ld,ef⟩ Q:=by
 obtain⟨a,l,s,g,A,p,B,q⟩:=a;refine yQ a l s pl ?_ k;rw[g];show yU X.E ty (KM t x) (KM t c)=_;rw[B,q];simp only[yU,A,p,De v,ws]
theorem wa:∀{l:List (Nat×Nat)},yd m [] l=true:=by
 intro l;induction l with
 |nil=>rfl
 |cons x l ih=>
  obtain⟨i,b⟩:=x;unfold yd;rw[show memN b []=false from rfl,Gf,H7];exact ih
theorem vn:∀{l:List (Nat×HF×List Nat)},(∀x∈l,x.2.2=[])→wS u b l=true:=by
 intro l;induction l with
 |nil=>intro _;rfl
 |cons x l ih=>
  intro h;obtain⟨e,g,W⟩:=x;have a:W=[]:=h (e,g,W) cA;subst a;unfold wS;rw[show memN b []=false from rfl,Gf,H7];exact ih fun y c=>h y Bm
theorem mW(P:Value→Prop)(g:Za X ops t o d (KS o.op=3∧effF X.E o.op (KM t) h n=some (.enter f args)∧xF m ef=true∧xW m al=true))(a:CF X.C f args h n fun v j l w=>j=h∧l=n∧w=[]∧P v)
  (k:∀v,P v→ED X ops r ms (i+1) ⟨⟨upd t d v,h,n,w⟩,al,ld,(i,h,[])::ef⟩ Q):ED X ops (o::r) (m::ms) i ⟨⟨t,h,n,w⟩,al,ld,ef⟩ Q:=by
 obtain⟨g,A,D,s,B,p,q⟩:=g;refine yy _ ⟨g,A,D,s,B,p,q⟩ a fun v j l W c=>?_;obtain⟨rfl,rfl,rfl,c⟩:=c;exact⟨wa,Dh,k v c⟩
end
theorem NV:(∀(X:CtxF) (s:SV) (Q:Ex→SV→Prop) (a b:Code),EC X (.seq a b) s Q↔EC X a s (after X b Q))∧(∀(X:CtxF) (s:SV) (Q:Ex→SV→Prop) (i:Nat) (o:Array Oper),EC X (.region i o false) s Q↔EO X o.toList o.toList s (Q .normal))∧(∀(X:CtxF) (s:SV) (Q:Ex→SV→Prop) (i:Nat) (b:Code),EC X (.block i b) s Q↔EC X b s (nc i Q))∧(∀(X:CtxF) (s:SV) (Q:Ex→SV→Prop) (c:Code),EC X (.scope c) s Q↔EC X c s Q)∧(∀(X:CtxF) (s:SV) (Q:Ex→SV→Prop),EC X .skip s Q↔Q .normal s)∧(∀(X:CtxF) (s:SV) (Q:Ex→SV→Prop) (i:Nat),EC X (.exit i) s Q↔Q (.exit i) s)∧(∀(X:CtxF) (s:SV) (Q:Ex→SV→Prop),EC X .ret s Q↔Q .ret s)∧(∀(X:CtxF) (s:SV) (Q:Ex→SV→Prop) (l:Nat),EC X (.label l) s Q↔Q .normal s)∧
  (∀(X:CtxF) (o:List Oper) (s:SV) (Q:SV→Prop),EO X o [] s Q↔Q s)∧(∀(X:CtxF) (o:List Oper) (ms:List Nat) (i:Nat) (s:SV) (al ld:List (Nat×Nat)) (ef:List (Nat×HF×List Nat)) (Q:SV→Prop),ED X o [] ms i ⟨s,al,ld,ef⟩ Q↔Q s)∧(∀(X:CtxF) (s:SV) (Q:Ex→SV→Prop) (b:Code),after X b Q .normal s↔EC X b s Q)∧(∀(X:CtxF) (s:SV) (Q:Ex→SV→Prop) (b:Code) (i:Nat),after X b Q (.exit i) s↔Q (.exit i) s)∧(∀(X:CtxF) (s:SV) (Q:Ex→SV→Prop) (b:Code),after X b Q .ret s↔Q .ret s)∧
  (∀(s:SV) (Q:Ex→SV→Prop) (i:Nat),nc i Q .normal s↔Q .normal s)∧(∀(s:SV) (Q:Ex→SV→Prop) (i j:Nat),nc i Q (.exit j) s↔if j=i then Q .normal s else Q (.exit j) s)∧(∀(s:SV) (Q:Ex→SV→Prop) (i:Nat),nc i Q .ret s↔Q .ret s)∧(∀(α:Type) (l:α→List (Nat×Value)) (I:α→HF→Nat→List Nat→Prop) (μ:α→Nat) (a:α) (Q:Ex→SV→Prop) (s:SV) (i:Nat),oG l I μ a Q (.exit i) s↔Q (.exit i) s)∧(∀(α:Type) (l:α→List (Nat×Value)) (I:α→HF→Nat→List Nat→Prop) (μ:α→Nat) (a:α) (Q:Ex→SV→Prop) (s:SV),oG l I μ a Q .ret s↔Q .ret s)∧
  (∀(l:List (Nat×Value)) (I:HF→Nat→List Nat→Prop) (Q:Ex→SV→Prop) (s:SV) (i:Nat),cut l I Q (.exit i) s↔Q (.exit i) s)∧(∀(l:List (Nat×Value)) (I:HF→Nat→List Nat→Prop) (Q:Ex→SV→Prop) (s:SV),cut l I Q .ret s↔Q .ret s)∧(∀(α:Type) (l:α→List (Nat×Value)) (I:α→HF→Nat→List Nat→Prop) (Q:Ex→SV→Prop) (s:SV) (i:Nat),cutx l I Q (.exit i) s↔Q (.exit i) s)∧(∀(α:Type) (l:α→List (Nat×Value)) (I:α→HF→Nat→List Nat→Prop) (Q:Ex→SV→Prop) (s:SV),cutx l I Q .ret s↔Q .ret s)∧(∀(α:Sort 1) [Decidable True] (a b:α),(if True then a else b)=a)∧(∀(α:Sort 1) [Decidable False] (a b:α),(if False then a else b)=b)∧(∀(a b:Prop) [Decidable True],(if True then a else b)=a)∧(∀(a b:Prop) [Decidable False],(if False then a else b)=b)∧((1:Nat)=0↔False)∧((0:Nat)=1↔False):=
 ⟨fun _ _ _ _ _=>yj,fun _ _ _ _ _=>yc,fun _ _ _ _ _=>O5,fun _ _ _ _=>TC,fun _ _ _=>zX,fun _ _ _ _=>Tu,fun _ _ _=>Tv,fun _ _ _ _=>Tw,fun _ _ _ _=>yi,fun _ _ _ _ _ _ _ _ _=>uO,fun _ _ _ _=>zm,fun _ _ _ _ _=>TE,fun _ _ _ _=>TG,fun _ _ _=>gR,fun _ _ _ _=>TI,fun _ _ _=>TH,fun _ _ _ _ _ _ _ _=>dK,fun _ _ _ _ _ _ _=>TU,fun _ _ _ _ _=>TS,fun _ _ _ _=>TT,fun _ _ _ _ _ _=>TX,fun _ _ _ _ _=>TY,fun _ _ _ _=>De trivial,fun _ _ _ _=>CT id,fun _ _ _=>De trivial,fun _ _ _=>CT id,iff_false_intro Nat.one_ne_zero,iff_false_intro Nat.zero_ne_one⟩
theorem zN{p q:Prop}(k:q)(e:q→p:=by intro k;simp only[NV,Nat.reduceEqDiff,reduceCtorEq];exact k):p:=e k
section
variable {X:CtxF}{t:TF}{h:HF}{Q:SV→Prop}
theorem zR(k:EO X ops r ⟨upd t d v,h,n,w⟩ Q)(f:EO X ops r ⟨upd t d v,h,n,w⟩ Q→EO X ops (o::r) ⟨t,h,n,w⟩ Q:=by first|exact pZ R6 Z|exact bP R6 Z|exact oa R6 Z|exact mh R6 Z|exact mj R6 Z|exact kD R6 Z|exact kE R6 Z|exact gb R6 Z|exact bQ R6 Z|exact bT R6 Z|exact jA R6 Z|exact jB R6 Z|exact ql R6|exact MP R6|exact Mw R6|exact eD R6|exact jC R6|exact ga R6|exact td R6 Z|exact rZ R6 Z|exact st_I R5|exact st_B R5|exact st_S R5|exact st_P R5|exact st_T R5|exact st_A R5|exact st_U R5|exact zA (v:=.pointer none) R5|exact hH R3):EO X ops (o::r) ⟨t,h,n,w⟩ Q:=f k
theorem zM(k:EO X ops r ⟨upd t d v,h,n,w⟩ Q)(f:EO X ops r ⟨upd t d v,h,n,w⟩ Q→EO X ops (o::r) ⟨t,h,n,w⟩ Q:=by first|exact st_I R5|exact st_B R5|exact st_S R5|exact st_P R5|exact st_T R5|exact st_A R5|exact st_U R5|exact zA (v:=.pointer none) R5|exact hH R3):EO X ops (o::r) ⟨t,h,n,w⟩ Q:=f k
end
section
variable {X:CtxF}{t:TF}{h:HF}{ef:List (Nat×HF×List Nat)}{Q:SV→Prop}
theorem zD(k:ED X ops r ms (i+1) ⟨⟨upd t d v,h,n,w⟩,al,ld,ef⟩ Q)(f:ED X ops r ms (i+1) ⟨⟨upd t d v,h,n,w⟩,al,ld,ef⟩ Q→ED X ops (o::r) (m::ms) i ⟨⟨t,h,n,w⟩,al,ld,ef⟩ Q:=by first|exact Pb R6 Z|exact Pc R6 Z|exact Pe R6 Z|exact Pf R6 Z|exact Ph R6 Z|exact Pi R6 Z|exact Pk R6 Z|exact Pl R6 Z|exact Pn R6 Z|exact Po R6 Z|exact Pq R6 Z|exact Pr R6 Z|exact NK R6 Z|exact NL R6 Z|exact dr_I R5|exact dr_B R5|exact dr_S R4 rfl|exact dr_P R5|exact dr_T R5|exact dr_A R5|exact dr_U R5|exact NJ rfl rfl rfl):ED X ops (o::r) (m::ms) i ⟨⟨t,h,n,w⟩,al,ld,ef⟩ Q:=f k
theorem zE(k:ED X ops r ms (i+1) ⟨⟨upd t d v,h,n,w⟩,al,ld,ef⟩ Q)(f:ED X ops r ms (i+1) ⟨⟨upd t d v,h,n,w⟩,al,ld,ef⟩ Q→ED X ops (o::r) (m::ms) i ⟨⟨t,h,n,w⟩,al,ld,ef⟩ Q:=by first|exact NK R6 Z|exact NL R6 Z|exact dr_I R5|exact dr_B R5|exact dr_S R4 rfl|exact dr_P R5|exact dr_T R5|exact dr_A R5|exact dr_U R5|exact NJ rfl rfl rfl):ED X ops (o::r) (m::ms) i ⟨⟨t,h,n,w⟩,al,ld,ef⟩ Q:=f k
end
structure ZH (q:Prop):Prop where go:q
theorem Zb{p q:Prop}(k:q)(e:ZH q→p:=by intro k;(repeat refine zR ?_);refine zN ?_;exact k.go):p:=e ⟨k⟩
theorem Zc{p q:Prop}(k:q)(e:ZH q→p:=by intro k;refine zN ?_;refine Zb ?_;exact k.go):p:=e ⟨k⟩
theorem Zd{p q:Prop}(k:q)(e:ZH q→p:=by intro k;refine zN ?_;refine zM ?_;exact k.go):p:=e ⟨k⟩
theorem Ze{p q:Prop}(k:q)(e:ZH q→p:=by intro k;refine Zb ?_;rw[za rfl];exact k.go):p:=e ⟨k⟩
theorem Zg{p q:Prop}(k:q)(e:ZH q→p:=by intro k;refine zN ?_;(repeat refine zR ?_);exact k.go):p:=e ⟨k⟩
theorem Zh{p q:Prop}(k:q)(e:ZH q→p:=by intro k;refine Zb ?_;rw[zc rfl];exact k.go):p:=e ⟨k⟩
theorem Zi{p q:Prop}(k:q)(e:ZH q→p:=by intro k;refine zM ?_;refine zM ?_;exact k.go):p:=e ⟨k⟩
theorem Zj{p q:Prop}(k:q)(e:ZH q→p:=by intro k;refine Zb ?_;(repeat refine zR ?_);exact k.go):p:=e ⟨k⟩
theorem Zk{p q:Prop}(k:q)(e:ZH q→p:=by intro k;refine Ze ?_;refine zN ?_;exact k.go):p:=e ⟨k⟩
theorem Zl{p q:Prop}(k:q)(e:ZH q→p:=by intro k;refine Zb ?_;refine Zb ?_;exact k.go):p:=e ⟨k⟩
theorem Zm{p q:Prop}(k:q)(e:ZH q→p:=by intro k;refine Ze ?_;refine Zc ?_;exact k.go):p:=e ⟨k⟩
theorem Zn{p q:Prop}(k:q)(e:ZH q→p:=by intro k;refine zM ?_;refine zN ?_;exact k.go):p:=e ⟨k⟩
theorem Zo{p q:Prop}(k:q)(e:ZH q→p:=by intro k;refine Zh ?_;refine Zc ?_;exact k.go):p:=e ⟨k⟩
theorem Zp{p q:Prop}(k:q)(e:ZH q→p:=by intro k;refine Zd ?_;refine zM ?_;exact k.go):p:=e ⟨k⟩
theorem Zq{p q:Prop}(k:q)(e:ZH q→p:=by intro k;refine Zh ?_;refine zN ?_;exact k.go):p:=e ⟨k⟩
theorem Zr{p q:Prop}(k:q)(e:ZH q→p:=by intro k;refine Zh ?_;refine Zg ?_;exact k.go):p:=e ⟨k⟩
theorem Zu{p q:Prop}(k:q)(e:ZH q→p:=by intro k;refine Zc ?_;(repeat refine zR ?_);exact k.go):p:=e ⟨k⟩
theorem Zv{p q:Prop}(k:q)(e:ZH q→p:=by intro k;refine Ze ?_;refine Zg ?_;exact k.go):p:=e ⟨k⟩
theorem Zw{p q:Prop}(k:q)(e:ZH q→p:=by intro k;refine zM ?_;refine Zd ?_;exact k.go):p:=e ⟨k⟩
theorem Zx{p q:Prop}(k:q)(e:ZH q→p:=by intro k;refine Zc ?_;refine Zb ?_;exact k.go):p:=e ⟨k⟩
theorem Zy{p q:Prop}(k:q)(e:ZH q→p:=by intro k;refine Ze ?_;refine Zd ?_;exact k.go):p:=e ⟨k⟩
theorem Zz{p q:Prop}(k:q)(e:ZH q→p:=by intro k;refine Zb ?_;refine Zi ?_;exact k.go):p:=e ⟨k⟩
theorem ZA{p q:Prop}(k:q)(e:ZH q→p:=by intro k;refine Zi ?_;refine zR ?_;exact k.go):p:=e ⟨k⟩
theorem ZC{p q:Prop}(k:q)(e:ZH q→p:=by intro k;refine Zh ?_;refine Zp ?_;exact k.go):p:=e ⟨k⟩
theorem ZD{p q:Prop}(k:q)(e:ZH q→p:=by intro k;refine Zh ?_;refine Zd ?_;exact k.go):p:=e ⟨k⟩
theorem ZE{p q:Prop}(k:q)(e:ZH q→p:=by intro k;refine Zi ?_;refine zM ?_;exact k.go):p:=e ⟨k⟩
theorem ZF{p q:Prop}(k:q)(e:ZH q→p:=by intro k;rw[za rfl];refine zN ?_;exact k.go):p:=e ⟨k⟩
theorem ZG{p q:Prop}(k:q)(e:ZH q→p:=by intro k;refine Zb ?_;refine zM ?_;exact k.go):p:=e ⟨k⟩
theorem ZI{p q:Prop}(k:q)(e:ZH q→p:=by intro k;(repeat refine zD ?_);refine zN ?_;exact k.go):p:=e ⟨k⟩
end Go.GL
namespace Go.Proofs.YtfajmfoofmienaaGreatDoor
open Go Go.GL
variable {ops r:List Oper}{n bytes size cap off bt lo m' n' n0 sz c' id c1 c2 l1 l2 b k m d j V c B P p:Nat}{w ln W A C:List Nat}{o o2:Oper}{cells args new cs:List Value}{body:Code}{ty' e' ty xT e2 e3 e:TypeId}{fn:Func}{d1 d2 n1 n2 z2 v z:Value}{a1 a2 a:Option Addr}{α:Type}{ik:IntKind}{ji:Int}{f:FuncId}{x y:Operand}{E:Env}{q:Rat}
variable {sT:TypeId}{h' h:HF}{ld:List Nat}
def rV:Ex→Bool| .exit _=>false|_=>true
noncomputable def Lf(k n nt:Nat):CtxF:={E:=KT,C:=KO k,L:=LL,round:=none,n0:=n,nt:=nt}
theorem nM{h:HF}{n:Nat}{P:Value→HF→Nat→List Nat→Prop}(A:GK.orc f args=none)(l:KT.fn f=some fn)(y:fn.body=some body)(p:DX (O args) fn.ntmps=true)
  (B:EC (Lf k n fn.ntmps) body ⟨kq args,h,n,[]⟩ fun e s=>rV e=true∧∃c,resF KT s fn.results.toList=some c∧P (endF KT f h n s c).1 (endF KT f h n s c).2.1 (endF KT f h n s c).2.2.1 (endF KT f h n s c).2.2.2):CF (KO (k+1)) f args h n P:=by
 obtain⟨e,s,g,q,c,j,u⟩:=B;refine⟨_,_,_,_,?_,u⟩;rw[Tt k A h n];unfold LQ;unfold Lf at g;simp only[l,y,p,g];cases e with
 |exit i=>cases q
 |normal=>simp only[j]
 |ret=>simp only[j]
def RetH(fn:Func)(P:Value→HF→Nat→List Nat→Prop):Ex→SV→Prop:=fun e s=>rV e=true∧∃vs,resF KT s fn.results.toList=some vs∧tZ vs=false∧P (pw vs) s.h s.n s.w
theorem retH{P:Value→HF→Nat→List Nat→Prop}{e:Ex}{s:SV}(c:List Value)(g:rV e=true∧resF KT s fn.results.toList=some c∧tZ c=false)(hp:P (pw c) s.h s.n s.w):RetH fn P e s:=by obtain⟨g,j,i⟩:=g;exact⟨g,c,j,i,hp⟩
theorem zl{h:HF}{n:Nat}{P:Value→HF→Nat→List Nat→Prop}(c:GK.orc f args=none∧KT.fn f=some fn∧fn.body=some body∧DX (O args) fn.ntmps=true)
  (A:EC (Lf k n fn.ntmps) body ⟨kq args,h,n,[]⟩ (RetH fn P)):CF (KO (k+1)) f args h n P:=by
 obtain⟨c,i,y,j⟩:=c;refine nM c i y j (si A fun e s⟨l,g,p,q,u⟩=>⟨l,g,p,?_⟩);have e:endF KT f h n s g=(pw g,s.h,s.n,s.w):=by
  unfold endF;rw[q,Bool.and_false]
 rw[e];exact u
def RetF(fn:Func)(P:Value→Prop):Ex→SV→Prop:=fun e s=>rV e=true∧∃vs,resF KT s fn.results.toList=some vs∧tZ vs=true∧s.w=[]∧P (pw vs)
theorem retF{P:Value→Prop}{e:Ex}{s:SV}(c:List Value)(i:rV e=true)(j:resF KT s fn.results.toList=some c)(g:tZ c=true∧s.w=[])(hp:P (pw c)):RetF fn P e s:=by obtain⟨g,l⟩:=g;exact⟨i,c,j,g,l,hp⟩
def VF(C:CalF)(f:FuncId)(args:List Value)(h:HF)(n:Nat)(P:Value→Prop):Prop:=CF C f args h n fun v h' n' w=>h'=h∧n'=n∧w=[]∧P v
theorem zB{h:HF}{n:Nat}{P:Value→Prop}(c:GK.orc f args=none∧KT.fn f=some fn∧fn.body=some body∧DX (O args) fn.ntmps=true)
  (B:EC (Lf k n fn.ntmps) body ⟨kq args,h,n,[]⟩ (RetF fn P)):VF (KO (k+1)) f args h n P:=by
 obtain⟨c,i,A,j⟩:=c;refine nM c i A j (si B fun e s⟨l,g,p,q,u,y⟩=>⟨l,g,p,?_⟩);have e:endF KT f h n s g=(pw g,h,n,[]):=by
  unfold endF;rw[q,u];rfl
 rw[e];exact⟨rfl,rfl,rfl,y⟩
section
variable {X:CtxF}{t:TF}{h:HF}{Q:SV→Prop}{d:Tmp}
theorem ye(P:Value→Prop)(i:Za X ops t o d (KS o.op=3∧effF X.E o.op (KM t) h n=some (.enter f args)))(c:VF X.C f args h n P)
  (k:∀v,P v→EO X ops r ⟨upd t d v,h,n,w⟩ Q):EO X ops (o::r) ⟨t,h,n,w⟩ Q:=by
 obtain⟨i,l,q,j,p⟩:=i;refine zk _ ⟨i,l,q,j,p⟩ c fun v h' n' s g=>?_;obtain⟨rfl,rfl,rfl,g⟩:=g;exact k v g
end
theorem yD{C:CalF}{h:HF}{n:Nat}{P c:Value→HF→Nat→List Nat→Prop}(j:CF C f args h n P)(hp:∀v h' n' w,P v h' n' w→c v h' n' w):CF C f args h n c:=by
 obtain⟨v,h',n',w,g,i⟩:=j;exact⟨v,h',n',w,g,hp _ _ _ _ i⟩
theorem zj{s:SV}{a:Tmp}(h:s.t a=v):resF KT s [.tmp a]=some [v]:=by
 simp only[resF,h]
theorem T4{s:SV}{a:Tmp}{c:Addr}(g:s.t a=Dn (some c))(i:yE KT ty s.h c=some v):resF KT s [.cell a ty]=some [v]:=by
 simp only[resF,g,i]
theorem xu{P:Value→HF→Nat→List Nat→Prop}{e:Ex}{t:TF}{h:HF}{n:Nat}{w:List Nat}{a:Tmp}(c:rV e=true∧fn.results.toList=[.cell a ty]∧t a=Dn (some ⟨b,0,none⟩)∧GL.isAgg KT ty=some true∧KT.inf ty=some (sz,bt,z))(i:h b=some (.row cs e'))(q:O cs=sz)(hp:P (.agg cs.toArray) h n w):RetH fn P e ⟨t,h,n,w⟩:=by
 obtain⟨c,p,g,j,l⟩:=c;refine retH [.agg cs.toArray] ⟨c,?_,rfl⟩ hp;rw[p];exact T4 g (zF ⟨j,l⟩ i rfl Z ta)
def KN(n:Nat)(h h':HF):Prop:=∀b,b<3*n→h' b=h b
theorem KN.refl(n:Nat)(h:HF):KN n h h:=fun _ _=>rfl
theorem KN.trans{n:Nat}{a b c:HF}(h:KN n a b)(h':KN n' b c)(i:n≤n'):KN n a c:=fun k g=>(h' k Z).trans (h k g)
theorem uB{h:HF}{n:Nat}(j:GK.G h)(e:KN n h h')(l:20≤n):GK.G h':=by
 obtain⟨c,g,i⟩:=j;exact⟨(e _ Z).trans c,(e _ Z).trans g,(e _ Z).trans i⟩
theorem KN.upd{n:Nat}{h:HF}{x:Option BF}(c:3*n≤b):KN n h (GL.upd h b x):=fun k g=>zg Z
theorem KN.mono{n:Nat}{h:HF}(e:KN n' h h')(g:n≤n'):KN n h h':=fun k c=>e k Z
inductive Sl (h:HF) (n sz:Nat):Value→List Value→Prop
 |nil {a:Option Addr} {c:Nat} (ha:a=none∨∃b off sp,a=some ⟨b,off,sp⟩∧b<3*n):Sl h n sz (Y a 0 c) []
 |at_ {b off len cap:Nat} {x:BF} {cs cells:List Value} (hb:b<3*n) (hx:h b=some x) (hc:x.cells=some cs) (hcap:len≤cap) (hl:off+len*sz≤O cs) (he:(cs.drop off).take (len*sz)=cells):Sl h n sz (Y (some ⟨b,off,none⟩) len cap) cells
def yh(n:Nat):Value→Prop
 | Y (some a) _ _=>3*n≤a.block
 |_=>True
theorem uK{n:Nat}(h:a=none∨∃b c g,a=some ⟨b,c,g⟩∧b<3*n)(j:n≤n'):a=none∨∃b c g,a=some ⟨b,c,g⟩∧b<3*n':=by
 rcases h with h|⟨b,c,g,e,i⟩
 .exact .inl h
 exact .inr ⟨b,c,g,e,Z⟩
theorem Sl.ext{h:HF}{n:Nat}{c:List Value}(s:Sl h n sz v c)(e:KN n h h')(g:n≤n'):Sl h' n' sz v c:=by
 cases s with
 |nil ha=>exact .nil (uK ha g)
 |at_ hb hx hc hcap hl he=>exact .at_ Z (by rw[e _ hb];exact hx) hc hcap hl he
theorem Sl.keep{h:HF}{n:Nat}{c:List Value}(s:Sl h n sz v c)(g:∀a l cap,v=Y (some a) l cap→h' a.block=h a.block)(i:n≤n'):Sl h' n' sz v c:=by
 cases s with
 |nil ha=>exact .nil (uK ha i)
 |at_ hb hx hc hcap hl he=>exact .at_ Z (by rw[g _ _ _ rfl];exact hx) hc hcap hl he
theorem Sl.old{h:HF}{n:Nat}{c:List Value}{x:Option BF}(s:Sl h n sz v c)(g:yh m v)(i:b<3*m):Sl (GL.upd h b x) n sz v c:=
 s.keep (fun a l cap e=>by subst e;exact zg (by have:3*m≤a.block:=g;omega)) Dh
theorem yh.mono(h:yh m v)(c:m'≤m):yh m' v:=by
 unfold yh at*
 split<;>simp_all;omega
theorem Sl.ones{h:HF}{n:Nat}{c:List Value}(s:Sl h n sz v c)(r:List Value):ones (v::r)=ones r:=by
 cases s<;>rfl
theorem Sl.inv{h:HF}{n:Nat}{len:Nat}{c:List Value}(s:Sl h n sz (Y a len cap) c)(g:len≠0):∃b off x cs,a=some ⟨b,off,none⟩∧b<3*n∧h b=some x∧x.cells=some cs∧len≤cap∧off+len*sz≤O cs∧(cs.drop off).take (len*sz)=c:=by
 cases s with
 |nil ha=>exact oU rfl g
 |at_ hb hx hc hcap g he=>exact⟨_,_,_,_,rfl,hb,hx,hc,hcap,g,he⟩
theorem Sl.len{h:HF}{n:Nat}{c:List Value}(s:Sl h n sz v c):∃a l cap,v=Y a l cap∧O c=l*sz:=by
 cases s with
 |nil ha=>exact⟨_,_,_,rfl,cA⟩
 |at_ hb hx hc hcap hl he=>exact⟨_,_,_,rfl,by rw[←he];simp;omega⟩
section
variable {X:CtxF}{t:TF}{h:HF}{Q:SV→Prop}{d:Tmp}
theorem pn(g:Za X ops t o d (o.op=.convert ty e x∧uV X.E ty e (KM t x)=none))(y:pj X.E ty e (KM t x) h=some v)(k:EO X ops r ⟨upd t d v,h,n,w⟩ Q):EO X ops (o::r) ⟨t,h,n,w⟩ Q:=by
 obtain⟨g,s,u,c,p⟩:=g;obtain⟨A,i,j⟩:=k;refine⟨A,?_,j⟩;rw[seqF,g];have q:KS o.op=4:=by rw[c];rfl
 have l:KX X.E o.op (KM t)=none:=by rw[c];exact p
 simp only[Lv,q,l];rw[c];simp only[y,wp,s,u,addW];exact i
end
inductive Gro (h:HF) (lo n:Nat) (e:TypeId) (sz:Nat):Value→Nat→List Value→Prop
 |nil:Gro h lo n e sz (Y none 0 0) 0 []
 |at_ {b len:Nat} {c:List Value} (hg:gro b=true) (hlo:3*lo≤b) (hb:b<3*n) (hr:h b=some (.row c e)) (hl:O c=len*sz) (ho:ones c=true):Gro h lo n e sz (Y (some ⟨b,0,none⟩) len len) len c
theorem Gro.ext{h:HF}{n:Nat}{len:Nat}{c:List Value}(g:Gro h lo n e sz v len c)(i:KN n h h')(j:n≤n'):Gro h' lo n' e sz v len c:=by
 cases g with
 |nil=>exact .nil
 |at_ hg hlo hb hr hl ho=>exact .at_ hg hlo Z (by rw[i _ hb];exact hr) hl ho
theorem Gro.sl{h:HF}{n:Nat}{len:Nat}{c:List Value}(g:Gro h lo n e sz v len c):Sl h n sz v c:=by
 cases g with
 |nil=>exact .nil (.inl rfl)
 |at_ hg hlo hb hr hl ho=>exact .at_ hb hr rfl Dh Z ta
theorem Gro.fresh{h:HF}{n:Nat}{len:Nat}{c:List Value}(g:Gro h lo n e sz v len c):yh lo v:=by
 cases g with
 |nil=>trivial
 |at_ hg hlo hb hr hl ho=>exact hlo
theorem Gro.shape{h:HF}{n:Nat}{len:Nat}{c:List Value}(g:Gro h lo n e sz v len c):∃a,v=Y a len len∧O c=len*sz:=by
 cases g with
 |nil=>exact⟨_,rfl,cA⟩
 |at_ hg hlo hb hr hl ho=>exact⟨_,rfl,hl⟩
def Keep(v:Value)(n:Nat)(h h':HF):Prop:=∀b,b<3*n→(∀o l c,v≠Y (some ⟨b,o,none⟩) l c)→h' b=h b
def Below(m:Nat):Value→Prop
 | Y (some a) _ _=>a.block<3*m
 |_=>True
theorem Gro.below{h:HF}{n:Nat}{len:Nat}{c:List Value}(g:Gro h lo n e sz v len c):Below n v:=by
 cases g with
 |nil=>trivial
 |at_ hg hlo hb hr hl ho=>exact hb
theorem Sl.below{h:HF}{n:Nat}{c:List Value}(s:Sl h n sz v c):Below n v:=by
 cases s with
 |nil ha=>
  rcases ha with rfl|⟨b,i,j,rfl,g⟩
  .trivial
  exact g
 |at_ g hx hc hcap hl he=>exact g
theorem Sl.app{h:HF}{n:Nat}{u:Value}{c:List Value}(s:Sl h n sz u c)(p:Keep v n h h')(hv:Below m v)(j:yh m u)(q:n≤n'):Sl h' n' sz u c:=by
 cases s with
 |nil ha=>exact .nil (uK ha q)
 |at_ hb hx hc hcap hl he=>
  refine .at_ Z ?_ hc hcap hl he;rw[p _ hb fun o l c e=>by subst e;have g:_<3*m:=hv;have i:3*m≤_:=j;simp only at g i;omega];exact hx
theorem wI{a b:List Value}(c:ones a=true)(g:ones b=true):ones (a++b)=true:=by
 induction a with
 |nil=>exact g
 |cons v a ih=>cases v<;>simp[ones]at c⊢ <;>exact ih c
theorem pF(n:Nat):gro (3*n+1)=true:=by
 exact C2
theorem zZ{w:List Nat}(h:∀b∈W,3*n0≤b):addW n0 W w=w:=by
 induction W generalizing w with
 |nil=>rfl
 |cons b W ih=>
  show(match DX (3*n0) b with|true=>addW n0 W w|false=>addW n0 W (b::w))=w;rw[Dv (h b cA)];exact ih fun c g=>h c BS
theorem uk{h:HF}{n len:Nat}{x:Value}{c:List Value}(hu:E.und sT=some (.slice e))(q:E.inf e=some (size,bytes,z))(A:O (zr z)=size)(i:1≤size∧1≤bytes)(j:Gro h lo n e size v len c)(y:argS h size x m new)(s:1≤m)(g:(len+m)*bytes≤1099511627776)(l:O new=m*size)(p:ones new=true)(B:lo≤n):
  ∃v' h' W,yP E h n sT v x=some (.val v' h' (n+1) W)∧Gro h' lo (n+1) e size v' (len+m) (c++new)∧KN lo h h'∧Keep v n h h'∧(∀b∈W,3*lo≤b)∧yh n v':=by
 cases j with
 |nil=>
  refine⟨_,_,_,append_nil hu q A i.1 i.2 y s (by rw[D7]at g;exact g),?_,fun b g=>zg Z,fun b g _=>zg Z,fun b g=>oU g Ds,A2⟩;rw[D7];exact .at_ (pF n) Z Z (ze _ _ _) l p
 |at_ j hlo2 hb2 hr hl2 ho2=>
  refine⟨_,_,_,rS hu q A i.1 i.2 y s g j hr hl2 (wI ho2 p) l,?_,fun b g=>?_,fun b g u=>?_,fun b g=>?_,A2⟩
  .exact .at_ (pF n) Z Z (ze _ _ _) (by rw[Do,hl2,l,DE]) (wI ho2 p)
  .rw[zg Z,zg Z]
  .rw[zg Z,zg (fun e=>u 0 len len (by rw[e]))]
  simp at g;omega
section
variable {X:CtxF}{t:TF}{h:HF}{Q:SV→Prop}{d:Tmp}
theorem kG{s:Operand}{len:Nat}{c:List Value}(j:Za X ops t o d (o.op=.call {callee:=.builtin .append,args:=#[s,x],argTypes:=#[sT,xT]}∧(match X.E.und xT with|some (.int _)=>false|none=>false|_=>true)=true∧X.E.und sT=some (.slice e)∧X.E.inf e=some (size,bytes,z)∧O (zr z)=size))(u:1≤size∧1≤bytes)(F:Gro h lo n e size (KM t s) len c)(L:argS h size (KM t x) m new)(I:1≤m)(i:(len+m)*bytes≤1099511627776)(H:O new=m*size)(p:ones new=true)(l:X.n0≤lo∧lo≤n)
  (k:∀g h',Gro h' lo (n+1) e size g (len+m) (c++new)→KN lo h h'→Keep (KM t s) n h h'→EO X ops r ⟨upd t d g,h',n+1,w⟩ Q):EO X ops (o::r) ⟨t,h,n,w⟩ Q:=by
 obtain⟨j,hd,hn,J,q,K,G,M⟩:=j;obtain⟨g,h',W,y,A,B,D,C,_⟩:=uk K G M u F L I i H p l.2;refine yX ⟨j,hd,hn,J,q⟩ y ?_;rw[zZ fun b i=>by have:=C b i;omega];exact k g h' A B D
end
theorem Sl.take{h:HF}{n:Nat}{len:Nat}{c:List Value}(s:Sl h n sz (Y a len cap) c)(m:Nat)(y:m≤len):Sl h n sz (Y a m cap) (c.take (m*sz)):=by
 have i:=s.below;by_cases h0:len=0
 .have:m=0:=Z;subst this;rw[EI,Fe];cases a with
  |none=>exact .nil (.inl rfl)
  |some a=>
   cases s with
   |nil ha=>exact .nil ha
   |at_ i u l g hl p=>exact .nil (.inr ⟨_,_,_,rfl,i⟩)
 obtain⟨b,B,x,cs,rfl,j,u,l,g,A,p⟩:=s.inv h0;have q:m*sz≤len*sz:=Dw _ y;refine .at_ j u l Z Z ?_;rw[←p,GO,Ev q]
theorem yG{h:HF}{len:Nat}{x:BF}(i:h b=some x)(c:x.cells=some cs∧O cs=len*sz):argS h sz (Y (some ⟨b,0,none⟩) len cap) len cs:=by
 obtain⟨c,g⟩:=c;refine⟨rfl,?_⟩;simp only[yo];by_cases h0:len*sz=0
 .rw[De h0];rw[h0]at g;rw[DA.1 g]
 rw[CT h0];have:DX (0+len*sz) (O cs)=true:=Dv Z;simp only[tn,i,c,this,F2,EF,EE];rw[DK Z]
theorem uW{h:HF}{n:Nat}{len:Nat}{c:List Value}(s:Sl h n sz (Y a len cap) c):argS h sz (Y a len cap) len c:=by
 cases s with
 |nil ha=>
  refine⟨rfl,?_⟩;rcases ha with rfl|⟨b,g,i,rfl,_⟩<;>simp[yo]
 |at_ hb hx hc hcap hl he=>
  refine⟨rfl,?_⟩;simp only[yo];by_cases h0:len*sz=0
  .rw[De h0,←he,h0];simp
  rw[CT h0];have:DX (_+len*sz) _=true:=Dv hl;simp only[tn,hx,hc,this,F2,EF,he]
section
variable {len:Nat}
def u32s(l:List Nat):List Value:=l.map fun d:Nat=>U .u32 (d:Int)
theorem ym(l:List Nat):O (u32s l)=O l:=by simp[u32s]
theorem nT(a b:List Nat):u32s (a++b)=u32s a++u32s b:=by simp[u32s]
def z0(l:List Nat):List Nat:=(l.reverse.dropWhile (· ==0)).reverse
theorem xk(l:List Nat):z0 (l++[0])=z0 l:=by simp[z0]
theorem xp(l:List Nat)(h:d≠0):z0 (l++[d])=l++[d]:=by simp[z0,h]
theorem snoc{l:List Nat}(h:l≠[]):∃i d,l=i++[d]:=⟨l.dropLast,l.getLast h,(HJ h).symm⟩
theorem wq{u:Value}(e:(cs.drop off).take m=cells)(b:cells[j]?=some u):cs[off+j]?=some u:=by
 have c:=(Du.1 b).1;rw[←e]at b c;have:j<m:=by simp at c;omega
 rw[Eu this,Em]at b;exact b
theorem ur(k:Nat){l:List Nat}(A:O l<4611686018427387904)(hv:Sl h n 1 (Y a len cap) (u32s l)):CF (KO (k+1)) 109 [Y a len cap] h n fun u o q w=>o=h∧q=n∧w=[]∧u=Y a (O (z0 l)) cap∧Sl h n 1 u (u32s (z0 l)):=by
 refine zl (fn:=Tryz.f109) R4<|Zc ?_;have g:len=O l:=by
  obtain⟨D,C,y,e,B⟩:=hv.len;rw[ym]at B;injection e with e1 e2 e3
  omega
 subst g;refine zK (α:=List Nat) (fun c=>[(0,Y a (O c) cap)]) (fun c o q w=>o=h∧q=n∧w=[]∧Sl h n 1 (Y a (O c) cap) (u32s c)∧z0 c=z0 l∧O c<4611686018427387904) (fun c=>O c) l ⟨rfl,Df⟩ ⟨rfl,rfl,rfl,hv,rfl,A⟩ Aj ?_;rintro c t _ _ _⟨rfl,rfl,rfl,s,p,F⟩;refine zN ?_;by_cases hl0:c=[]
 .subst hl0;refine Zm ?_;refine retH _ ⟨rfl,(zj rfl),rfl⟩ ⟨rfl,rfl,rfl,?_⟩;rw[←p];exact⟨rfl,s⟩
 obtain⟨i,d,rfl⟩:=snoc hl0;rw[Do,Dy]at*
 cases s with
 |at_ hb2 hx hc hcap hle he=>
  rename_i b off x cs;have f:cs[off+O i]?=some (U .u32 (d:Int)):=wq he (by simp[u32s]);repeat refine zR ?_
  refine wn R8 Z<|zi R6 hx (v:=U .u32 (d:Int)) ⟨hc,(by rw[←f];congr 1;omega)⟩ ?_;by_cases hd:d=0
  .refine Zr ?_;refine u6 (O i) R8 Z Z<|Zb ?_;refine goOn i cA ⟨rfl,Df⟩ ⟨rfl,rfl,rfl,.at_ hb2 hx hc Z Z ?_,?_,Z⟩
   .have:=congrArg (List.take (O i)) he;rw[GO]at this;simpa [u32s,Ev]using this
   rw[←p,hd,xk]
  refine Zm ?_;refine retH _ ⟨rfl,(zj rfl),rfl⟩ ⟨rfl,rfl,rfl,?_⟩;rw[←p,xp _ hd];exact⟨ra,.at_ hb2 hx hc hcap hle he⟩
end
def val:List Nat→Nat
 |[]=>0
 |d::r=>d+4294967296*val r
def KV(l:List Nat):Prop:=∀d∈l,d<4294967296
theorem rt(a b:List Nat):val (a++b)=val a+4294967296^O a*val b:=by
 induction a with
 |nil=>simp[val]
 |cons d a ih=>
  simp only[Gp,val,ih,D3,DI,D4];rw[←DG,Dt (4294967296^O a) 4294967296];omega
theorem NN{l:List Nat}(h:KV l):val l<4294967296^O l:=by
 induction l with
 |nil=>simp[val]
 |cons d l ih=>
  have c:=h d cA;have e:=ih fun x a=>h x BR;simp only[val,D3,DI];omega
theorem xX{P:List Nat→Prop}(a:∀l,P l→P (l++[0]))(hp:∀l d,d≠0→P (l++[d]))(h0:P []):∀l,P l:=by
 intro l;induction h:O l generalizing l with
 |zero=>rw[DA.1 h];exact h0
 |succ m ih=>
  obtain⟨i,d,rfl⟩:=snoc (l:=l) Bg;by_cases hd:d=0
  .subst hd;exact a i (ih i AJ)
  exact hp i d hd
theorem wt:∀l,val (z0 l)=val l:=
 xX (fun l ih=>by rw[xk,ih,rt];simp[val]) (fun l d a=>by rw[xp l a]) rfl
theorem kt:∀l,z0 (z0 l)=z0 l:=
 xX (fun l ih=>by rw[xk,ih]) (fun l d a=>by rw[xp l a,xp l a]) rfl
theorem nU:∀l,KV l→KV (z0 l):=
 xX (fun l ih h=>by rw[xk];exact ih fun d a=>h d BR) (fun l d a h=>by rw[xp l a];exact h) (fun h=>h)
theorem yV:∀l,O (z0 l)≤O l:=
 xX (fun l ih=>by rw[xk];simp;omega) (fun l d a=>by rw[xp l a];exact Fu _) (by simp[z0])
def Norm(l:List Nat):Prop:=KV l∧z0 l=l
theorem Norm.trim{l:List Nat}(h:KV l):Norm (z0 l):=⟨nU l h,kt l⟩
theorem Norm.last{l:List Nat}(h:Norm (l++[d])):d≠0:=fun e=>by
 have a:=h.2;subst e;rw[xk]at a;have:=yV l;rw[a]at this;simp at this;omega
theorem Norm.pos{l:List Nat}(h:Norm l)(c:l≠[]):0<val l:=by
 obtain⟨i,d,rfl⟩:=snoc c;have e:=h.last;rw[rt];have:0<4294967296^O i:=Er Z;have a:0<val [d]:=by simp[val];omega
 have:=Fw this a;omega
theorem Norm.zero{l:List Nat}(h:Norm l):val l=0↔l=[]:=by
 constructor
 .intro c;apply DU;intro a;have:=h.pos a;omega
 rintro rfl;rfl
structure IntR (h:HF)(n:Nat)(c1 c2:Value)(x:Int)(l:List Nat):Prop where
 neg:c1=Dk (decide (x<0))
 sl:Sl h n 1 c2 (u32s l)
 norm:Norm l
 val:val l=x.natAbs
theorem IntR.ext{a c:Value}{x:Int}{l:List Nat}(r:IntR h n a c x l)(e:KN n h h')(f:n≤n'):IntR h' n' a c x l:=⟨r.neg,r.sl.ext e f,r.norm,r.val⟩
theorem IntR.old{c a:Value}{x:Int}{l:List Nat}{y:Option BF}(r:IntR h n c a x l)(f:yh m a)(e:b<3*m):IntR (upd h b y) n c a x l:=⟨r.neg,r.sl.old f e,r.norm,r.val⟩
theorem uL(k:Nat)(h:HF)(n:Nat)(neg:Bool)(a:Option Addr)(l c:Nat):CF (KO (k+1)) 95 [Dk neg,Y a l c] h n fun v h' n' w=>v=.agg #[Dk (neg&&decide (0<l)),Y a l c]∧n'=n+1∧w=[]∧KN n h h':=by
 refine zl (fn:=Tryz.f95) R4<|zN ?_;refine z6 R5<|zN ?_;cases neg
 .repeat refine zR ?_
  exact C6
 by_cases hl:0<l
 .repeat refine zR ?_
  exact CV
 repeat refine zR ?_
 exact Ch
theorem su(m:Nat)(h:0<m∧m≤18446744073709551616):D8 .u64 (-(m:Int))=((18446744073709551616-m:Nat):Int):=by
 simp only[D8,Gt,Ft];simp;omega
theorem tC(a:Nat)(h:0<a∧a<18446744073709551616):D8 .u64 (0-(a:Int))=((18446744073709551616-a:Nat):Int):=by
 simp only[D8,Gt,Ft];simp;omega
theorem Ps(m:Nat)(b:m<18446744073709551616):KV [m%4294967296,m/4294967296]∧val [m%4294967296,m/4294967296]=m:=by
 refine⟨fun d a=>?_,?_⟩
 .simp at a;rcases a with rfl|rfl<;>omega
 simp only[val];omega
theorem pG(k:Nat)(h:HF)(n:Nat)(x:Int)(F: -9223372036854775808≤x∧x<9223372036854775808):CF (KO (k+2)) 73 [U .i64 x] h n fun v h' n' w=>w=[]∧n≤n'∧KN n h h'∧∃c1 c2 l,v=.agg #[c1,c2]∧IntR h' n' c1 c2 x l∧yh n c2∧O l≤2:=by
 refine zl (fn:=Tryz.f73) R4 ?_;obtain⟨m,B⟩:∃m,m=x.natAbs:=⟨_,rfl⟩;have d:m<18446744073709551616:=Z;refine zN ?_;refine z6 R5<|zN ?_;generalize hh:upd h (3*n+2) _=h1;have u:∃e,h1 (3*n+2)=some (.row [Dk false,Y none 0 0] e):=⟨_,kS⟩;have i:KN n h h1:=by rw[←hh];exact C4
 repeat refine zR ?_
 refine vk (ik:=.u64) (a:=((if x<0 then 18446744073709551616-m else m:Nat):Int)) R6 ?_ ?_
 .show some (U .u64 (D8 .u64 x))=_;by_cases hn:x<0
  .rw[De hn,show x= -(m:Int)from Z,su m Z]
  rw[CT hn,show x=(m:Int)from Z,wz,Dz d]
 refine Zl ?_;refine oQ [(0,U .i64 x),(2,Dn (some ⟨3*n+2,0,none⟩)),(3,U .u64 (m:Int))] (fun h' n' w=>h1=h'∧n'=n+1∧w=[]) ?_ ?_
 .by_cases hn:x<0
  .rw[zc (by show Dk (decide (x<0))=_;rw[kA hn])];refine zN ?_;refine st_I R5<|zA (v:=U .u64 (m:Int)) ⟨rfl,rfl,rfl,rfl,?_⟩ ?_
   .show some (U .u64 (D8 .u64 (0-((if x<0 then 18446744073709551616-m else m:Nat):Int))))=_;rw[De hn,tC _ Z];congr 3;omega
   refine Zb ?_;exact vG V3 R3
  rw[za (by show Dk (decide (x<0))=_;rw[aA hn])];refine zN ?_;exact vG ⟨rfl,rfl,by show U .u64 ((if x<0 then 18446744073709551616-m else m:Nat):Int)=_;rw[CT hn],Df⟩ R3
 rintro t _ _ _⟨rfl,rfl,rfl⟩;refine Zg ?_;refine yB R7<|zM ?_;refine yg (s:=32) R6 Z<|yB R7 ?_;have C:m/2^32%4294967296=m/4294967296:=Z;rw[C];refine ud (cs:=u32s [m%4294967296,m/4294967296]) R5<|zk _ R5 (ur k (l:=[m%4294967296,m/4294967296]) cA (.at_ Z (ze _ _ _) rfl Z (by simp[u32s]) rfl)) ?_;rintro G _ _ _⟨rfl,rfl,rfl,rfl,D⟩;refine zk _ R5 (uL k _ _ (decide (x<0)) _ _ _) ?_;generalize hL:z0 [m%4294967296,m/4294967296]=L at*
 have o:O L≤2:=by rw[←hL];exact yV _
 have c:val L=m:=by rw[←hL,wt,(Ps m d).2]
 have p:Norm L:=by rw[←hL];exact Norm.trim (Ps m d).1
 have j:(decide (x<0)&&decide (0<O L))=decide (x<0):=by
  by_cases hn:x<0
  .have:L≠[]:=fun e=>by rw[e]at c;simp[val]at c;omega
   have:0<O L:=List.length_pos_iff.2 this;simp[this]
  simp[hn]
 rintro H y n2 _⟨rfl,rfl,rfl,f⟩;obtain⟨e,A⟩:=u;have g:y (3*n+2)=some (.row [Dk false,Y none 0 0] e):=by
  rw[f _ Z,zg Z];exact A
 refine zw [Dk (decide (x<0)),Y (some ⟨3*(n+1)+2,0,none⟩) (O L) 2] ⟨rfl,rfl,rfl,rfl,rfl,(by show[Dk (decide (x<0)&&decide (0<O L)),_]=_;rw[j]),rfl⟩ rfl g rfl eL ?_;refine zN ?_;refine xu R5 (ze _ _ _) rfl ⟨rfl,Z,fun b g=>?_,_,_,L,rfl,⟨rfl,?_,p,by rw[c,B]⟩,?_,o⟩
 .rw[zg Z,f b Z,zg Z];exact i b g
 .exact(D.ext f Z).old (m:=n+1) (show 3*(n+1)≤3*(n+1)+2 by omega) Z
 exact jy
structure RatR (h:HF)(n:Nat)(n1 n2 d1 d2:Value)(q:Rat)(ln ld:List Nat):Prop where
 num:IntR h n n1 n2 q.num ln
 neg:d1=Dk false
 sl:Sl h n 1 d2 (u32s ld)
 norm:Norm ld
 val:val ld=if q.den=1 then 0 else q.den
theorem RatR.ext(r:RatR h n n1 n2 d1 d2 q ln ld)(e:KN n h h')(a:n≤n'):RatR h' n' n1 n2 d1 d2 q ln ld:=⟨r.num.ext e a,r.neg,r.sl.ext e a,r.norm,r.val⟩
theorem Norm.nil:Norm []:=⟨fun d a=>oU a Ds,rfl⟩
theorem r_ok(k:Nat)(h:HF)(n:Nat)(x:Int)(j: -9223372036854775808≤x∧x<9223372036854775808):CF (KO (k+3)) 30 [U .i64 x] h n fun v h' n' w=>w=[]∧n≤n'∧KN n h h'∧∃n1 n2 ln,v=.agg #[n1,n2,Dk false,Y none 0 0]∧RatR h' n' n1 n2 (Dk false) (Y none 0 0) (x:Rat) ln []∧yh n n2∧O ln≤2:=by
 refine zl (fn:=Tryz.f30) R4<|zN ?_;refine z6 R5<|Zg ?_;refine zk _ R5 (pG k _ _ x j) ?_;rintro _ o n2 _⟨rfl,m,d,c,a,l,rfl,e,f,i⟩;refine zA (v:=.agg #[c,a,Dk false,Y none 0 0]) R5 ?_;have g:ones [c,a,Dk false,Y none 0 0]=true:=by
  rw[e.neg];show ones (a::_)=true;rw[e.sl.ones];rfl
 refine zw [c,a,Dk false,Y none 0 0] R7 g (by rw[d _ Z,ze]) rfl eL ?_;refine zN ?_;refine xu R5 (ze _ _ _) rfl ⟨rfl,Z,fun b p=>by rw[zg Z,d b Z,zg Z],c,a,l,rfl,⟨e.old f Z,rfl,.nil (.inl rfl),Norm.nil,by simp;rfl⟩,f.mono Z,i⟩
theorem eH(k:Nat){j m:Value}{x:Int}{l:List Nat}(c:IntR h n j m x l):VF (KO (k+1)) 74 [.agg #[j,m]] h n fun v=>v=U .i64 x.sign:=by
 refine zB (fn:=Tryz.f74) R4 ?_;obtain⟨a,b,d,rfl,g⟩:=c.sl.len;have i:=c.neg;subst i;refine zN ?_;refine xV (cs:=[Dk (decide (x<0)),Y a b d]) R5<|Zj ?_;refine zi R6 (ze _ _ _) (v:=Dk (decide (x<0))) R2<|Zb ?_;by_cases hx:x<0
 .rw[zc (by show Dk (decide (x<0))=_;rw[kA hx])];refine Zc ?_;exact retF _ rfl (zj rfl) R2 (by rw[Int.sign_eq_neg_one_of_neg hx];rfl)
 rw[za (by show Dk (decide (x<0))=_;rw[aA hx])];refine Zg ?_;refine zi R6 (ze _ _ _) (v:=Y a b d) R2 ?_;have f:b=0↔x=0:=by
  have o:=c.norm.zero;have p:=c.val;rw[ym]at g;rw[←DA]at o;omega
 by_cases h0:x=0
 .have:=f.2 h0;refine Zo ?_;exact retF _ rfl (zj rfl) R2 (by rw[h0];rfl)
 have:¬b=0:=fun e=>h0 (f.1 e);refine Zm ?_;exact retF _ rfl (zj rfl) R2 (by rw[Int.sign_eq_one_of_pos Z];rfl)
theorem ag(k:Nat)(a:RatR h n n1 n2 d1 d2 q ln ld):VF (KO (k+2)) 31 [.agg #[n1,n2,d1,d2]] h n fun v=>v=U .i64 q.num.sign:=by
 refine zB (fn:=Tryz.f31) R4<|zN ?_;refine xV (cs:=[n1,n2,d1,d2]) R5<|Zj ?_;refine zO (v:=.agg #[n1,n2]) R5 (zF R2 (ze _ _ _) rfl zb rfl)<|ye _ R5 (eH k (a.num.ext (KN.upd Z) Z)) ?_;rintro _ rfl;refine Zb ?_;exact B4
section
variable {len:Nat}
theorem Ua(j:Nat)(z v:Value)(r:List Value):zv (Dp (j+1) z++r) j [v]=Dp j z++(v::r):=by
 unfold zv;have b:(Dp (j+1) z++r).take j=Dp j z:=by
  rw[GP,DN,List.take_left' cA]
 have c:(Dp (j+1) z++r).drop (j+[v].length)=r:=List.drop_left' cA;rw[b,c];rfl
theorem wc{l:List Nat}(h:l[j]?=some d):l.drop j=d::l.drop (j+1):=by
 obtain⟨b,rfl⟩:=Du.1 h;exact Fs b
theorem NO(r a:Nat)(f:r<4294967296)(e:a<4294967296):r*2^32%18446744073709551616|||a=r*4294967296+a:=by
 have c:r*2^32%18446744073709551616=r*4294967296:=Z;rw[c];have:=Je (i:=32) (b:=a) Z r;rw[show r*4294967296=2^32*r from Z,←this]
theorem Ub{r Vq a:Nat}(c:0<d)(b:V=d*Vq+r):(a+4294967296*V)/d=(r*4294967296+a)/d+4294967296*Vq∧(a+4294967296*V)%d=(r*4294967296+a)%d:=by
 have e:a+4294967296*V=(r*4294967296+a)+d*(4294967296*Vq):=by
  rw[b,D4,←DG,Dt 4294967296 d,DG];omega
 rw[e,HW _ _ c,GF];exact⟨rfl,rfl⟩
theorem mp(k:Nat){l:List Nat}(T:O l<1099511627)(M:KV l)(f:0<d∧d<4294967296)(hv:Sl h n 1 (Y a len cap) (u32s l)):
  CF (KO (k+2)) 96 [Y a len cap,U .u32 (d:Int)] h n fun v m G w=>w=[]∧n≤G∧KN n h m∧∃u c' L,v=.tuple #[Y u (O L) c',U .u32 ((val l%d:Nat):Int)]∧Sl m G 1 (Y u (O L) c') (u32s L)∧Norm L∧val L=val l/d∧yh n (Y u (O L) c')∧O L≤O l:=by
 refine zl (fn:=Tryz.f96) R4 ?_;have D:len=O l:=by
  obtain⟨u,a5,a2,e,M⟩:=hv.len;rw[ym]at M;injection e with A S I
  omega
 subst D;refine Zu ?_;refine xP R9 Z ?_;rw[show zr (U .u32 0)=[U .u32 0]from rfl,O6];refine Zl ?_;refine Zb ?_;refine zK (α:=Nat×List Nat×Nat) (fun x=>[(0,Y a (O l) cap),(1,U .u32 (d:Int)),(6,Y (some ⟨3*n+2,0,none⟩) (O l) (O l)),(7,U .u64 ((x.2.2:Nat):Int)),(8,U .i64 ((x.1:Int)-1))])
  (fun x m G w=>G=n+1∧w=[]∧KN n h m∧x.1≤O l∧(∃e,m (3*n+2)=some (.row (Dp x.1 (U .u32 0)++u32s x.2.1) e))∧x.1+O x.2.1=O l∧KV x.2.1∧x.2.2<d∧val (l.drop x.1)=d*val x.2.1+x.2.2) (fun x=>x.1)
  (O l,[],0) V5 ⟨rfl,rfl,KN.upd Z,Dh,⟨_,by rw[ze,show u32s []=[]from rfl,DZ]⟩,cA,fun d f=>oU f Ds,f.1,by simp[val]⟩ Aj ?_
 rintro⟨j,q,r⟩ t h1 _ _ ⟨rfl,rfl,g,hj,⟨e,i⟩,Z0,N,F,o⟩;simp only at hj i Z0 N F o;refine zN ?_;cases j with
 |zero=>
  refine Zv ?_;refine zk _ R5 (ur k (l:=q) Z (.at_ Z i rfl Z (by simp[u32s];omega) (by rw[DK (by simp[u32s];omega)];simp))) ?_;rintro v' _ _ _⟨rfl,rfl,rfl,rfl,hs⟩;refine zM ?_;refine yB R7<|Zb ?_;have W:l.drop 0=l:=rfl;rw[W]at o;refine retH [Y (some ⟨3*n+2,0,none⟩) (O (z0 q)) (O l),U .u32 ((val l%d:Nat):Int)] ⟨rfl,?_,rfl⟩ ⟨rfl,AD,g,_,_,z0 q,rfl,hs,Norm.trim N,?_,?_,?_⟩
  .have A:val l%d=r%4294967296:=by rw[o,Nat.mul_add_mod,Dz F,Dz Z]
   rw[A];rfl
  .rw[wt,o,Nat.mul_add_div f.1,Fz F];omega
  .exact bR
  have:=yV q;omega
 |succ j=>
  have K:j<O l:=Z;obtain⟨c,p⟩:∃c,l[j]?=some c:=⟨l[j],by simp[K]⟩;have Z3:c<4294967296:=M c (Dq p);have C:=wc p;obtain⟨b,a1,x,P,rfl,Z4,hx,hc,a4,a6,he⟩:=hv.inv Z;have B:P[a1+j]?=some (U .u32 (c:Int)):=wq he (by rw[u32s,DB,p];rfl);have a0:h1 b=some x:=by rw[g b Z4];exact hx
  refine ZD ?_;refine yS (s:=32) R6 Z<|Zi ?_;refine wn R8 Z<|zi R6 a0 (v:=U .u32 (c:Int)) ⟨hc,(by rw[←B];congr 1;omega)⟩ ?_;refine tH R7 ?_;rw[Dz (show c<18446744073709551616 by omega)];refine xZ R6 Z ?_;rw[NO r c Z Z3];refine Zb ?_;obtain⟨R,J⟩:∃R,R=r*4294967296+c:=⟨_,rfl⟩;rw[←J];have H:R/d<4294967296:=by
   rw[Ff f.1,J];have:r*4294967296+c<(r+1)*4294967296:=Z;have h2:(r+1)*4294967296≤d*4294967296:=Dw _ F;omega
  have a3:R<18446744073709551616:=Z;refine Zi ?_;refine Zi ?_;refine tH R7 ?_;rw[Dz (show d<18446744073709551616 by omega)];refine xO R6 Z<|yB R7 ?_;rw[Dz H];refine wn R8 Z<|yr (cs:=[U .u32 ((R/d:Nat):Int)]) R8 i (by simp[u32s]) eL ?_;rw[show 0+((j+1:Nat)-1:Int).toNat*1=j from Z,Ua];refine Zp ?_;refine tH R7 ?_;rw[Dz (show d<18446744073709551616 by omega)];refine vg R6 Z<|Zl ?_;obtain⟨A,S⟩:=Ub (a:=c) f.1 o;refine goOn (j,(R/d)::q,R%d) cA ⟨rfl,rfl,rfl,rfl,aD,Df⟩ ⟨rfl,rfl,fun b T=>?_,BC,⟨_,ze _ _ _⟩,by show j+(O q+1)=_;omega,?_,EA _ f.1,?_⟩
  .exact(zg Z).trans (g b T)
  .intro y Z1;rcases DR.1 Z1 with rfl|Z1
   .exact H
   exact N y Z1
  show val (l.drop j)=d*(R/d+4294967296*val q)+R%d;rw[C];have I:=EP (c+4294967296*val (l.drop (j+1))) d;rw[A,S,←J]at I;exact I.symm
end
section
variable {len:Nat}
def decD(V:Nat):List Nat:=if h:V=0 then[]else decD (V/10)++[V%10]
termination_by V
decreasing_by omega
theorem yZ:decD 0=[]:=by rw[decD];simp
theorem wE(h:V≠0):decD V=decD (V/10)++[V%10]:=by rw[decD,dif_neg h]
theorem fF(b:c<10)(h:V≠0∨c≠0):decD (10*V+c)=decD V++[c]:=by
 rw[wE Z,show(10*V+c)/10=V from Z,show(10*V+c)%10=c from Z]
theorem Uc:decD V=[]↔V=0:=by
 constructor
 .intro h;apply DU;intro b;rw[wE b]at h;simp at h
 rintro rfl;exact yZ
def KY(l:List Nat):List Value:=l.map fun d:Nat=>U .u8 (d:Int)
theorem pi(l:List Nat):O (KY l)=O l:=by simp[KY]
theorem Ud(l:List Nat):oP (KY l)=some (l.map EV):=by
 induction l with
 |nil=>rfl
 |cons d l ih=>
  show(match oP (KY l)with|some r=>some (EV (d:Int).toNat::r)|none=>none)=_;rw[ih];simp
theorem qV(l:List Nat):ones (KY l)=true:=by
 induction l with
 |nil=>rfl
 |cons d l ih=>exact ih
def decB(V:Nat):List Nat:=(decD V).map (48+ ·)
def NP(V:Nat):ByteArray:=⟨⟨if V=0 then[48]else(decB V).map EV⟩⟩
def uH(V:Nat):Nat:=if h:V=0 then 0 else uH (V/1000000000)+1
termination_by V
decreasing_by omega
theorem mF:uH 0=0:=by rw[uH];simp
theorem kP(h:V≠0):uH V=uH (V/1000000000)+1:=by rw[uH,dif_neg h]
theorem Ue:∀(m V:Nat),V<1000000000^m→uH V≤m:=by
 intro m;induction m with
 |zero=>(intro V h;have:V=0:=by simpa using h);subst this;rw[mF];exact Fu _
 |succ m ih=>
  intro V h;by_cases h0:V=0
  .subst h0;rw[mF];omega
  rw[kP h0];have:=ih (V/1000000000) Bl;omega
theorem kQ{l:List Nat}(h:KV l):uH (val l)≤2*O l:=by
 apply Ue;refine DY (NN h) ?_;rw[Hj];exact Ig zd _
def valP:List Nat→Nat
 |[]=>0
 |d::r=>d+1000000000*valP r
theorem eh(a b:List Nat):valP (a++b)=valP a+1000000000^O a*valP b:=by
 induction a with
 |nil=>simp[valP]
 |cons d a ih=>
  simp only[Gp,valP,ih,D3,DI,D4];rw[←DG,Dt (1000000000^O a) 1000000000];omega
theorem rx{d:TypeId}{B:List Nat}(b:E.und ty=some (.slice d)∧E.und e=some .string∧E.und d=some (.int .u8))(i:argS h 1 (Y a len c) len (KY B)):pj E ty e (Y a len c) h=some (Dl ⟨⟨B.map EV⟩⟩):=by
 obtain⟨b,f,g⟩:=b;simp only[pj,b,f,g,i.2,Ud]
theorem lH(b:c<10)(h:V≠0∨c≠0):decB (10*V+c)=decB V++[48+c]:=by
 unfold decB;rw[fF b h];simp
theorem Ug(p s:Nat):10*(p/10^(s+1))+p/10^s%10=p/10^s:=by
 have:p/10^(s+1)=p/10^s/10:=by rw[DI,Nat.div_div_eq_div_mul]
 rw[this];omega
theorem Uh(s:Nat):10^(s+1)/10=10^s:=by rw[DI];omega
theorem Ui{s:Nat}(h:s≤9):10^s≤1000000000:=by
 have:=DJ (n:=10) Z h;omega
theorem nH(V:Nat):O (decB V)=O (decD V):=by simp[decB]
theorem fB(k:Nat){c1 c2:Value}{x:Int}{l:List Nat}(q:IntR h n c1 c2 x l)(hb:O l<1000000):VF (KO (k+3)) 56 [.agg #[c1,c2]] h n fun v=>v=Dl (NP x.natAbs):=by
 refine zB (fn:=Tryz.f56) R4 ?_;obtain⟨a,len,y,rfl,ad⟩:=q.sl.len;have ay:len=O l:=by rw[ym]at ad;omega
 subst ay;have ae:=q.neg;subst ae;have Z1:=q.val;refine zN ?_;refine xV (cs:=[Dk (decide (x<0)),Y a (O l) y]) R5<|Zj ?_;refine zi R6 (ze _ _ _) (v:=Y a (O l) y) R2<|zM ?_;by_cases h0:l=[]
 .have:O l=0:=by rw[h0];rfl
  refine Zo ?_;have b6:x.natAbs=0:=by rw[←Z1,h0];rfl
  exact retF _ rfl (zj rfl) R2 (by rw[b6];rfl)
 have bf:O l≠0:=fun e=>h0 (DA.1 e);refine Zm ?_;repeat refine zR ?_
 refine zi R6 (ze _ _ _) (v:=Y a (O l) y) R2<|Zb ?_;generalize hh:upd h (3*n+2) _=h1;have ac:KN n h h1:=by rw[←hh];exact C4
 refine zK (α:=Value×Option Addr×Nat×List Nat×List Nat) (fun z=>[(3,z.1),(4,Y z.2.1 (O z.2.2.2.1) z.2.2.1)])
  (fun z i g w=>w=[]∧n+1≤g∧Gro i (n+1) g 151 1 z.1 (O z.2.2.2.2) (u32s z.2.2.2.2)∧Sl i g 1 (Y z.2.1 (O z.2.2.2.1) z.2.2.1) (u32s z.2.2.2.1)∧Norm z.2.2.2.1∧O z.2.2.2.1≤O l∧O z.2.2.2.2+uH (val z.2.2.2.1)≤2*O l∧(∀p∈z.2.2.2.2,p<1000000000)∧val l=valP z.2.2.2.2+1000000000^O z.2.2.2.2*val z.2.2.2.1)
  (fun z=>uH (val z.2.2.2.1)) (Y none 0 0,a,y,l,[]) V2 ⟨rfl,Dh,.nil,q.sl.ext ac Z,q.norm,Dh,by have:=kQ q.norm.1;simp;omega,cA,by simp[valP]⟩ (by show uH (val l)<LL;have:=kQ q.norm.1;unfold LL;omega) ?_
 rintro⟨v3,a4,c4,L,P⟩ t h2 u w2 ⟨rfl,bh,H,hs,hN,ah,aj,hP,J⟩;simp only at H hs hN ah aj hP J;refine zN ?_;by_cases hL0:L=[]
 .have a2:O L=0:=by rw[hL0];rfl
  have J:val l=valP P:=by rw[J,hL0];simp[val]
  refine Zm ?_;obtain⟨a3,rfl,_⟩:=H.shape;refine Zb ?_;have b9:O P<4000000:=Z;refine zK (α:=Nat×Value×Nat) (fun z=>[(3,Y a3 (O P) (O P)),(7,z.2.1),(8,U .i64 ((z.1:Int)-1))])
   (fun z i g w=>w=[]∧u≤g∧z.1≤O P∧KN u h2 i∧z.2.2=valP (P.drop z.1)∧Gro i u g 5 1 z.2.1 (O (decD z.2.2)) (KY (decB z.2.2))∧O (decD z.2.2)≤9*(O P-z.1)) (fun z=>z.1)
   (O P,Y none 0 0,0) V3 ⟨rfl,Dh,Dh,KN.refl _ _,by simp[valP],by show Gro _ _ _ _ _ _ (O (decD 0)) (KY (decB 0));rw[decB,yZ];exact .nil,by rw[yZ];simp⟩ (by show O P<LL;unfold LL;omega) ?_
  rintro⟨j,v7,V⟩ t h4 n4 w4 ⟨rfl,b0,hj,b7,K,C,ap⟩;simp only at hj K C ap;refine zN ?_;cases j with
  |zero=>
   refine Zk ?_;obtain⟨a7,rfl,_⟩:=C.shape;have am:V=x.natAbs:=by rw[K,←Z1,J];rfl
   have ak:V≠0:=by have:=q.norm.pos h0;omega
   repeat refine zR ?_
   refine pn R5 (rx R3 (uW C.sl))<|Zb ?_;exact retF _ rfl (zj rfl) R2 (by rw[←am,NP,CT ak];rfl)
  |succ j=>
   have av:j<O P:=Z;obtain⟨p,f⟩:∃p,P[j]?=some p:=⟨P[j],by simp[av]⟩;have b1:p<1000000000:=hP p (Dq f);have W:=wc f;have b2:=H.sl;obtain⟨b3,S,x3,ag,rfl,an,R,ao,ba,bc,ar⟩:=b2.inv Z;have T:ag[S+j]?=some (U .u32 (p:Int)):=wq ar (by rw[u32s,DB,f];rfl);refine Zo ?_;refine zK (α:=Nat×Value×Nat) (fun z=>[(3,Y (some ⟨b3,S,none⟩) (O P) (O P)),(7,z.2.1),(8,U .i64 (((j+1:Nat):Int)-1)),(9,U .u32 ((10^z.1/10:Nat):Int))])
    (fun z i g w=>w=[]∧u≤g∧z.1≤9∧KN u h2 i∧z.2.2=V*10^(9-z.1)+p/10^z.1∧Gro i u g 5 1 z.2.1 (O (decD z.2.2)) (KY (decB z.2.2))∧O (decD z.2.2)≤9*(O P-(j+1))+(9-z.1)) (fun z=>z.1)
    (9,v7,V) ⟨rfl,rfl,rfl,congrArg (U .u32) (show(100000000:Int)=((10^9/10:Nat):Int)from by decide),Df⟩ ⟨rfl,b0,Dh,b7,by show V=V*10^0+p/10^9;omega,C,by show(decD V).length≤_;omega⟩ (by show 9<LL;unfold LL;omega) ?_
   rintro⟨s,v8,Z4⟩ t h5 n5 w5 ⟨rfl,a1,b5,G,hU,o,aa⟩;simp only at b5 hU o aa;have af:h5 b3=some x3:=by rw[G b3 an];exact R
   obtain⟨a8,rfl,_⟩:=o.shape;refine zN ?_;cases s with
   |zero=>
    have hz:((10^0/10:Nat):Int)=0:=rfl;refine Zm ?_;refine goOn (j,Y a8 (O (decD Z4)) (O (decD Z4)),Z4) cA ⟨rfl,rfl,aD,Df⟩ ⟨rfl,a1,BC,G,?_,o,by show(decD Z4).length≤9*(O P-j);omega⟩;show Z4=valP (P.drop j);rw[W,hU];simp only[valP,←K];omega
   |succ s=>
    have aq:10^(s+1)/10=10^s:=Uh s;have bd:=Ui (s:=s) Z;have bb:0<10^s:=Er Z;rw[aq];generalize hD:10^s=D at*
    refine Zr ?_;refine wn R8 Z<|zi R6 af (v:=U .u32 (p:Int)) ⟨ao,(by rw[←T];congr 1;omega)⟩ ?_;refine zM ?_;refine wg R6 Z<|vh (b:=10) R6 Z<|xn (a:=48) R6 Z<|pp R7 ?_;obtain⟨c,hc⟩:∃c,c=p/D%10:=⟨_,rfl⟩;have M:c<10:=Z;rw[←hc,Dz (show 48+c<256 by omega)];have Z3:V*10^(9-s)+p/D=10*Z4+c:=by
     have e1:=Ug p s;rw[hD]at e1;rw[hU,show 9-s=(9-(s+1))+1 from Z,DI,hc,←e1];have:10^(s+1)=10^(s+1):=rfl;generalize p/10^(s+1)=A;generalize 10^(9-(s+1))=B;rw[D4,←DG,←DG];have:V*B*10=10*V*B:=by rw[Dt (V*B) 10,DG]
     omega
    refine Zb ?_;have F:O (decD Z4)=0↔Z4=0:=by rw[DA,Uc]
    by_cases hA:Z4=0∧c=0
    .have ax:=F.2 hA.1;refine Zy ?_;refine wg (b:=10) R6 Z<|Zb ?_;refine goOn (s,Y a8 (O (decD Z4)) (O (decD Z4)),Z4) cA ⟨rfl,rfl,rfl,Ba,Df⟩ ⟨rfl,a1,by show s≤9;omega,G,?_,o,by show(decD Z4).length≤_;omega⟩;show Z4=V*10^(9-s)+p/10^s;rw[hD,Z3];omega
    have ab:O (decD (10*Z4+c))=O (decD Z4)+1:=by rw[fF M Z];simp
    by_cases hU0:Z4=0<;>
    (have ax:=F
     refine Zr ?_;refine ud (cs:=KY [48+c]) R5<|kG (m:=1) R8 zd (o.ext (KN.upd Z) zs) (yG (ze _ _ _) R2) Dh Z rfl rfl (by show n≤_∧_;omega) ?_;intro v9 h9 a0 b8 be;obtain⟨a9,rfl,_⟩:=a0.shape;refine Zb ?_;refine st_I R5<|wg (b:=10) R6 Z<|Zb ?_;refine goOn (s,Y a9 (O (decD Z4)+1) (O (decD Z4)+1),10*Z4+c) cA ⟨rfl,rfl,rfl,Ba,Df⟩ ⟨rfl,by show u≤n5+1+1;omega,by show s≤9;omega,fun b hb=>?_,?_,?_,by show(decD (10*Z4+c)).length≤_;omega⟩
     .exact(b8 b hb).trans ((zg Z).trans (G b hb))
     .show 10*Z4+c=V*10^(9-s)+p/10^s;rw[hD,Z3]
     .show Gro _ _ _ _ _ _ (O (decD (10*Z4+c))) (KY (decB (10*Z4+c)));rw[ab,lH M Z,show KY (decB Z4++[48+c])=KY (decB Z4)++KY [48+c]from by simp[KY]];exact a0)
 have a2:O L≠0:=fun e=>hL0 (DA.1 e);have al:val L≠0:=by have:=hN.pos hL0;omega
 have b1:=kP al;refine Zr ?_;refine zk _ R5 (mp k (d:=1000000000) Z hN.1 Z hs) ?_;rintro _ h3 n3 _⟨rfl,az,R,a5,c5,I,rfl,b4,ai,N,au,bg⟩;refine Zb ?_;obtain⟨a3,rfl,_⟩:=H.shape;repeat refine zR ?_
 refine ud (cs:=u32s [val L%1000000000]) R5<|kG (m:=1) R8 zd ((H.ext R az).ext (KN.upd Z) zs) (yG (ze _ _ _) R2) Dh Z rfl rfl (by show n≤_∧_;omega) ?_;intro v' h6 Z0 bi aw;obtain⟨a6,rfl,_⟩:=Z0.shape;refine Zl ?_;refine goOn (Y a6 (O P+1) (O P+1),a5,c5,I,P++[val L%1000000000]) ?_ V2 ⟨rfl,by show n+1≤n3+1+1;omega,?_,?_,ai,by show O I≤_;omega,?_,?_,?_⟩
 .show uH (val I)<uH (val L);rw[N];omega
 .show Gro _ _ _ _ _ _ (O (P++[_])) (u32s (P++[_]));rw[nT,Do];exact Z0
 .exact(b4.ext (KN.upd Z) zs).app aw H.below au zs
 .show(P++[_]).length+uH (val I)≤_;rw[N,Do,Dy];omega
 .intro p f;rcases Ec.1 f with f|f
  .exact hP p f
  simp at f;subst f;omega
 show val l=valP (P++[_])+1000000000^O (P++[_])*val I;rw[eh,Do,Dy,DI,N,J];simp only[valP];have:=EP (val L) 1000000000;rw[DG,HO,←D4];congr 2;omega
end
theorem wJ:∀(m V:Nat),V<10^m→O (decD V)≤m:=by
 intro m;induction m with
 |zero=>(intro V h;have:V=0:=by simpa using h);subst this;rw[yZ];exact Fu _
 |succ m ih=>
  intro V h;by_cases h0:V=0
  .subst h0;rw[yZ];simp
  rw[wE h0,Do];have:=ih (V/10) Bl;simp;omega
def decT(V:Nat):List UInt8:=if V=0 then[48]else(decB V).map EV
theorem fE(V:Nat):NP V=⟨⟨decT V⟩⟩:=rfl
theorem Pu{l:List Nat}(h:KV l):O (decT (val l))≤10*O l+1:=by
 unfold decT;split
 .simp
 rw[DC,nH];have:=wJ (10*O l) (val l) (DY (NN h) (by rw[Hj];exact Ig zd _));omega
def ratT(q:Rat):List UInt8:=(if q.num<0 then[45]else[])++(decT q.num.natAbs++(if q.den=1 then[]else 47::decT q.den))
section
variable {X:CtxF}{t:TF}{h:HF}{Q:SV→Prop}{d:Tmp}
theorem NR{a b:List UInt8}(e:Za X ops t o d (o.op=.binOp .add ty x y ty'∧KM t x=Dl ⟨⟨a⟩⟩∧KM t y=Dl ⟨⟨b⟩⟩))(c:O a+O b≤1099511627776)
  (k:EO X ops r ⟨upd t d (Dl ⟨⟨a++b⟩⟩),h,n,w⟩ Q):EO X ops (o::r) ⟨t,h,n,w⟩ Q:=by
 refine ZJ e ?_ k;simp only[binE,strE,De c]
end
theorem IntR.of_den{h:HF}{n:Nat}(a:RatR h n n1 n2 d1 d2 q ln ld)(c:q.den≠1):IntR h n d1 d2 (q.den:Int) ld:=by
 have b:=a.val;rw[CT c]at b;exact⟨by rw[a.neg];simp,a.sl,a.norm,by rw[b];simp⟩
theorem nZ(k:Nat){h:HF}{n:Nat}(l:RatR h n n1 n2 d1 d2 q ln ld)(B:O ln<1000000∧O ld<1000000):VF (KO (k+4)) 21 [.agg #[n1,n2,d1,d2]] h n fun v=>v=Dl ⟨⟨ratT q⟩⟩:=by
 refine zB (fn:=Tryz.f21) R4 ?_;have f:=l.num;have u:=f.neg;subst u;obtain⟨m,A,b,rfl,p⟩:=l.sl.len;have i:A=O ld:=by rw[ym]at p;omega
 subst i;have C:=Pu f.norm.1;rw[f.val]at C;refine zN ?_;refine xV (cs:=[Dk (decide (q.num<0)),n2,d1,Y m (O ld) b]) R5<|Zj ?_;refine zO (v:=.agg #[Dk (decide (q.num<0)),n2]) R5 (zF R2 (ze _ _ _) rfl zb rfl)<|ye _ R5 (fB k (f.ext (KN.upd Z) Z) B.1) ?_;rintro _ rfl;rw[fE];refine Zj ?_;refine zi R6 (ze _ _ _) (v:=Dk (decide (q.num<0))) R2<|zN ?_;generalize hh:upd h (3*n+2) _=h1;have s:KN n h h1:=by rw[←hh];exact C4
 have c:∃e,h1 (3*n+2)=some (.row [Dk (decide (q.num<0)),n2,d1,Y m (O ld) b] e):=⟨_,kz⟩;refine oQ [(1,Dn (some ⟨3*n+2,0,none⟩)),(3,Dl ⟨⟨(if q.num<0 then[45]else[])++decT q.num.natAbs⟩⟩)] (fun D G w=>h1=D∧G=n+1∧w=[]) ?_ ?_
 .by_cases hn:q.num<0
  .rw[zc (by show Dk (decide (q.num<0))=_;rw[kA hn])];refine Zg ?_;refine NR (a:=[45]) R6 eN ?_;refine Zb ?_;exact vG ⟨rfl,by rw[De hn];rfl,Df⟩ R3
  rw[za (by show Dk (decide (q.num<0))=_;rw[aA hn])];refine zN ?_;exact vG ⟨rfl,by rw[CT hn];rfl,Df⟩ R3
 rintro t _ _ _⟨rfl,rfl,rfl⟩;obtain⟨e,c⟩:=c;refine Zg ?_;refine zi R6 c (v:=Y m (O ld) b) R2 ?_;have j:O ld=0↔q.den=1:=by
  rw[DA,←l.norm.zero,l.val];have:=q.den_pos;split<;>omega
 by_cases hd:q.den=1
 .have:=j.2 hd;refine Zm ?_;exact retF _ rfl (zj rfl) R2 (by rw[ratT,De hd,DZ];rfl)
 have F:¬(O ld)=0:=fun e=>hd (j.1 e);have g:=IntR.of_den l hd;have i:=Pu g.norm.1;rw[g.val,DQ]at i;refine Zr ?_;refine zO (v:=.agg #[d1,Y m (O ld) b]) R5 (zF R2 c rfl zb rfl)<|ye _ R5 (fB k (g.ext s Z) B.2) ?_;rintro _ rfl;rw[fE,DQ];refine NR (a:=[47]) R6 eN ?_;refine NR R6 ?_ ?_
 .simp only[Do,D3,List.length_nil];split<;>simp<;>omega
 refine Zl ?_;exact retF _ rfl (zj rfl) R2 (by rw[ratT,CT hd];show Dl ⟨⟨((if q.num<0 then[45]else[])++decT q.num.natAbs)++([47]++decT q.den)⟩⟩=_;rw[DN];rfl)
section
variable {len:Nat}
def Mj(E:Env):Op→Bool
 | .convert _ d _=>(match E.und d with|some (.int _)=>true|_=>false)
 |o=>Iu (KS o) 2
theorem NU{o:Op}(h:Mj E o=true):KS o<2∨∃t d x k,o=.convert t d x∧E.und d=some (.int k):=by
 unfold Mj at h;split at h
 .rename_i t d x;split at h
  .rename_i k hk;exact .inr ⟨t,d,x,k,rfl,hk⟩
  cases h
 exact .inl (D5 h)
theorem qC{t d:TypeId}{k:IntKind}(h:E.und d=some (.int k))(v:Value):uV E t d v=none:=by
 unfold uV;rw[h];split<;>simp_all
theorem uX{t d:TypeId}{k:IntKind}(h:E.und d=some (.int k))(v:Value)(g:HF):pj E t d v g=none:=by
 unfold pj;rw[h];split<;>simp_all
theorem co{X:CtxF}{ops:List Oper}:∀(l:List Oper) (ms:List Nat) (i:Nat) (s:SV) (ld:List (Nat×Nat)),O l≤O ms→l.all (fun o=>Mj X.E o.op)=true→z9 X ops l ms i ⟨s,[],ld,[]⟩=seqF X ops l s:=by
 intro l;induction l with
 |nil=>intro ms i s ld _ _;simp[z9,seqF]
 |cons o l ih=>
  intro ms i s ld C g;cases ms with
  |nil=>simp at C
  |cons m ms=>
   simp only[JG,Ew]at g;have f:O l≤O ms:=by simpa using C
   unfold z9 seqF;simp only;cases hw:zh ops s.t o with
   |false=>
    simp only;congr 1;funext s1;exact ih ms (i+1) s1 ld f g.2
   |true=>
    simp only;unfold qx Lv;rcases NU g.1 with F|⟨t,d,x,k,u,A⟩
    .cases q:KS o.op with
     |zero=>
      simp only[q];cases yJ X.E o.op (KM s.t)with
      |none=>rfl
      |some v=>
       simp only;congr 1;funext s1;exact ih ms (i+1) s1 ld f g.2
     |succ c=>
      cases c with
      |zero=>
       simp only[q,vm];cases na X.E o.op (KM s.t) s.h with
       |none=>rfl
       |some vb=>
        obtain⟨v,b⟩:=vb;simp only[wS,pz,EF];congr 1;funext s1;exact ih ms (i+1) s1 _ f g.2
      |succ c=>omega
    have q:KS o.op=4:=by rw[u];rfl
    have D:KX X.E o.op (KM s.t)=none:=by rw[u];exact qC A _
    simp only[q,D];cases hp:yJ X.E o.op (KM s.t)with
    |none=>
     rw[u];simp only[uX A]
    |some v=>
     rw[u];simp only[uX A];congr 1;funext s1;exact ih ms (i+1) s1 ld f g.2
theorem yH{X:CtxF}{ops:Array Oper}{s:SV}{Q:Ex→SV→Prop}(f:ops.toList.all (fun o=>Mj X.E o.op)=true):EC X (.region id ops true) s Q↔EO X ops.toList ops.toList s (Q .normal):=by
 unfold EC EO;rw[xQ];rw[co _ _ _ _ _ (by rw[mM];simp) f];cases h:seqF X ops.toList ops.toList s with
 |none=>simp
 |some r=>simp only[uU];simp
section
variable {X:CtxF}{t:TF}{h:HF}{Q:SV→Prop}{d a:Tmp}
theorem ya{f:α→Value}{l:List α}{dv:α}{i:Operand}(u:zh ops t o=true∧o.dst=some a∧zu X.nt (some a)=true∧o.op=.indexAddr ty x i∧X.E.und ty=some (.slice e)∧X.E.inf e=some (1,bt,z)∧KM t x=v)(G:Sl h m 1 v (l.map f))(s:KM t i=U ik ji∧ji=(j:Int))(A:l[j]?=some dv)
  (H:∀p,zh ops (upd t a p) o2=true)(g:o2.dst=some d∧zu X.nt (some d)=true∧o2.op=.load e2 (.tmp a)∧GL.isAgg X.E e2=some false)
  (k:∀p,EO X ops r ⟨upd (upd t a p) d (f dv),h,n,w⟩ Q):EO X ops (o::o2::r) ⟨t,h,n,w⟩ Q:=by
 obtain⟨u,M,S,T,Z4,Z1,W⟩:=u;obtain⟨s,C⟩:=s;obtain⟨g,D,F,K⟩:=g;subst C;have Z0:=(Du.1 A).1;obtain⟨ad,len,cap,rfl,R⟩:=G.len;simp only[DC,Ek]at R;obtain⟨b,off,xb,J,rfl,_,I,L,_,Z3,N⟩:=G.inv Z;have q:J[off+j]?=some (f dv):=wq N (by rw[DB,A];rfl);refine wn ⟨u,M,S,T,Z4,Z1,W,s⟩ Z ?_;refine zi ⟨(H _),g,D,F,K,(ze _ _ _)⟩ I (v:=f dv) ⟨L,(by rw[←q];congr 1;omega)⟩ ?_;exact k _
theorem yO{D:TD}(f:Za X ops t o d (o.op=.convert ty e x∧KM t x=U ik (c:Int)∧X.E.und ty=some D∧X.E.und e=some (.int .u64)))(g:c<18446744073709551616)
  (k:EO X ops r ⟨upd t d (U .u64 (c:Int)),h,n,w⟩ Q):EO X ops (o::r) ⟨t,h,n,w⟩ Q:=by
 obtain⟨f,i,q,s,A,u,l⟩:=f;refine tH ⟨f,i,q,s,A,u,l⟩ ?_;rw[Dz g];exact k
theorem po{D:TD}(f:Za X ops t o d (o.op=.convert ty e x∧KM t x=U ik (c:Int)∧X.E.und ty=some D∧X.E.und e=some (.int .u32)))(g:c<4294967296)
  (k:EO X ops r ⟨upd t d (U .u32 (c:Int)),h,n,w⟩ Q):EO X ops (o::r) ⟨t,h,n,w⟩ Q:=by
 obtain⟨f,i,q,s,A,u,l⟩:=f;refine yB ⟨f,i,q,s,A,u,l⟩ ?_;rw[Dz g];exact k
theorem zU{d:Tmp}(k:EO X ops r ⟨upd t d v,h,n,w⟩ Q)(f:EO X ops r ⟨upd t d v,h,n,w⟩ Q→EO X ops (o::r) ⟨t,h,n,w⟩ Q:=by first|exact pZ R6 Z|exact bP R6 Z|exact oa R6 Z|exact mh R6 Z|exact mj R6 Z|exact kD R6 Z|exact kE R6 Z|exact gb R6 Z|exact bQ R6 Z|exact bT R6 Z|exact jA R6 Z|exact jB R6 Z|exact ql R6|exact MP R6|exact Mw R6|exact eD R6|exact jC R6|exact ga R6|exact td R6 Z|exact rZ R6 Z|exact yO R7 Z|exact po R7 Z|exact yT R6 Z|exact xn R6 Z|exact yn R6 Z|exact yn (b:=1) R6 Z|exact ky R6 Z|exact xm R6 Z|exact xA R6 Z|exact yg (s:=32) R6 Z|exact st_I R5|exact st_B R5|exact st_S R5|exact st_P R5|exact st_T R5|exact st_A R5|exact st_U R5|exact zA (v:=.pointer none) R5|exact hH R3):EO X ops (o::r) ⟨t,h,n,w⟩ Q:=f k
theorem splice_one(c:List Value)(j:Nat)(v:Value)(h:j<O c):zv c j [v]=c.set j v:=by
 unfold zv;rw[List.set_eq_take_append_cons_drop,De h];rfl
theorem xG{c:List Value}{i:Operand}{q:Nat}(l:zh ops t o=true∧o.dst=some a∧zu X.nt (some a)=true∧o.op=.indexAddr ty x i∧X.E.und ty=some (.slice e)∧X.E.inf e=some (1,bt,z)∧KM t x=Y (some ⟨b,0,none⟩) len cap∧KM t i=U ik ji)(u:ji=(j:Int))(A:j<len∧j<O c)(G:h b=some (.row c e3))(g:3*X.n0≤b)
  (D:∀p,zh ops (upd t a p) o2=true)(f:o2.dst=none∧o2.op=.store e2 (.tmp a) y∧X.E.inf e2=some (1,q,z2))(Z1:∀p,zr (KM (upd t a p) y)=[v])(F:ones [v]=true)
  (k:∀p,EO X ops r ⟨upd t a p,upd h b (some (.row (c.set j v) e3)),n,w⟩ Q):EO X ops (o::o2::r) ⟨t,h,n,w⟩ Q:=by
 obtain⟨l,H,K,L,M,I,N,J⟩:=l;obtain⟨f,C,s⟩:=f;subst u;refine wn ⟨l,H,K,L,M,I,N,J⟩ Z ?_;refine yr ⟨(D _),f,C,s,(ze _ _ _),(Z1 _),rfl,F⟩ G Z g ?_;rw[show 0+(j:Int).toNat*1=j from Z,splice_one c j v A.2];exact k _
theorem yW{c:List Value}{i:Operand}{q:Nat}(l:zh ops t o=true∧o.dst=some a∧zu X.nt (some a)=true∧o.op=.indexAddr ty x i∧X.E.und ty=some (.slice e)∧X.E.inf e=some (1,bt,z)∧KM t x=Y (some ⟨b,off,none⟩) len cap∧KM t i=U ik ji)(u:ji=(j:Int))(A:j<len∧off+j<O c)(G:h b=some (.row c e3))(g:b<3*X.n0)
  (D:∀p,zh ops (upd t a p) o2=true)(f:o2.dst=none∧o2.op=.store e2 (.tmp a) y∧X.E.inf e2=some (1,q,z2))(Z1:∀p,zr (KM (upd t a p) y)=[v])(F:ones [v]=true)
  (k:∀p,EO X ops r ⟨upd t a p,upd h b (some (.row (c.set (off+j) v) e3)),n,b::w⟩ Q):EO X ops (o::o2::r) ⟨t,h,n,w⟩ Q:=by
 obtain⟨l,H,K,L,M,I,N,J⟩:=l;obtain⟨f,C,s⟩:=f;subst u;refine wn ⟨l,H,K,L,M,I,N,J⟩ Z ?_;refine iY (D _) f C s (ze _ _ _) (Z1 _) rfl F G Z g ?_;rw[show off+(j:Int).toNat*1=off+j from Z,splice_one c (off+j) v A.2];exact k _
end
theorem xU(l:List Nat)(j d:Nat):(u32s l).set j (U .u32 (d:Int))=u32s (l.set j d):=by
 unfold u32s;rw[JQ]
theorem qS(n:Nat):K1 n [U .u32 0]=u32s (Dp n 0):=by
 induction n with
 |zero=>rfl
 |succ n ih=>
  rw[K1,ih,Fx];rfl
def dv(B:Nat):List Nat→Nat
 |[]=>0
 |d::r=>d+B*dv B r
theorem xS(l:List Nat):val l=dv 4294967296 l:=by
 induction l with
 |nil=>rfl
 |cons d l ih=>rw[val,dv,ih]
theorem wy(B:Nat)(a b:List Nat):dv B (a++b)=dv B a+B^O a*dv B b:=by
 induction a with
 |nil=>simp[dv]
 |cons d a ih=>
  simp only[Gp,dv,ih,D3,DI,D4];rw[←DG,Dt (B^O a) B];omega
theorem vQ(B:Nat)(a:List Nat)(d:Nat):dv B (a++[d])=dv B a+B^O a*d:=by
 rw[wy];simp[dv]
theorem iE{l:List Nat}(h:∀d∈l,d<B):dv B l<B^O l:=by
 induction l with
 |nil=>simp[dv]
 |cons d l ih=>
  have q:=h d cA;have f:=ih fun x i=>h x (by simp[i]);simp only[dv,D3,DI];have g:B*(dv B l+1)≤B*B^O l:=DT B f;rw[D4,Ek]at g;rw[Dt (B^O l) B];omega
theorem rf(B n:Nat):dv B (Dp n 0)=0:=by
 induction n with
 |zero=>rfl
 |succ n ih=>rw[Fx,dv,ih];simp
theorem oJ:∀{l:List Nat} {j o:Nat} (d:Nat),l[j]?=some o→dv B (l.set j d)+o*B^j=dv B l+d*B^j:=by
 intro l;induction l with
 |nil=>intro j o d h;simp at h
 |cons x l ih=>
  intro j o d h;cases j with
  |zero=>
   simp only[List.getElem?_cons_zero,HR]at h;subst h;simp only[List.set_cons_zero,dv,FD,Ek];omega
  |succ j=>
   simp only[Gq]at h;have:=ih d h;simp only[List.set_cons_succ,dv,DI];have e:B*(dv B (l.set j d)+o*B^j)=B*(dv B l+d*B^j):=by rw[this]
   rw[D4,D4]at e;have f:o*(B^j*B)=B*(o*B^j):=by rw[Dt (B^j) B,ER]
   have e2:d*(B^j*B)=B*(d*B^j):=by rw[Dt (B^j) B,ER]
   rw[f,e2];omega
theorem wQ{l:List Nat}{d:Nat}(h:l[j]?=some d):l.take (j+1)=l.take j++[d]:=by
 obtain⟨f,rfl⟩:=Du.1 h;rw[List.take_succ_eq_append_getElem f]
theorem zY{l:List Nat}{d:Nat}(h:l[j]?=some d):dv B (l.take (j+1))=dv B (l.take j)+B^j*d:=by
 have f:=(Du.1 h).1;rw[wQ h,vQ,DW,Ev Z]
theorem qO(D:List Nat)(m d:Nat):(D++Dp (m+1) 0).set (O D) d=(D++[d])++Dp m 0:=by
 rw[Fx,Eo _ _ Dh];simp
theorem pP{V' d:Nat}(h:V'=V+d*P)(g:B*c'+d=c+p):V'+c'*(P*B)=V+c*P+p*P:=by
 subst h;have e:(B*c'+d)*P=(c+p)*P:=by rw[g]
 rw[DE,DE]at e;have f:c'*(P*B)=B*c'*P:=by rw[Dt P B,←DG,Dt c' B]
 rw[f];omega
end
section
variable {len:Nat}
def cmpZ(a b:Nat):Int:=if a<b then -1 else if a=b then 0 else 1
theorem vW{a:Nat}(h:a<b):cmpZ a b= -1:=by unfold cmpZ;rw[De h]
theorem qy(a:Nat):cmpZ a a=0:=by unfold cmpZ;rw[CT (Nat.lt_irrefl _),De rfl]
theorem uz{a:Nat}(h:b<a):cmpZ a b=1:=by unfold cmpZ;rw[CT Z,CT Z]
theorem Pv{l:List Nat}(c:d≠0):B^O l≤dv B (l++[d]):=by
 rw[vQ];have:B^O l*1≤B^O l*d:=DT _ Z;omega
theorem Norm.len_lt{B:List Nat}(c:Norm A)(f:Norm B)(h:O A<O B):val A<val B:=by
 obtain⟨i,d,rfl⟩:=snoc (l:=B) Bg;rw[xS,xS];have g:=iE (B:=4294967296) c.1;have m:=Pv (B:=4294967296) (l:=i) f.last;have o:4294967296^O A≤4294967296^O i:=DJ Z (by simp at h;omega);omega
theorem bU{l:List Nat}(h:l[j]?=some d):l=l.take j++(d::l.drop (j+1)):=by
 have:=Ep j l;rw[wc h]at this;exact this.symm
theorem se{x y:Nat}(i:∀d∈A,d<B)(e:A[j]?=some x)(f:C[j]?=some y)(c:A.drop (j+1)=C.drop (j+1))(h:x<y):dv B A<dv B C:=by
 have m:=(Du.1 e).1;have o:=(Du.1 f).1;rw[bU e,bU f,wy,wy,c,DW,DW,Ev Z,Ev Z];simp only[dv];have p:dv B (A.take j)<B^j:=by
  have:=iE (B:=B) (l:=A.take j) fun d c=>i d (EB c);exact B9
 have g:B^j*(x+B*dv B (C.drop (j+1))+1)≤B^j*(y+B*dv B (C.drop (j+1))):=DT _ Z;rw[D4,Ek]at g;omega
theorem Sl.lenU{l:List Nat}(hv:Sl h n 1 (Y a len cap) (u32s l)):len=O l:=by
 obtain⟨i,g,c,e,f⟩:=hv.len;rw[ym]at f;injection e with e1 e2 e3
 omega
theorem fH(k:Nat)(g:Sl h n 1 (Y a1 l1 c1) (u32s A))(i:Sl h n 1 (Y a2 l2 c2) (u32s C))(l:Norm A)(m:Norm C)(D:O A<1000000000000):
  VF (KO (k+1)) 111 [Y a1 l1 c1,Y a2 l2 c2] h n fun v=>v=U .i64 (cmpZ (val A) (val C)):=by
 refine zB (fn:=Tryz.f111) R4 ?_;have p:=g.lenU;have q:=i.lenU;subst p q;refine Zc ?_;by_cases hlen:O A=O C
 .refine Zm ?_;refine zK (α:=Nat) (fun j=>[(0,Y a1 (O A) c1),(1,Y a2 (O C) c2),(5,U .i64 ((j:Int)-1))]) (fun j s u w=>s=h∧u=n∧w=[]∧j≤O A∧A.drop j=C.drop j) (fun j=>j) (O A) V3 ⟨rfl,rfl,rfl,Dh,by rw[Fo,hlen,Fo]⟩ (by show O A<LL;unfold LL;omega) ?_;rintro j t _ _ _⟨rfl,rfl,rfl,F,f⟩;refine zN ?_;cases j with
  |zero=>
   refine Zm ?_;have o:A=C:=f;subst o;rw[qy];exact B4
  |succ j=>
   obtain⟨x,c⟩:∃x,A[j]?=some x:=⟨A[j]'Z,Dm Z⟩;obtain⟨y,e⟩:∃y,C[j]?=some y:=⟨C[j]'Z,Dm Z⟩;refine Zq ?_;rw[uP rfl];repeat refine zR ?_
   refine ya R7 g ⟨rfl,Z⟩ c (fun _=>rfl) R4 fun _=>?_;repeat refine zR ?_
   refine ya R7 i ⟨rfl,Z⟩ e (fun _=>rfl) R4 fun _=>?_;by_cases hxy:x=y
   .refine Zm ?_;refine goOn j AZ ⟨rfl,rfl,aD,Df⟩ ⟨rfl,rfl,rfl,by show j≤O A;omega,?_⟩;rw[wc c,wc e,hxy,f]
   refine Zq ?_;rw[uP rfl];repeat refine zR ?_
   refine ya R7 g ⟨rfl,Z⟩ c (fun _=>rfl) R4 fun _=>?_;repeat refine zR ?_
   refine ya R7 i ⟨rfl,Z⟩ e (fun _=>rfl) R4 fun _=>?_;by_cases hlt:x<y
   .refine Zo ?_;rw[vW (by rw[xS,xS];exact se l.1 c e f hlt)];exact B4
   refine Zm ?_;rw[uz (by rw[xS,xS];exact se m.1 e c f.symm Z)];exact B4
 refine Zq ?_;by_cases hlt:O A<O C
 .refine Zo ?_;rw[vW (l.len_lt m hlt)];exact B4
 refine Zm ?_;rw[uz (m.len_lt l Z)];exact B4
end
section
variable {len:Nat}
def u64s(l:List Nat):List Value:=l.map fun d:Nat=>U .u64 (d:Int)
theorem zQ(l:List Nat):O (u64s l)=O l:=by simp[u64s]
theorem uq(a b:List Nat):u64s (a++b)=u64s a++u64s b:=by simp[u64s]
theorem yA(l:List Nat)(j d:Nat):(u64s l).set j (U .u64 (d:Int))=u64s (l.set j d):=by
 unfold u64s;rw[JQ]
theorem bI{l:List Nat}(h:l[j]?=some d):(u64s l)[j]?=some (U .u64 (d:Int)):=by
 rw[u64s,DB,h];rfl
theorem qJ(l:List Nat)(m:Nat):(u64s l).take m=u64s (l.take m):=by simp[u64s,Hr]
theorem qK(l:List Nat)(m:Nat):(u64s l).drop m=u64s (l.drop m):=by simp[u64s,List.map_drop]
theorem wR(l:List Nat):ones (u64s l)=true:=by
 induction l with
 |nil=>rfl
 |cons d l ih=>exact ih
theorem wK(n:Nat):K1 n [U .u64 0]=u64s (Dp n 0):=by
 induction n with
 |zero=>rfl
 |succ n ih=>
  rw[K1,ih,Fx];rfl
def KQ(l:List Nat):Prop:=∀d∈l,d<18446744073709551616
def wv(l:List Nat):Nat:=dv 18446744073709551616 l
theorem KQ.snoc{D:List Nat}(h:KQ D)(c:d<18446744073709551616):KQ (D++[d]):=fun x b=>by
 rcases Ec.1 b with b|b
 .exact h x b
 simp at b;omega
theorem KQ.get{l:List Nat}(h:KQ l)(b:l[j]?=some d):d<18446744073709551616:=h d (Dq b)
theorem KQ.nil:KQ []:=fun d b=>oU b Ds
theorem KQ.take{l:List Nat}(h:KQ l)(m:Nat):KQ (l.take m):=fun d b=>h d (EB b)
theorem KQ.drop{l:List Nat}(h:KQ l)(m:Nat):KQ (l.drop m):=fun d b=>h d (FB b)
theorem KQ.zeros(m:Nat):KQ (Dp m 0):=fun d b=>by rw[Ht b];decide
theorem KQ.append{a b:List Nat}(e:KQ a)(f:KQ b):KQ (a++b):=fun x c=>by
 rcases Ec.1 c with c|c
 .exact e x c
 exact f x c
theorem KQ.set{l:List Nat}(h:KQ l)(c:d<18446744073709551616):KQ (l.set j d):=fun x b=>by
 rcases Fc b with b|rfl
 .exact h x b
 exact c
theorem ni(B:Nat):∀l,dv B (z0 l)=dv B l:=
 xX (fun l ih=>by rw[xk,ih,wy];simp[dv]) (fun l d b=>by rw[xp l b]) rfl
theorem Uj:∀l,KQ l→KQ (z0 l):=
 xX (fun l ih h=>by rw[xk];exact ih fun d b=>h d (by simp[b])) (fun l d b h=>by rw[xp l b];exact h) (fun h=>h)
def NW(l:List Nat):Prop:=KQ l∧z0 l=l
theorem NW.trim{l:List Nat}(h:KQ l):NW (z0 l):=⟨Uj l h,kt l⟩
theorem NW.nil:NW []:=⟨KQ.nil,rfl⟩
theorem NW.last{l:List Nat}(h:NW (l++[d])):d≠0:=fun e=>by
 have b:=h.2;subst e;rw[xk]at b;have:=yV l;rw[b]at this;simp at this;omega
theorem NW.one(h0:d≠0)(h:d<18446744073709551616):NW [d]:=⟨KQ.snoc KQ.nil h,xp [] h0⟩
theorem um{l:List Nat}(h:KQ l):wv l<18446744073709551616^O l:=iE h
theorem NW.low{l:List Nat}(h:NW (l++[d])):18446744073709551616^O l≤wv (l++[d]):=Pv h.last
theorem NW.pos{l:List Nat}(h:NW l)(b:l≠[]):0<wv l:=by
 obtain⟨i,d,rfl⟩:=Go.Proofs.YtfajmfoofmienaaGreatDoor.snoc b;have:=h.low;have:0<18446744073709551616^O i:=Er Z;omega
theorem NW.zero{l:List Nat}(h:NW l):wv l=0↔l=[]:=
 ⟨fun c=>DU fun b=>by have:=h.pos b;omega,fun e=>by rw[e];rfl⟩
theorem NW.len_lt(b:NW A)(c:NW C)(h:O A<O C):wv A<wv C:=by
 obtain⟨i,d,rfl⟩:=Go.Proofs.YtfajmfoofmienaaGreatDoor.snoc (l:=C) Bg;have f:=um b.1;have g:=c.low;have m:18446744073709551616^O A≤18446744073709551616^O i:=DJ Z (by simp at h;omega);omega
theorem NW.len_le(c:NW A)(h:wv A<18446744073709551616^k):O A≤k:=by
 apply DU;intro b;obtain⟨i,d,rfl⟩:=Go.Proofs.YtfajmfoofmienaaGreatDoor.snoc (l:=A) (by intro e;rw[e]at b;simp at b);have f:=c.low;have g:18446744073709551616^k≤18446744073709551616^O i:=DJ Z (by simp at b;omega);omega
theorem Uk:∀{A C:List Nat},O A=O C→(∀d∈A,d<B)→(∀d∈C,d<B)→dv B A=dv B C→A=C:=by
 intro A;induction A with
 |nil=>intro C b _ _ _;exact(DA.1 b.symm).symm
 |cons a A ih=>
  intro C b f g h;cases C with
  |nil=>simp at b
  |cons c C=>
   have m:=f a cA;have o:=g c cA;simp only[dv]at h;have i:a=c:=by
    have:=congrArg (· %B) h;simp only[GF,Dz m,Dz o]at this;exact this
   subst i;have l:dv B A=dv B C:=G9 Z (Nat.add_left_cancel h);rw[ih (by simpa using b) (fun d e=>f d (by simp[e])) (fun d e=>g d (by simp[e])) l]
theorem NW.inj(c:NW A)(e:NW C)(h:wv A=wv C):A=C:=by
 rcases Hh (O A) (O C) with b|b|b
 .have:=c.len_lt e b;omega
 .exact Uk b c.1 e.1 h
 have:=e.len_lt c b;omega
theorem Sl.lenW{l:List Nat}(hv:Sl h n 1 (Y a len cap) (u64s l)):len=O l:=by
 obtain⟨g,f,b,e,c⟩:=hv.len;rw[zQ]at c;injection e with e1 e2 e3
 omega
theorem xR(k:Nat){l:List Nat}(M:O l<4611686018427387904)(F:∀ad,a=some ad→ad.spot=none)(hv:Sl h n 1 (Y a len cap) (u64s l)):CF (KO (k+1)) 183 [Y a len cap] h n fun H q v w=>q=h∧v=n∧w=[]∧H=Y a (O (z0 l)) cap∧Sl h n 1 H (u64s (z0 l)):=by
 refine zl (fn:=Tryz.f183) R4 ?_;have i:=hv.lenW;subst i;refine Zx ?_;refine zK (α:=Nat) (fun m=>[(0,Y a (O l) cap),(3,U .i64 (m:Int))]) (fun m q v w=>h=q∧n=v∧w=[]∧m≤O l∧z0 (l.take m)=z0 l) (fun m=>m) (O l) V2 ⟨rfl,rfl,rfl,Dh,by rw[DO]⟩ Aj ?_;rintro m t _ _ _⟨rfl,rfl,rfl,I,u⟩;have o:∀K:TF,z0 l=l.take m→O (z0 l)=m∧Sl h n 1 (Y a m cap) (u64s (z0 l)):=fun K e=>by
  have y:=hv.take m I;rw[Ek,qJ]at y;rw[e];exact⟨q0,y⟩
 refine zN ?_;cases m with
 |zero=>
  refine Zk ?_;have s:z0 l=l.take 0:=by rw[←u,Fe];rfl
  obtain⟨c,g⟩:=o t s;cases a with
  |none=>
   refine Zb ?_;exact Cm
  |some ad=>
   obtain⟨b,G,J⟩:=ad;obtain rfl:J=none:=F _ rfl;repeat refine zR ?_
   refine u6 0 R8 Z Z<|Zb ?_;exact Cm
 |succ m=>
  obtain⟨d,D⟩:∃d,l[m]?=some d:=⟨l[m]'Z,Dm Z⟩;have p:=wQ D;repeat refine zR ?_
  refine ya (f:=fun d:Nat=>U .u64 (d:Int)) (j:=m) R7 hv ⟨rfl,Z⟩ D (fun _=>rfl) R4 fun _=>?_;by_cases h0:d=0
  .refine Zo ?_;refine goOn m Z ⟨rfl,aD,Df⟩ ⟨rfl,rfl,rfl,Z,?_⟩;rw[←u,p,h0,xk]
  refine Zk ?_;have s:z0 l=l.take (m+1):=by rw[←u,p,xp _ h0]
  obtain⟨c,g⟩:=o t s;obtain⟨b,G,x,L,rfl,_⟩:=hv.inv Z;repeat refine zR ?_
  refine u6 (m+1) R8 Z Z<|Zb ?_;exact Cm
end
def cmpI(a b:Int):Int:=if a<b then -1 else if b<a then 1 else 0
theorem Pw(a b:Nat):cmpI (a:Int) (b:Int)=cmpZ a b:=by
 unfold cmpI cmpZ;rcases Hh a b with h|h|h
 .rw[De Z,De h]
 .rw[CT Z,CT Z,CT Z,De h]
 rw[CT Z,De Z,CT Z,CT Z]
theorem gW(k:Nat)(h:HF)(n:Nat)(a:Int):VF (KO (k+1)) 223 [U .i64 a] h n fun v=>v=Dk false:=by
 refine zB (fn:=Tryz.f223) R4<|Zx ?_;exact B4
theorem Ul(k:Nat)(h:HF)(n:Nat)(a b:Int):VF (KO (k+2)) 193 [U .i64 a,U .i64 b] h n fun v=>v=U .i64 (cmpI a b):=by
 refine zB (fn:=Tryz.f193) R4<|Zu ?_;refine ye _ R5 (gW k h n a) ?_;rintro _ rfl;refine Zj ?_;refine ye _ R5 (gW k h n b) ?_;rintro _ rfl;refine Zb ?_;refine Zm ?_;refine ZF ?_;rcases Iy a b with d|e|c
 .exact C8
 .exact CZ
 exact Cu
theorem ov(k:Nat)(h:HF)(n:Nat)(a:Int):VF (KO (k+1)) 224 [U .u64 a] h n fun v=>v=Dk false:=by
 refine zB (fn:=Tryz.f224) R4<|Zx ?_;exact B4
theorem Um(k:Nat)(h:HF)(n:Nat)(a b:Int):VF (KO (k+2)) 194 [U .u64 a,U .u64 b] h n fun v=>v=U .i64 (cmpI a b):=by
 refine zB (fn:=Tryz.f194) R4<|Zu ?_;refine ye _ R5 (ov k h n a) ?_;rintro _ rfl;refine Zj ?_;refine ye _ R5 (ov k h n b) ?_;rintro _ rfl;refine Zb ?_;refine Zm ?_;refine ZF ?_;rcases Iy a b with d|e|c
 .exact C8
 .exact CZ
 exact Cu
theorem uA(k:Nat){h:HF}{n:Nat}{g i:Option Addr}{K l L m:Nat}{A C:List Nat}(o:Sl h n 1 (Y g K l) (u64s A))(p:Sl h n 1 (Y i L m) (u64s C))(D:NW A)(F:NW C)(Z3:O A<1000000000000):
  VF (KO (k+3)) 156 [Y g K l,Y i L m] h n fun v=>v=U .i64 (cmpZ (wv A) (wv C)):=by
 refine zB (fn:=Tryz.f156) R4 ?_;have M:=o.lenW;have N:=p.lenW;subst M N;refine Zc ?_;by_cases hlen:O A=O C
 .refine Zm ?_;refine zK (α:=Nat) (fun j=>[(0,Y g (O A) l),(1,Y i (O C) m),(5,U .i64 ((j:Int)-1))]) (fun j R S w=>h=R∧n=S∧w=[]∧j≤O A∧A.drop j=C.drop j) (fun j=>j) (O A) V3 ⟨rfl,rfl,rfl,Dh,by rw[Fo,hlen,Fo]⟩ (by show O A<LL;unfold LL;omega) ?_;rintro j t _ _ _⟨rfl,rfl,rfl,Z0,b⟩;refine zN ?_;cases j with
  |zero=>
   refine Zm ?_;rw[EE,EE]at b;subst b;exact retF _ rfl (zj rfl) R2 (by rw[qy];rfl)
  |succ j=>
   obtain⟨x,c⟩:∃x,A[j]?=some x:=⟨A[j]'Z,Dm Z⟩;obtain⟨y,e⟩:∃x,C[j]?=some x:=⟨C[j]'Z,Dm Z⟩;refine Zq ?_;rw[uP rfl];repeat refine zR ?_
   refine ya (f:=fun d:Nat=>U .u64 (d:Int)) (j:=j) R7 o ⟨rfl,Z⟩ c (fun _=>rfl) R4 fun _=>?_;repeat refine zR ?_
   refine ya (f:=fun d:Nat=>U .u64 (d:Int)) (j:=j) R7 p ⟨rfl,Z⟩ e (fun _=>rfl) R4 fun _=>?_;by_cases hxy:x=y
   .refine Zm ?_;refine goOn j Z ⟨rfl,rfl,aD,Df⟩ ⟨rfl,rfl,rfl,Z,?_⟩;rw[wc c,wc e,b,hxy]
   refine Zq ?_;refine zn [0,0,3,7,0,0,48,112,255,511] rfl ?_;obtain⟨V,T,x1,G,rfl,_,u,q,_,_,I⟩:=o.inv Z;obtain⟨W,Z4,x2,H,rfl,_,B,s,_,_,J⟩:=p.inv Z;have Z1:G[T+j]?=some (U .u64 (x:Int)):=wq I (bI c);have P:H[Z4+j]?=some (U .u64 (y:Int)):=wq J (bI e);repeat refine zD ?_
   refine mY R8 Z<|zS R6 (zL rfl u (v:=U .u64 (x:Int)) ⟨q,(by rw[←Z1];congr 1;omega)⟩) R2 ?_;repeat refine zD ?_
   refine mY R8 Z<|zS R6 (zL rfl B (v:=U .u64 (y:Int)) ⟨s,(by rw[←P];congr 1;omega)⟩) R2 ?_;refine mW _ R7 (Um k h n (x:Int) (y:Int)) ?_;rintro _ rfl;refine ZI ?_;refine retF _ rfl (zj rfl) R2 ?_;rw[Pw];show U .i64 (cmpZ x y)=U .i64 (cmpZ (wv A) (wv C));congr 1;rcases Iq hxy with a|a
   .rw[vW a,vW (show wv A<wv C from se D.1 c e b a)]
   rw[uz a,uz (show wv C<wv A from se F.1 e c b.symm a)]
 refine Zr ?_;refine ye _ R5 (Ul k h n (O A:Int) (O C:Int)) ?_;rintro _ rfl;refine Zb ?_;refine retF _ rfl (zj rfl) R2 ?_;rw[Pw];show U .i64 _=U .i64 _;congr 1;rcases Iq hlen with a|a
 .rw[vW a,vW (D.len_lt F a)]
 rw[uz a,uz (F.len_lt D a)]
def ResW(n:Nat)(h:HF)(v:Value)(h':HF)(n':Nat)(w:List Nat)(L:List Nat):Prop:=w=[]∧n≤n'∧KN n h h'∧Sl h' n' 1 v (u64s L)∧NW L
theorem tY(k:Nat)(h:HF)(n:Nat){w:Nat}(b:w<18446744073709551616):CF (KO (k+1)) 184 [U .u64 (w:Int)] h n fun v a c W=>∃L,ResW n h v a c W L∧wv L=w∧O L≤1∧yh n v:=by
 refine zl (fn:=Tryz.f184) R4<|Zc ?_;by_cases h0:w=0
 .subst h0;refine Zo ?_;exact retH _ ⟨rfl,(zj rfl),rfl⟩ ⟨[],⟨rfl,Dh,KN.refl _ _,.nil (.inl rfl),NW.nil⟩,rfl,by decide,Df⟩
 refine Zv ?_;refine ud (cs:=[U .u64 (w:Int)]) R5<|Zb ?_;exact retH _ ⟨rfl,(zj rfl),rfl⟩ ⟨[w],⟨rfl,DM _,KN.upd Z,.at_ BJ (ze _ _ _) rfl Dh Dh rfl,NW.one h0 b⟩,xd,Dh,bR⟩
end Go.Proofs.YtfajmfoofmienaaGreatDoor
namespace Go.Proofs.YtfajmfoofmienaaGreatDoor
theorem qt{x:Nat}(b:x%2=1)(t y:Nat):DH x (2^t*y)=DH x y:=by
 have a:Hk x (2^t):=by
  apply am1;unfold Hk;rw[FJ,Nat.gcd_rec,b];rfl
 exact H8 y a.symm
theorem dN(x y:Nat):DH (min x y) (max x y-min x y)=DH x y:=by
 rcases ak3 x y with h|h
 .rw[Ev h,ac4 h,JR h]
 rw[JI h,ae9 h,JR h,FJ]
def Tz(x t:Nat):Prop:=∃o,x=2^t*o∧o%2=1
theorem Tz.or{x y t:Nat}(h:Tz (x|||y) t):∃a b,x=2^t*a∧y=2^t*b∧(a%2=1∨b%2=1):=by
 obtain⟨o,e,i⟩:=h;have c:(x|||y)%2^t=0:=by rw[e];exact Iz _ _
 rw[KA]at c;obtain⟨j,l⟩:x%2^t=0∧y%2^t=0:=KB.1 c;obtain⟨a,rfl⟩:=JS j;obtain⟨b,rfl⟩:=JS l;refine⟨a,b,rfl,rfl,?_⟩;apply DU;intro m;have f:a%2=0:=Z;have g:b%2=0:=Z;have d:(2^t*a|||2^t*b)%2^(t+1)=0:=by
  rw[KA,DI,HX,HX,f,g,Fp];rfl
 rw[e,DI,HX,i]at d;have:0<2^t:=Er Z;omega
theorem Un{x y s t o:Nat}(u:Tz (x|||y) s)(g:x=2^t*o)(f:o%2=1):2^s*DH o y=DH x y:=by
 obtain⟨a,b,c,i,e⟩:=u.or;have v:s≤t:=by
  apply DU;intro q;have:2^s=2^t*(2*2^(s-t-1)):=by
   rw[←DG,←DI,←EH];congr 1;omega
  rw[g,this,DG]at c;have:=G9 (Er Z) c;rw[this,DG,Iz]at f;omega
 have d:a=2^(t-s)*o:=by
  have:2^t=2^s*2^(t-s):=by rw[←EH];congr 1;omega
  rw[g,this,DG]at c;exact(G9 (Er Z) c).symm
 rw[c,i,Nat.gcd_mul_left,qt f,d];congr 1;rcases e with j|l
 .have:t-s=0:=by
   apply DU;intro q;obtain⟨m,p⟩:∃m,t-s=m+1:=⟨t-s-1,Z⟩;rw[d,p,DI,DG,ER,Iz]at j;omega
  rw[this,FD,EM]
 rw[FJ,←qt l (t-s) o,FJ]
theorem Uo{x y t z:Nat}(a:x%2=1)(b:y=2^t*z)(c:z%2=1):min x z%2=1∧DH (min x z) (max x z-min x z)=DH x y∧min x z+(max x z-min x z)<x+y:=by
 refine⟨?_,?_,?_⟩
 .rcases ak3 x z with h|h
  .rw[Ev h];exact a
  rw[JI h];exact c
 .rw[dN,b,qt a]
 have d:z≤y:=by rw[b];exact Nat.le_mul_of_pos_left _ (Er Z)
 have:min x z+(max x z-min x z)=max x z:=Z;rw[this];omega
end Go.Proofs.YtfajmfoofmienaaGreatDoor
namespace Go.Proofs.YtfajmfoofmienaaGreatDoor
open Go Go.GL
variable {n c1 c2 l1 l2 len off cap bt sz c' b c d B P V j m p:Nat}{a1 a2:Option Addr}{A C w:List Nat}{ty' ty e:TypeId}{ops r:List Oper}{ik:IntKind}{x y:Operand}{v z:Value}{o:Oper}
variable {h:HF}
section
variable {X:CtxF}{t:TF}{h:HF}{Q:SV→Prop}{d:Tmp}
theorem Up{a:Nat}(l:zh ops t o=true)(f:o.dst=some d)(g:zu X.nt (some d)=true)(i:o.op=.binOp .and ty x y ty')(m:KM t x=U .u64 (a:Int))(p:KM t y=U .u64 4294967295)(j:a<18446744073709551616)
  (k:EO X ops r ⟨upd t d (U .u64 ((a%4294967296:Nat):Int)),h,n,w⟩ Q):EO X ops (o::r) ⟨t,h,n,w⟩ Q:=by
 refine u9 (b:=4294967295) ⟨l,f,g,i,m,p⟩ ⟨j,by decide⟩ ?_;rw[show a&&& 4294967295=a%4294967296 from IR a 32];exact k
theorem Uq{a:Nat}(j:zh ops t o=true)(f:o.dst=some d)(g:zu X.nt (some d)=true)(i:o.op=.binOp .shr ty x y ty')(l:KM t x=U .u64 (a:Int))(m:KM t y=U ik 32)
  (k:EO X ops r ⟨upd t d (U .u64 ((a/4294967296:Nat):Int)),h,n,w⟩ Q):EO X ops (o::r) ⟨t,h,n,w⟩ Q:=
 yg (s:=32) ⟨j,f,g,i,l,m⟩ zd k
theorem zW{d:Tmp}(k:EO X ops r ⟨upd t d v,h,n,w⟩ Q)(f:EO X ops r ⟨upd t d v,h,n,w⟩ Q→EO X ops (o::r) ⟨t,h,n,w⟩ Q:=by first|exact pZ R6 Z|exact bP R6 Z|exact oa R6 Z|exact mh R6 Z|exact mj R6 Z|exact kD R6 Z|exact kE R6 Z|exact gb R6 Z|exact bQ R6 Z|exact bT R6 Z|exact jA R6 Z|exact jB R6 Z|exact ql R6|exact MP R6|exact Mw R6|exact eD R6|exact jC R6|exact ga R6|exact td R6 Z|exact rZ R6 Z|exact xm (a:=4294967296) R6 Z|exact Up rfl rfl rfl rfl rfl rfl Z|exact Uq rfl rfl rfl rfl rfl rfl|exact yO R7 Z|exact po R7 Z|exact yT R6 Z|exact xn R6 Z|exact yn R6 Z|exact yn (b:=1) R6 Z|exact ky R6 Z|exact xm R6 Z|exact xA R6 Z|exact yg (s:=32) R6 Z|exact st_I R5|exact st_B R5|exact st_S R5|exact st_P R5|exact st_T R5|exact st_A R5|exact st_U R5|exact zA (v:=.pointer none) R5|exact hH R3):EO X ops (o::r) ⟨t,h,n,w⟩ Q:=f k
theorem uF{x y:Nat}(a:Za X ops t o d (KS o.op=3∧effF X.E o.op (KM t) h n=(match GE.ext 222 [U .u64 (x:Int),U .u64 (y:Int),U .u64 (c:Int)]with|some v=>some (.val v h n [])|none=>some (.enter 222 [U .u64 (x:Int),U .u64 (y:Int),U .u64 (c:Int)]))))(f:c≤1)
  (k:EO X ops r ⟨upd t d (.tuple #[U .u64 (((x+y+c)%18446744073709551616:Nat):Int),U .u64 (((x+y+c)/18446744073709551616:Nat):Int)]),h,n,w⟩ Q):EO X ops (o::r) ⟨t,h,n,w⟩ Q:=by
 obtain⟨a,i,l,g,j⟩:=a;refine O7 a i l g (j.trans ?_) k;have e:GE.ext 222 [U .u64 (x:Int),U .u64 (y:Int),U .u64 (c:Int)]=some (.tuple #[U .u64 (((x+y+c)%18446744073709551616:Nat):Int),U .u64 (((x+y+c)/18446744073709551616:Nat):Int)]):=by
  show(match DX c 1 with|true=>some (Jx ⟨[U .u64 (.ofNat ((x+y+c)%18446744073709551616)),U .u64 (.ofNat ((x+y+c)/18446744073709551616))]⟩)|false=>none)=_;rw[Dv f];rfl
 rw[e]
theorem qM{x y:Nat}(f:Za X ops t o d (KS o.op=3∧effF X.E o.op (KM t) h n=(match GE.ext 214 [U .u64 (x:Int),U .u64 (y:Int),U .u64 (c:Int)]with|some v=>some (.val v h n [])|none=>some (.enter 214 [U .u64 (x:Int),U .u64 (y:Int),U .u64 (c:Int)]))))(a:c≤1)
  (k:EO X ops r ⟨upd t d (.tuple #[U .u64 (((x+18446744073709551616-y-c)%18446744073709551616:Nat):Int),U .u64 ((if y+c≤x then 0 else 1:Nat):Int)]),h,n,w⟩ Q):EO X ops (o::r) ⟨t,h,n,w⟩ Q:=by
 obtain⟨f,i,l,g,j⟩:=f;refine O7 f i l g (j.trans ?_) k;have e:GE.ext 214 [U .u64 (x:Int),U .u64 (y:Int),U .u64 (c:Int)]=some (.tuple #[U .u64 (((x+18446744073709551616-y-c)%18446744073709551616:Nat):Int),U .u64 ((if y+c≤x then 0 else 1:Nat):Int)]):=by
  show(match DX c 1 with|true=>some (Jx ⟨[U .u64 (.ofNat ((x+18446744073709551616-y-c)%18446744073709551616)),U .u64 (.ofNat (match DX (y+c) x with|true=>0|false=>1))]⟩)|false=>none)=_;rw[Dv a];by_cases h:y+c≤x
  .rw[Dv h,De h];rfl
  rw[CT h];cases a:DX (y+c) x with
  |true=>exact oU (D5 a) h
  |false=>rfl
 rw[e]
theorem eC{i:Operand}{j:Int}(a:Za X ops t o d (o.op=.indexAddr ty x i∧X.E.und ty=some (.array len e)∧X.E.inf e=some (sz,bt,z)∧KM t x=Dn (some ⟨b,off,none⟩)∧KM t i=U ik j))(q:0≤j∧j<len)(k:EO X ops r ⟨upd t d (Dn (some ⟨b,off+j.toNat*sz,none⟩)),h,n,w⟩ Q):EO X ops (o::r) ⟨t,h,n,w⟩ Q:=by
 obtain⟨a,g,p,f,s,l,u,m⟩:=a;refine zA ⟨a,g,p,Ao,?_⟩ k;rw[f];show yU X.E ty (KM t x) (KM t i)=_;rw[u,m];simp only[yU,s,l,De q,ws]
end
theorem Ur:GK.d64=Jz.map fun d:Nat=>U .u8 (d:Int):=rfl
theorem qX(k:Nat)(h:HF)(n:Nat){x y:Nat}(g:x<18446744073709551616)(i:y<18446744073709551616):VF (KO (k+1)) 120 [U .u64 (x:Int),U .u64 (y:Int)] h n fun v=>v=.tuple #[U .u64 ((x*y/18446744073709551616:Nat):Int),U .u64 ((x*y%18446744073709551616:Nat):Int)]:=by
 refine zB (fn:=Tryz.f120) R4 ?_;obtain⟨j,l,m,f⟩:=Lib.mul64_hi x y g i;have p:=JZ (a:=x/4294967296) (b:=y/4294967296) Z Z;have q:=JZ (a:=x/4294967296) (b:=y%4294967296) Z Z;have s:=JZ (a:=x%4294967296) (b:=y/4294967296) Z Z;refine Zc ?_;repeat refine zW ?_
 refine zN ?_;repeat refine zW ?_
 refine zN ?_;repeat refine zW ?_
 refine zN ?_;repeat refine zW ?_
 refine zN ?_;repeat refine zW ?_
 refine zN ?_;repeat refine zW ?_
 refine zN ?_;repeat refine zW ?_
 refine zN ?_;repeat refine zW ?_
 refine zN ?_;repeat refine zW ?_
 refine zN ?_;repeat refine zW ?_
 refine Zp ?_;refine vi (a:=x) (b:=y) R6<|Zb ?_;refine retF [U .u64 _,U .u64 _] rfl rfl R2 ?_;rw[←f];rfl
theorem sM(k:Nat)(h:HF)(n:Nat){x y:Nat}(i:x<18446744073709551616)(j:y<18446744073709551616)(l:c<18446744073709551616):VF (KO (k+2)) 213 [U .u64 (x:Int),U .u64 (y:Int),U .u64 (c:Int)] h n fun v=>v=.tuple #[U .u64 (((x*y+c)%18446744073709551616:Nat):Int),U .u64 (((x*y+c)/18446744073709551616:Nat):Int)]:=by
 refine zB (fn:=Tryz.f213) R4 ?_;have m:x*y≤18446744073709551615*18446744073709551615:=Es Z Z;refine Zu ?_;refine ye _ R5 (qX k h n i j) ?_;rintro _ rfl;refine Zz ?_;refine uF (x:=x*y%18446744073709551616) (y:=c) (c:=0) R5 zd<|Zz ?_;refine zM ?_;refine yT (a:=x*y/18446744073709551616) (b:=(x*y%18446744073709551616+c+0)/18446744073709551616) R6 Z<|Zb ?_;refine retF [U .u64 _,U .u64 _] rfl rfl R2 ?_;have f:(x*y%18446744073709551616+c+0)%18446744073709551616=(x*y+c)%18446744073709551616:=Z;have g:x*y/18446744073709551616+(x*y%18446744073709551616+c+0)/18446744073709551616=(x*y+c)/18446744073709551616:=Z;rw[←f,←g];rfl
theorem Px{x:Nat}(a:x<18446744073709551616)(h0:x≠0):some (U .u64 (D8 .u64 (0-(x:Int))))=some (U .u64 ((18446744073709551616-x:Nat):Int)):=by
 have e:D8 .u64 (0-(x:Int))=((18446744073709551616-x:Nat):Int):=by
  simp only[D8,Gt,Ft];simp;omega
 rw[e]
theorem Us{i s:Nat}(a:i<64)(b:Jz.getD i 0=s):GK.d64[0+(i:Int).toNat*1]?=some (U .u8 (s:Int)):=by
 have a:i<O Jz:=a;rw[Ur,show 0+(i:Int).toNat*1=i from Z,DB,Dm a];rw[List.getD_eq_getElem?_getD,Dm a]at b;simp only[JJ]at b;rw[b];rfl
theorem ei(k:Nat){h:HF}(q:GK.G h)(n:Nat){x:Nat}(l:x<18446744073709551616)(h0:x≠0):VF (KO (k+1)) 215 [U .u64 (x:Int)] h n fun v=>∃s:Nat,v=U .i64 (s:Int)∧s<64∧∃o,x=2^s*o∧o%2=1:=by
 refine zB (fn:=Tryz.f215) R4 ?_;obtain⟨d,f⟩:x&&& (18446744073709551616-x)=2^aa3 64 x∧aa3 64 x<64:=Lib.lowest_bit 64 x h0 l;have p:aa3 64 x=Lib.ctzFrom 64 x:=by unfold aa3;rw[CT h0]
 obtain⟨m,c,_⟩:=Lib.ctzFrom_spec 64 x Z l;rw[←p]at c;obtain⟨e,g⟩:=Lib.deBruijn64_at (aa3 64 x) f;generalize aa3 64 x=s at d f c e g;have j:∃o,x=2^s*o∧o%2=1:=⟨2*m+1,c,by clear c d;omega⟩;refine Zc ?_;refine Ze ?_;refine Zp ?_;refine zA (v:=U .u64 ((18446744073709551616-x:Nat):Int)) ⟨rfl,rfl,rfl,rfl,(Px l h0)⟩ ?_;refine u9 (a:=x) (b:=18446744073709551616-x) R6 Z ?_;rw[d];refine vi (a:=2^s) (b:=285870213051353865) R6<|yg (a:=2^s*285870213051353865%18446744073709551616) (s:=58) R6 zd ?_;rw[show(2:Nat)^58=288230376151711744 from rfl];generalize 2^s*285870213051353865%18446744073709551616/288230376151711744=i at e g⊢;refine eC R8 ⟨Int.natCast_nonneg _,Int.ofNat_lt.2 e⟩ ?_;have u:=Us e g;refine zi R6 q.1 (v:=U .u8 (s:Int)) ⟨rfl,u⟩ ?_;refine vj (a:=(s:Int)) R7 Z<|Zb ?_;exact retF _ rfl (zj rfl) R2 ⟨s,rfl,f,j⟩
theorem kW(k:Nat){h:HF}(A:GK.G h)(n:Nat){x y:Nat}(I:x<18446744073709551616)(J:y<18446744073709551616):VF (KO (k+2)) 185 [U .u64 (x:Int),U .u64 (y:Int)] h n fun v=>v=U .u64 ((DH x y:Nat):Int):=by
 refine zB (fn:=Tryz.f185) R4 ?_;have H:x|||y<18446744073709551616:=JA (n:=64) I J;refine Zc ?_;by_cases hx0:x=0
 .subst hx0;refine ZC ?_;refine xZ (a:=0) (b:=y) R6 Z<|Zb ?_;exact retF _ rfl (zj rfl) R2 (by rw[Nat.gcd_zero_left,Nat.zero_or];rfl)
 by_cases hy0:y=0
 .subst hy0;refine ZC ?_;refine xZ (a:=x) (b:=0) R6 Z<|Zb ?_;exact retF _ rfl (zj rfl) R2 (by rw[HH,Nat.or_zero];rfl)
 have C:x|||y≠0:=fun e=>hx0 (KB.1 e).1;refine Ze ?_;refine Zp ?_;refine xZ (a:=x) (b:=y) R6 Z<|ye _ R5 (ei k A n H C) ?_;rintro _⟨s,rfl,V,D⟩;refine Zz ?_;refine ye _ R5 (ei k A n I hx0) ?_;rintro _⟨K,rfl,S,d,u,q⟩;refine yg (a:=x) (s:=K) R6 Z ?_;have i:x/2^K=d:=by rw[u];exact F1 _ (Er Z)
 have N:d≤x:=by rw[←i];exact CK
 rw[i];refine Zb ?_;have B:=Un (s:=s) D u q;refine zK (α:=Nat×Nat) (fun z=>[(0,U .u64 (z.1:Int)),(1,U .u64 (z.2:Int)),(5,U .i64 (s:Int))]) (fun z M P w=>h=M∧n=P∧w=[]∧z.1%2=1∧z.1<18446744073709551616∧z.2<18446744073709551616∧DH z.1 z.2=DH d y) (fun z=>z.1+z.2) (d,y) V3 ⟨rfl,rfl,rfl,q,by show d<_;omega,J,rfl⟩ (by show d+y<LL;unfold LL;omega) ?_;rintro⟨a,b⟩ t _ _ _ ⟨rfl,rfl,rfl,F,m,o,j⟩;simp only at F m o j;refine zN ?_;by_cases hb0:b=0
 .subst hb0;refine Zk ?_;rw[HH]at j;refine Zi ?_;refine yS (a:=a) (s:=s) R6 Z<|Zb ?_;refine retF _ rfl (zj rfl) R2 ?_;show U .u64 _=U .u64 _;have R:DH x y≤x:=Nat.gcd_le_left _ Z;rw[j,Dt,B,Dz Z]
 refine ZC ?_;refine ye _ R5 (ei k A n o hb0) ?_;rintro _⟨L,rfl,T,z,p,Z1⟩;refine yg (a:=b) (s:=L) R6 Z ?_;have c:b/2^L=z:=by rw[p];exact F1 _ (Er Z)
 have Z4:z≤b:=by rw[←c];exact CK
 rw[c];obtain⟨l,f,g⟩:=Uo F p Z1;refine Zb ?_;by_cases hgt:z<a
 .rw[JI Z]at l f g;rw[ae9 Z]at f g;refine Zo ?_;refine Zi ?_;refine yn (a:=a) (b:=z) R6 Z<|Zb ?_;exact goOn (z,a-z) g V3 ⟨rfl,rfl,rfl,l,by show z<_;omega,by show a-z<_;omega,f.trans j⟩
 rw[Ev Z]at l f g;rw[ac4 Z]at f g;refine Ze ?_;refine Zp ?_;refine yn (a:=z) (b:=a) R6 Z<|Zb ?_;exact goOn (a,z-a) g V3 ⟨rfl,rfl,rfl,l,m,by show z-a<_;omega,f.trans j⟩
def NewU(n:Nat)(h:HF)(v:Value)(h':HF)(n':Nat)(w:List Nat)(L:List Nat):Prop:=w=[]∧n≤n'∧KN n h h'∧∃a' c',v=Y a' (O L) c'∧Sl h' n' 1 v (u32s L)∧Norm L∧yh n v
theorem rP{D:List Nat}(h:KV D)(b:d<4294967296):KV (D++[d]):=fun x a=>by
 rcases Ec.1 a with a|a
 .exact h x a
 simp at a;omega
theorem fU(k:Nat)(I:Sl h n 1 (Y a1 l1 c1) (u32s A))(J:Sl h n 1 (Y a2 l2 c2) (u32s C))(K:KV A)(H:KV C)(u:O A<1000000000∧O C<1000000000):
  CF (KO (k+2)) 110 [Y a1 l1 c1,Y a2 l2 c2] h n fun v s F w=>∃L,NewU n h v s F w L∧val L=val A+val C:=by
 refine zl (fn:=Tryz.f110) R4 ?_;have Z3:=I.lenU;have R:=J.lenU;subst Z3 R;refine Zx ?_;refine yp (α:=(Option Addr×Nat×List Nat)×(Option Addr×Nat×List Nat)) (fun z=>[(0,Y z.1.1 (O z.1.2.2) z.1.2.1),(1,Y z.2.1 (O z.2.2.2) z.2.2.1)])
  (fun z s F w=>h=s∧n=F∧w=[]∧Sl h n 1 (Y z.1.1 (O z.1.2.2) z.1.2.1) (u32s z.1.2.2)∧Sl h n 1 (Y z.2.1 (O z.2.2.2) z.2.2.1) (u32s z.2.2.2)∧KV z.1.2.2∧KV z.2.2.2∧O z.2.2.2≤O z.1.2.2∧O z.1.2.2<1000000000∧val z.1.2.2+val z.2.2.2=val A+val C) ?_ ?_
 .by_cases hlt:O A<O C
  .rw[zc gV];refine Zc ?_;exact zC ((a2,c2,C),(a1,c1,A)) V2 ⟨rfl,rfl,rfl,J,I,H,K,Bc,u.2,EY _ _⟩
  rw[za gP];refine zN ?_;exact zC ((a1,c1,A),(a2,c2,C)) V2 ⟨rfl,rfl,rfl,I,J,K,H,Bd,u.1,rfl⟩
 rintro⟨⟨a1,c1,a⟩,a2,c2,f⟩ t _ _ _ ⟨rfl,rfl,rfl,I,J,K,H,N,u,y⟩;simp only at I J K H N u y;rw[←y];refine Zg ?_;refine xP (len:=O a+1) (cap:=O a+1) R9 Z ?_;rw[show zr (U .u32 0)=[U .u32 0]from rfl,qS];refine Zl ?_;refine Zb ?_;refine zK (α:=List Nat×Nat) (fun z=>[(0,Y a1 (O a) c1),(1,Y a2 (O f) c2),(5,Y (some ⟨3*n+2,0,none⟩) (O a+1) (O a+1)),(6,U .u64 (z.2:Int)),(7,U .i64 (O z.1:Int))])
  (fun z s F w=>F=n+1∧w=[]∧KN n h s∧(∃e,s (3*n+2)=some (.row (u32s (z.1++Dp (O a-O z.1+1) 0)) e))∧O z.1≤O a∧KV z.1∧z.2≤1∧dv 4294967296 z.1+z.2*4294967296^O z.1=dv 4294967296 (a.take (O z.1))+dv 4294967296 (f.take (O z.1))) (fun z=>O a-O z.1)
  ([],0) V5 ⟨rfl,rfl,KN.upd Z,⟨_,ze _ _ _⟩,Di,fun d hd=>oU hd Ds,by decide,AR⟩ (by show O a-0<LL;unfold LL;omega) ?_
 rintro⟨D,c⟩ t h1 _ _ ⟨rfl,rfl,G,⟨e,q⟩,Z0,Z1,hc,Z4⟩;simp only at q Z0 Z1 hc Z4;refine zN ?_;by_cases hi:O D=O a
 .refine Zk ?_;rw[hi,Ee]at q;repeat refine zU ?_
  refine xG (j:=O a) (v:=U .u32 (c:Int)) R8 rfl Bn q bR (fun _=>rfl) R3 (fun _=>rfl) rfl fun _=>?_;rw[xU,←hi,qO,FK,DZ];refine Zg ?_;refine zk _ R5 (ur k (l:=D++[c]) eN (.at_ Z (ze _ _ _) rfl Z (by simp[u32s]<;>omega) (by rw[DK (by simp[u32s]<;>omega)];simp))) ?_;rintro v' _ _ _⟨rfl,rfl,rfl,rfl,hs⟩;refine Zb ?_;refine retH _ ⟨rfl,(zj rfl),rfl⟩ ⟨z0 (D++[c]),⟨rfl,AD,fun b u=>(zg Z).trans (G b u),_,_,rfl,hs,Norm.trim (rP Z1 Z),bR⟩,?_⟩;rw[wt,xS,vQ,xS,xS,Dt];rw[hi,DO,DK N,←hi]at Z4;omega
 obtain⟨o,M⟩:∃x,a[O D]?=some x:=⟨a[O D]'Z,Dm Z⟩;have a0:o<4294967296:=K o (Dq M);have S:=I.ext G (DM n);have T:=J.ext G (DM n);refine Zr ?_;refine ya R7 S R2 M (fun _=>rfl) R4 fun _=>?_;repeat refine zU ?_
 refine Zc ?_;have W:(f[O D]?).getD 0<4294967296:=by
  cases hc':f[O D]? with
  |none=>decide
  |some x=>exact H x (Dq hc')
 refine oQ [(0,Y a1 (O a) c1),(1,Y a2 (O f) c2),(5,Y (some ⟨3*n+2,0,none⟩) (O a+1) (O a+1)),(6,U .u64 ((c+o+(f[O D]?).getD 0:Nat):Int)),(7,U .i64 (O D:Int))] (fun s F w=>h1=s∧F=n+1∧w=[]) ?_ ?_
 .by_cases hj:O D<O f
  .obtain⟨g,i⟩:∃x,f[O D]?=some x:=⟨f[O D]'Z,Dm Z⟩;have a3:g<4294967296:=H g (Dq i);rw[zc gV];refine Zg ?_;refine ya R7 T R2 i (fun _=>rfl) R4 fun _=>?_;repeat refine zU ?_
   refine zN ?_;rw[i];exact vG V5 R3
  exact CR
 rintro t2 _ _ _⟨rfl,rfl,rfl⟩;generalize i:(f[O D]?).getD 0=g at W⊢;refine Zg ?_;refine yB R7 ?_;obtain⟨m,hm⟩:∃m,O a-O D=m+1:=⟨O a-O D-1,Z⟩;rw[hm]at q;refine xG (j:=O D) (v:=U .u32 (((c+o+g)%4294967296:Nat):Int)) R8 rfl (by simp[ym];omega) q bR (fun _=>rfl) R3 (fun _=>rfl) rfl fun _=>?_;rw[xU,qO];refine zN ?_;repeat refine zU ?_
 refine Zc ?_;refine goOn (D++[(c+o+g)%4294967296],(c+o+g)/4294967296) eN ⟨rfl,rfl,rfl,rfl,ux,Df⟩ ⟨rfl,rfl,fun b u=>(zg Z).trans (G b u),⟨e,(ze _ _ _).trans (by show some (BF.row (u32s (D++[_]++Dp (m+1) 0)) e)=some (BF.row (u32s (D++[_]++Dp (O a-O (D++[_])+1) 0)) e);rw[Do,Dy,show (O a)-(O D+1)+1=m+1 from Z])⟩,eN,rP Z1 (EA _ Z),by show _/_≤1;omega,?_⟩;have R:dv 4294967296 (f.take (O D+1))=dv 4294967296 (f.take (O D))+4294967296^O D*g:=by
  by_cases hj:O D<O f
  .have:f[O D]?=some g:=by rw[←i,Dm hj];rfl
   exact zY this
  rw[DS Z]at i;simp only[JK]at i;rw[DK Z,DK Z,←i];simp
 show dv 4294967296 (D++[_])+_*4294967296^O (D++[_])=dv 4294967296 (a.take (O (D++[_])))+dv 4294967296 (f.take (O (D++[_])));simp only[Do,Dy];rw[zY M,R,DI];have:=pP (B:=4294967296) (P:=4294967296^O D) (V:=dv 4294967296 D) (V':=dv 4294967296 (D++[(c+o+g)%4294967296])) (c:=c) (p:=o+g) (by rw[vQ,Dt]) (c':=(c+o+g)/4294967296) Z;rw[this,DE o g,Dt o,Dt g];omega
theorem fJ{V' o:Nat}(h:V'+o*P=V+d*P)(f:B*c'+d=c+p+o):V'+c'*(P*B)=V+c*P+p*P:=by
 have e:(B*c'+d)*P=(c+p+o)*P:=by rw[f]
 rw[DE,DE,DE]at e;have a:c'*(P*B)=B*c'*P:=by rw[Dt P B,←DG,Dt c' B]
 rw[a];omega
theorem Sl.own{Z1:List Nat}(a:h b=some (.row (u32s Z1) e))(f:b<3*m)(i:O Z1=len)(g:len≤cap):Sl h m 1 (Y (some ⟨b,0,none⟩) len cap) (u32s Z1):=
 .at_ f a rfl g Ak (by rw[EE,DK Ak])
theorem pJ{Z1:List Nat}(h:KV Z1)(f:d<4294967296):KV (Z1.set j d):=fun x a=>by
 rcases Fc a with a|a
 .exact h x a
 omega
theorem gI(k:Nat)(hA:Sl h n 1 (Y a1 l1 c1) (u32s A))(hC:Sl h n 1 (Y a2 l2 c2) (u32s C))(dA:KV A)(dC:KV C)(Z4:O A<1000000000∧O C<1000000000):
  CF (KO (k+2)) 105 [Y a1 l1 c1,Y a2 l2 c2] h n fun v s G w=>∃L,NewU n h v s G w L∧val L=val A*val C:=by
 refine zl (fn:=at3) R4 ?_;have e1:=hA.lenU;have S:=hC.lenU;subst e1 S;refine Zc ?_;by_cases D:O A=0∨O C=0
 .have hz:val A*val C=0:=by
   rcases D with D|D
   .rw[DA.1 D];simp[val]
   rw[DA.1 D];simp[val]
  have W:∀t:TF,t 4=Y none 0 0→RetH at3 (fun v s G w=>∃L,NewU n h v s G w L∧val L=val A*val C) .ret ⟨t,h,n,[]⟩:=fun t ht=>
   retH [Y none 0 0] ⟨rfl,(zj ht),rfl⟩ ⟨[],⟨rfl,Dh,KN.refl _ _,none,0,rfl,.nil (.inl rfl),Norm.nil,Df⟩,by rw[hz];rfl⟩
  by_cases h1:O A=0
  .refine Zo ?_;exact W _ rfl
  refine Zo ?_;exact W _ rfl
 have a5:O A≠0:=fun e=>D (.inl e);have a6:O C≠0:=fun e=>D (.inr e);refine Zv ?_;refine xP (len:=O A+O C) (cap:=O A+O C) R9 Z ?_;rw[show zr (U .u32 0)=[U .u32 0]from rfl,qS];refine Zl ?_;refine zK (α:=Nat×List Nat) (fun z=>[(0,Y a1 (O A) c1),(1,Y a2 (O C) c2),(5,Y (some ⟨3*n+2,0,none⟩) (O A+O C) (O A+O C)),(6,U .i64 (z.1:Int))])
  (fun z s G w=>G=n+1∧w=[]∧KN n h s∧(∃e,s (3*n+2)=some (.row (u32s z.2) e))∧z.1≤O A∧KV z.2∧O z.2=O A+O C∧z.2.drop (z.1+O C)=Dp (O A-z.1) 0∧dv 4294967296 z.2=dv 4294967296 (A.take z.1)*dv 4294967296 C) (fun z=>O A-z.1)
  (0,Dp (O A+O C) 0) V4 ⟨rfl,rfl,KN.upd Z,⟨_,ze _ _ _⟩,Di,fun d hd=>by rw[Ht hd];decide,cA,cA,by simp[dv,rf]⟩ Au ?_
 rintro⟨i,Z1⟩ t h1 _ _ ⟨rfl,rfl,Z3,⟨e,F⟩,hi,Z0,J,K,hV⟩;simp only at F hi Z0 J K hV;refine zN ?_;by_cases hiA:i=O A
 .subst hiA;refine Zv ?_;refine zk _ R5 (ur k (l:=Z1) Z (Sl.own F Z J Dh)) ?_;rintro v' _ _ _⟨rfl,rfl,rfl,rfl,hs⟩;refine Zb ?_;refine retH _ ⟨rfl,(zj rfl),rfl⟩ ⟨z0 Z1,⟨rfl,AD,Z3,_,_,rfl,hs,Norm.trim Z0,bR⟩,?_⟩;rw[wt,xS,xS,xS,hV,DO]
 obtain⟨g,N⟩:∃x,A[i]?=some x:=⟨A[i]'Z,Dm Z⟩;have a3:g<4294967296:=dA g (Dq N);refine Zo ?_;refine Zb ?_;refine zK (α:=Nat×Nat×List Nat) (fun z=>[(0,Y a1 (O A) c1),(1,Y a2 (O C) c2),(5,Y (some ⟨3*n+2,0,none⟩) (O A+O C) (O A+O C)),(6,U .i64 (i:Int)),(7,U .u64 (z.2.1:Int)),(8,U .i64 (z.1:Int))])
  (fun z s G w=>G=n+1∧w=[]∧KN n h s∧(∃e,s (3*n+2)=some (.row (u32s z.2.2) e))∧z.1≤O C∧KV z.2.2∧O z.2.2=O A+O C∧z.2.1<4294967296∧z.2.2.drop (i+O C)=Z1.drop (i+O C)∧dv 4294967296 z.2.2+z.2.1*4294967296^(i+z.1)=dv 4294967296 Z1+g*4294967296^i*dv 4294967296 (C.take z.1)) (fun z=>O C-z.1)
  (0,0,Z1) V6 ⟨rfl,rfl,Z3,⟨e,F⟩,Di,Z0,J,by show 0<4294967296;decide,rfl,AR⟩ A1 ?_
 rintro⟨j,c,a⟩ t2 h2 _ _ ⟨rfl,rfl,I,⟨S,f⟩,hj,H,u,hc,y,M⟩;simp only at f hj H u hc y M;refine zN ?_;by_cases hjC:j=O C
 .subst hjC;refine Zk ?_;repeat refine zU ?_
  refine xG (j:=i+O C) (v:=U .u32 (c:Int)) R8 Z Ak f bR (fun _=>rfl) R3 (fun _=>rfl) rfl fun _=>?_;rw[xU];refine Zc ?_;have a0:a[i+O C]?=some 0:=by
   have:(a.drop (i+O C))[0]?=(Dp (O A-i) 0)[0]?:=by rw[y,K]
   rw[Em,Ej]at this;rw[this,List.getElem?_replicate,De Z]
  refine goOn (i+1,a.set (i+O C) c) (by show O A-(i+1)<O A-i;omega) ⟨rfl,rfl,rfl,dO,Df⟩ ⟨rfl,rfl,fun b Z4=>(zg Z).trans (I b Z4),⟨S,ze _ _ _⟩,by show i+1≤O A;omega,pJ H hc,Bt,?_,?_⟩
  .show(a.set (i+O C) c).drop (i+1+O C)=_;rw[GA Z];have:=congrArg (Ki 1) (y.trans K);rw[ES]at this;rw[show i+1+O C=i+O C+1 from Z,this];simp;omega
  show dv 4294967296 (a.set (i+O C) c)=dv 4294967296 (A.take (i+1))*dv 4294967296 C;have T:=oJ (B:=4294967296) c a0;rw[EI,Ej]at T;rw[T,M,DO,zY N,DE,hV,Dt g]
 obtain⟨q,R⟩:∃x,C[j]?=some x:=⟨C[j]'Z,Dm Z⟩;have a4:q<4294967296:=dC q (Dq R);obtain⟨o,ho⟩:∃x,a[i+j]?=some x:=⟨a[i+j]'Z,Dm Z⟩;have a7:o<4294967296:=H o (Dq ho);have hp:g*q≤4294967295*4294967295:=Es Z Z;refine Zq ?_;rw[yH rfl];repeat refine zR ?_
 refine ya R7 (hA.ext I (DM n)) R2 N (fun _=>rfl) R4 fun _=>?_;repeat refine zU ?_
 refine ya R7 (hC.ext I (DM n)) R2 R (fun _=>rfl) R4 fun _=>?_;repeat refine zU ?_
 refine ya (j:=i+j) R7 (Sl.own f (show _<3*(n+1)by omega) u Dh) ⟨rfl,Z⟩ ho (fun _=>rfl) R4 fun _=>?_;generalize hpp:g*q=p at hp;repeat refine zU ?_
 refine Zg ?_;refine yB R7 ?_;refine xG (j:=i+j) (v:=U .u32 (((c+(p+o))%4294967296:Nat):Int)) R8 Z Ak f bR (fun _=>rfl) R3 (fun _=>rfl) rfl fun _=>?_;rw[xU];refine zN ?_;repeat refine zU ?_
 refine Zc ?_;refine goOn (j+1,(c+(p+o))/4294967296,a.set (i+j) ((c+(p+o))%4294967296)) (by show O C-(j+1)<O C-j;omega) ⟨rfl,rfl,rfl,rfl,rfl,dO,Df⟩ ⟨rfl,rfl,fun b Z4=>(zg Z).trans (I b Z4),⟨S,ze _ _ _⟩,by show j+1≤O C;omega,pJ H (EA _ Z),Bt,by show _/_<_;omega,?_,?_⟩
 .show(a.set (i+j) _).drop (i+O C)=_;rw[GA Z];exact y
 show dv 4294967296 (a.set (i+j) _)+_*4294967296^(i+(j+1))=dv 4294967296 Z1+g*4294967296^i*dv 4294967296 (C.take (j+1));have T:=fJ (B:=4294967296) (c:=c) (p:=p) (c':=(c+(p+o))/4294967296) (oJ (B:=4294967296) ((c+(p+o))%4294967296) ho) Z;rw[show i+(j+1)=i+j+1 from Z,DI,T,M,zY R,D4,←hpp,EH];have e4:g*4294967296^i*(4294967296^j*q)=g*q*(4294967296^i*4294967296^j):=by
  rw[Dt (4294967296^j) q,←DG,DG g,Dt (4294967296^i) q,←DG,DG (g*q)]
 rw[e4];omega
section
variable {h:HF}
theorem Ut(k:Nat)(I:Sl h n 1 (Y a1 l1 c1) (u32s A))(K:Sl h n 1 (Y a2 l2 c2) (u32s C))(Z4:KV A)(H:KV C)(Z1:O A<1000000000)(S:O C≤O A)(T:val C≤val A):
  CF (KO (k+2)) 112 [Y a1 l1 c1,Y a2 l2 c2] h n fun v q y w=>∃L,NewU n h v q y w L∧val L=val A-val C:=by
 refine zl (fn:=Tryz.f112) R4 ?_;have V:=I.lenU;have G:=K.lenU;subst V G;refine Zu ?_;refine xP (len:=O A) (cap:=O A) R9 Z ?_;rw[show zr (U .u32 0)=[U .u32 0]from rfl,qS];refine Zl ?_;refine Zb ?_;refine zK (α:=List Nat×Nat) (fun z=>[(0,Y a1 (O A) c1),(1,Y a2 (O C) c2),(5,Y (some ⟨3*n+2,0,none⟩) (O A) (O A)),(6,U .u64 (z.2:Int)),(7,U .i64 (O z.1:Int))])
  (fun z q y w=>y=n+1∧w=[]∧KN n h q∧(∃e,q (3*n+2)=some (.row (u32s (z.1++Dp (O A-O z.1) 0)) e))∧O z.1≤O A∧KV z.1∧z.2≤1∧dv 4294967296 z.1+dv 4294967296 (C.take (O z.1))=dv 4294967296 (A.take (O z.1))+z.2*4294967296^O z.1) (fun z=>O A-O z.1)
  ([],0) V5 ⟨rfl,rfl,KN.upd Z,⟨_,ze _ _ _⟩,Di,fun d hd=>oU hd Ds,by decide,AR⟩ Au ?_
 rintro⟨D,c⟩ t h1 _ _ ⟨rfl,rfl,p,⟨e,g⟩,hD,F,hc,N⟩;simp only at g hD F hc N;refine zN ?_;by_cases hi:O D=O A
 .refine Zk ?_;rw[hi,Ee,FK,DZ]at g;repeat refine zR ?_
  refine zk _ R5 (ur k (l:=D) Z (Sl.own g Z hi Dh)) ?_;rintro v' _ _ _⟨rfl,rfl,rfl,rfl,hs⟩;refine Zb ?_;refine retH _ ⟨rfl,(zj rfl),rfl⟩ ⟨z0 D,⟨rfl,AD,p,_,_,rfl,hs,Norm.trim F,bR⟩,?_⟩;rw[wt,xS];rw[xS,xS]at T⊢;rw[hi,DO,DK S,←hi]at N;have a4:=iE (B:=4294967296) F;have P:c=0∨c=1:=Z;rcases P with rfl|rfl<;>omega
 obtain⟨o,u⟩:∃x,A[O D]?=some x:=⟨A[O D]'Z,Dm Z⟩;have a0:o<4294967296:=Z4 o (Dq u);have J:=I.ext p (DM n);have M:=K.ext p (DM n);refine Zr ?_;refine ya R7 J R2 u (fun _=>rfl) R4 fun _=>?_;refine yO R7 Z<|zM ?_;refine xJ (a:=o) (b:=c) R6 Z<|Zl ?_;have R:(C[O D]?).getD 0<4294967296:=by
  cases hc':C[O D]? with
  |none=>decide
  |some x=>exact H x (Dq hc')
 refine oQ [(0,Y a1 (O A) c1),(1,Y a2 (O C) c2),(5,Y (some ⟨3*n+2,0,none⟩) (O A) (O A)),(7,U .i64 (O D:Int)),(8,U .u64 (((o+18446744073709551616-(c+(C[O D]?).getD 0))%18446744073709551616:Nat):Int))] (fun q y w=>h1=q∧y=n+1∧w=[]) ?_ ?_
 .by_cases hj:O D<O C
  .obtain⟨i,f⟩:∃x,C[O D]?=some x:=⟨C[O D]'Z,Dm Z⟩;have a3:i<4294967296:=H i (Dq f);rw[zc gV];refine Zg ?_;refine ya R7 M R2 f (fun _=>rfl) R4 fun _=>?_;refine yO R7 Z<|xJ (a:=(o+18446744073709551616-c)%18446744073709551616) (b:=i) R6 Z<|Zb ?_;rw[f];exact vG ⟨rfl,rfl,rfl,rfl,by show U .u64 _=U .u64 _;congr 2;simp only[JJ];omega,Df⟩ R3
  exact CR
 rintro t2 _ _ _⟨rfl,rfl,rfl⟩;generalize f:(C[O D]?).getD 0=i at R⊢;obtain⟨X,hX⟩:∃X,X=(o+18446744073709551616-(c+i))%18446744073709551616:=⟨_,rfl⟩;rw[←hX];refine Zg ?_;refine yB R7 ?_;obtain⟨m,hm⟩:∃m,O A-O D=m+1:=⟨O A-O D-1,Z⟩;rw[hm]at g;refine xG (j:=O D) (v:=U .u32 ((X%4294967296:Nat):Int)) R8 rfl (by simp[ym]<;>omega) g bR (fun _=>rfl) R3 (fun _=>rfl) rfl fun _=>?_;rw[xU,qO];refine Zd ?_;refine yg (s:=32) R6 Z<|u9 (a:=X/2^32) (b:=1) R6 Z ?_;rw[KC];refine Zl ?_;refine goOn (D++[X%4294967296],X/2^32%2) eN ⟨rfl,rfl,rfl,rfl,ux,Df⟩ ⟨rfl,rfl,fun b Z1=>(zg Z).trans (p b Z1),⟨e,(ze _ _ _).trans (by show some (BF.row (u32s (D++[_]++Dp m 0)) e)=some (BF.row (u32s (D++[_]++Dp (O A-O (D++[_])) 0)) e);rw[Do,Dy,show (O A)-(O D+1)=m from Z])⟩,eN,rP F (EA _ Z),by show _%_≤1;omega,?_⟩;have G:dv 4294967296 (C.take (O D+1))=dv 4294967296 (C.take (O D))+4294967296^O D*i:=by
  by_cases hj:O D<O C
  .have:C[O D]?=some i:=by rw[←f,Dm hj];rfl
   exact zY this
  rw[DS Z]at f;simp only[JK]at f;rw[DK Z,DK Z,←f];simp
 show dv 4294967296 (D++[_])+dv 4294967296 (C.take (O (D++[_])))=dv 4294967296 (A.take (O (D++[_])))+_*4294967296^O (D++[_]);simp only[Do,Dy];rw[zY u,G,DI (n:=4294967296),vQ];have W:X%4294967296+i+c=o+X/2^32%2*4294967296:=Z;have Z3:4294967296^O D*(X%4294967296+i+c)=4294967296^O D*(o+X/2^32%2*4294967296):=by rw[W]
 rw[D4,D4,D4]at Z3;have Z0:X/2^32%2*(4294967296^O D*4294967296)=4294967296^O D*(X/2^32%2*4294967296):=by rw[ER]
 rw[Z0];have e6:c*4294967296^O D=4294967296^O D*c:=Dt _ _;omega
theorem NX{t x s:Nat}(b:s≤32)(a:t<2^s):t|||(x*2^s%4294967296)=t+x*2^s%4294967296:=by
 have e:x*2^s%4294967296=2^s*(x%2^(32-s)):=by
  rw[show(4294967296:Nat)=2^s*2^(32-s)from by rw[←EH,show s+(32-s)=32 from Z],Dt x,HX]
 rw[e,Nat.or_comm,←Je a,EY]
theorem Py{t x s:Nat}(a:s≤32)(b:t<2^s):t+x*2^s%4294967296<4294967296:=by
 rw[←NX a b];have c:t<2^32:=DY b (DJ Z a);exact JA (n:=32) c (EA _ Z)
theorem Pz{x s:Nat}(a:x<4294967296):x*2^s/4294967296<2^s:=by
 rw[Ff Z,Dt];exact Nat.mul_lt_mul_of_pos_left a (Er Z)
theorem Uu(D:List Nat)(t m d:Nat)(x:Nat):((D++[t]++Dp (m+1) 0).set (O D) d).set (O D+1) x=(D++[d])++[x]++Dp m 0:=by
 rw[Fx,DN,Eo _ _ Dh];simp
theorem oe(k:Nat){s:Nat}(K:Sl h n 1 (Y a1 l1 c1) (u32s A))(Z1:KV A)(N:O A<1000000000)(hs:s<32):
  CF (KO (k+1)) 176 [Y a1 l1 c1,U .u64 (s:Int)] h n fun v l H w=>w=[]∧H=n+1∧KN n h l∧∃L e,v=Y (some ⟨3*n+2,0,none⟩) (O A+1) (O A+1)∧l (3*n+2)=some (.row (u32s L) e)∧O L=O A+1∧KV L∧dv 4294967296 L=dv 4294967296 A*2^s:=by
 refine zl (fn:=Tryz.f176) R4 ?_;have R:=K.lenU;subst R;have J:2^s≤2147483648:=show 2^s≤2^31 from DJ Z Z;have I:0<2^s:=Er Z;refine Zu ?_;refine xP (len:=O A+1) (cap:=O A+1) R9 Z ?_;rw[show zr (U .u32 0)=[U .u32 0]from rfl,qS];refine Zl ?_;refine zK (α:=List Nat×Nat) (fun z=>[(0,Y a1 (O A) c1),(1,U .u64 (s:Int)),(5,Y (some ⟨3*n+2,0,none⟩) (O A+1) (O A+1)),(6,U .i64 (O z.1:Int))])
  (fun z l H w=>H=n+1∧w=[]∧KN n h l∧(∃e,l (3*n+2)=some (.row (u32s (z.1++[z.2]++Dp (O A-O z.1) 0)) e))∧O z.1≤O A∧KV z.1∧z.2<2^s∧dv 4294967296 z.1+z.2*4294967296^O z.1=dv 4294967296 (A.take (O z.1))*2^s) (fun z=>O A-O z.1)
  ([],0) V4 ⟨rfl,rfl,KN.upd Z,⟨_,(ze _ _ _).trans (by rw[Fx];rfl)⟩,Di,fun d T=>oU T Ds,I,AR⟩ Au ?_
 rintro⟨D,i⟩ t Z0 _ _ ⟨rfl,rfl,y,⟨e,g⟩,S,G,u,F⟩;simp only at g S G u F;refine zN ?_;by_cases hi:O D=O A
 .refine Zk ?_;rw[hi,Ee,FK,DZ]at g;refine Zb ?_;refine retH _ ⟨rfl,(zj rfl),rfl⟩ ⟨rfl,rfl,y,D++[i],e,rfl,g,by simp[hi],rP G Z,?_⟩;rw[hi,DO,←hi]at F;rw[vQ,Dt (4294967296^_),F]
 obtain⟨f,o⟩:∃x,A[O D]?=some x:=⟨A[O D]'Z,Dm Z⟩;have q:f<4294967296:=Z1 f (Dq o);have M:=K.ext y (DM n);obtain⟨m,Z4⟩:∃m,O A-O D=m+1:=⟨O A-O D-1,Z⟩;rw[Z4]at g;have Z3:f*2^s<18446744073709551616:=by
  have:f*2^s≤4294967295*2147483648:=Es Z J;omega
 refine Zr ?_;refine ya R7 M R2 o (fun _=>rfl) R4 fun _=>?_;refine yO R7 Z<|zM ?_;refine yS (a:=f) (s:=s) R6 Z ?_;rw[Dz Z3];refine Zj ?_;refine ya (j:=O D) (dv:=i) R7 (Sl.own g (show _<3*(n+1)by omega) eN Dh) R2 cA (fun _=>rfl) R4 fun _=>?_;refine zM ?_;refine yB R7<|iZ (a:=i) (b:=f*2^s%4294967296) R6 Z ?_;rw[NX Z u];refine xG (j:=O D) (v:=U .u32 ((i+f*2^s%4294967296:Nat):Int)) R8 rfl (by rw[ym];simp<;>omega) g bR (fun _=>rfl) R3 (fun _=>rfl) rfl fun _=>?_;refine zN ?_;have W:=Pz (s:=s) q;repeat refine zU ?_
 refine xG (j:=O D+1) (v:=U .u32 ((f*2^s/2^32:Nat):Int)) R8 Z (by rw[EU,ym];simp<;>omega) (ze _ _ _) bR (fun _=>rfl) R3 (fun _=>rfl) rfl fun _=>?_;rw[yI,xU,xU,Uu];refine Zc ?_;refine goOn (D++[i+f*2^s%4294967296],f*2^s/2^32) eN ⟨rfl,rfl,rfl,ux,Df⟩ ⟨rfl,rfl,fun b N=>(zg Z).trans (y b N),⟨e,(ze _ _ _).trans (by show some (BF.row (u32s (D++[_]++[_]++Dp m 0)) e)=some (BF.row (u32s (D++[_]++[_]++Dp (O A-O (D++[_])) 0)) e);rw[Do,Dy,show (O A)-(O D+1)=m from Z])⟩,eN,rP G (Py Z u),by show f*2^s/2^32<2^s;exact Pz q,?_⟩;show dv 4294967296 (D++[_])+_*4294967296^O (D++[_])=dv 4294967296 (A.take (O (D++[_])))*2^s;simp only[Do,Dy];have:=pP (B:=4294967296) (P:=4294967296^O D) (V:=dv 4294967296 D) (V':=dv 4294967296 (D++[i+f*2^s%4294967296])) (c:=i) (p:=f*2^s) (by rw[vQ,Dt]) (c':=f*2^s/2^32) Z;rw[DI (n:=4294967296),this,zY o,DE,F,Gi,Dt (4294967296^O D)]
def DivR(n:Nat)(h:HF)(A C:List Nat)(v:Value)(h':HF)(n':Nat)(w:List Nat):Prop:=w=[]∧n≤n'∧KN n h h'∧∃aq cq Lq ar cr Lr,v=.tuple #[Y aq (O Lq) cq,Y ar (O Lr) cr]∧Sl h' n' 1 (Y aq (O Lq) cq) (u32s Lq)∧Sl h' n' 1 (Y ar (O Lr) cr) (u32s Lr)∧Norm Lq∧Norm Lr∧val Lq=val A/val C∧val Lr=val A%val C∧yh n (Y aq (O Lq) cq)∧yh n (Y ar (O Lr) cr)
theorem Norm.len_le{B:List Nat}(a:Norm A)(b:Norm B)(h:val B≤val A):O B≤O A:=by
 apply DU;intro c;have:=a.len_lt b Z;omega
end
end Go.Proofs.YtfajmfoofmienaaGreatDoor
namespace Go.Proofs.YtfajmfoofmienaaGreatDoor
variable {top v1 v2 vr w2 wr B P h r:Nat}
theorem mL{a b c P:Nat}(d:a*P≤b)(e:b<c*P):a<c:=by
 apply DU;intro f;have:c*P≤a*P:=Dw P Z;omega
theorem nE(hv:0<v1)(d:w2<B)(e:wr<P):((top*B+w2)*P+wr)/((v1*B+v2)*P+vr)≤top/v1:=by
 generalize hQ:((top*B+w2)*P+wr)/((v1*B+v2)*P+vr)=Q;have a:Q*((v1*B+v2)*P+vr)≤(top*B+w2)*P+wr:=by rw[←hQ];exact Kl _ _
 rw[Ge hv];have b:(Q*v1)*(B*P)≤Q*((v1*B+v2)*P+vr):=by
  rw[DG];apply DT;rw[←DG,DE];omega
 have c:(top*B+w2)*P+wr<(top+1)*(B*P):=by
  have:(top*B+w2+1)*P≤(top*B+B)*P:=Dw _ Z;rw[DE _ 1,EM]at this;rw[←DG,DE top,EM];omega
 have:=mL (Ed b a) c;omega
theorem im(f:w2<B)(g:wr<P)(e:h*v1+r=top)(j:r*B+w2<h*v2):((top*B+w2)*P+wr)/((v1*B+v2)*P+vr)<h:=by
 generalize hQ:((top*B+w2)*P+wr)/((v1*B+v2)*P+vr)=Q;have b:Q*((v1*B+v2)*P+vr)≤(top*B+w2)*P+wr:=by rw[←hQ];exact Kl _ _
 apply DU;intro l;have c:(h*(v1*B+v2))*P≤Q*((v1*B+v2)*P+vr):=by
  have a:h*((v1*B+v2)*P)≤Q*((v1*B+v2)*P+vr):=Es Z Z;rw[DG];exact a
 have a:(top*B+w2)*P+wr<(top*B+w2+1)*P:=by rw[DE _ 1,EM];omega
 have d:=mL (Ed c b) a;rw[←e,D4,DE]at d;have i:h*(v1*B)=h*v1*B:=by rw[DG]
 omega
theorem NY(hv:0<v1)(d:0<B)(f:vr<P)(e:h*v1+r=top)(l:h*v2≤r*B+w2)(hh:h<B):h≤((top*B+w2)*P+wr)/((v1*B+v2)*P+vr)+1:=by
 have a:0<(v1*B+v2)*P+vr:=by
  have:0<v1*B:=Fw hv d;have:0<(v1*B+v2)*P:=Fw Z Z;omega
 have g:(h*(v1*B+v2))*P≤(top*B+w2)*P:=by
  apply Dw;rw[←e,D4,DE];have b:h*(v1*B)=h*v1*B:=by rw[DG]
  omega
 have i:h*vr≤B*P:=Es Z Z;have j:B*P≤(v1*B+v2)*P:=Dw _ (by
  have:1*B≤v1*B:=Dw _ hv;omega)
 have c:h*((v1*B+v2)*P+vr)≤((top*B+w2)*P+wr)+((v1*B+v2)*P+vr):=by
  rw[D4,←DG];omega
 have b:h≤(((top*B+w2)*P+wr)+((v1*B+v2)*P+vr))/((v1*B+v2)*P+vr):=by
  rw[Ge a];exact c
 rw[Nat.add_div_right _ a]at b;exact b
theorem PA(e:vr<P)(d:v2<B)(c:(top*B+w2)*P+wr<B*((v1*B+v2)*P+vr)):top≤v1*B+v2:=by
 have a:top*(B*P)≤(top*B+w2)*P+wr:=by
  rw[←DG,DE];omega
 have b:B*((v1*B+v2)*P+vr)≤(v1*B+v2+1)*(B*P):=by
  rw[ER];apply DT;rw[DE _ 1,EM];omega
 have:=mL a (DY c b);omega
theorem NZ{B:Nat}{l:List Nat}{m x y:Nat}(e:O l=m+2)(c:l[m+1]?=some x)(d:l[m]?=some y):dv B l=(x*B+y)*B^m+dv B (l.take m):=by
 have a:=zY (B:=B) c;have b:=zY (B:=B) d;rw[DK Z]at a;rw[a,b,DE,DI,Dt (B^m) y,DG x B,Dt B,Dt x];omega
theorem PB{B:Nat}{l:List Nat}{m x y z:Nat}(g:O l=m+3)(c:l[m+2]?=some x)(d:l[m+1]?=some y)(f:l[m]?=some z):dv B l=((x*B+y)*B+z)*B^m+dv B (l.take m):=by
 have a:=zY (B:=B) c;rw[DK Z]at a;have b:=NZ (B:=B) (l:=l.take (m+2)) (m:=m) (x:=y) (y:=z) q0 (by rw[Eu Z];exact d) (by rw[Eu Z];exact f);rw[GO,Ev Z]at b;rw[a,b,DE,DE,DE,DE,EH,show B^2=B*B from by rw[DI,Nat.pow_one]];have e:B^m*(B*B)*x=x*B*B*B^m:=by
  rw[Dt (B^m*(B*B)) x,Dt (B^m),←DG,←DG]
 rw[e];omega
theorem Uv{B:Nat}:∀{l:List Nat},0<B→dv B l=0→∀(i x:Nat),l[i]?=some x→x=0:=by
 intro l;induction l with
 |nil=>intro _ _ i x h;simp at h
 |cons d l ih=>
  intro e h i x b;simp only[dv]at h;have f:d=0:=Z;have c:B*dv B l=0:=Z;rcases Nat.mul_eq_zero.1 c with a|a
  .omega
  cases i with
  |zero=>simp at b;omega
  |succ i=>exact ih e a i x (by simpa using b)
theorem cn{B:Nat}{l:List Nat}{n:Nat}(b:0<B)(h:dv B l<B^n):dv B (l.drop n)=0∧dv B (l.take n)=dv B l:=by
 have e:dv B l=dv B (l.take n)+B^O (l.take n)*dv B (l.drop n):=by rw[←wy,Ep]
 by_cases hl:n≤O l
 .rw[DW,Ev hl]at e;have:dv B (l.drop n)=0:=by
   apply DU;intro a;have:B^n*1≤B^n*dv B (l.drop n):=DT _ Z;omega
  rw[this,Fp]at e;exact⟨this,Z⟩
 rw[List.drop_of_length_le Z,DK Z];exact⟨rfl,rfl⟩
end Go.Proofs.YtfajmfoofmienaaGreatDoor
namespace Go.Proofs.YtfajmfoofmienaaGreatDoor
open Go Go.GL
variable {n1 n K m vc bu j top v1 v2 id n' uc bv hh rc s:Nat}{w Z4 V W T:List Nat}{qv sv vb vd ve v:Value}{e ty:TypeId}{ops:Array Oper}{va ua:Option Addr}{E:Env}{o:Oper}{x:Operand}
variable {h h':HF}
def subC:List Nat→Code→Option Code
 |[],c=>some c
 |0::p,.seq a _=>subC p a
 |1::p,.seq _ b=>subC p b
 |0::p,.cond _ a _=>subC p a
 |1::p,.cond _ _ b=>subC p b
 |0::p,.block _ b=>subC p b
 |0::p,.loop b=>subC p b
 |0::p,.scope b=>subC p b
 |_,_=>none
def rW(f:Func)(p:List Nat):Option Code:=match f.body with|some b=>subC p b|none=>none
section
variable {h:HF}{t:TF}
set_option maxRecDepth 100000
theorem Uw(B:Sl h n1 1 (Y va (O V) vc) (u32s V))(P:Sl h n1 1 (Y ua (O Z4) uc) (u32s Z4))(W:O V=m+2)(hl:O Z4<10000000000∧j+m+2<O Z4){v1 v2 top w2 g:Nat}(y:V[m+1]?=some v1)(G:V[m]?=some v2)(H:Z4[j+m]?=some w2)
  (I:2147483648≤v1∧v1<4294967296)(b2:v2<4294967296)(J:w2<4294967296)(R:top≤v1*4294967296+v2)(D:g≤top/v1)(Z3:g<4294967296)(F:∀d e:Nat,d*v1+e=top→e*4294967296+w2<d*v2→g<d)
  {c:Code}(C:rW Gc [1,1,1,1,1,1,1,1,1,1,0,1,0,0,1,0,0,1,1,1,0]=some c){Q:Ex→SV→Prop}
  (Z1:vu t [(8,sv),(9,Y va (O V) vc),(10,Y ua (O Z4) uc),(11,U .i64 (O V:Int)),(13,qv),(14,U .i64 (j:Int)),(16,U .u64 ((top/v1:Nat):Int)),(17,U .u64 ((top%v1:Nat):Int))])
  (A:∀(d e:Nat) (t':TF),vu t' [(8,sv),(9,Y va (O V) vc),(10,Y ua (O Z4) uc),(11,U .i64 (O V:Int)),(13,qv),(14,U .i64 (j:Int)),(16,U .u64 (d:Int))]→d*v1+e=top→d<4294967296→d*v2≤e*4294967296+w2→g≤d→Q .normal ⟨t',h,n1,w⟩):EC (Lf K n (Gc).ntmps) c ⟨t,h,n1,w⟩ Q:=by
 obtain rfl:=ET (C.symm.trans (rfl:rW Gc [1,1,1,1,1,1,1,1,1,1,0,1,0,0,1,0,0,1,1,1,0]=some _));have i:top%v1<v1:=EA _ Z;refine zN ?_;refine zK (α:=Nat×Nat) (fun z=>[(8,sv),(9,Y va (O V) vc),(10,Y ua (O Z4) uc),(11,U .i64 (O V:Int)),(13,qv),(14,U .i64 (j:Int)),(16,U .u64 (z.1:Int)),(17,U .u64 (z.2:Int))])
  (fun z L S T=>h=L∧n1=S∧w=T∧z.1*v1+z.2=top∧g≤z.1∧z.2<4294967296) (fun z=>z.1) (top/v1,top%v1) Z1 ⟨rfl,rfl,rfl,AI,D,by show _%_<_;omega⟩ Ah ?_
 rintro⟨d,e⟩ t2 _ _ _ ⟨rfl,rfl,rfl,l,u,v⟩;simp only at l u v;have Z0:d<18446744073709551616:=by
  have M:d*2147483648≤d*v1:=DT _ I.1;omega
 have f:g<d→(d-1)*v1+(e+v1)=top:=fun i=>by
  obtain⟨x,rfl⟩:∃x,d=x+1:=⟨d-1,Z⟩;rw[DE,EM]at l;simp only[Nat.add_sub_cancel];omega
 have q:g<d→4294967296≤e+v1→d-1<4294967296∧(d-1)*v2≤(e+v1)*4294967296+w2:=fun i o=>by
  have M:=f i;have N:d-1<4294967296:=by
   apply DU;intro hn;have:4294967296*v1≤(d-1)*v1:=Dw _ Z;omega
  refine⟨N,?_⟩;have h3:(d-1)*v2≤4294967296*4294967296:=Es Z Z;have h4:4294967296*4294967296≤(e+v1)*4294967296:=Dw _ o;omega
 refine zN ?_;rw[yH rfl];by_cases hB:4294967296≤d
 .repeat refine zU ?_
  refine zN ?_;rw[zc rfl];refine zN ?_;repeat refine zU ?_
  refine Zg ?_;refine ya (j:=m+1) R7 B ⟨rfl,Z⟩ y (fun _=>rfl) R4 fun _=>?_;repeat refine zU ?_
  refine zN ?_;by_cases o:4294967296≤e+v1
  .refine Zq ?_;have p:=q Z o;exact A (d-1) (e+v1) _ V7 (f Z) p.1 p.2 Z
  refine Zk ?_;exact goOn (d-1,e+v1) (by show d-1<d;omega) V8 ⟨rfl,rfl,rfl,f Z,by show g≤d-1;omega,by show e+v1<_;omega⟩
 have a0:d*v2≤4294967295*4294967295:=Es Z Z;repeat refine zU ?_
 refine ya (j:=m) R7 B ⟨rfl,Z⟩ G (fun _=>rfl) R4 fun _=>?_;refine yO R7 Z<|xm (a:=d) (b:=v2) R6 Z<|zM ?_;refine yS (a:=e) (s:=32) R6 Z ?_;repeat refine zR ?_
 refine ya (j:=j+m) R7 P ⟨rfl,Z⟩ H (fun _=>rfl) R4 fun _=>?_;refine yO R7 Z<|xZ (a:=e*2^32%18446744073709551616) (b:=w2) R6 Z ?_;rw[NO e w2 v J];by_cases htest:e*4294967296+w2<d*v2
 .have i:=F d e l htest;refine mj R6 (by exact_mod_cast htest) ?_;refine Zq ?_;repeat refine zU ?_
  refine Zg ?_;refine ya (j:=m+1) R7 B ⟨rfl,Z⟩ y (fun _=>rfl) R4 fun _=>?_;repeat refine zU ?_
  refine zN ?_;by_cases o:4294967296≤e+v1
  .refine Zq ?_;have p:=q i o;exact A (d-1) (e+v1) _ V7 (f i) p.1 p.2 Z
  refine Zk ?_;exact goOn (d-1,e+v1) (by show d-1<d;omega) V8 ⟨rfl,rfl,rfl,f i,by show g≤d-1;omega,by show e+v1<_;omega⟩
 refine kD R6 Z<|Zk ?_;exact A d e _ V7 l Z Z u
end
theorem PC{w q r:Nat}(a:q*v1+r=top)(hv:0<v1*4294967296+v2)(b:(top*4294967296+w)/(v1*4294967296+v2)≤q)(c:q*v2≤r*4294967296+w):q=(top*4294967296+w)/(v1*4294967296+v2):=by
 apply Nat.le_antisymm _ b;rw[Ge hv,←a];have e:q*(v1*4294967296+v2)=q*v1*4294967296+q*v2:=by rw[D4,DG]
 rw[e,DE];omega
section
variable {h:HF}{t:TF}{va vc:Value}
set_option maxRecDepth 100000
theorem Ux{w2:Nat}(I:2147483648≤v1∧v1<4294967296)(T:v2<4294967296)(C:w2<4294967296)(A:top<v1*4294967296+v2)
  {c:Code}(F:rW Jk [1,1,1,1,1,1,1,1,1,1,1,1,1,1,0]=some c){Q:Ex→SV→Prop}
  (M:vu t [(2,va),(8,vb),(11,vc),(14,vd),(9,U .u64 (v1:Int)),(10,U .u64 (v2:Int)),(13,U .u64 (w2:Int)),(15,U .u64 ((top/v1:Nat):Int)),(16,U .u64 ((top%v1:Nat):Int))])
  (y:∀(t':TF) (g:Nat),g=(top*4294967296+w2)/(v1*4294967296+v2)→vu t' [(2,va),(8,vb),(11,vc),(14,vd),(9,U .u64 (v1:Int)),(10,U .u64 (v2:Int)),(13,U .u64 (w2:Int)),(15,U .u64 (g:Int))]→Q .normal ⟨t',h,n1,w⟩):EC (Lf K n (Jk).ntmps) c ⟨t,h,n1,w⟩ Q:=by
 obtain rfl:=ET (F.symm.trans (rfl:rW Jk [1,1,1,1,1,1,1,1,1,1,1,1,1,1,0]=some _));have d:top%v1<v1:=EA _ Z;have o:=nE (B:=4294967296) (P:=1) (v1:=v1) (v2:=v2) (vr:=0) (w2:=w2) (wr:=0) (top:=top) Z C Z;have s:∀a b:Nat,a*v1+b=top→b*4294967296+w2<a*v2→(top*4294967296+w2)/(v1*4294967296+v2)<a:=fun a b v p=>by
  have:=im (B:=4294967296) (P:=1) (v1:=v1) (v2:=v2) (vr:=0) (w2:=w2) (wr:=0) (top:=top) C Z v p;simpa using this
 simp only[Ek,Ej]at o;have G:(top*4294967296+w2)/(v1*4294967296+v2)<4294967296:=by
  exact C5
 generalize hgg:(top*4294967296+w2)/(v1*4294967296+v2)=g at o G s;have m:∀q r:Nat,q*v1+r=top→g≤q→q*v2≤r*4294967296+w2→q=g:=fun q r v p J=>by
  rw[←hgg]at p⊢;exact PC v Z p J
 refine zN ?_;refine zK (α:=Nat×Nat) (fun z=>[(2,va),(8,vb),(11,vc),(14,vd),(9,U .u64 (v1:Int)),(10,U .u64 (v2:Int)),(13,U .u64 (w2:Int)),(15,U .u64 (z.1:Int)),(16,U .u64 (z.2:Int))])
  (fun z L N Z1=>h=L∧n1=N∧w=Z1∧z.1*v1+z.2=top∧g≤z.1∧z.2<4294967296) (fun z=>z.1) (top/v1,top%v1) M ⟨rfl,rfl,rfl,AI,o,by show _%_<_;omega⟩ Ah ?_
 rintro⟨a,b⟩ Z0 _ _ _ ⟨rfl,rfl,rfl,f,u,H⟩;simp only at f u H;have R:a<18446744073709551616:=by
  have D:a*2147483648≤a*v1:=DT _ I.1;omega
 have e:g<a→(a-1)*v1+(b+v1)=top:=fun d=>by
  exact C9
 have l:g<a→4294967296≤b+v1→a-1=g:=fun d i=>by
  have D:=e d;have Z4:a-1<4294967296:=by
   apply DU;exact Dc
  exact CU
 refine zN ?_;by_cases hB:4294967296≤a
 .repeat refine zW ?_
  refine zN ?_;rw[zc rfl];refine zN ?_;repeat refine zW ?_
  refine zN ?_;repeat refine zW ?_
  refine zN ?_;by_cases i:4294967296≤b+v1
  .repeat refine zW ?_
   refine zN ?_;rw[zc rfl];refine zN ?_;have j:=l Z i;exact B7
  repeat refine zW ?_
  exact Db
 have S:a*v2≤4294967295*4294967295:=Es Z Z;by_cases htest:4294967296*b+w2<a*v2
 .have d:=s a b f Z;repeat refine zW ?_
  refine zN ?_;first
   |rw[zc rfl]
   |rw[zc AW]
  refine zN ?_;repeat refine zW ?_
  refine zN ?_;repeat refine zW ?_
  refine zN ?_;by_cases i:4294967296≤b+v1
  .repeat refine zW ?_
   refine zN ?_;rw[zc rfl];refine zN ?_;have j:=l d i;exact B7
  repeat refine zW ?_
  exact Da
 repeat refine zW ?_
 refine zN ?_;first
  |rw[za rfl]
  |rw[za AL]
 refine zN ?_;have j:=m a b f u Z;exact B7
theorem Uy{w2:Nat}(I:2147483648≤v1∧v1<4294967296)(T:v2<4294967296)(C:w2<4294967296)(A:top<v1*4294967296+v2)
  {c:Code}(F:rW Jk [1,1,1,1,1,1,1,1,1,1,1,1,1,1,1,1,1,1,0]=some c){Q:Ex→SV→Prop}
  (M:vu t [(2,va),(8,vb),(15,vc),(17,vd),(9,U .u64 (v1:Int)),(10,U .u64 (v2:Int)),(14,U .u64 (w2:Int)),(18,U .u64 ((top/v1:Nat):Int)),(16,U .u64 ((top%v1:Nat):Int))])
  (y:∀(t':TF) (g:Nat),g=(top*4294967296+w2)/(v1*4294967296+v2)→vu t' [(2,va),(8,vb),(15,vc),(17,vd),(9,U .u64 (v1:Int)),(10,U .u64 (v2:Int)),(14,U .u64 (w2:Int)),(18,U .u64 (g:Int))]→Q .normal ⟨t',h,n1,w⟩):EC (Lf K n (Jk).ntmps) c ⟨t,h,n1,w⟩ Q:=by
 obtain rfl:=ET (F.symm.trans (rfl:rW Jk [1,1,1,1,1,1,1,1,1,1,1,1,1,1,1,1,1,1,0]=some _));have d:top%v1<v1:=EA _ Z;have o:=nE (B:=4294967296) (P:=1) (v1:=v1) (v2:=v2) (vr:=0) (w2:=w2) (wr:=0) (top:=top) Z C Z;have s:∀a b:Nat,a*v1+b=top→b*4294967296+w2<a*v2→(top*4294967296+w2)/(v1*4294967296+v2)<a:=fun a b v p=>by
  have:=im (B:=4294967296) (P:=1) (v1:=v1) (v2:=v2) (vr:=0) (w2:=w2) (wr:=0) (top:=top) C Z v p;simpa using this
 simp only[Ek,Ej]at o;have G:(top*4294967296+w2)/(v1*4294967296+v2)<4294967296:=by
  exact C5
 generalize hgg:(top*4294967296+w2)/(v1*4294967296+v2)=g at o G s;have m:∀q r:Nat,q*v1+r=top→g≤q→q*v2≤r*4294967296+w2→q=g:=fun q r v p J=>by
  rw[←hgg]at p⊢;exact PC v Z p J
 refine zN ?_;refine zK (α:=Nat×Nat) (fun z=>[(2,va),(8,vb),(15,vc),(17,vd),(9,U .u64 (v1:Int)),(10,U .u64 (v2:Int)),(14,U .u64 (w2:Int)),(18,U .u64 (z.1:Int)),(16,U .u64 (z.2:Int))])
  (fun z L N Z1=>h=L∧n1=N∧w=Z1∧z.1*v1+z.2=top∧g≤z.1∧z.2<4294967296) (fun z=>z.1) (top/v1,top%v1) M ⟨rfl,rfl,rfl,AI,o,by show _%_<_;omega⟩ Ah ?_
 rintro⟨a,b⟩ Z0 _ _ _ ⟨rfl,rfl,rfl,f,u,H⟩;simp only at f u H;have R:a<18446744073709551616:=by
  have D:a*2147483648≤a*v1:=DT _ I.1;omega
 have e:g<a→(a-1)*v1+(b+v1)=top:=fun d=>by
  exact C9
 have l:g<a→4294967296≤b+v1→a-1=g:=fun d i=>by
  have D:=e d;have Z4:a-1<4294967296:=by
   apply DU;exact Dc
  exact CU
 refine zN ?_;by_cases hB:4294967296≤a
 .repeat refine zW ?_
  refine zN ?_;rw[zc rfl];refine zN ?_;repeat refine zW ?_
  refine zN ?_;repeat refine zW ?_
  refine zN ?_;by_cases i:4294967296≤b+v1
  .repeat refine zW ?_
   refine zN ?_;rw[zc rfl];refine zN ?_;have j:=l Z i;exact B7
  repeat refine zW ?_
  exact Db
 have S:a*v2≤4294967295*4294967295:=Es Z Z;by_cases htest:4294967296*b+w2<a*v2
 .have d:=s a b f Z;repeat refine zW ?_
  refine zN ?_;first
   |rw[zc rfl]
   |rw[zc AW]
  refine zN ?_;repeat refine zW ?_
  refine zN ?_;repeat refine zW ?_
  refine zN ?_;by_cases i:4294967296≤b+v1
  .repeat refine zW ?_
   refine zN ?_;rw[zc rfl];refine zN ?_;have j:=l d i;exact B7
  repeat refine zW ?_
  exact Da
 repeat refine zW ?_
 refine zN ?_;first
  |rw[za rfl]
  |rw[za AL]
 refine zN ?_;have j:=m a b f u Z;exact B7
end
theorem Uz{U0 f g H hv u d c a b c' br' P B:Nat}(s:g+u*P=f+d*P)(o:f+H=U0+(c+a)*P)(p:d+(b+a)=u+br'*B)(q:B*c'+b=hv+c):g+(H+hv*P)=U0+(c'+br')*(P*B):=by
 have i:(d+(b+a))*P=(u+br'*B)*P:=by rw[p]
 have l:(B*c'+b)*P=(hv+c)*P:=by rw[q]
 rw[DE,DE,DE u]at i;rw[DE,DE hv]at l;rw[DE c a]at o;rw[DE c' br',Dt P B,←DG c' B,←DG br' B,Dt c' B];omega
def LX(b:Nat)(h h':HF):Prop:=∀x,x≠b→h' x=h x
theorem Sl.but{h h':HF}{n f sz b bv o len cap:Nat}{c:List Value}(s:Sl h n sz (Y (some ⟨bv,o,none⟩) len cap) c)(g:LX b h h')(d:bv≠b)(i:n≤f):Sl h' f sz (Y (some ⟨bv,o,none⟩) len cap) c:=
 s.keep (fun a l p e=>by injection e with e1;injection e1 with e1;subst e1;exact g _ d) i
section
variable {h:HF}{t:TF}
set_option maxRecDepth 100000
theorem UA(hV:Sl h n1 1 (Y (some ⟨bv,0,none⟩) (O V) vc) (u32s V))(Z1:bv≠bu)(A:3*n≤bu∧bu<3*n1)(G:h bu=some (.row (u32s Z4) e))(T:KV V)(S:KV Z4)(hl:O Z4<10000000000∧j+O V<O Z4)(a0:hh<4294967296)
  {c:Code}(N:rW Gc [1,1,1,1,1,1,1,1,1,1,0,1,0,0,1,0,0,1,1,1,1,1,0,1]=some c){Q:Ex→SV→Prop}
  (Z3:vu t [(8,sv),(9,Y (some ⟨bv,0,none⟩) (O V) vc),(10,Y (some ⟨bu,0,none⟩) (O Z4) (O Z4)),(11,U .i64 (O V:Int)),(13,qv),(14,U .i64 (j:Int)),(16,U .u64 (hh:Int)),(18,U .u64 (((0:Nat):Nat):Int)),(19,U .u64 (((0:Nat):Nat):Int)),(20,U .i64 (((0:Nat):Nat):Int))])
  (Z0:∀(c g:Nat) (U2:List Nat) (t':TF) (h':HF),vu t' [(8,sv),(9,Y (some ⟨bv,0,none⟩) (O V) vc),(10,Y (some ⟨bu,0,none⟩) (O Z4) (O Z4)),(11,U .i64 (O V:Int)),(13,qv),(14,U .i64 (j:Int)),(16,U .u64 (hh:Int)),(18,U .u64 (c:Int)),(19,U .u64 (g:Int))]→LX bu h h'→h' bu=some (.row (u32s U2) e)→KV U2→O U2=O Z4→c<4294967296→g≤1→U2.drop (O V+j)=Z4.drop (O V+j)→dv 4294967296 U2+hh*dv 4294967296 V*4294967296^j=dv 4294967296 Z4+(c+g)*4294967296^(O V+j)→Q .normal ⟨t',h',n1,w⟩):EC (Lf K n (Gc).ntmps) c ⟨t,h,n1,w⟩ Q:=by
 obtain rfl:=ET (N.symm.trans (rfl:rW Gc [1,1,1,1,1,1,1,1,1,1,0,1,0,0,1,0,0,1,1,1,1,1,0,1]=some _));refine zN ?_;refine zK (α:=Nat×Nat×Nat×List Nat) (fun z=>[(8,sv),(9,Y (some ⟨bv,0,none⟩) (O V) vc),(10,Y (some ⟨bu,0,none⟩) (O Z4) (O Z4)),(11,U .i64 (O V:Int)),(13,qv),(14,U .i64 (j:Int)),(16,U .u64 (hh:Int)),(18,U .u64 (z.2.1:Int)),(19,U .u64 (z.2.2.1:Int)),(20,U .i64 (z.1:Int))])
  (fun z h' n' w'=>n1=n'∧w=w'∧LX bu h h'∧h' bu=some (.row (u32s z.2.2.2) e)∧z.1≤O V∧KV z.2.2.2∧O z.2.2.2=O Z4∧z.2.1<4294967296∧z.2.2.1≤1∧z.2.2.2.drop (z.1+j)=Z4.drop (z.1+j)∧dv 4294967296 z.2.2.2+hh*dv 4294967296 (V.take z.1)*4294967296^j=dv 4294967296 Z4+(z.2.1+z.2.2.1)*4294967296^(z.1+j)) (fun z=>O V-z.1)
  (0,0,0,Z4) Z3 ⟨rfl,rfl,fun x _=>rfl,G,Di,S,rfl,by show 0<4294967296;decide,by show 0≤1;decide,rfl,AR⟩ (by show O V-0<LL;unfold LL;omega) ?_
 rintro⟨i,c,g,U2⟩ t2 I _ _ ⟨rfl,rfl,l,d,hi,o,p,F,D,y,f⟩;simp only at d hi o p F D y f;refine zN ?_;by_cases hiV:i=O V
 .subst hiV;refine Zk ?_;rw[DO]at f;exact Z0 c g U2 _ I V9 l d o p F D y f
 obtain⟨v,C⟩:∃x,V[i]?=some x:=⟨V[i]'Z,Dm Z⟩;have a2:v<4294967296:=T v (Dq C);obtain⟨u,H⟩:∃x,U2[i+j]?=some x:=⟨U2[i+j]'Z,Dm Z⟩;have a1:u<4294967296:=o u (Dq H);have hp:hh*v≤4294967295*4294967295:=Es Z Z;have J:Sl I n1 1 (Y (some ⟨bu,0,none⟩) (O Z4) (O Z4)) (u32s U2):=Sl.own d A.2 p Dh;have L:=hV.but l Z1 Dh;refine Zr ?_;refine ya R7 L R2 C (fun _=>rfl) R4 fun _=>?_;refine yO R7 Z<|xm (a:=hh) (b:=v) R6 Z ?_;generalize hpp:hh*v=pv at hp;repeat refine zU ?_
 refine Zd ?_;refine yg (a:=pv+c) (s:=32) R6 Z<|Zj ?_;refine ya (j:=i+j) R7 J ⟨rfl,Z⟩ H (fun _=>rfl) R4 fun _=>?_;refine yO R7 Z<|zM ?_;refine u9 (a:=pv+c) (b:=4294967295) R6 Z ?_;rw[show(pv+c)&&& 4294967295=(pv+c)%4294967296 from IR _ 32];obtain⟨q,P⟩:∃q,q=(pv+c)%4294967296:=⟨_,rfl⟩;rw[←P];refine xJ (a:=u) (b:=q) R6 Z<|zM ?_;refine xJ (a:=(u+18446744073709551616-q)%18446744073709551616) (b:=g) R6 Z ?_;obtain⟨X,hX⟩:∃X,X=((u+18446744073709551616-q)%18446744073709551616+18446744073709551616-g)%18446744073709551616:=⟨_,rfl⟩;rw[←hX];have M:X%4294967296+(q+g)=u+X/2^32%2*4294967296:=Z;refine Zj ?_;refine yB R7 ?_;refine xG (j:=i+j) (v:=U .u32 ((X%4294967296:Nat):Int)) R8 Z Ak d A.1 (fun _=>rfl) R3 (fun _=>rfl) rfl fun _=>?_;rw[xU];refine Zd ?_;refine yg (a:=X) (s:=32) R6 Z<|u9 (a:=X/2^32) (b:=1) R6 Z ?_;rw[KC];refine Zl ?_;refine goOn (i+1,(pv+c)/2^32,X/2^32%2,U2.set (i+j) (X%4294967296)) (by show O V-(i+1)<O V-i;omega) ⟨rfl,rfl,rfl,rfl,rfl,rfl,rfl,rfl,rfl,dO,Df⟩ ⟨rfl,rfl,fun x R=>(zg R).trans (l x R),ze _ _ _,by show i+1≤O V;omega,pJ o (EA _ Z),by show(U2.set _ _).length=_;rw[EU];exact p,by show _/_<_;omega,by show _%_≤1;omega,?_,?_⟩
 .show(U2.set (i+j) _).drop (i+1+j)=Z4.drop (i+1+j);rw[GA Z,show i+1+j=i+j+1 from Z];have:=congrArg (Ki 1) y;rw[ES,ES]at this;exact this
 show dv 4294967296 (U2.set (i+j) _)+hh*dv 4294967296 (V.take (i+1))*4294967296^j=dv 4294967296 Z4+((pv+c)/2^32+X/2^32%2)*4294967296^(i+1+j);have W:=oJ (B:=4294967296) (X%4294967296) H;have:=Uz (c':=(pv+c)/2^32) (br':=X/2^32%2) (B:=4294967296) (hv:=pv) W f M Z;rw[show i+1+j=i+j+1 from Z,DI (n:=4294967296),←this,zY C,D4,DE,←hpp,EH];congr 2;rw[Dt (4294967296^i) v,←DG,DG]
theorem UB(R:Sl h n1 1 (Y (some ⟨bv,0,none⟩) (O V) vc) (u32s V))(H:bv≠bu)(o:3*n≤bu∧bu<3*n1)(s:h bu=some (.row (u32s Z4) e))(L:KV V)(J:KV Z4)(hl:O Z4<10000000000∧j+O V<O Z4)
  {c:Code}(G:rW Gc [1,1,1,1,1,1,1,1,1,1,0,1,0,0,1,0,0,1,1,1,1,1,1,1,1,0,1,0,1,1,0,1]=some c){Q:Ex→SV→Prop}
  (Z1:vu t [(8,sv),(9,Y (some ⟨bv,0,none⟩) (O V) vc),(10,Y (some ⟨bu,0,none⟩) (O Z4) (O Z4)),(11,U .i64 (O V:Int)),(13,qv),(14,U .i64 (j:Int)),(16,U .u64 (hh:Int)),(18,U .u64 (((0:Nat):Nat):Int)),(24,U .i64 (((0:Nat):Nat):Int))])
  (P:∀(c:Nat) (U2:List Nat) (t':TF) (h':HF),vu t' [(8,sv),(9,Y (some ⟨bv,0,none⟩) (O V) vc),(10,Y (some ⟨bu,0,none⟩) (O Z4) (O Z4)),(11,U .i64 (O V:Int)),(13,qv),(14,U .i64 (j:Int)),(16,U .u64 (hh:Int)),(18,U .u64 (c:Int))]→LX bu h h'→h' bu=some (.row (u32s U2) e)→KV U2→O U2=O Z4→c≤1→U2.drop (O V+j)=Z4.drop (O V+j)→dv 4294967296 U2+c*4294967296^(O V+j)=dv 4294967296 Z4+dv 4294967296 V*4294967296^j→Q .normal ⟨t',h',n1,w⟩):EC (Lf K n (Gc).ntmps) c ⟨t,h,n1,w⟩ Q:=by
 obtain rfl:=ET (G.symm.trans (rfl:rW Gc [1,1,1,1,1,1,1,1,1,1,0,1,0,0,1,0,0,1,1,1,1,1,1,1,1,0,1,0,1,1,0,1]=some _));refine zN ?_;refine zK (α:=Nat×Nat×List Nat) (fun z=>[(8,sv),(9,Y (some ⟨bv,0,none⟩) (O V) vc),(10,Y (some ⟨bu,0,none⟩) (O Z4) (O Z4)),(11,U .i64 (O V:Int)),(13,qv),(14,U .i64 (j:Int)),(16,U .u64 (hh:Int)),(18,U .u64 (z.2.1:Int)),(24,U .i64 (z.1:Int))])
  (fun z h' T W=>n1=T∧w=W∧LX bu h h'∧h' bu=some (.row (u32s z.2.2) e)∧z.1≤O V∧KV z.2.2∧O z.2.2=O Z4∧z.2.1≤1∧z.2.2.drop (z.1+j)=Z4.drop (z.1+j)∧dv 4294967296 z.2.2+z.2.1*4294967296^(z.1+j)=dv 4294967296 Z4+dv 4294967296 (V.take z.1)*4294967296^j) (fun z=>O V-z.1)
  (0,0,Z4) Z1 ⟨rfl,rfl,fun x _=>rfl,s,Di,J,rfl,by show 0≤1;decide,rfl,AR⟩ (by show O V-0<LL;unfold LL;omega) ?_
 rintro⟨i,c,U2⟩ t2 C _ _ ⟨rfl,rfl,d,a,S,f,g,q,l,b⟩;simp only at a S f g q l b;refine zN ?_;by_cases hiV:i=O V
 .subst hiV;refine Zk ?_;rw[DO]at b;exact P c U2 _ C V8 d a f g q l b
 obtain⟨v,A⟩:∃x,V[i]?=some x:=⟨V[i]'Z,Dm Z⟩;have Z0:v<4294967296:=L v (Dq A);obtain⟨u,y⟩:∃x,U2[i+j]?=some x:=⟨U2[i+j]'Z,Dm Z⟩;have Z3:u<4294967296:=f u (Dq y);have D:Sl C n1 1 (Y (some ⟨bu,0,none⟩) (O Z4) (O Z4)) (u32s U2):=Sl.own a o.2 g Dh;have F:=R.but d H Dh;refine Zq ?_;rw[yH rfl];repeat refine zR ?_
 refine ya (j:=i+j) R7 D ⟨rfl,Z⟩ y (fun _=>rfl) R4 fun _=>?_;refine yO R7 Z ?_;repeat refine zR ?_
 refine ya R7 F R2 A (fun _=>rfl) R4 fun _=>?_;repeat refine zU ?_
 refine Zg ?_;refine yB R7 ?_;refine xG (j:=i+j) (v:=U .u32 (((c+(u+v))%4294967296:Nat):Int)) R8 Z Ak a o.1 (fun _=>rfl) R3 (fun _=>rfl) rfl fun _=>?_;rw[xU];refine zN ?_;repeat refine zU ?_
 refine Zc ?_;refine goOn (i+1,(c+(u+v))/4294967296,U2.set (i+j) ((c+(u+v))%4294967296)) (by show O V-(i+1)<O V-i;omega) ⟨rfl,rfl,rfl,rfl,rfl,rfl,rfl,rfl,dO,Df⟩ ⟨rfl,rfl,fun x I=>(zg I).trans (d x I),ze _ _ _,by show i+1≤O V;omega,pJ f (EA _ Z),by show(U2.set _ _).length=_;rw[EU];exact g,by show _/_≤1;omega,?_,?_⟩
 .show(U2.set (i+j) _).drop (i+1+j)=Z4.drop (i+1+j);rw[GA Z,show i+1+j=i+j+1 from Z];have:=congrArg (Ki 1) l;rw[ES,ES]at this;exact this
 show dv 4294967296 (U2.set (i+j) _)+(c+(u+v))/4294967296*4294967296^(i+1+j)=dv 4294967296 Z4+dv 4294967296 (V.take (i+1))*4294967296^j;have M:=fJ (B:=4294967296) (c:=c) (p:=v) (c':=(c+(u+v))/4294967296) (oJ (B:=4294967296) ((c+(u+v))%4294967296) y) Z;rw[show i+1+j=i+j+1 from Z,DI (n:=4294967296),M,b,zY A,DE,EH];have N:4294967296^i*v*4294967296^j=v*(4294967296^i*4294967296^j):=by rw[Dt (4294967296^i) v,DG]
 rw[N];omega
end
theorem PD{a x:Value}(b:sj E ty a x h n=some (.val v h' n' W)):n'=n:=by
 unfold sj at b;split at b
 .split at b
  .split at b
   .injection b with b;injection b with _ _ e _;exact e.symm
   cases b
  cases b
 cases b
theorem iW{a x:Value}{r:RF}(b:sj E ty a x h n=some r):∃v h' n' W,r=.val v h' n' W:=by
 unfold sj at b;split at b
 .split at b
  .split at b
   .injection b with b;subst b;exact⟨_,_,_,_,rfl⟩
   cases b
  cases b
 cases b
theorem gD:∀{l:List (Nat×Nat)},xW m l=true→yd m W l=true:=by
 intro l;induction l with
 |nil=>intro _;rfl
 |cons x l ih=>
  intro h;obtain⟨i,b⟩:=x;unfold xW at h;split at h
  .rename_i hb;unfold yd;rw[hb,Bool.true_or];exact ih h
  cases h
def pS(m:Nat):Nat→Bool
 |0=>true
 |i+1=>m.testBit i&&pS m i
theorem ba:∀{i j:Nat},pS m i=true→j<i→m.testBit j=true:=by
 intro i;induction i with
 |zero=>intro j _ a;omega
 |succ i ih=>
  intro j h a;simp only[pS,Ew]at h;by_cases e:j=i
  .rw[e];exact h.1
  exact ih h.2 Z
theorem UC:∀{l:List (Nat×Nat)},(∀x∈l,m.testBit x.1=true)→xW m l=true:=by
 intro l;induction l with
 |nil=>intro _;rfl
 |cons x l ih=>
  intro h;obtain⟨i,b⟩:=x;unfold xW;rw[h (i,b) cA];exact ih fun y a=>h y BR
theorem UD{X:CtxF}{ops:List Oper}{a:Operand}{A:Nat}(I:o.op=.store ty a x):∀(l:List Oper) (ms:List Nat) (i:Nat) (s:SV) (e:List (Nat×Nat)),O l=O ms→l.all (fun o=>Mj X.E o.op)=true→pS A (i+O l)=true→(∀y∈e,y.1<i)→z9 X ops (l++[o]) (ms++[A]) i ⟨s,[],e,[]⟩=seqF X ops (l++[o]) s:=by
 intro l;induction l with
 |nil=>
  intro ms i s e C _ G B;have:ms=[]:=DA.1 (by simpa using C.symm);subst this;show z9 X ops [o] [A] i ⟨s,[],e,[]⟩=seqF X ops [o] s;unfold z9 seqF;simp only;cases hw:zh ops s.t o with
  |false=>simp only[z9,seqF]
  |true=>
   simp only;have u:KS o.op=3:=by rw[I];rfl
   unfold qx Lv;simp only[u,xF,xW,EF];unfold ng;have K:effF X.E o.op (KM s.t) s.h s.n=sj X.E ty (KM s.t a) (KM s.t x) s.h s.n:=by rw[I];rfl
   rw[K];cases he:sj X.E ty (KM s.t a) (KM s.t x) s.h s.n with
   |none=>rfl
   |some r=>
    obtain⟨v,h',n',W,rfl⟩:=iW he;have L:=PD he;subst L;simp only;have J:yd A W e=true:=gD (UC fun y g=>ba (by simpa using G) (B y g));unfold wp;split
    .simp only[J,Dv Dh,EF,z9,seqF]
    rfl
 |cons p l ih=>
  intro ms i s e C w G B;cases ms with
  |nil=>simp at C
  |cons m ms=>
   simp only[JG,Ew]at w;have j:O l=O ms:=by simpa using C
   have q:pS A (i+1+O l)=true:=by rw[show i+1+O l=i+O (p::l) from by simp;omega];exact G
   have f:∀y∈e,y.1<i+1:=fun y g=>by have:=B y g;omega
   show z9 X ops (p::(l++[o])) (m::(ms++[A])) i ⟨s,[],e,[]⟩=seqF X ops (p::(l++[o])) s;unfold z9 seqF;simp only;cases hw:zh ops s.t p with
   |false=>
    simp only;congr 1;funext s1;exact ih ms (i+1) s1 e j w.2 q f
   |true=>
    simp only;unfold qx Lv;rcases NU w.1 with M|⟨t,d,x,k,D,F⟩
    .cases u:KS p.op with
     |zero=>
      simp only[u];cases yJ X.E p.op (KM s.t)with
      |none=>rfl
      |some v=>
       simp only;congr 1;funext s1;exact ih ms (i+1) s1 e j w.2 q f
     |succ c=>
      cases c with
      |zero=>
       simp only[u,vm];cases na X.E p.op (KM s.t) s.h with
       |none=>rfl
       |some vb=>
        obtain⟨v,b⟩:=vb;simp only[wS,pz,EF];congr 1;funext s1;exact ih ms (i+1) s1 _ j w.2 q fun y g=>by
         rcases DR.1 g with rfl|g
         .show i<i+1;omega
         exact f y g
      |succ c=>omega
    have u:KS p.op=4:=by rw[D];rfl
    have H:KX X.E p.op (KM s.t)=none:=by rw[D];exact qC F _
    simp only[u,H];cases hpu:yJ X.E p.op (KM s.t)with
    |none=>
     rw[D];simp only[uX F]
    |some v=>
     rw[D];simp only[uX F];congr 1;funext s1;exact ih ms (i+1) s1 e j w.2 q f
def PE(ops:List Oper)(E:Env):Bool:=(match ops.reverse with|o::r=>(match o.op with| .store _ _ _=>r.all (fun o=>Mj E o.op)&&pS ((wu ops []).getLastD 0) (O r)|_=>false)|[]=>false)
theorem PF{X:CtxF}{s:SV}{Q:Ex→SV→Prop}(b:PE ops.toList X.E=true):EC X (.region id ops true) s Q↔EO X ops.toList ops.toList s (Q .normal):=by
 unfold EC EO;rw[xQ];have l:z9 X ops.toList ops.toList (wu ops.toList []) 0 ⟨s,[],[],[]⟩=seqF X ops.toList ops.toList s:=by
  unfold PE at b;split at b
  .rename_i o r hr;split at b
   .rename_i ty a x ho;simp only[Ew]at b;have g:ops.toList=r.reverse++[o]:=by
     have:=congrArg List.reverse hr;simpa using this
    have c:O (wu ops.toList [])=O r+1:=by rw[mM,g];simp
    obtain⟨f,d,j⟩:∃f d,wu ops.toList []=f++[d]:=⟨(wu ops.toList []).dropLast,(wu ops.toList []).getLast (by intro e;rw[e]at c;simp at c),(HJ _).symm⟩;rw[j]at b c⊢;have i:(f++[d]).getLastD 0=d:=by simp
    rw[i]at b;have:=UD (X:=X) (ops:=ops.toList) ho r.reverse f 0 s [] (by simp at c⊢;omega) (by simpa using b.1) (by simpa using b.2) (fun y p=>oU p Ds);rw[←g]at this;exact this
   cases b
  cases b
 rw[l];cases h:seqF X ops.toList ops.toList s with
 |none=>simp
 |some r=>simp only[uU];simp
theorem Sl.pre{h:HF}{m b len cap:Nat}{e:TypeId}{Z1 T:List Nat}(a:h b=some (.row (u32s (Z1++T)) e))(c:b<3*m)(f:O Z1=len)(d:len≤cap):Sl h m 1 (Y (some ⟨b,0,none⟩) len cap) (u32s Z1):=
 .at_ c a rfl d (by rw[ym,Do];omega) (by rw[EE,nT,Fk Ak,DK Ak])
theorem sG{s:Nat}(a:s≤32):2^s*2^(32-s)=4294967296:=by rw[←EH,show s+(32-s)=32 from Z]
theorem UE{x y s:Nat}(a:s≤32):(x/2^s+y*2^(32-s)%4294967296)*2^s+x%2^s=x+y%2^s*4294967296:=by
 have e:y*2^(32-s)%4294967296=y%2^s*2^(32-s):=by rw[←sG a,HP]
 rw[e,DE,DG (y%2^s),Dt (2^(32-s)),sG a];have:=EP x (2^s);rw[Dt (2^s)]at this;omega
theorem PG{x s:Nat}(b:x<4294967296)(a:s≤32):x/2^s<2^(32-s):=by
 rw[Ff (Er Z),Dt,sG a];exact b
theorem PH(D:List Nat)(x d:Nat)(R:List Nat):(D++x::R).set (O D) d=D++d::R:=by
 rw[Eo _ _ Dh];simp
theorem PI{α:Type}{X:CtxF}{a:Code}{s:SV}{Q:Ex→SV→Prop}(b:α→List (Nat×Value))(I:α→HF→Nat→List Nat→Prop)(j:EC X a s (cutx b I Q))(l:∀z t h n w,I z h n w→Q .normal ⟨fI t (b z),h,n,w⟩):EC X a s Q:=by
 refine si j fun e c d=>?_;cases e with
 |normal=>
  obtain⟨z,f,g⟩:=d;have:=l z c.t c.h c.n c.w g;rw[xo f]at this;exact this
 |exit i=>exact d
 |ret=>exact d
section
variable {h:HF}{t:TF}{R:List Nat}
set_option maxRecDepth 100000
theorem UF(l:3*n≤bu∧bu<3*n1)(G:h bu=some (.row (u32s (R++T)) e))(F:KV R)(P:O R<10000000000∧O R≤rc)(hs:s<32)
  {c:Code}(N:rW Gc [1,1,1,1,1,1,1,1,1,1,1,1,0,1]=some c){Q:Ex→SV→Prop}
  (hL:vu t [(8,U .u64 (s:Int)),(13,qv),(25,Y (some ⟨bu,0,none⟩) (O R) rc),(26,U .i64 (((0:Nat):Nat):Int))])
  (hQ:∀(D:List Nat) (t':TF) (h':HF),vu t' [(8,U .u64 (s:Int)),(13,qv),(25,Y (some ⟨bu,0,none⟩) (O R) rc)]→LX bu h h'→h' bu=some (.row (u32s (D++T)) e)→KV D→O D=O R→dv 4294967296 D*2^s+(R[0]?).getD 0%2^s=dv 4294967296 R→Q .normal ⟨t',h',n1,w⟩):EC (Lf K n (Gc).ntmps) c ⟨t,h,n1,w⟩ Q:=by
 obtain rfl:=ET (N.symm.trans (rfl:rW Gc [1,1,1,1,1,1,1,1,1,1,1,1,0,1]=some _));have a0:0<2^s:=Er Z;refine zN ?_;refine zK (α:=List Nat) (fun D=>[(8,U .u64 (s:Int)),(13,qv),(25,Y (some ⟨bu,0,none⟩) (O R) rc),(26,U .i64 (O D:Int))])
  (fun D h' I J=>n1=I∧w=J∧LX bu h h'∧h' bu=some (.row (u32s (D++(R.drop (O D)++T))) e)∧O D≤O R∧KV D∧dv 4294967296 D*2^s+(R[0]?).getD 0%2^s=dv 4294967296 (R.take (O D))+(R[O D]?).getD 0%2^s*4294967296^O D) (fun D=>O R-O D)
  [] hL ⟨rfl,rfl,fun x _=>rfl,G,Di,fun d hd=>oU hd Ds,AR⟩ (by show O R-0<LL;unfold LL;omega) ?_
 rintro D t2 q _ _⟨rfl,rfl,o,f,hD,L,m⟩;refine zN ?_;by_cases hi:O D=O R
 .refine Zk ?_;rw[hi,Fo,El]at f;rw[hi,DO,DS Dh]at m;refine hQ D _ q V3 o f L hi ?_;rw[m];simp
 obtain⟨x,A⟩:∃x,R[O D]?=some x:=⟨R[O D]'Z,Dm Z⟩;have C:x<4294967296:=F x (Dq A);have a1:x/2^s≤x:=FL _ _;rw[wc A,Gp]at f;have M:Sl q n1 1 (Y (some ⟨bu,0,none⟩) (O R) rc) (u32s (D++x::R.drop (O D+1))):=Sl.pre (T:=T) (by rw[DN,Gp];exact f) l.2 eN P.2;refine Zr ?_;refine ya (j:=O D) (dv:=x) R7 M R2 cA (fun _=>rfl) R4 fun _=>?_;refine zM ?_;refine kB (a:=x) (s:=s) R6 Z ?_;refine xG (j:=O D) (v:=U .u32 ((x/2^s:Nat):Int)) R8 rfl Bn f l.1 (fun _=>rfl) R3 (fun _=>rfl) rfl fun _=>?_;rw[xU,PH];refine Zc ?_;have S:(R[O D+1]?).getD 0<4294967296:=by
  cases hc':R[O D+1]? with
  |none=>decide
  |some x=>exact F x (Dq hc')
 refine PI (α:=HF) (fun _=>[(8,U .u64 (s:Int)),(13,qv),(25,Y (some ⟨bu,0,none⟩) (O R) rc),(26,U .i64 (O D:Int))])
  (fun g h' I J=>g=h'∧n1=I∧w=J∧LX bu h g∧g bu=some (.row (u32s (D++(x/2^s+(R[O D+1]?).getD 0*2^(32-s)%4294967296)::(R.drop (O D+1)++T))) e)) ?_ ?_
 .by_cases hj:O D+1<O R
  .obtain⟨y,H⟩:∃y,R[O D+1]?=some y:=⟨R[O D+1]'Z,Dm Z⟩;have a2:y<4294967296:=F y (Dq H);have Z4:y*2^(32-s)<18446744073709551616:=by
    have h1:2^(32-s)≤2^32:=DJ Z Z;have:y*2^(32-s)≤4294967295*4294967296:=Es Z h1;omega
   rw[zc gV];rw[PF rfl];have i:upd q bu (some (.row (u32s (D++x/2^s::(R.drop (O D+1)++T))) e)) bu=some (.row (u32s (D++x/2^s::(R.drop (O D+1)++T))) e):=ze _ _ _;have B:Sl (upd q bu (some (.row (u32s (D++x/2^s::(R.drop (O D+1)++T))) e))) n1 1 (Y (some ⟨bu,0,none⟩) (O R) rc) (u32s (D++x/2^s::R.drop (O D+1))):=Sl.pre (T:=T) (by rw[DN,Gp];exact i) l.2 eN P.2;repeat refine zR ?_
   refine ya (j:=O D) (dv:=x/2^s) R7 B R2 cA (fun _=>rfl) R4 fun _=>?_;repeat refine zR ?_
   refine ya (j:=O D+1) (dv:=y) R7 B ⟨rfl,Z⟩ (by rw[List.getElem?_append_right Z,show (O D)+1-O D=1 from Z,Gq,Em,Ej];exact H) (fun _=>rfl) R4 fun _=>?_;refine yO R7 Z<|zM ?_;refine yn (a:=32) (b:=s) R6 Z<|yS (a:=y) (s:=32-s) R6 Z ?_;rw[Dz Z4];refine yB R7<|iZ (a:=x/2^s) (b:=y*2^(32-s)%4294967296) R6 Z ?_;rw[NX Z (PG C Z)];refine xG (j:=O D) (v:=U .u32 ((x/2^s+y*2^(32-s)%4294967296:Nat):Int)) R8 rfl Bn i l.1 (fun _=>rfl) R3 (fun _=>rfl) rfl fun _=>?_;rw[xU,PH,yI];refine zN ?_;exact zC _ V4 ⟨rfl,rfl,rfl,fun b p=>(zg p).trans (o b p),by rw[H];exact ze _ _ _⟩
  rw[za gP];refine zN ?_;exact zC _ V4 ⟨rfl,rfl,rfl,fun b p=>(zg p).trans (o b p),by rw[DS Z];simp only[JK,EI,Nat.zero_mod,Ej];exact ze _ _ _⟩
 rintro g t3 _ _ _⟨rfl,rfl,rfl,u,i⟩;generalize hyy:(R[O D+1]?).getD 0=y at S i;have Z1:x/2^s+y*2^(32-s)%4294967296<4294967296:=Py Z (PG C Z);refine Zc ?_;refine goOn (D++[x/2^s+y*2^(32-s)%4294967296]) eN ⟨rfl,rfl,rfl,ux,Df⟩ ⟨rfl,rfl,u,?_,eN,rP L Z1,?_⟩
 .show g bu=some (.row (u32s (D++[_]++(R.drop (O (D++[_]))++T))) e);rw[Do,Dy,DN];exact i
 rw[Do,Dy,vQ,zY A,hyy];rw[A]at m;simp only[JJ]at m;have V:=UE (x:=x) (y:=y) (s:=s) Z;generalize x/2^s+y*2^(32-s)%4294967296=d at*
 generalize (R[0]?).getD 0%2^s=r0 at*
 have W:(d*2^s+x%2^s)*4294967296^O D=(x+y%2^s*4294967296)*4294967296^O D:=by rw[V]
 rw[DE,DE x]at W;rw[DE,DI (n:=4294967296)];have Z3:4294967296^O D*d*2^s=d*2^s*4294967296^O D:=by rw[Dt (4294967296^O D) d,Gi]
 have Z0:y%2^s*(4294967296^O D*4294967296)=y%2^s*4294967296*4294967296^O D:=by rw[Dt (4294967296^O D),←DG]
 rw[Z3,Z0,Dt (4294967296^O D) x];omega
end
end Go.Proofs.YtfajmfoofmienaaGreatDoor
namespace Go.Proofs.YtfajmfoofmienaaGreatDoor
variable {B P Z4 V b c c2 i j m top:Nat}{C L:List Nat}
theorem wi{a:Nat}(h:a*P<b*P):a<b:=by
 apply DU;intro d;have:b*P≤a*P:=Dw P Z;omega
theorem UG{T hh L W:Nat}(l:Z4=L+W*P)(g:L<P)(d:0<V)(h:T+hh*V*P=Z4)(o:W/V≤hh):hh=W/V:=by
 have a:hh*V*P<(W+1)*P:=by rw[DE,EM];omega
 have e:=wi a;have f:hh≤W/V:=by rw[Ge d];omega
 omega
theorem PJ{T hh L W a:Nat}(o:Z4=L+W*P)(e:0<V)(h:T+hh*V*P=Z4+a)(l:T<a)(p:hh≤W/V+1):hh=W/V+1:=by
 have d:W*P<hh*V*P:=Z;have f:=wi d;have g:¬hh≤W/V:=by rw[Ge e];omega
 omega
theorem UH{a x y:Nat}(f:a<P)(g:b<P)(h:a+x*P=b+y*P):a=b∧x=y:=by
 have d:(a+x*P)%P=(b+y*P)%P:=by rw[h]
 rw[Gx,Gx,Dz f,Dz g]at d;subst d;have e:x*P=y*P:=Z;exact⟨rfl,G4 Z e⟩
theorem N0{l:List Nat}{x:Nat}(a:l[i]?=some x)(d:dv B (l.drop (i+1))=0):dv B l=dv B (l.take i)+x*B^i:=by
 have f:=(Du.1 a).1;have e:dv B l=dv B (l.take (i+1))+B^O (l.take (i+1))*dv B (l.drop (i+1)):=by rw[←wy,Ep]
 rw[e,d,Fp,Ej,zY a,Dt]
theorem pb(B:Nat)(l:List Nat)(j:Nat)(h:j≤O l):dv B l=dv B (l.take j)+dv B (l.drop j)*B^j:=by
 have e:dv B l=dv B (l.take j)+B^O (l.take j)*dv B (l.drop j):=by rw[←wy,Ep]
 rw[e,DW,Ev h,Dt]
theorem xD{l:List Nat}(h:KV l)(e:i≤O l):dv 4294967296 (l.take i)<4294967296^i:=by
 have:=iE (B:=4294967296) (l:=l.take i) fun d a=>h d (EB a);rw[DW,Ev e]at this;exact this
theorem UJ{Z4 d:List Nat}{hh w0 a:Nat}(f:j≤O Z4)(g:KV Z4)(o:0<V)(w:dv 4294967296 d+hh*V*4294967296^j=dv 4294967296 Z4+(c+a)*4294967296^i)(q:d[i]?=some w0)(s:c+a≤w0)(p:dv 4294967296 (Z4.drop j)/V≤hh):
  hh=dv 4294967296 (Z4.drop j)/V∧dv 4294967296 (d.set i (w0-c-a))+dv 4294967296 (Z4.drop j)/V*V*4294967296^j=dv 4294967296 Z4:=by
 have u:=oJ (B:=4294967296) (w0-c-a) q;have e:dv 4294967296 (d.set i (w0-c-a))+hh*V*4294967296^j=dv 4294967296 Z4:=by
  have v:w0*4294967296^i=(w0-c-a)*4294967296^i+(c+a)*4294967296^i:=by rw[←DE];congr 1;omega
  omega
 have l:=UG (pb 4294967296 Z4 j f) (xD g f) o e p;rw[←l];exact⟨rfl,e⟩
theorem UK{Z4 a d:List Nat}{hh x:Nat}(l:j≤O Z4)(y:KV Z4)(o:0<V)(Z1:V*4294967296^j≤4294967296^i)(g:KV a)(w:KV d)(e:a[i]?=some x)(u:dv 4294967296 (a.drop (i+1))=0)(f:d[i]?=some x)(v:dv 4294967296 (d.drop (i+1))=0)
  (H:dv 4294967296 a+hh*V*4294967296^j=dv 4294967296 Z4+4294967296*4294967296^i)(h4:dv 4294967296 d+c2*4294967296^i=dv 4294967296 a+V*4294967296^j)(K:hh≤dv 4294967296 (Z4.drop j)/V+1):
  hh=dv 4294967296 (Z4.drop j)/V+1∧(x+c2)%4294967296=0∧dv 4294967296 (d.set i 0)+dv 4294967296 (Z4.drop j)/V*V*4294967296^j=dv 4294967296 Z4:=by
 have R:=(Du.1 e).1;have S:=(Du.1 f).1;have Z3:x<4294967296:=g x (Dq e);have Z0:=N0 e u;have e4:=N0 f v;have t3:=xD g (show i≤O a by omega);have N:=xD w (show i≤O d by omega);have I:dv 4294967296 a<4294967296*4294967296^i:=by
  have:(x+1)*4294967296^i≤4294967296*4294967296^i:=Dw _ Z;rw[DE,EM]at this;omega
 have J:=pb 4294967296 Z4 j l;have tl:=xD y l;have p:=PJ J o H I K;generalize dv 4294967296 (Z4.drop j)=W at*
 obtain⟨r,M⟩:∃r,W=W/V*V+r∧r<V:=⟨W%V,by rw[Dt];exact(EP W V).symm,EA _ o⟩;generalize W/V=q at*
 obtain⟨s,T⟩:=M;subst p
 -- the parts
 have f1:(q+1)*V*4294967296^j=q*V*4294967296^j+V*4294967296^j:=by rw[DE,DE,EM]
 have f2:W*4294967296^j=q*V*4294967296^j+r*4294967296^j:=by rw[s,DE]
 have D:dv 4294967296 (Z4.take j)+r*4294967296^j<4294967296^i:=by
  have:(r+1)*4294967296^j≤V*4294967296^j:=Dw _ Z;rw[DE,EM]at this;omega
 have F:dv 4294967296 (d.take i)+(x+c2)*4294967296^i=(dv 4294967296 (Z4.take j)+r*4294967296^j)+4294967296*4294967296^i:=by
  rw[DE x];omega
 obtain⟨g1,G⟩:=UH N D F;refine⟨rfl,by rw[G],?_⟩;have A:=oJ (B:=4294967296) 0 f;rw[EI,Ej]at A;omega
theorem UL{s:Nat}(R:O C=m+2)(F:KV C)(q:C[m+1]?=some top)(h1:2147483648≤top*2^s)(h2:top*2^s<4294967296)(Z0:s<32)(Z3:O L=O C+1)(o:KV L)(hv:dv 4294967296 L=dv 4294967296 C*2^s):
  ∃a g,z0 L=L.take (m+2)∧(L.take (m+2))[m+1]?=some a∧(L.take (m+2))[m]?=some g∧2147483648≤a∧a<4294967296∧g<4294967296∧dv 4294967296 (L.take (m+2))=dv 4294967296 C*2^s:=by
 have N:0<2^s:=Er Z;have p:=zY (B:=4294967296) q;rw[DK Z]at p;have M:=xD F (show m+1≤O C by omega)
 -- (top + 1) 2^s is at most the base
 have y:(top+1)*2^s≤4294967296:=by
  have e:=sG (s:=s) Z;have:top<2^(32-s):=by
   apply wi (P:=2^s);rw[Dt (2^(32-s)),e];exact h2
  have f:(top+1)*2^s≤2^(32-s)*2^s:=Dw _ Z;rw[Dt (2^(32-s)),e]at f;exact f
 have A:dv 4294967296 L<4294967296^(m+2):=by
  rw[hv];have f:dv 4294967296 C<(top+1)*4294967296^(m+1):=by
   rw[p,DE,EM,Dt (4294967296^(m+1))];omega
  have u:dv 4294967296 C*2^s<(top+1)*4294967296^(m+1)*2^s:=FG f N;have I:(top+1)*4294967296^(m+1)*2^s=(top+1)*2^s*4294967296^(m+1):=Gi _ _ _;have J:(top+1)*2^s*4294967296^(m+1)≤4294967296*4294967296^(m+1):=Dw _ y;have W:4294967296*4294967296^(m+1)=4294967296^(m+2):=by rw[DI (n:=4294967296) (m:=m+1),Dt]
  omega
 obtain⟨Z1,w⟩:=cn Z A;have T:O L=m+3:=Z;obtain⟨x,hx⟩:∃x,L[m+2]?=some x:=⟨L[m+2]'Z,Dm Z⟩;have D:x=0:=Uv Z Z1 0 x (by rw[Em];exact hx);subst D;have H:L=L.take (m+2)++[0]:=by
  have:=wQ hx;rw[DK Z]at this;exact this
 obtain⟨a,d⟩:∃x,L[m+1]?=some x:=⟨L[m+1]'Z,Dm Z⟩;obtain⟨g,l⟩:∃x,L[m]?=some x:=⟨L[m]'Z,Dm Z⟩;have K:=zY (B:=4294967296) d;have S:=xD o (show m+1≤O L by omega);have v:2147483648≤a:=by
  have f:2147483648*4294967296^(m+1)≤dv 4294967296 (L.take (m+2)):=by
   rw[w,hv,p,DE];have I:4294967296^(m+1)*top*2^s=top*2^s*4294967296^(m+1):=by rw[DG,Dt]
   have J:2147483648*4294967296^(m+1)≤top*2^s*4294967296^(m+1):=Dw _ h1;omega
  have u:dv 4294967296 (L.take (m+2))<(a+1)*4294967296^(m+1):=by
   rw[K,DE,EM,Dt (4294967296^(m+1))];omega
  have:=wi (DP f u);omega
 refine⟨a,g,?_,by rw[Eu Z];exact d,by rw[Eu Z];exact l,v,o a (Dq d),o g (Dq l),by rw[w,hv]⟩;have G:z0 L=z0 (L.take (m+2)):=by
  conv=>lhs;rw[H]
  exact xk _
 rw[G,wQ d,xp _ Z]
end Go.Proofs.YtfajmfoofmienaaGreatDoor
namespace Go.Proofs.YtfajmfoofmienaaGreatDoor
open Go Go.GL
variable {n m n1 bv bu bq vc c1 c2 K M k:Nat}{eq e:TypeId}{U0 w V A C:List Nat}{sv:Value}{a1 a2:Option Addr}
theorem UM(j q:Nat)(a:List Nat):(Dp (j+1) 0++a).set j q=Dp j 0++q::a:=by
 have e:Dp (j+1) 0++a=Dp j 0++(0::a):=by
  rw[GP,DN];rfl
 rw[e,Eo _ _ cA];simp
section
variable {h:HF}{t:TF}
set_option maxRecDepth 100000
theorem UN(hV:Sl h n1 1 (Y (some ⟨bv,0,none⟩) (O V) vc) (u32s V))(D:bv≠bu∧bv≠bq∧bu≠bq)(i:(3*n≤bu∧bu<3*n1)∧(3*n≤bq∧bq<3*n1))(bs:h bu=some (.row (u32s U0) e))(bp:h bq=some (.row (u32s (Dp (M+1) 0)) eq))(dV:KV V)(bf:KV U0)(ad:O V=m+2)(c1:O U0=M+O V+1)(bz:O U0<10000000000){v1 v2:Nat}(a5:V[m+1]?=some v1)(b4:V[m]?=some v2)(b1:2147483648≤v1∧v1<4294967296)(b2:v2<4294967296)(ah:dv 4294967296 (U0.drop (M+1))<dv 4294967296 V)
  {c:Code}(hc:rW Gc [1,1,1,1,1,1,1,1,1,1,0,1]=some c){Q:Ex→SV→Prop}
  (hL:vu t [(8,sv),(9,Y (some ⟨bv,0,none⟩) (O V) vc),(10,Y (some ⟨bu,0,none⟩) (O U0) (O U0)),(11,U .i64 (O V:Int)),(13,Y (some ⟨bq,0,none⟩) (M+1) (M+1)),(14,U .i64 (((M+1:Nat):Int)-1))])
  (hQ:∀(Z4 A:List Nat) (t':TF) (h':HF),vu t' [(8,sv),(10,Y (some ⟨bu,0,none⟩) (O U0) (O U0)),(11,U .i64 (O V:Int)),(13,Y (some ⟨bq,0,none⟩) (M+1) (M+1))]→(∀b,b≠bu→b≠bq→h' b=h b)→h' bu=some (.row (u32s Z4) e)→h' bq=some (.row (u32s A) eq)→KV Z4→KV A→O Z4=O U0→O A=M+1→dv 4294967296 Z4+dv 4294967296 V*dv 4294967296 A=dv 4294967296 U0→dv 4294967296 Z4<dv 4294967296 V→Q .normal ⟨t',h',n1,w⟩):EC (Lf K n (Gc).ntmps) c ⟨t,h,n1,w⟩ Q:=by
 obtain rfl:=ET (hc.symm.trans (rfl:rW Gc [1,1,1,1,1,1,1,1,1,1,0,1]=some _));have eV:=NZ (B:=4294967296) ad a5 b4;have tV:=xD dV (show m≤O V by omega);have b9:=iE (B:=4294967296) dV;have u:0<dv 4294967296 V:=Z;rw[O5];refine zK (α:=Nat×List Nat×List Nat) (fun z=>[(8,sv),(9,Y (some ⟨bv,0,none⟩) (O V) vc),(10,Y (some ⟨bu,0,none⟩) (O U0) (O U0)),(11,U .i64 (O V:Int)),(13,Y (some ⟨bq,0,none⟩) (M+1) (M+1)),(14,U .i64 ((z.1:Int)-1))])
  (fun z h' n' w'=>n1=n'∧w=w'∧(∀b,b≠bu→b≠bq→h' b=h b)∧h' bu=some (.row (u32s z.2.1) e)∧h' bq=some (.row (u32s (Dp z.1 0++z.2.2)) eq)∧KV z.2.1∧KV z.2.2∧O z.2.1=O U0∧z.1+O z.2.2=M+1∧dv 4294967296 z.2.1+dv 4294967296 V*dv 4294967296 z.2.2*4294967296^z.1=dv 4294967296 U0∧dv 4294967296 (z.2.1.drop z.1)<dv 4294967296 V) (fun z=>z.1)
  (M+1,U0,[]) hL ⟨rfl,rfl,fun b _ _=>rfl,bs,by rw[DZ];exact bp,bf,fun d D=>oU D Ds,rfl,rfl,AR,ah⟩ (by show M+1<LL;unfold LL;omega) ?_
 rintro⟨jj,Z4,A⟩ t2 h2 _ _ ⟨rfl,rfl,Z3,J,Z0,F,dQ,o,bh,L,az⟩;simp only at J Z0 F dQ o bh L az;refine zN ?_;cases jj with
 |zero=>
  refine Zk ?_;refine hQ Z4 A _ h2 V4 Z3 J Z0 F dQ o Z ?_ az;rw[FD,Ek]at L;exact L
 |succ j=>
  obtain⟨f,a9⟩:∃x,Z4[j+m+2]?=some x:=⟨Z4[j+m+2]'Z,Dm Z⟩;obtain⟨G,ai⟩:∃x,Z4[j+m+1]?=some x:=⟨Z4[j+m+1]'Z,Dm Z⟩;obtain⟨R,aj⟩:∃x,Z4[j+m]?=some x:=⟨Z4[j+m]'Z,Dm Z⟩;have bd:f<4294967296:=F f (Dq a9);have be:G<4294967296:=F G (Dq ai);have aa:R<4294967296:=F R (Dq aj);obtain⟨xj,b6⟩:∃x,Z4[j]?=some x:=⟨Z4[j]'Z,Dm Z⟩;have c0:xj<4294967296:=F xj (Dq b6);have hW:dv 4294967296 (Z4.drop j)<4294967296*dv 4294967296 V:=by
   rw[wc b6];simp only[dv];omega
  have bk:dv 4294967296 (Z4.drop j)<4294967296^(m+3):=by
   rw[ad]at b9;have:4294967296^(m+3)=4294967296*4294967296^(m+2):=by rw[DI (n:=4294967296) (m:=m+2),Dt]
   omega
  obtain⟨hz,bt⟩:=cn Z bk;rw[ES]at hz;have e3:=PB (B:=4294967296) (l:=(Z4.drop j).take (m+3)) (m:=m) (x:=f) (y:=G) (z:=R) sP (by rw[Eu Z,Em];exact a9) (by rw[Eu Z,Em];exact ai) (by rw[Eu Z,Em];exact aj);have b7:dv 4294967296 (((Z4.drop j).take (m+3)).take m)<4294967296^m:=xD (fun d D=>F d (FB (EB D))) sP;rw[bt]at e3;have Z1:Sl h2 n1 1 (Y (some ⟨bv,0,none⟩) (O V) vc) (u32s V):=hV.keep (fun a l cc ee=>by injection ee with e1;injection e1 with e1;subst e1;exact Z3 _ D.1 D.2.1) Dh;have N:Sl h2 n1 1 (Y (some ⟨bu,0,none⟩) (O U0) (O U0)) (u32s Z4):=Sl.own J i.1.2 o Dh;rw[←o]at N;refine Zq ?_;rw[yH rfl];rw[←o];repeat refine zR ?_
  refine ya (j:=j+m+2) R7 N ⟨rfl,Z⟩ a9 (fun _=>rfl) R4 fun _=>?_;refine yO R7 Z<|yS (a:=f) (s:=32) R6 Z ?_;repeat refine zR ?_
  refine ya (j:=j+m+1) R7 N ⟨rfl,Z⟩ ai (fun _=>rfl) R4 fun _=>?_;refine yO R7 Z<|xZ (a:=f*2^32%18446744073709551616) (b:=G) R6 Z ?_;rw[NO f G bd be];repeat refine zR ?_
  simp only[yj,yc,zX,yi,zm];repeat refine zR ?_
  refine ya (j:=m+1) R7 Z1 ⟨rfl,Z⟩ a5 (fun _=>rfl) R4 fun _=>?_;refine yO R7 Z<|xO (a:=f*4294967296+G) (b:=v1) R6 Z ?_;repeat refine zR ?_
  simp only[yj,yc,zX,yi,zm];repeat refine zR ?_
  refine ya (j:=m+1) R7 Z1 ⟨rfl,Z⟩ a5 (fun _=>rfl) R4 fun _=>?_;refine yO R7 Z<|vg (a:=f*4294967296+G) (b:=v1) R6 Z ?_;repeat refine zR ?_
  simp only[yj,yc,zX,yi,zm];have au:=nE (B:=4294967296) (P:=4294967296^m) (v1:=v1) (v2:=v2) (vr:=dv 4294967296 (V.take m)) (top:=f*4294967296+G) (w2:=R) (wr:=dv 4294967296 (((Z4.drop j).take (m+3)).take m)) Z aa b7;have bl:∀p rr:Nat,p*v1+rr=f*4294967296+G→rr*4294967296+R<p*v2→dv 4294967296 (Z4.drop j)/dv 4294967296 V<p:=fun p rr h1 h2=>by
   rw[e3,eV];exact im aa b7 h1 h2
  have bc:=PA (B:=4294967296) (P:=4294967296^m) (v1:=v1) (v2:=v2) (vr:=dv 4294967296 (V.take m)) (top:=f*4294967296+G) (w2:=R) (wr:=dv 4294967296 (((Z4.drop j).take (m+3)).take m)) tV b2 (by rw[←e3,←eV];exact hW);rw[←e3,←eV]at au;have aq:dv 4294967296 (Z4.drop j)/dv 4294967296 V<4294967296:=by
   rw[Ff u];exact hW
  refine Uw (sv:=sv) (qv:=Y (some ⟨bq,0,none⟩) (M+1) (M+1)) (Z4:=Z4) (V:=V) (m:=m) (j:=j) (g:=dv 4294967296 (Z4.drop j)/dv 4294967296 V) (top:=f*4294967296+G) Z1 N ad Z a5 b4 aj b1 b2 aa bc au aq bl rfl ⟨rfl,rfl,rfl,rfl,rfl,aD,rfl,rfl,Df⟩ ?_;rintro p rr t4 aw bb av bo bm;rw[←xo aw];have b3:p≤dv 4294967296 (Z4.drop j)/dv 4294967296 V+1:=by
   rw[e3,eV];exact NY Z Z tV bb bo av
  simp only[yj,yc,zX,yi,zm];repeat refine zR ?_
  simp only[yj,yc,zX,yi,zm];repeat refine zR ?_
  simp only[yj,yc,zX,yi,zm];rw[o]at N;refine UA (sv:=sv) (qv:=Y (some ⟨bq,0,none⟩) (M+1) (M+1)) (Z4:=Z4) (V:=V) (j:=j) (hh:=p) Z1 D.1 i.1 J dV F Z av rfl Rr ?_;rintro c br C t5 h5 ax H a2 bg S c5 c3 ag a6;rw[←xo ax];have hi:O V+j=j+m+2:=Z;rw[hi]at ag a6;have a0:C[j+m+2]?=some f:=by
   have:(C.drop (j+m+2))[0]?=(Z4.drop (j+m+2))[0]?:=by rw[ag]
   rw[Em,Em,Ej]at this;rw[this];exact a9
  have bw:dv 4294967296 (C.drop (j+m+2+1))=0:=by
   have:=congrArg (Ki 1) ag;rw[ES,ES]at this;rw[this,show j+m+2+1=j+(m+3)from Z];exact hz
  have bi:Sl h5 n1 1 (Y (some ⟨bu,0,none⟩) (O Z4) (O Z4)) (u32s C):=Sl.own a2 i.1.2 S Dh;simp only[yj,yc,zX,yi,zm];repeat refine zR ?_
  refine ya (j:=j+m+2) R7 bi ⟨rfl,Z⟩ a0 (fun _=>rfl) R4 fun _=>?_;refine yO R7 Z<|zM ?_;refine xJ (a:=f) (b:=c) R6 Z<|zM ?_;refine xJ (a:=(f+18446744073709551616-c)%18446744073709551616) (b:=br) R6 Z ?_;obtain⟨X,hX⟩:∃X,X=((f+18446744073709551616-c)%18446744073709551616+18446744073709551616-br)%18446744073709551616:=⟨_,rfl⟩;rw[←hX];repeat refine zR ?_
  simp only[yj,yc,zX,yi,zm];repeat refine zR ?_
  refine yB R7 ?_;refine xG (j:=j+m+2) (v:=U .u32 ((X%4294967296:Nat):Int)) R8 Z Ak a2 i.1.1 (fun _=>rfl) R3 (fun _=>rfl) rfl fun _=>?_;rw[xU];simp only[yj,yc,zX,yi,zm];refine zM ?_;refine yg (a:=X) (s:=63) R6 Z<|jC R6 ?_;simp only[yj,yc,zX,yi,zm];have a1:KV (C.set (j+m+2) (X%4294967296)):=pJ bg (EA _ Z);refine yp (α:=Nat×List Nat×HF) (fun z=>[(8,sv),(9,Y (some ⟨bv,0,none⟩) (O V) vc),(10,Y (some ⟨bu,0,none⟩) (O Z4) (O Z4)),(11,U .i64 (O V:Int)),(13,Y (some ⟨bq,0,none⟩) (M+1) (M+1)),(14,U .i64 (j:Int)),(16,U .u64 (z.1:Int))])
   (fun z h' n' w'=>z.2.2=h'∧n1=n'∧w=w'∧LX bu h2 z.2.2∧z.2.2 bu=some (.row (u32s z.2.1) e)∧KV z.2.1∧O z.2.1=O Z4∧z.1=dv 4294967296 (Z4.drop j)/dv 4294967296 V∧dv 4294967296 z.2.1+dv 4294967296 (Z4.drop j)/dv 4294967296 V*dv 4294967296 V*4294967296^j=dv 4294967296 Z4) ?_ ?_
  .by_cases hcase:c+br≤f
   .have ae:X/2^63=0∧X%4294967296=f-c-br:=Z;rw[za (by show Dk _=_;rw[ae.1];rfl)];refine zN ?_;obtain⟨r1,r2⟩:=UJ Z F u a6 a0 hcase bm;rw[ae.2];exact zC (p,_,_) V7 ⟨rfl,rfl,rfl,fun b T=>(zg T).trans (H b T),ze _ _ _,by rw[←ae.2];exact a1,by show(C.set _ _).length=_;rw[EU];exact S,r1,r2⟩
   have ar:X/2^63=1∧X%4294967296+(c+br)=f+4294967296:=Z;rw[zc (by show Dk _=_;rw[ar.1];rfl)];have h3:dv 4294967296 (C.set (j+m+2) (X%4294967296))+p*dv 4294967296 V*4294967296^j=dv 4294967296 Z4+4294967296*4294967296^(j+m+2):=by
    have q1:=oJ (B:=4294967296) (X%4294967296) a0;have q2:(X%4294967296+(c+br))*4294967296^(j+m+2)=(f+4294967296)*4294967296^(j+m+2):=by rw[ar.2]
    rw[DE,DE f]at q2;omega
   have ak:(C.set (j+m+2) (X%4294967296))[j+m+2]?=some (X%4294967296):=by rw[List.getElem?_set_self Z]
   have al:dv 4294967296 ((C.set (j+m+2) (X%4294967296)).drop (j+m+2+1))=0:=by rw[GA Z];exact bw
   have hT:dv 4294967296 (C.set (j+m+2) (X%4294967296))<4294967296*4294967296^(j+m+2):=by
    rw[N0 ak al];have q1:=xD a1 (show j+m+2≤O (C.set (j+m+2) (X%4294967296)) by rw[EU];omega);have q2:(X%4294967296+1)*4294967296^(j+m+2)≤4294967296*4294967296^(j+m+2):=Dw _ Z;rw[DE,EM]at q2;omega
   have bn:=PJ (pb 4294967296 Z4 j Z) u h3 hT b3;have c6:1≤p:=by rw[bn];exact Nat.le_add_left _ _
   generalize hU3:C.set (j+m+2) (X%4294967296)=U3 at*
   have b8:O U3=O Z4:=by rw[←hU3,EU];exact S
   simp only[yj,yc,zX,yi,zm];repeat refine zU ?_
   simp only[yj,yc,zX,yi,zm];repeat refine zR ?_
   simp only[yj,yc,zX,yi,zm];repeat refine zR ?_
   simp only[yj,yc,zX,yi,zm];rw[←b8];refine UB (sv:=sv) (qv:=Y (some ⟨bq,0,none⟩) (M+1) (M+1)) (Z4:=U3) (V:=V) (j:=j) (hh:=p-1) (h:=upd h5 bu (some (.row (u32s U3) e))) (Z1.keep (fun a l cc ee=>by injection ee with e1;injection e1 with e1;subst e1;exact(zg D.1).trans (H _ D.1)) Dh) D.1 i.1 (ze _ _ _) dV a1 Z rfl V9 ?_;rintro c2 U4 t6 h6 ay am a3 an ab c4 W a7;rw[←xo ay];rw[hi]at W a7;have b5:U4[j+m+2]?=some (X%4294967296):=by
    have:(U4.drop (j+m+2))[0]?=(U3.drop (j+m+2))[0]?:=by rw[W]
    rw[Em,Em,Ej]at this;rw[this];exact ak
   have bx:dv 4294967296 (U4.drop (j+m+2+1))=0:=by
    have:=congrArg (Ki 1) W;rw[ES,ES]at this;rw[this];exact al
   obtain⟨r1,r2,r3⟩:=UK Z F u (by
    have q1:dv 4294967296 V*4294967296^j≤4294967296^O V*4294967296^j:=Dw _ Z;rw[←EH,hi]at q1;exact q1) a1 an ak al b5 bx h3 a7 b3
   have bj:Sl h6 n1 1 (Y (some ⟨bu,0,none⟩) (O U3) (O U3)) (u32s U4):=Sl.own a3 i.1.2 ab Dh;simp only[yj,yc,zX,yi,zm];repeat refine zR ?_
   refine ya (j:=j+m+2) R7 bj ⟨rfl,Z⟩ b5 (fun _=>rfl) R4 fun _=>?_;refine zM ?_;refine po (c:=c2) R7 Z<|eE (a:=X%4294967296) (b:=c2) rfl rfl rfl rfl rfl rfl ?_;rw[r2];refine xG (j:=j+m+2) (v:=U .u32 ((0:Nat):Int)) R8 Z Ak a3 i.1.1 (fun _=>rfl) R3 (fun _=>rfl) rfl fun _=>?_;rw[xU];refine zN ?_;exact zC (p-1,_,_) V7 ⟨rfl,rfl,rfl,fun b T=>(zg T).trans ((am b T).trans ((zg T).trans (H b T))),ze _ _ _,pJ an Z,by show(U4.set _ _).length=_;rw[EU];exact ab,by show p-1=_;omega,r3⟩
  rintro⟨q,Uf,g⟩ t7 _ _ _ ⟨rfl,rfl,rfl,I,a4,ao,ac,b0,a8⟩;simp only at I a4 ao ac b0 a8;subst b0;generalize hqq:dv 4294967296 (Z4.drop j)/dv 4294967296 V=q at*
  have ba:g bq=some (.row (u32s (Dp (j+1) 0++A)) eq):=by rw[I bq (Ne.symm D.2.2)];exact Z0
  refine zN ?_;repeat refine zU ?_
  refine xG (j:=j) (v:=U .u32 (q:Int)) R8 rfl Bn ba i.2.1 (fun _=>rfl) R3 (fun _=>rfl) rfl fun _=>?_;rw[xU,UM];refine Zc ?_;refine goOn (j,Uf,q::A) AZ ⟨rfl,rfl,by show Y _ _ _=Y _ _ _;rw[o],rfl,rfl,rfl,Df⟩ ⟨rfl,rfl,fun b h1 ap=>(zg ap).trans ((I b h1).trans (Z3 b h1 ap)),(zg D.2.2).trans a4,ze _ _ _,ao,fun d af=>?_,ac,by show j+O (q::A)=M+1;simp;omega,?_,?_⟩
  .rcases DR.1 af with rfl|af
   .exact aq
   exact dQ d af
  .show dv 4294967296 Uf+dv 4294967296 V*dv 4294967296 (q::A)*4294967296^j=dv 4294967296 U0;rw[←L,←a8];simp only[dv];rw[DI (n:=4294967296),D4,DE,Dt q,HO];congr 2;rw[DG,DG,DG,Dt 4294967296 (dv 4294967296 A*4294967296^j),DG (dv 4294967296 A)]
  show dv 4294967296 (Uf.drop j)<dv 4294967296 V;have p1:=pb 4294967296 Uf j Z;have p2:=pb 4294967296 Z4 j Z;have p3:=xD F (show j≤O Z4 by omega);have p4:dv 4294967296 (Z4.drop j)<(q+1)*dv 4294967296 V:=by
   rw[←hqq,Dt];exact Nat.lt_mul_div_succ _ u
  have p5:dv 4294967296 (Uf.drop j)*4294967296^j<dv 4294967296 V*4294967296^j:=by
   have p6:(dv 4294967296 (Z4.drop j)+1)*4294967296^j≤(q+1)*dv 4294967296 V*4294967296^j:=Dw _ p4;rw[DE,EM,DE q,EM,DE]at p6;omega
  exact wi p5
end
theorem UO{a b q r P:Nat}(c:0<P)(g:0<b)(h:r+b*P*q=a*P)(d:r<b*P):q=a/b∧r=a%b*P:=by
 have e:a*P/(b*P)=a/b:=Nat.mul_div_mul_right _ _ c;have f:a*P%(b*P)=a%b*P:=HP _ _ _;rw[←e,←f,←h,HW _ _ (Fw g c),Fz d,GF,Dz d];exact⟨Z,rfl⟩
theorem ru:∀l:List Nat,l.take (O (z0 l))=z0 l:=
 xX (fun l ih=>by rw[xk,Fk (yV l)];exact ih) (fun l d a=>by rw[xp l a,DO]) rfl
section
variable {h:HF}{t:TF}
set_option maxRecDepth 100000
theorem UP(hA:Sl h n 1 (Y a1 (O A) c1) (u32s A))(hC:Sl h n 1 (Y a2 (O C) c2) (u32s C))(nA:Norm A)(u:Norm C)(y:O C=m+2)(K:O A<1000000000)(az:val C≤val A)
  {c:Code}(hc:rW Gc [1,1,1]=some c)(hL:vu t [(0,Y a1 (O A) c1),(1,Y a2 (O C) c2)]):EC (Lf (k+2) n (Gc).ntmps) c ⟨t,h,n,[]⟩ (RetH Gc (DivR n h A C)):=by
 obtain rfl:=ET (hc.symm.trans (rfl:rW Gc [1,1,1]=some _));rw[←xo hL];have bh:=nA.len_le u az;obtain⟨f,i⟩:∃x,C[m+1]?=some x:=⟨C[m+1]'Z,Dm Z⟩;have bf:f<4294967296:=u.1 f (Dq i);have be:f≠0:=by
  have e:=wQ i;rw[DK Z]at e;have h1:=u;rw[e]at h1;exact h1.last
 refine Zc ?_;refine zK (α:=Nat) (fun s=>[(0,Y a1 (O A) c1),(1,Y a2 (O C) c2),(8,U .u64 (s:Int))]) (fun s h' n' w'=>h=h'∧n=n'∧w'=[]∧s<32∧f*2^s<4294967296) (fun s=>32-s) 0 V3 ⟨rfl,rfl,rfl,by decide,by show f*2^0<_;omega⟩ (by show 32-0<LL;decide) ?_;rintro s t2 _ _ _⟨rfl,rfl,rfl,S,a7⟩;refine Zg ?_;refine ya (j:=m+1) R7 hC ⟨rfl,Z⟩ i (fun _=>rfl) R4 fun _=>?_;refine zM ?_;refine TW (a:=f) (s:=s) rfl rfl rfl rfl rfl rfl Z ?_;rw[Dz a7];by_cases hbig:f*2^s<2147483648
 .have h2:f*2^(s+1)=f*2^s*2:=by rw[DI,DG]
  have b6:s+1<32:=by
   apply DU;intro hn;have am:s=31:=Z;subst am;have:1*2^31≤f*2^31:=Dw _ Z;omega
  refine ZD ?_;refine yT (a:=s) (b:=1) R6 Z<|Zb ?_;exact goOn (s+1) (by show 32-(s+1)<32-s;omega) V3 ⟨rfl,rfl,rfl,b6,by show f*2^(s+1)<_;omega⟩
 refine Zk ?_;have N:2147483648≤f*2^s:=Z;have hp:0<2^s:=Er Z;have bg:2^s≤2147483648:=show 2^s≤2^31 from DJ Z Z;repeat refine zR ?_
 refine zk _ R5 (oe (k+1) hC u.1 Z S) ?_;rintro _ h1 _ _⟨rfl,rfl,aa,L,e1,rfl,b3,Z0,dL,vL⟩;obtain⟨v1,v2,eT,a9,bd,b1,ak,b2,vV⟩:=UL y u.1 i N a7 S Z0 dL vL;have a6:=ur (k+1) (l:=L) (h:=h1) (n:=n+1) Z (Sl.own b3 Z Z0 Dh);rw[eT]at a6;refine zk _ R5 a6 ?_;rintro _ _ _ _⟨e2,e3,rfl,rfl,b7⟩;subst e2 e3;have F:O (L.take (m+2))=m+2:=by rw[DW];omega
 have dV:KV (L.take (m+2)):=fun d hd=>dL d (EB hd);generalize L.take (m+2)=V at*
 refine Zj ?_;refine zk _ R5 (oe (k+1) (hA.ext aa (DM n)) nA.1 Z S) ?_;rintro _ h2 _ _⟨rfl,rfl,ab,g,e4,rfl,b4,ao,W,vU⟩;refine Zl ?_;refine Zb ?_;obtain⟨M,hM⟩:∃M,M=O A-O C:=⟨_,rfl⟩;repeat refine zR ?_
 refine xP (len:=M+1) (cap:=M+1) ⟨rfl,rfl,rfl,rfl,rfl,rfl,aD,aD,rfl⟩ Z ?_;rw[show zr (U .u32 0)=[U .u32 0]from rfl,qS];repeat refine zR ?_
 simp only[yj,yc,zX,yi,zm];repeat refine zR ?_
 simp only[yj,yc,zX,yi,zm];have ad:O g=O A+1:=ao;have I:dv 4294967296 (g.drop (M+1))<dv 4294967296 V:=by
  obtain⟨v,a8⟩:∃x,g[O A]?=some x:=⟨g[O A]'Z,Dm Z⟩;have p1:=zY (B:=4294967296) a8;rw[DK Z]at p1;have p2:=iE (B:=4294967296) nA.1;have p3:v<2^s:=by
   have o:v*4294967296^O A<2^s*4294967296^O A:=by
    have q2:dv 4294967296 A*2^s<4294967296^O A*2^s:=FG p2 hp;rw[Dt (4294967296^O A) (2^s)]at q2;rw[Dt v];omega
   exact wi o
  have bj:O (g.drop (M+1))=m+2:=by rw[List.length_drop];omega
  have aj:(g.drop (M+1))[m+1]?=some v:=by rw[Em,show M+1+(m+1)=O A from Z];exact a8
  have p4:=zY (B:=4294967296) aj;rw[DK Z]at p4;have p5:dv 4294967296 ((g.drop (M+1)).take (m+1))<4294967296^(m+1):=xD (fun d hd=>W d (FB hd)) Z;have p6:=zY (B:=4294967296) a9;rw[DK Z]at p6;have p7:(v+1)*4294967296^(m+1)≤v1*4294967296^(m+1):=Dw _ Z;rw[DE,EM]at p7;rw[p4,p6,Dt _ v,Dt _ v1];omega
 have ay:Sl (upd h2 (3*(n+1+1)+2) (some (.row (u32s (Dp (M+1) 0)) 151))) (n+1+1+1) 1 (Y (some ⟨3*n+2,0,none⟩) (O V) (O C+1)) (u32s V):=(b7.ext ab zs).ext (KN.upd Z) zs;refine UN (sv:=U .u64 (s:Int)) (bv:=3*n+2) (bu:=3*(n+1)+2) (bq:=3*(n+1+1)+2) (V:=V) (U0:=g) (m:=m) (M:=M) ay Z Z ((zg Z).trans b4) (ze _ _ _) dV W F Z Z a9 bd ⟨b1,ak⟩ b2 I rfl ⟨rfl,rfl,by rw[ad];rfl,rfl,rfl,aD,Df⟩ ?_;rintro Z4 w t4 h4 a4 af H b5 dU dQ aw ap ai b0;rw[←xo a4];have ae:=iE (B:=4294967296) dV;rw[F]at ae;obtain⟨_,bb⟩:=cn (l:=Z4) (n:=m+2) Z (show dv 4294967296 Z4<4294967296^(m+2)by omega);have J:0<dv 4294967296 C:=by rw[←xS];exact u.pos (by intro e;rw[e]at y;simp at y)
 obtain⟨hq,G⟩:=UO (a:=dv 4294967296 A) (b:=dv 4294967296 C) (q:=dv 4294967296 w) (r:=dv 4294967296 Z4) hp J (by rw[←vV,ai,vU]) (by rw[←vV];exact b0);have ax:Sl h4 (n+1+1+1) 1 (Y (some ⟨3*(n+1)+2,0,none⟩) (O g) (O g)) (u32s Z4):=Sl.own H Z aw Dh;have a3:=ax.take (O V) Z;rw[Ek,show(u32s Z4).take (O V)=u32s (Z4.take (m+2))from by rw[u32s,u32s,Hr,F]]at a3;have Z1:KN n h h4:=fun b K=>by rw[af b Z Z,zg Z,ab b Z,aa b K]
 simp only[yj,yc,zX,yi,zm];repeat refine zR ?_
 refine u6 (O V) R8 rfl Z ?_;have ah:=ur (k+1) (l:=Z4.take (m+2)) q0 a3;refine zk _ R5 ah ?_;rintro _ _ _ _⟨e5,e6,rfl,rfl,bi⟩;subst e5 e6;have au:z0 (Z4.take (m+2))=Z4.take (O (z0 (Z4.take (m+2)))):=by
  have o:=ru (Z4.take (m+2));have q2:=yV (Z4.take (m+2));rw[DW]at q2;rw[GO,Ev Z]at o;exact o.symm
 have a0:dv 4294967296 (z0 (Z4.take (m+2)))=dv 4294967296 Z4:=by rw[←xS,wt,xS,bb]
 have ar:=yV (Z4.take (m+2));rw[DW]at ar;have dR:KV (z0 (Z4.take (m+2))):=nU _ fun d hd=>dU d (EB hd);generalize hR:z0 (Z4.take (m+2))=R at*
 have av:Z4=R++Z4.drop (O R):=by
  conv=>lhs;rw[←Ep (O R) Z4]
  rw[←au]
 rw[av]at H;repeat refine zR ?_
 simp only[yj,yc,zX,yi,zm];repeat refine zR ?_
 simp only[yj,yc,zX,yi,zm];refine UF (qv:=Y (some ⟨3*(n+1+1)+2,0,none⟩) (M+1) (M+1)) (bu:=3*(n+1)+2) (R:=R) (T:=Z4.drop (O R)) (s:=s) Z H dR Z S rfl V4 ?_;rintro D t5 h5 a5 p P dD an Z3;rw[←xo a5];have aq:(R[0]?).getD 0%2^s=0:=by
  have o:dv 4294967296 R%2^s=0:=by rw[a0,G];exact Nat.mul_mod_left _ _
  cases hR':R with
  |nil=>simp
  |cons x r=>
   rw[hR']at o;simp only[dv]at o;rw[←sG (show s≤32 by omega),DG,GF]at o;simpa using o
 rw[aq,Ej,a0,G]at Z3;have ac:dv 4294967296 D=dv 4294967296 A%dv 4294967296 C:=G4 hp Z3;have ag:h5 (3*(n+1+1)+2)=some (.row (u32s w) _):=(p _ Z).trans b5;have bc:=ur (k+1) (l:=w) (h:=h5) (n:=n+1+1+1) Z (Sl.own ag Z ap Dh);have ba:=ur (k+1) (l:=D) (h:=h5) (n:=n+1+1+1) Z (Sl.pre P Z an (show O R≤O g by omega));simp only[yj,yc,zX,yi,zm];repeat refine zR ?_
 refine zk _ R5 bc ?_;rintro _ _ _ _⟨e7,e8,rfl,rfl,b9⟩;subst e7 e8;repeat refine zR ?_
 refine zk _ R5 ba ?_;rintro _ _ _ _⟨e9,al,rfl,rfl,b8⟩;subst e9 al;refine Zb ?_;refine retH [Y (some ⟨3*(n+1+1)+2,0,none⟩) (O (z0 w)) (M+1),Y (some ⟨3*(n+1)+2,0,none⟩) (O (z0 D)) (O g)] R3 ⟨rfl,by show n≤n+1+1+1;omega,fun b K=>(p b Z).trans (Z1 b K),_,_,z0 w,_,_,z0 D,rfl,b9,b8,Norm.trim dQ,Norm.trim dD,?_,?_,by show 3*n≤3*(n+1+1)+2;omega,jy⟩
 .rw[wt,xS,xS,xS];exact hq
 rw[wt,xS,xS,xS];exact ac
end
end Go.Proofs.YtfajmfoofmienaaGreatDoor
